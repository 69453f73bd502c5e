/-
  The walks of package image.
-/
import Derived.Test.YtjmlcodlnohgdaaImage1
set_option linter.unusedVariables false
set_option linter.unusedSimpArgs false
namespace Go.Proofs.Ytjmlcodlnohgdaa
open Go Brv Brv.Image
def num (i : Nat) : Value := .int .i64 (i : Int)
def nums (l : List Nat) : List Value := l.map num
theorem nums_append (a b : List Nat) : nums (a ++ b) = nums a ++ nums b := by simp [nums]
theorem nums_length (a : List Nat) : (nums a).length = a.length := by simp [nums]
structure DfSt where
  i : Nat
  a1 : Option Addr
  c1 : Nat
  M : List Nat

theorem idiff_ok (da db : Option Addr) (x y : List UInt8) (w : World) (hx : DiskO w da x) (hy : DiskO w db y) : Meets Try.prog 26 [.pointer da, .pointer db] w (Cloned w 3 1 (diffF x y).length (nums (diffF x y))) := by
  refine Meets.enter Try.func26 rfl 51 rfl (Nat.le_of_ble_eq_true rfl) ?_
  have E := Ext.refl [] w
  have hx0 := hx.len
  have hy0 := hy.len
  refine G.seq ?_
  refine G.region ?_
  refine L.val rfl rfl (R.as rfl) ?_
  refine L.nil ?_
  refine N.seq ?_
  refine G.seq ?_
  refine G.region ?_
  refine L.val rfl rfl (R.as rfl) ?_
  refine L.nil ?_
  refine N.seq ?_
  refine G.seq ?_
  refine G.region ?_
  refine L.val rfl rfl (R.mv rfl) ?_
  refine L.callF rfl rfl rfl go20 (iblocks_ok da x _ hx) ?_
  rintro _ _ ⟨rfl, hw⟩
  obtain rfl := hw.symm
  refine L.val rfl rfl (R.mv rfl) ?_
  refine L.callF rfl rfl rfl go20 (iblocks_ok db y _ hy) ?_
  rintro _ _ ⟨rfl, hw⟩
  obtain rfl := hw.symm
  refine L.val rfl rfl (R.min rfl rfl ((min (dn x) (dn y) : Nat) : Int) (by split <;> omega)) ?_
  refine L.val rfl rfl (R.as rfl) ?_
  refine L.nil ?_
  refine N.seq ?_
  refine G.seq ?_
  refine G.seq ?_
  refine G.region ?_
  refine L.val rfl rfl (R.mv rfl) ?_
  refine L.callF rfl rfl rfl go20 (iblocks_ok da x _ hx) ?_
  rintro _ _ ⟨rfl, hw⟩
  obtain rfl := hw.symm
  refine L.val rfl rfl (R.mv rfl) ?_
  refine L.callF rfl rfl rfl go20 (iblocks_ok db y _ hy) ?_
  rintro _ _ ⟨rfl, hw⟩
  obtain rfl := hw.symm
  refine L.val rfl rfl (R.max rfl rfl ((max (dn x) (dn y) : Nat) : Int) (by split <;> omega)) ?_
  refine L.val rfl rfl (R.mv rfl) ?_
  refine L.nil ?_
  refine N.seq ?_
  refine G.block ?_
  refine G.loop (X := DfSt) (fun s => [(0, .pointer da), (1, .pointer db), (5, .slice s.a1 (diffN x y s.i).length s.c1), (6, .int .i64 ((min (dn x) (dn y) : Nat) : Int)), (17, .int .i64 ((max (dn x) (dn y) : Nat) : Int)), (18, .int .i64 (s.i : Int))]) (fun s w' => s.i ≤ max (dn x) (dn y) ∧ Own w' 3 1 s.a1 (diffN x y s.i).length s.c1 (nums (diffN x y s.i)) s.M ∧ (∀ g ∈ s.M, w.heap.size ≤ g) ∧ Ext [] w w') (fun s => max (dn x) (dn y) - s.i) (⟨0, none, 0, []⟩) (Sub.cons rfl (Sub.cons rfl (Sub.cons rfl (Sub.cons rfl (Sub.cons rfl (Sub.cons rfl (Sub.nil _))))))) ⟨Nat.zero_le _, Own.nil _ _ _, by simp, E⟩ ?_
  rintro ⟨i, a1, c1, M⟩ w1 ⟨hi, o1, hM, E⟩
  dsimp only at hi o1 hM
  refine G.sub [(0, .pointer da), (1, .pointer db), (5, .slice a1 (diffN x y i).length c1), (6, .int .i64 ((min (dn x) (dn y) : Nat) : Int)), (17, .int .i64 ((max (dn x) (dn y) : Nat) : Int)), (18, .int .i64 (i : Int))] (Sub.cons rfl (Sub.cons rfl (Sub.cons rfl (Sub.cons rfl (Sub.cons rfl (Sub.cons rfl (Sub.nil _))))))) ?_
  replace hx := hx.ext0 E
  replace hy := hy.ext0 E
  refine G.seq ?_
  refine G.region ?_
  refine L.val rfl rfl (R.lss rfl rfl) ?_
  refine L.nil ?_
  refine N.seq ?_
  refine G.seq ?_
  refine G.condP rfl (fun h0 => ?_) (fun h0 => ?_)
  · refine G.skip ?_
    refine N.seq ?_
    refine G.seq ?_
    refine G.block ?_
    refine G.seq ?_
    refine G.region ?_
    refine L.val rfl rfl (R.mv rfl) ?_
    refine L.val rfl rfl (R.as rfl) ?_
    refine L.nil ?_
    refine N.seq ?_
    refine G.seq ?_
    refine G.quiet (by decide +kernel) rfl ?_
    refine Q.val rfl rfl rfl rfl (fun w2 hE => R.mv rfl) ?_
    refine Q.val rfl rfl rfl rfl (fun w2 hE => R.mv rfl) ?_
    refine Q.val rfl rfl rfl rfl (fun w2 hE => R.geq rfl rfl) ?_
    refine Q.val rfl rfl rfl rfl (fun w2 hE => R.mv rfl) ?_
    refine Q.caseP 24 rfl (fun hg6_3 => ?_) (fun hg6_3 => ?_)
    · have hne : blk x i ≠ blk y i := by
        rcases Nat.lt_or_ge i (dn x) with h | h
        · rw [blk_ge hy0.1 (show dn y ≤ i by omega)]; intro e; have := blk_length h; rw [e] at this; cases this
        · rw [blk_ge hx0.1 h]; intro e; have := blk_length (x := y) (k := i) (by omega); rw [← e] at this; cases this
      refine Q.pass rfl rfl rfl ?_
      refine Q.pass rfl rfl rfl ?_
      refine Q.pass rfl rfl rfl ?_
      refine Q.pass rfl rfl rfl ?_
      refine Q.pass rfl rfl rfl ?_
      refine Q.pass rfl rfl rfl ?_
      refine Q.pass rfl rfl rfl ?_
      refine Q.pass rfl rfl rfl ?_
      refine Q.pass rfl rfl rfl ?_
      refine Q.pass rfl rfl rfl ?_
      refine Q.pass rfl rfl rfl ?_
      refine Q.pass rfl rfl rfl ?_
      refine Q.pass rfl rfl rfl ?_
      refine Q.pass rfl rfl rfl ?_
      refine Q.pass rfl rfl rfl ?_
      refine Q.pass rfl rfl rfl ?_
      refine Q.pass rfl rfl rfl ?_
      refine Q.pass rfl rfl rfl ?_
      refine Q.pass rfl rfl rfl ?_
      first | refine Q.val rfl rfl rfl rfl (fun w2 hE => R.pickT rfl rfl) ?_ | refine Q.val rfl rfl rfl rfl (fun w2 hE => R.pickF rfl rfl) ?_
      refine Q.nil (fun w2 e2 => ?_)
      replace E := E.trans0 e2
      replace o1 := o1.ext0 e2
      refine N.seq ?_
      refine G.condT rfl ?_
      refine G.region ?_
      refine L.val rfl rfl (R.mv rfl) ?_
      refine L.val rfl rfl (R.mv rfl) ?_
      refine L.do rfl rfl (R.buildA rfl rfl rfl rfl rfl) ?_
      rintro _ w3 ⟨b47, rfl, hb47, hs47, e3, B47⟩
      have hE3 := E.size
      replace E := E.trans0 e3
      replace o1 := o1.ext0 e3
      refine L.do rfl rfl (R.app rfl rfl o1 (Cells.of_blk B47 0 [num i] (fun j v hj => by cases j with | zero => exact hj | succ j => simp at hj)) rfl (by simp [num, Value.oneCell']) (by have := diffN_length x y i; simp [maxLen]; omega) (by have := diffN_length x y i; omega)) ?_
      rintro _ w4 ⟨a3, c3, M3, rfl, e4, hM3, o3⟩
      have hE4 := E.size
      replace E : Ext [] w w4 := E.trans e4 (by simp) (fun g hg => .inr (hM g hg))
      replace hM3 : ∀ g ∈ M3, w.heap.size ≤ g := fun g hg => (hM3 g hg).elim (hM g) (fun h => by omega)
      replace o3 : Own w4 3 1 a3 (diffN x y (i + 1)).length c3 (nums (diffN x y (i + 1))) M3 := by rw [diffN_succ, if_pos hne, nums_append, List.length_append]; exact o3
      refine L.be 48 rfl (show _ = Value.slice a3 (diffN x y (i + 1)).length c3 by rw [diffN_succ, if_pos hne, List.length_append]; rfl) ?_
      refine L.val rfl rfl (R.as rfl) ?_
      refine L.nil ?_
      refine N.block ?_
      refine N.seq ?_
      refine G.region ?_
      refine L.val rfl rfl (R.add rfl rfl (by omega)) ?_
      refine L.val rfl rfl (R.mv rfl) ?_
      refine L.nil ?_
      first
        | exact N.again (X := DfSt) ⟨i + 1, a3, c3, M3⟩ (by show max (dn x) (dn y) - (i + 1) < max (dn x) (dn y) - i; omega) (Sub.cons rfl (Sub.cons rfl (Sub.cons rfl (Sub.cons rfl (Sub.cons rfl (Sub.cons rfl (Sub.nil _))))))) ⟨by show i + 1 ≤ _; omega, o3, hM3, E⟩
        | exact N.again (X := DfSt) ⟨i + 1, a1, c1, M⟩ (by show max (dn x) (dn y) - (i + 1) < max (dn x) (dn y) - i; omega) (Sub.cons rfl (Sub.cons rfl (Sub.cons rfl (Sub.cons rfl (Sub.cons rfl (Sub.cons rfl (Sub.nil _))))))) ⟨by show i + 1 ≤ _; omega, by show Own _ _ 1 a1 _ c1 (nums (diffN x y (i + 1))) M; rw [diffN_succ, if_neg hne, List.append_nil]; exact o1, hM, E⟩
    · have hix : i < dn x := by omega
      have hiy : i < dn y := by omega
      obtain ⟨b1, rfl, g1, k1, cur1, ps1, D1⟩ := hx.pos (by omega)
      obtain ⟨b2, rfl, g2, k2, cur2, ps2, D2⟩ := hy.pos (by omega)
      obtain ⟨z1, hz1, Z1⟩ := D1.ptr hix
      obtain ⟨z2, hz2, Z2⟩ := D2.ptr hiy
      have hs1 := blk_length hix
      have hs2 := blk_length hiy
      refine Q.val rfl rfl rfl rfl (fun w2 hE => R.mv rfl) ?_
      refine Q.val rfl rfl rfl rfl (fun w2 hE => R.nilChk rfl) ?_
      refine Q.val rfl rfl rfl rfl (fun w2 hE => R.fld rfl) ?_
      refine Q.val rfl rfl rfl rfl (fun w2 hE => R.ldB rfl (D1.hd.ext0 hE) rfl) ?_
      refine Q.val rfl rfl rfl rfl (fun w2 hE => R.mv rfl) ?_
      refine Q.val rfl rfl rfl rfl (fun w2 hE => R.idx rfl rfl (by omega) (by omega) _ rfl) ?_
      refine Q.val rfl rfl rfl rfl (fun w2 hE => R.ld rfl (v := ptr z1) (by rw [Go.Addr.add_lit]; simpa using ((D1.hg.ext0 hE).cell i).trans hz1)) ?_
      refine Q.val rfl rfl rfl rfl (fun w2 hE => R.nilChk rfl) ?_
      refine Q.val rfl rfl rfl rfl (fun w2 hE => R.ldBN rfl (Z1.ext0 hE) (by simp [vbs_length, hs1])) ?_
      refine Q.val rfl rfl rfl rfl (fun w2 hE => R.mv rfl) ?_
      refine Q.val rfl rfl rfl rfl (fun w2 hE => R.nilChk rfl) ?_
      refine Q.val rfl rfl rfl rfl (fun w2 hE => R.fld rfl) ?_
      refine Q.val rfl rfl rfl rfl (fun w2 hE => R.ldB rfl (D2.hd.ext0 hE) rfl) ?_
      refine Q.val rfl rfl rfl rfl (fun w2 hE => R.mv rfl) ?_
      refine Q.val rfl rfl rfl rfl (fun w2 hE => R.idx rfl rfl (by omega) (by omega) _ rfl) ?_
      refine Q.val rfl rfl rfl rfl (fun w2 hE => R.ld rfl (v := ptr z2) (by rw [Go.Addr.add_lit]; simpa using ((D2.hg.ext0 hE).cell i).trans hz2)) ?_
      refine Q.val rfl rfl rfl rfl (fun w2 hE => R.nilChk rfl) ?_
      refine Q.val rfl rfl rfl rfl (fun w2 hE => R.ldBN rfl (Z2.ext0 hE) (by simp [vbs_length, hs2])) ?_
      refine Q.val rfl rfl rfl rfl (fun w2 hE => R.neArr rfl rfl hs1 hs2) ?_
      first | refine Q.val rfl rfl rfl rfl (fun w2 hE => R.pickT rfl rfl) ?_ | refine Q.val rfl rfl rfl rfl (fun w2 hE => R.pickF rfl rfl) ?_
      refine Q.nil (fun w2 e2 => ?_)
      replace E := E.trans0 e2
      replace o1 := o1.ext0 e2
      refine N.seq ?_
      refine G.condP rfl (fun h1 => ?_) (fun h1 => ?_)
      · have hne : blk x i ≠ blk y i := h1
        refine G.region ?_
        refine L.val rfl rfl (R.mv rfl) ?_
        refine L.val rfl rfl (R.mv rfl) ?_
        refine L.do rfl rfl (R.buildA rfl rfl rfl rfl rfl) ?_
        rintro _ w3 ⟨b47, rfl, hb47, hs47, e3, B47⟩
        have hE3 := E.size
        replace E := E.trans0 e3
        replace o1 := o1.ext0 e3
        refine L.do rfl rfl (R.app rfl rfl o1 (Cells.of_blk B47 0 [num i] (fun j v hj => by cases j with | zero => exact hj | succ j => simp at hj)) rfl (by simp [num, Value.oneCell']) (by have := diffN_length x y i; simp [maxLen]; omega) (by have := diffN_length x y i; omega)) ?_
        rintro _ w4 ⟨a3, c3, M3, rfl, e4, hM3, o3⟩
        have hE4 := E.size
        replace E : Ext [] w w4 := E.trans e4 (by simp) (fun g hg => .inr (hM g hg))
        replace hM3 : ∀ g ∈ M3, w.heap.size ≤ g := fun g hg => (hM3 g hg).elim (hM g) (fun h => by omega)
        replace o3 : Own w4 3 1 a3 (diffN x y (i + 1)).length c3 (nums (diffN x y (i + 1))) M3 := by rw [diffN_succ, if_pos hne, nums_append, List.length_append]; exact o3
        refine L.be 48 rfl (show _ = Value.slice a3 (diffN x y (i + 1)).length c3 by rw [diffN_succ, if_pos hne, List.length_append]; rfl) ?_
        refine L.val rfl rfl (R.as rfl) ?_
        refine L.nil ?_
        refine N.block ?_
        refine N.seq ?_
        refine G.region ?_
        refine L.val rfl rfl (R.add rfl rfl (by omega)) ?_
        refine L.val rfl rfl (R.mv rfl) ?_
        refine L.nil ?_
        first
          | exact N.again (X := DfSt) ⟨i + 1, a3, c3, M3⟩ (by show max (dn x) (dn y) - (i + 1) < max (dn x) (dn y) - i; omega) (Sub.cons rfl (Sub.cons rfl (Sub.cons rfl (Sub.cons rfl (Sub.cons rfl (Sub.cons rfl (Sub.nil _))))))) ⟨by show i + 1 ≤ _; omega, o3, hM3, E⟩
          | exact N.again (X := DfSt) ⟨i + 1, a1, c1, M⟩ (by show max (dn x) (dn y) - (i + 1) < max (dn x) (dn y) - i; omega) (Sub.cons rfl (Sub.cons rfl (Sub.cons rfl (Sub.cons rfl (Sub.cons rfl (Sub.cons rfl (Sub.nil _))))))) ⟨by show i + 1 ≤ _; omega, by show Own _ _ 1 a1 _ c1 (nums (diffN x y (i + 1))) M; rw [diffN_succ, if_neg hne, List.append_nil]; exact o1, hM, E⟩
      · have hne : ¬ blk x i ≠ blk y i := h1
        refine G.be 5 rfl (show _ = Value.slice a1 (diffN x y (i + 1)).length c1 by rw [diffN_succ, if_neg hne, List.append_nil]) ?_
        refine G.skip ?_
        refine N.block ?_
        refine N.seq ?_
        refine G.region ?_
        refine L.val rfl rfl (R.add rfl rfl (by omega)) ?_
        refine L.val rfl rfl (R.mv rfl) ?_
        refine L.nil ?_
        first
          | exact N.again (X := DfSt) ⟨i + 1, a3, c3, M3⟩ (by show max (dn x) (dn y) - (i + 1) < max (dn x) (dn y) - i; omega) (Sub.cons rfl (Sub.cons rfl (Sub.cons rfl (Sub.cons rfl (Sub.cons rfl (Sub.cons rfl (Sub.nil _))))))) ⟨by show i + 1 ≤ _; omega, o3, hM3, E⟩
          | exact N.again (X := DfSt) ⟨i + 1, a1, c1, M⟩ (by show max (dn x) (dn y) - (i + 1) < max (dn x) (dn y) - i; omega) (Sub.cons rfl (Sub.cons rfl (Sub.cons rfl (Sub.cons rfl (Sub.cons rfl (Sub.cons rfl (Sub.nil _))))))) ⟨by show i + 1 ≤ _; omega, by show Own _ _ 1 a1 _ c1 (nums (diffN x y (i + 1))) M; rw [diffN_succ, if_neg hne, List.append_nil]; exact o1, hM, E⟩
  · obtain rfl : i = max (dn x) (dn y) := by omega
    refine G.exit _ rfl ?_
    refine N.seq ?_
    refine G.seq ?_
    refine G.region ?_
    refine L.val rfl rfl (R.mv rfl) ?_
    refine L.val rfl rfl (R.as rfl) ?_
    refine L.nil ?_
    refine N.seq ?_
    refine G.ret1 rfl rfl ?_
    exact ⟨a1, c1, M, rfl, E, o1, hM⟩

end Go.Proofs.Ytjmlcodlnohgdaa
