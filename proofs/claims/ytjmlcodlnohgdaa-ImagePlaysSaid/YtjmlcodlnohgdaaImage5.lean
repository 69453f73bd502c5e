/-
  The walks of package image.
-/
import Derived.Test.YtjmlcodlnohgdaaImage2
set_option linter.unusedVariables false
set_option linter.unusedSimpArgs false
namespace Go.Proofs.Ytjmlcodlnohgdaa
open Go Brv Brv.Image
theorem getB_in {x : List UInt8} {j : Nat} (h : j < dn x) : getB x (j : Int) = blk x j := if_pos (show okK x j from ⟨by omega, by omega⟩)
theorem okK_nat (x : List UInt8) (j : Nat) : okK x (j : Int) ↔ j < dn x := ⟨fun h => by have := h.2; omega, fun h => ⟨by omega, by omega⟩⟩
theorem getB_nat (x : List UInt8) (j : Nat) (hx : x.length = 64 * dn x) : getB x (j : Int) = blk x j := by
  by_cases h : j < dn x
  · exact getB_in h
  · rw [blk_ge hx (by omega)]; exact if_neg (fun hk => h ((okK_nat x j).1 hk))
theorem rget_ok (x : List UInt8) (k : Int) (w : World) (hx : x.length ≤ 4096) : Meets Try.prog 28 [.string (str x), .int .i64 k] w (fun v w' => v = .tuple #[.string (str (getB x k)), .bool (decide (okK x k))] ∧ w' = w) := by
  refine Meets.enter Try.func28 rfl 22 rfl (Nat.le_of_ble_eq_true rfl) ?_
  have hdx : dn x = x.length / 64 := rfl
  refine G.seq ?_
  refine G.region ?_
  refine L.val rfl rfl (R.as rfl) ?_
  refine L.val rfl rfl (R.as rfl) ?_
  refine L.nil ?_
  refine N.seq ?_
  refine G.seq ?_
  refine G.seq ?_
  refine G.region ?_
  refine L.val rfl rfl (R.mv rfl) ?_
  refine L.val rfl rfl (R.lss rfl rfl) ?_
  refine L.val rfl rfl (R.mv rfl) ?_
  refine L.caseP 8 rfl (fun hg1_2 => ?_) (fun hg1_2 => ?_)
  · have hn : ¬ okK x k := fun h => (by have := h.1; omega)
    refine L.pass rfl rfl ?_
    refine L.pass rfl rfl ?_
    refine L.pass rfl rfl ?_
    refine L.pass rfl rfl ?_
    refine L.pass rfl rfl ?_
    first | refine L.val rfl rfl (R.pickT rfl rfl) ?_ | refine L.val rfl rfl (R.pickF rfl rfl) ?_
    refine L.nil ?_
    refine N.seq ?_
    refine G.condT rfl ?_
    refine G.seq ?_
    refine G.region ?_
    refine L.val rfl rfl (R.as rfl) ?_
    refine L.val rfl rfl (R.as rfl) ?_
    refine L.nil ?_
    refine N.seq ?_
    refine G.ret2 rfl rfl rfl ?_
    first | (rw [show getB x k = [] from if_neg hn, decide_eq_false hn]; exact ⟨rfl, rfl⟩) | (rw [getB_in hj, decide_eq_true hok]; exact ⟨rfl, rfl⟩)
  · refine L.val rfl rfl (R.mv rfl) ?_
    refine L.val rfl rfl (R.mv rfl) ?_
    refine L.val rfl rfl (R.lenT rfl) ?_
    refine L.val rfl rfl (R.quo rfl rfl (by omega) (by omega)) ?_
    refine L.val rfl rfl (R.geq rfl rfl) ?_
    first | refine L.val rfl rfl (R.pickT rfl rfl) ?_ | refine L.val rfl rfl (R.pickF rfl rfl) ?_
    refine L.nil ?_
    refine N.seq ?_
    refine G.condP rfl (fun h0 => ?_) (fun h0 => ?_)
    · have hn : ¬ okK x k := fun h => (by have := h.2; omega)
      refine G.seq ?_
      refine G.region ?_
      refine L.val rfl rfl (R.as rfl) ?_
      refine L.val rfl rfl (R.as rfl) ?_
      refine L.nil ?_
      refine N.seq ?_
      refine G.ret2 rfl rfl rfl ?_
      first | (rw [show getB x k = [] from if_neg hn, decide_eq_false hn]; exact ⟨rfl, rfl⟩) | (rw [getB_in hj, decide_eq_true hok]; exact ⟨rfl, rfl⟩)
    · have hok : okK x k := ⟨by omega, by omega⟩
      obtain ⟨j, rfl⟩ := Int.eq_ofNat_of_zero_le hok.1
      have hj : j < dn x := (okK_nat x j).1 hok
      refine G.skip ?_
      refine N.seq ?_
      refine G.seq ?_
      refine G.region ?_
      refine L.val rfl rfl (R.mv rfl) ?_
      refine L.val rfl rfl (R.mv rfl) ?_
      refine L.val rfl rfl (R.mul rfl rfl (by omega)) ?_
      refine L.val rfl rfl (R.mv rfl) ?_
      refine L.val rfl rfl (R.mul rfl rfl (by omega)) ?_
      refine L.val rfl rfl (R.add rfl rfl (by omega)) ?_
      refine L.val rfl rfl (R.slStr rfl rfl rfl (by omega) (by omega) (by omega)) ?_
      refine L.be 21 rfl (show _ = Value.string (str (blk x j)) by rw [show (64 * (j : Int)).toNat = 64 * j by omega, show (64 * (j : Int) + 64).toNat = 64 * j + 64 by omega, List.drop_take, Nat.add_sub_cancel_left]; rfl) ?_
      refine L.val rfl rfl (R.as rfl) ?_
      refine L.val rfl rfl (R.as rfl) ?_
      refine L.nil ?_
      refine N.seq ?_
      refine G.ret2 rfl rfl rfl ?_
      first | (rw [show getB x k = [] from if_neg hn, decide_eq_false hn]; exact ⟨rfl, rfl⟩) | (rw [getB_in hj, decide_eq_true hok]; exact ⟨rfl, rfl⟩)

theorem rzero_ok (n : Nat) (w : World) (hn : n ≤ 64) : Meets Try.prog 23 [.int .i64 (n : Int)] w (fun v w' => v = .string (str (List.replicate (64 * n) 0)) ∧ Ext [] w w') := by
  refine Meets.enter Try.func23 rfl 7 rfl (Nat.le_of_ble_eq_true rfl) ?_
  have E := Ext.refl [] w
  refine G.seq ?_
  refine G.region ?_
  refine L.val rfl rfl (R.as rfl) ?_
  refine L.nil ?_
  refine N.seq ?_
  refine G.seq ?_
  refine G.region ?_
  refine L.val rfl rfl (R.mv rfl) ?_
  refine L.val rfl rfl (R.mul rfl rfl (by omega)) ?_
  refine L.do rfl rfl (R.make rfl rfl (by omega) (by omega) (by omega) (by omega)) ?_
  rintro _ w1 ⟨b5, rfl, hb5, hs5, e1, B5⟩
  replace E := E.trans0 e1
  have L5 := Bs.of_blk B5 (List.replicate (64 * n) 0) (by rw [show (64 * (n : Int)).toNat * 1 = 64 * n by omega]; exact madeCells_bytes _) (64 * (n : Int)).toNat (by rw [List.length_replicate]; omega)
  refine L.val rfl rfl (R.bytesStr rfl L5.cells L5.len) ?_
  refine L.val rfl rfl (R.as rfl) ?_
  refine L.nil ?_
  refine N.seq ?_
  refine G.ret1 rfl rfl ?_
  exact ⟨rfl, E⟩

theorem rdiff_ok (x y : List UInt8) (w : World) (hx : x.length ≤ 4096) (hy : y.length ≤ 4096) (hx0 : x.length = 64 * dn x) (hy0 : y.length = 64 * dn y) : Meets Try.prog 27 [.string (str x), .string (str y)] w (Cloned w 3 1 (diffF x y).length (nums (diffF x y))) := by
  refine Meets.enter Try.func27 rfl 53 rfl (Nat.le_of_ble_eq_true rfl) ?_
  have E := Ext.refl [] w
  have hdx : dn x = x.length / 64 := rfl
  have hdy : dn y = y.length / 64 := rfl
  refine G.seq ?_
  refine G.region ?_
  refine L.val rfl rfl (R.as rfl) ?_
  refine L.nil ?_
  refine N.seq ?_
  refine G.seq ?_
  refine G.region ?_
  refine L.val rfl rfl (R.as rfl) ?_
  refine L.nil ?_
  refine N.seq ?_
  refine G.seq ?_
  refine G.seq ?_
  refine G.region ?_
  refine L.val rfl rfl (R.as rfl) ?_
  refine L.nil ?_
  refine N.seq ?_
  refine G.block ?_
  refine G.loop (X := DfSt) (fun s => [(0, .string (str x)), (1, .string (str y)), (5, .slice s.a1 (diffN x y s.i).length s.c1), (6, .int .i64 (s.i : Int))]) (fun s w' => s.i ≤ max (dn x) (dn y) ∧ Own w' 3 1 s.a1 (diffN x y s.i).length s.c1 (nums (diffN x y s.i)) s.M ∧ (∀ g ∈ s.M, w.heap.size ≤ g) ∧ Ext [] w w') (fun s => max (dn x) (dn y) - s.i) (⟨0, none, 0, []⟩) (Sub.cons rfl (Sub.cons rfl (Sub.cons rfl (Sub.cons rfl (Sub.nil _))))) ⟨Nat.zero_le _, Own.nil _ _ _, by simp, E⟩ ?_
  rintro ⟨i, a1, c1, M⟩ w1 ⟨hi, o1, hM, E⟩
  dsimp only at hi o1 hM
  refine G.sub [(0, .string (str x)), (1, .string (str y)), (5, .slice a1 (diffN x y i).length c1), (6, .int .i64 (i : Int))] (Sub.cons rfl (Sub.cons rfl (Sub.cons rfl (Sub.cons rfl (Sub.nil _))))) ?_
  refine G.seq ?_
  refine G.seq ?_
  refine G.region ?_
  refine L.val rfl rfl (R.mv rfl) ?_
  refine L.val rfl rfl (R.mv rfl) ?_
  refine L.val rfl rfl (R.lenT rfl) ?_
  refine L.val rfl rfl (R.quo rfl rfl (by omega) (by omega)) ?_
  refine L.val rfl rfl (R.lss rfl rfl) ?_
  refine L.val rfl rfl (R.mv rfl) ?_
  refine L.caseP 16 rfl (fun hg3_5 => ?_) (fun hg3_5 => ?_)
  · have him : i < max (dn x) (dn y) := by omega
    refine L.pass rfl rfl ?_
    refine L.pass rfl rfl ?_
    refine L.pass rfl rfl ?_
    refine L.pass rfl rfl ?_
    refine L.pass rfl rfl ?_
    first | refine L.val rfl rfl (R.pickT rfl rfl) ?_ | refine L.val rfl rfl (R.pickF rfl rfl) ?_
    refine L.nil ?_
    refine N.seq ?_
    refine G.condT rfl ?_
    have him : i < max (dn x) (dn y) := by omega
    refine G.skip ?_
    refine N.seq ?_
    refine G.seq ?_
    refine G.block ?_
    refine G.seq ?_
    refine G.region ?_
    have him : i < max (dn x) (dn y) := by omega
    refine L.val rfl rfl (R.mv rfl) ?_
    refine L.val rfl rfl (R.mv rfl) ?_
    refine L.callF rfl rfl rfl go28 (rget_ok x (i : Int) _ hx) ?_
    rintro _ _ ⟨rfl, hw⟩
    obtain rfl := hw.symm
    refine L.val rfl rfl (R.mv rfl) ?_
    refine L.val rfl rfl (R.ext rfl rfl) ?_
    refine L.val rfl rfl (R.ext rfl rfl) ?_
    refine L.val rfl rfl (R.as rfl) ?_
    refine L.val rfl rfl (R.as rfl) ?_
    refine L.nil ?_
    refine N.seq ?_
    refine G.seq ?_
    refine G.region ?_
    refine L.val rfl rfl (R.mv rfl) ?_
    refine L.val rfl rfl (R.mv rfl) ?_
    refine L.callF rfl rfl rfl go28 (rget_ok y (i : Int) _ hy) ?_
    rintro _ _ ⟨rfl, hw⟩
    obtain rfl := hw.symm
    refine L.val rfl rfl (R.mv rfl) ?_
    refine L.val rfl rfl (R.ext rfl rfl) ?_
    refine L.val rfl rfl (R.ext rfl rfl) ?_
    refine L.val rfl rfl (R.as rfl) ?_
    refine L.val rfl rfl (R.as rfl) ?_
    refine L.nil ?_
    refine N.seq ?_
    refine G.seq ?_
    refine G.region ?_
    refine L.val rfl rfl (R.mv rfl) ?_
    refine L.val rfl rfl (R.not rfl) ?_
    refine L.be 38 rfl (show _ = Value.bool (decide (¬ okK x i)) by simp) ?_
    refine L.val rfl rfl (R.mv rfl) ?_
    refine L.caseP 39 rfl (fun hg7_2 => ?_) (fun hg7_2 => ?_)
    · have hnx : dn x ≤ i := by have := mt (okK_nat x i).2 hg7_2; omega
      have hne : blk x i ≠ blk y i := blk_ne hx0 hnx (by omega)
      refine L.pass rfl rfl ?_
      refine L.pass rfl rfl ?_
      first | refine L.val rfl rfl (R.pickT rfl rfl) ?_ | refine L.val rfl rfl (R.pickF rfl rfl) ?_
      refine L.val rfl rfl (R.mv rfl) ?_
      refine L.pass rfl rfl ?_
      refine L.pass rfl rfl ?_
      refine L.pass rfl rfl ?_
      first | refine L.val rfl rfl (R.pickT rfl rfl) ?_ | refine L.val rfl rfl (R.pickF rfl rfl) ?_
      refine L.nil ?_
      refine N.seq ?_
      refine G.condT rfl ?_
      refine G.region ?_
      refine L.val rfl rfl (R.mv rfl) ?_
      refine L.val rfl rfl (R.mv rfl) ?_
      refine L.do rfl rfl (R.buildA rfl rfl rfl rfl rfl) ?_
      rintro _ w3 ⟨b50, rfl, hb50, hs50, e3, B50⟩
      have hE3 := E.size
      replace E := E.trans0 e3
      replace o1 := o1.ext0 e3
      refine L.do rfl rfl (R.app rfl rfl o1 (Cells.of_blk B50 0 [num i] (fun j v hj => by cases j with | zero => exact hj | succ j => simp at hj)) rfl (by simp [num, Value.oneCell']) (by have := diffN_length x y i; simp [maxLen]; omega) (by have := diffN_length x y i; omega)) ?_
      rintro _ w4 ⟨a3, c3, M3, rfl, e4, hM3, o3⟩
      have hE4 := E.size
      replace E : Ext [] w w4 := E.trans e4 (by simp) (fun g hg => .inr (hM g hg))
      replace hM3 : ∀ g ∈ M3, w.heap.size ≤ g := fun g hg => (hM3 g hg).elim (hM g) (fun h => by omega)
      replace o3 : Own w4 3 1 a3 (diffN x y (i + 1)).length c3 (nums (diffN x y (i + 1))) M3 := by rw [diffN_succ, if_pos hne, nums_append, List.length_append]; exact o3
      refine L.be 51 rfl (show _ = Value.slice a3 (diffN x y (i + 1)).length c3 by rw [diffN_succ, if_pos hne, List.length_append]; rfl) ?_
      refine L.val rfl rfl (R.as rfl) ?_
      refine L.nil ?_
      refine N.block ?_
      refine N.seq ?_
      refine G.region ?_
      refine L.val rfl rfl (R.mv rfl) ?_
      refine L.val rfl rfl (R.add rfl rfl (by omega)) ?_
      refine L.val rfl rfl (R.as rfl) ?_
      refine L.nil ?_
      first
        | exact N.again (X := DfSt) ⟨i + 1, a3, c3, M3⟩ (by show max (dn x) (dn y) - (i + 1) < max (dn x) (dn y) - i; omega) (Sub.cons rfl (Sub.cons rfl (Sub.cons rfl (Sub.cons rfl (Sub.nil _))))) ⟨by show i + 1 ≤ _; omega, o3, hM3, E⟩
        | exact N.again (X := DfSt) ⟨i + 1, a1, c1, M⟩ (by show max (dn x) (dn y) - (i + 1) < max (dn x) (dn y) - i; omega) (Sub.cons rfl (Sub.cons rfl (Sub.cons rfl (Sub.cons rfl (Sub.nil _))))) ⟨by show i + 1 ≤ _; omega, by show Own _ _ 1 a1 _ c1 (nums (diffN x y (i + 1))) M; rw [diffN_succ, if_neg hne, List.append_nil]; exact o1, hM, E⟩
    · have hix : i < dn x := (okK_nat x i).1 (Classical.not_not.1 hg7_2)
      refine L.val rfl rfl (R.mv rfl) ?_
      refine L.val rfl rfl (R.not rfl) ?_
      refine L.be 41 rfl (show _ = Value.bool (decide (¬ okK y i)) by simp) ?_
      first | refine L.val rfl rfl (R.pickT rfl rfl) ?_ | refine L.val rfl rfl (R.pickF rfl rfl) ?_
      refine L.val rfl rfl (R.mv rfl) ?_
      refine L.caseP 43 rfl (fun hg7_6 => ?_) (fun hg7_6 => ?_)
      · have hny : dn y ≤ i := by have := mt (okK_nat y i).2 hg7_6; omega
        have hne : blk x i ≠ blk y i := (blk_ne hy0 hny hix).symm
        refine L.pass rfl rfl ?_
        refine L.pass rfl rfl ?_
        refine L.pass rfl rfl ?_
        first | refine L.val rfl rfl (R.pickT rfl rfl) ?_ | refine L.val rfl rfl (R.pickF rfl rfl) ?_
        refine L.nil ?_
        refine N.seq ?_
        refine G.condT rfl ?_
        refine G.region ?_
        refine L.val rfl rfl (R.mv rfl) ?_
        refine L.val rfl rfl (R.mv rfl) ?_
        refine L.do rfl rfl (R.buildA rfl rfl rfl rfl rfl) ?_
        rintro _ w3 ⟨b50, rfl, hb50, hs50, e3, B50⟩
        have hE3 := E.size
        replace E := E.trans0 e3
        replace o1 := o1.ext0 e3
        refine L.do rfl rfl (R.app rfl rfl o1 (Cells.of_blk B50 0 [num i] (fun j v hj => by cases j with | zero => exact hj | succ j => simp at hj)) rfl (by simp [num, Value.oneCell']) (by have := diffN_length x y i; simp [maxLen]; omega) (by have := diffN_length x y i; omega)) ?_
        rintro _ w4 ⟨a3, c3, M3, rfl, e4, hM3, o3⟩
        have hE4 := E.size
        replace E : Ext [] w w4 := E.trans e4 (by simp) (fun g hg => .inr (hM g hg))
        replace hM3 : ∀ g ∈ M3, w.heap.size ≤ g := fun g hg => (hM3 g hg).elim (hM g) (fun h => by omega)
        replace o3 : Own w4 3 1 a3 (diffN x y (i + 1)).length c3 (nums (diffN x y (i + 1))) M3 := by rw [diffN_succ, if_pos hne, nums_append, List.length_append]; exact o3
        refine L.be 51 rfl (show _ = Value.slice a3 (diffN x y (i + 1)).length c3 by rw [diffN_succ, if_pos hne, List.length_append]; rfl) ?_
        refine L.val rfl rfl (R.as rfl) ?_
        refine L.nil ?_
        refine N.block ?_
        refine N.seq ?_
        refine G.region ?_
        refine L.val rfl rfl (R.mv rfl) ?_
        refine L.val rfl rfl (R.add rfl rfl (by omega)) ?_
        refine L.val rfl rfl (R.as rfl) ?_
        refine L.nil ?_
        first
          | exact N.again (X := DfSt) ⟨i + 1, a3, c3, M3⟩ (by show max (dn x) (dn y) - (i + 1) < max (dn x) (dn y) - i; omega) (Sub.cons rfl (Sub.cons rfl (Sub.cons rfl (Sub.cons rfl (Sub.nil _))))) ⟨by show i + 1 ≤ _; omega, o3, hM3, E⟩
          | exact N.again (X := DfSt) ⟨i + 1, a1, c1, M⟩ (by show max (dn x) (dn y) - (i + 1) < max (dn x) (dn y) - i; omega) (Sub.cons rfl (Sub.cons rfl (Sub.cons rfl (Sub.cons rfl (Sub.nil _))))) ⟨by show i + 1 ≤ _; omega, by show Own _ _ 1 a1 _ c1 (nums (diffN x y (i + 1))) M; rw [diffN_succ, if_neg hne, List.append_nil]; exact o1, hM, E⟩
      · refine L.val rfl rfl (R.mv rfl) ?_
        refine L.val rfl rfl (R.mv rfl) ?_
        refine L.val rfl rfl (R.neStr rfl rfl) ?_
        first | refine L.val rfl rfl (R.pickT rfl rfl) ?_ | refine L.val rfl rfl (R.pickF rfl rfl) ?_
        refine L.nil ?_
        refine N.seq ?_
        refine G.condP rfl (fun h1 => ?_) (fun h1 => ?_)
        · have hne : blk x i ≠ blk y i := by rwa [getB_nat x i hx0, getB_nat y i hy0] at h1
          refine G.region ?_
          refine L.val rfl rfl (R.mv rfl) ?_
          refine L.val rfl rfl (R.mv rfl) ?_
          refine L.do rfl rfl (R.buildA rfl rfl rfl rfl rfl) ?_
          rintro _ w3 ⟨b50, rfl, hb50, hs50, e3, B50⟩
          have hE3 := E.size
          replace E := E.trans0 e3
          replace o1 := o1.ext0 e3
          refine L.do rfl rfl (R.app rfl rfl o1 (Cells.of_blk B50 0 [num i] (fun j v hj => by cases j with | zero => exact hj | succ j => simp at hj)) rfl (by simp [num, Value.oneCell']) (by have := diffN_length x y i; simp [maxLen]; omega) (by have := diffN_length x y i; omega)) ?_
          rintro _ w4 ⟨a3, c3, M3, rfl, e4, hM3, o3⟩
          have hE4 := E.size
          replace E : Ext [] w w4 := E.trans e4 (by simp) (fun g hg => .inr (hM g hg))
          replace hM3 : ∀ g ∈ M3, w.heap.size ≤ g := fun g hg => (hM3 g hg).elim (hM g) (fun h => by omega)
          replace o3 : Own w4 3 1 a3 (diffN x y (i + 1)).length c3 (nums (diffN x y (i + 1))) M3 := by rw [diffN_succ, if_pos hne, nums_append, List.length_append]; exact o3
          refine L.be 51 rfl (show _ = Value.slice a3 (diffN x y (i + 1)).length c3 by rw [diffN_succ, if_pos hne, List.length_append]; rfl) ?_
          refine L.val rfl rfl (R.as rfl) ?_
          refine L.nil ?_
          refine N.block ?_
          refine N.seq ?_
          refine G.region ?_
          refine L.val rfl rfl (R.mv rfl) ?_
          refine L.val rfl rfl (R.add rfl rfl (by omega)) ?_
          refine L.val rfl rfl (R.as rfl) ?_
          refine L.nil ?_
          first
            | exact N.again (X := DfSt) ⟨i + 1, a3, c3, M3⟩ (by show max (dn x) (dn y) - (i + 1) < max (dn x) (dn y) - i; omega) (Sub.cons rfl (Sub.cons rfl (Sub.cons rfl (Sub.cons rfl (Sub.nil _))))) ⟨by show i + 1 ≤ _; omega, o3, hM3, E⟩
            | exact N.again (X := DfSt) ⟨i + 1, a1, c1, M⟩ (by show max (dn x) (dn y) - (i + 1) < max (dn x) (dn y) - i; omega) (Sub.cons rfl (Sub.cons rfl (Sub.cons rfl (Sub.cons rfl (Sub.nil _))))) ⟨by show i + 1 ≤ _; omega, by show Own _ _ 1 a1 _ c1 (nums (diffN x y (i + 1))) M; rw [diffN_succ, if_neg hne, List.append_nil]; exact o1, hM, E⟩
        · have hne : ¬ blk x i ≠ blk y i := by rwa [getB_nat x i hx0, getB_nat y i hy0] at h1
          refine G.be 5 rfl (show _ = Value.slice a1 (diffN x y (i + 1)).length c1 by rw [diffN_succ, if_neg hne, List.append_nil]) ?_
          refine G.skip ?_
          refine N.block ?_
          refine N.seq ?_
          refine G.region ?_
          refine L.val rfl rfl (R.mv rfl) ?_
          refine L.val rfl rfl (R.add rfl rfl (by omega)) ?_
          refine L.val rfl rfl (R.as rfl) ?_
          refine L.nil ?_
          first
            | exact N.again (X := DfSt) ⟨i + 1, a3, c3, M3⟩ (by show max (dn x) (dn y) - (i + 1) < max (dn x) (dn y) - i; omega) (Sub.cons rfl (Sub.cons rfl (Sub.cons rfl (Sub.cons rfl (Sub.nil _))))) ⟨by show i + 1 ≤ _; omega, o3, hM3, E⟩
            | exact N.again (X := DfSt) ⟨i + 1, a1, c1, M⟩ (by show max (dn x) (dn y) - (i + 1) < max (dn x) (dn y) - i; omega) (Sub.cons rfl (Sub.cons rfl (Sub.cons rfl (Sub.cons rfl (Sub.nil _))))) ⟨by show i + 1 ≤ _; omega, by show Own _ _ 1 a1 _ c1 (nums (diffN x y (i + 1))) M; rw [diffN_succ, if_neg hne, List.append_nil]; exact o1, hM, E⟩
  · refine L.val rfl rfl (R.mv rfl) ?_
    refine L.val rfl rfl (R.mv rfl) ?_
    refine L.val rfl rfl (R.lenT rfl) ?_
    refine L.val rfl rfl (R.quo rfl rfl (by omega) (by omega)) ?_
    refine L.val rfl rfl (R.lss rfl rfl) ?_
    first | refine L.val rfl rfl (R.pickT rfl rfl) ?_ | refine L.val rfl rfl (R.pickF rfl rfl) ?_
    refine L.nil ?_
    refine N.seq ?_
    refine G.condP rfl (fun h0 => ?_) (fun h0 => ?_)
    · have him : i < max (dn x) (dn y) := by omega
      refine G.skip ?_
      refine N.seq ?_
      refine G.seq ?_
      refine G.block ?_
      refine G.seq ?_
      refine G.region ?_
      have him : i < max (dn x) (dn y) := by omega
      refine L.val rfl rfl (R.mv rfl) ?_
      refine L.val rfl rfl (R.mv rfl) ?_
      refine L.callF rfl rfl rfl go28 (rget_ok x (i : Int) _ hx) ?_
      rintro _ _ ⟨rfl, hw⟩
      obtain rfl := hw.symm
      refine L.val rfl rfl (R.mv rfl) ?_
      refine L.val rfl rfl (R.ext rfl rfl) ?_
      refine L.val rfl rfl (R.ext rfl rfl) ?_
      refine L.val rfl rfl (R.as rfl) ?_
      refine L.val rfl rfl (R.as rfl) ?_
      refine L.nil ?_
      refine N.seq ?_
      refine G.seq ?_
      refine G.region ?_
      refine L.val rfl rfl (R.mv rfl) ?_
      refine L.val rfl rfl (R.mv rfl) ?_
      refine L.callF rfl rfl rfl go28 (rget_ok y (i : Int) _ hy) ?_
      rintro _ _ ⟨rfl, hw⟩
      obtain rfl := hw.symm
      refine L.val rfl rfl (R.mv rfl) ?_
      refine L.val rfl rfl (R.ext rfl rfl) ?_
      refine L.val rfl rfl (R.ext rfl rfl) ?_
      refine L.val rfl rfl (R.as rfl) ?_
      refine L.val rfl rfl (R.as rfl) ?_
      refine L.nil ?_
      refine N.seq ?_
      refine G.seq ?_
      refine G.region ?_
      refine L.val rfl rfl (R.mv rfl) ?_
      refine L.val rfl rfl (R.not rfl) ?_
      refine L.be 38 rfl (show _ = Value.bool (decide (¬ okK x i)) by simp) ?_
      refine L.val rfl rfl (R.mv rfl) ?_
      refine L.caseP 39 rfl (fun hg7_2 => ?_) (fun hg7_2 => ?_)
      · have hnx : dn x ≤ i := by have := mt (okK_nat x i).2 hg7_2; omega
        have hne : blk x i ≠ blk y i := blk_ne hx0 hnx (by omega)
        refine L.pass rfl rfl ?_
        refine L.pass rfl rfl ?_
        first | refine L.val rfl rfl (R.pickT rfl rfl) ?_ | refine L.val rfl rfl (R.pickF rfl rfl) ?_
        refine L.val rfl rfl (R.mv rfl) ?_
        refine L.pass rfl rfl ?_
        refine L.pass rfl rfl ?_
        refine L.pass rfl rfl ?_
        first | refine L.val rfl rfl (R.pickT rfl rfl) ?_ | refine L.val rfl rfl (R.pickF rfl rfl) ?_
        refine L.nil ?_
        refine N.seq ?_
        refine G.condT rfl ?_
        refine G.region ?_
        refine L.val rfl rfl (R.mv rfl) ?_
        refine L.val rfl rfl (R.mv rfl) ?_
        refine L.do rfl rfl (R.buildA rfl rfl rfl rfl rfl) ?_
        rintro _ w3 ⟨b50, rfl, hb50, hs50, e3, B50⟩
        have hE3 := E.size
        replace E := E.trans0 e3
        replace o1 := o1.ext0 e3
        refine L.do rfl rfl (R.app rfl rfl o1 (Cells.of_blk B50 0 [num i] (fun j v hj => by cases j with | zero => exact hj | succ j => simp at hj)) rfl (by simp [num, Value.oneCell']) (by have := diffN_length x y i; simp [maxLen]; omega) (by have := diffN_length x y i; omega)) ?_
        rintro _ w4 ⟨a3, c3, M3, rfl, e4, hM3, o3⟩
        have hE4 := E.size
        replace E : Ext [] w w4 := E.trans e4 (by simp) (fun g hg => .inr (hM g hg))
        replace hM3 : ∀ g ∈ M3, w.heap.size ≤ g := fun g hg => (hM3 g hg).elim (hM g) (fun h => by omega)
        replace o3 : Own w4 3 1 a3 (diffN x y (i + 1)).length c3 (nums (diffN x y (i + 1))) M3 := by rw [diffN_succ, if_pos hne, nums_append, List.length_append]; exact o3
        refine L.be 51 rfl (show _ = Value.slice a3 (diffN x y (i + 1)).length c3 by rw [diffN_succ, if_pos hne, List.length_append]; rfl) ?_
        refine L.val rfl rfl (R.as rfl) ?_
        refine L.nil ?_
        refine N.block ?_
        refine N.seq ?_
        refine G.region ?_
        refine L.val rfl rfl (R.mv rfl) ?_
        refine L.val rfl rfl (R.add rfl rfl (by omega)) ?_
        refine L.val rfl rfl (R.as rfl) ?_
        refine L.nil ?_
        first
          | exact N.again (X := DfSt) ⟨i + 1, a3, c3, M3⟩ (by show max (dn x) (dn y) - (i + 1) < max (dn x) (dn y) - i; omega) (Sub.cons rfl (Sub.cons rfl (Sub.cons rfl (Sub.cons rfl (Sub.nil _))))) ⟨by show i + 1 ≤ _; omega, o3, hM3, E⟩
          | exact N.again (X := DfSt) ⟨i + 1, a1, c1, M⟩ (by show max (dn x) (dn y) - (i + 1) < max (dn x) (dn y) - i; omega) (Sub.cons rfl (Sub.cons rfl (Sub.cons rfl (Sub.cons rfl (Sub.nil _))))) ⟨by show i + 1 ≤ _; omega, by show Own _ _ 1 a1 _ c1 (nums (diffN x y (i + 1))) M; rw [diffN_succ, if_neg hne, List.append_nil]; exact o1, hM, E⟩
      · have hix : i < dn x := (okK_nat x i).1 (Classical.not_not.1 hg7_2)
        refine L.val rfl rfl (R.mv rfl) ?_
        refine L.val rfl rfl (R.not rfl) ?_
        refine L.be 41 rfl (show _ = Value.bool (decide (¬ okK y i)) by simp) ?_
        first | refine L.val rfl rfl (R.pickT rfl rfl) ?_ | refine L.val rfl rfl (R.pickF rfl rfl) ?_
        refine L.val rfl rfl (R.mv rfl) ?_
        refine L.caseP 43 rfl (fun hg7_6 => ?_) (fun hg7_6 => ?_)
        · have hny : dn y ≤ i := by have := mt (okK_nat y i).2 hg7_6; omega
          have hne : blk x i ≠ blk y i := (blk_ne hy0 hny hix).symm
          refine L.pass rfl rfl ?_
          refine L.pass rfl rfl ?_
          refine L.pass rfl rfl ?_
          first | refine L.val rfl rfl (R.pickT rfl rfl) ?_ | refine L.val rfl rfl (R.pickF rfl rfl) ?_
          refine L.nil ?_
          refine N.seq ?_
          refine G.condT rfl ?_
          refine G.region ?_
          refine L.val rfl rfl (R.mv rfl) ?_
          refine L.val rfl rfl (R.mv rfl) ?_
          refine L.do rfl rfl (R.buildA rfl rfl rfl rfl rfl) ?_
          rintro _ w3 ⟨b50, rfl, hb50, hs50, e3, B50⟩
          have hE3 := E.size
          replace E := E.trans0 e3
          replace o1 := o1.ext0 e3
          refine L.do rfl rfl (R.app rfl rfl o1 (Cells.of_blk B50 0 [num i] (fun j v hj => by cases j with | zero => exact hj | succ j => simp at hj)) rfl (by simp [num, Value.oneCell']) (by have := diffN_length x y i; simp [maxLen]; omega) (by have := diffN_length x y i; omega)) ?_
          rintro _ w4 ⟨a3, c3, M3, rfl, e4, hM3, o3⟩
          have hE4 := E.size
          replace E : Ext [] w w4 := E.trans e4 (by simp) (fun g hg => .inr (hM g hg))
          replace hM3 : ∀ g ∈ M3, w.heap.size ≤ g := fun g hg => (hM3 g hg).elim (hM g) (fun h => by omega)
          replace o3 : Own w4 3 1 a3 (diffN x y (i + 1)).length c3 (nums (diffN x y (i + 1))) M3 := by rw [diffN_succ, if_pos hne, nums_append, List.length_append]; exact o3
          refine L.be 51 rfl (show _ = Value.slice a3 (diffN x y (i + 1)).length c3 by rw [diffN_succ, if_pos hne, List.length_append]; rfl) ?_
          refine L.val rfl rfl (R.as rfl) ?_
          refine L.nil ?_
          refine N.block ?_
          refine N.seq ?_
          refine G.region ?_
          refine L.val rfl rfl (R.mv rfl) ?_
          refine L.val rfl rfl (R.add rfl rfl (by omega)) ?_
          refine L.val rfl rfl (R.as rfl) ?_
          refine L.nil ?_
          first
            | exact N.again (X := DfSt) ⟨i + 1, a3, c3, M3⟩ (by show max (dn x) (dn y) - (i + 1) < max (dn x) (dn y) - i; omega) (Sub.cons rfl (Sub.cons rfl (Sub.cons rfl (Sub.cons rfl (Sub.nil _))))) ⟨by show i + 1 ≤ _; omega, o3, hM3, E⟩
            | exact N.again (X := DfSt) ⟨i + 1, a1, c1, M⟩ (by show max (dn x) (dn y) - (i + 1) < max (dn x) (dn y) - i; omega) (Sub.cons rfl (Sub.cons rfl (Sub.cons rfl (Sub.cons rfl (Sub.nil _))))) ⟨by show i + 1 ≤ _; omega, by show Own _ _ 1 a1 _ c1 (nums (diffN x y (i + 1))) M; rw [diffN_succ, if_neg hne, List.append_nil]; exact o1, hM, E⟩
        · refine L.val rfl rfl (R.mv rfl) ?_
          refine L.val rfl rfl (R.mv rfl) ?_
          refine L.val rfl rfl (R.neStr rfl rfl) ?_
          first | refine L.val rfl rfl (R.pickT rfl rfl) ?_ | refine L.val rfl rfl (R.pickF rfl rfl) ?_
          refine L.nil ?_
          refine N.seq ?_
          refine G.condP rfl (fun h1 => ?_) (fun h1 => ?_)
          · have hne : blk x i ≠ blk y i := by rwa [getB_nat x i hx0, getB_nat y i hy0] at h1
            refine G.region ?_
            refine L.val rfl rfl (R.mv rfl) ?_
            refine L.val rfl rfl (R.mv rfl) ?_
            refine L.do rfl rfl (R.buildA rfl rfl rfl rfl rfl) ?_
            rintro _ w3 ⟨b50, rfl, hb50, hs50, e3, B50⟩
            have hE3 := E.size
            replace E := E.trans0 e3
            replace o1 := o1.ext0 e3
            refine L.do rfl rfl (R.app rfl rfl o1 (Cells.of_blk B50 0 [num i] (fun j v hj => by cases j with | zero => exact hj | succ j => simp at hj)) rfl (by simp [num, Value.oneCell']) (by have := diffN_length x y i; simp [maxLen]; omega) (by have := diffN_length x y i; omega)) ?_
            rintro _ w4 ⟨a3, c3, M3, rfl, e4, hM3, o3⟩
            have hE4 := E.size
            replace E : Ext [] w w4 := E.trans e4 (by simp) (fun g hg => .inr (hM g hg))
            replace hM3 : ∀ g ∈ M3, w.heap.size ≤ g := fun g hg => (hM3 g hg).elim (hM g) (fun h => by omega)
            replace o3 : Own w4 3 1 a3 (diffN x y (i + 1)).length c3 (nums (diffN x y (i + 1))) M3 := by rw [diffN_succ, if_pos hne, nums_append, List.length_append]; exact o3
            refine L.be 51 rfl (show _ = Value.slice a3 (diffN x y (i + 1)).length c3 by rw [diffN_succ, if_pos hne, List.length_append]; rfl) ?_
            refine L.val rfl rfl (R.as rfl) ?_
            refine L.nil ?_
            refine N.block ?_
            refine N.seq ?_
            refine G.region ?_
            refine L.val rfl rfl (R.mv rfl) ?_
            refine L.val rfl rfl (R.add rfl rfl (by omega)) ?_
            refine L.val rfl rfl (R.as rfl) ?_
            refine L.nil ?_
            first
              | exact N.again (X := DfSt) ⟨i + 1, a3, c3, M3⟩ (by show max (dn x) (dn y) - (i + 1) < max (dn x) (dn y) - i; omega) (Sub.cons rfl (Sub.cons rfl (Sub.cons rfl (Sub.cons rfl (Sub.nil _))))) ⟨by show i + 1 ≤ _; omega, o3, hM3, E⟩
              | exact N.again (X := DfSt) ⟨i + 1, a1, c1, M⟩ (by show max (dn x) (dn y) - (i + 1) < max (dn x) (dn y) - i; omega) (Sub.cons rfl (Sub.cons rfl (Sub.cons rfl (Sub.cons rfl (Sub.nil _))))) ⟨by show i + 1 ≤ _; omega, by show Own _ _ 1 a1 _ c1 (nums (diffN x y (i + 1))) M; rw [diffN_succ, if_neg hne, List.append_nil]; exact o1, hM, E⟩
          · have hne : ¬ blk x i ≠ blk y i := by rwa [getB_nat x i hx0, getB_nat y i hy0] at h1
            refine G.be 5 rfl (show _ = Value.slice a1 (diffN x y (i + 1)).length c1 by rw [diffN_succ, if_neg hne, List.append_nil]) ?_
            refine G.skip ?_
            refine N.block ?_
            refine N.seq ?_
            refine G.region ?_
            refine L.val rfl rfl (R.mv rfl) ?_
            refine L.val rfl rfl (R.add rfl rfl (by omega)) ?_
            refine L.val rfl rfl (R.as rfl) ?_
            refine L.nil ?_
            first
              | exact N.again (X := DfSt) ⟨i + 1, a3, c3, M3⟩ (by show max (dn x) (dn y) - (i + 1) < max (dn x) (dn y) - i; omega) (Sub.cons rfl (Sub.cons rfl (Sub.cons rfl (Sub.cons rfl (Sub.nil _))))) ⟨by show i + 1 ≤ _; omega, o3, hM3, E⟩
              | exact N.again (X := DfSt) ⟨i + 1, a1, c1, M⟩ (by show max (dn x) (dn y) - (i + 1) < max (dn x) (dn y) - i; omega) (Sub.cons rfl (Sub.cons rfl (Sub.cons rfl (Sub.cons rfl (Sub.nil _))))) ⟨by show i + 1 ≤ _; omega, by show Own _ _ 1 a1 _ c1 (nums (diffN x y (i + 1))) M; rw [diffN_succ, if_neg hne, List.append_nil]; exact o1, hM, E⟩
    · obtain rfl : i = max (dn x) (dn y) := by omega
      refine G.exit _ rfl ?_
      refine N.seq ?_
      refine G.seq ?_
      refine G.region ?_
      refine L.val rfl rfl (R.mv rfl) ?_
      refine L.val rfl rfl (R.as rfl) ?_
      refine L.nil ?_
      refine N.seq ?_
      refine G.ret1 rfl rfl ?_
      exact ⟨a1, c1, M, rfl, E, o1, hM⟩

end Go.Proofs.Ytjmlcodlnohgdaa
