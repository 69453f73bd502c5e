/-
  The walks of package image.
-/
import Derived.Test.YtjmlcodlnohgdaaImage7
set_option linter.unusedVariables false
set_option linter.unusedSimpArgs false
namespace Go.Proofs.Ytjmlcodlnohgdaa
open Go Brv Brv.Image
theorem ifrom_ok (a : Option Addr) (n c : Nat) (l : List UInt8) (w : World) (hb : Bs w a n l) (hc : n ≤ c) (hv : l.length = 64 * dn l ∧ 1 ≤ dn l ∧ dn l ≤ 64) : Meets Try.prog 31 [.slice a n c] w (fun v w' => ∃ d, v = .tuple #[ptr d, .int .i64 0] ∧ Ext [] w w' ∧ DiskAt w' d l) := by
  refine Meets.enter Try.func31 rfl 47 rfl (Nat.le_of_ble_eq_true rfl) ?_
  have E := Ext.refl [] w
  have hl := hb.len
  have hdl : dn l = l.length / 64 := rfl
  obtain ⟨hv1, hv2, hv3⟩ := hv
  refine G.seq ?_
  refine G.region ?_
  refine L.val rfl rfl (R.as rfl) ?_
  refine L.val rfl rfl (R.as rfl) ?_
  refine L.nil ?_
  refine N.seq ?_
  refine G.seq ?_
  refine G.seq ?_
  refine G.region ?_
  refine L.val rfl rfl (R.mv rfl) ?_
  refine L.val rfl rfl (R.lenS rfl) ?_
  refine L.val rfl rfl (R.rem rfl rfl (by omega) (by omega)) ?_
  refine L.val rfl rfl (R.neI rfl rfl) ?_
  refine L.nil ?_
  refine N.seq ?_
  refine G.condP rfl (fun h0 => ?_) (fun h0 => ?_)
  · exfalso; omega
  · refine G.skip ?_
    refine N.seq ?_
    refine G.seq ?_
    refine G.region ?_
    refine L.val rfl rfl (R.mv rfl) ?_
    refine L.val rfl rfl (R.lenS rfl) ?_
    refine L.val rfl rfl (R.quo rfl rfl (by omega) (by omega)) ?_
    refine L.be 15 rfl (show _ = Value.int .i64 (dn l : Int) by congr 1; omega) ?_
    refine L.callF rfl rfl rfl go17 (inew_ok (dn l) _ hv2 hv3) ?_
    rintro _ w1 ⟨d, rfl, e1, O1⟩
    replace E := E.trans0 e1
    obtain ⟨x0, hx0⟩ : ∃ x0 : List UInt8, x0 = List.replicate (64 * dn l) 0 := ⟨_, rfl⟩
    have hx0d : dn x0 = dn l := by rw [hx0, dn_zero]
    rw [← hx0] at O1
    obtain ⟨a6, c6, ps, M6, B6, hd6, hl6, _, _, o6, hM6, hB⟩ := O1
    rw [hx0d] at B6 o6
    refine L.val rfl rfl (R.mv rfl) ?_
    refine L.val rfl rfl (R.ext rfl rfl) ?_
    refine L.val rfl rfl (R.ext rfl rfl) ?_
    refine L.val rfl rfl (R.as rfl) ?_
    refine L.val rfl rfl (R.as rfl) ?_
    refine L.nil ?_
    refine N.seq ?_
    refine G.seq ?_
    refine G.seq ?_
    refine G.region ?_
    refine L.val rfl rfl (R.mv rfl) ?_
    refine L.val rfl rfl (R.neI rfl rfl) ?_
    refine L.nil ?_
    refine N.seq ?_
    refine G.condF rfl ?_
    refine G.skip ?_
    refine N.seq ?_
    refine G.seq ?_
    refine G.seq ?_
    refine G.region ?_
    refine L.val rfl rfl (R.mv rfl) ?_
    refine L.val rfl rfl (R.nilChk rfl) ?_
    refine L.val rfl rfl (R.fld rfl) ?_
    refine L.val rfl rfl (R.ldB rfl B6 rfl) ?_
    refine L.val rfl rfl (R.lenS rfl) ?_
    refine L.val rfl rfl (R.mv rfl) ?_
    refine L.nil ?_
    refine N.seq ?_
    refine G.block ?_
    refine G.loop (X := Nat × List UInt8 × List Nat) (fun s => [(0, .slice a n c), (4, .pointer (some ⟨d, 0, none⟩)), (26, .int .i64 (dn l : Int)), (27, .int .i64 (s.1 : Int))]) (fun s w' => s.1 ≤ dn l ∧ s.2.1.length = l.length ∧ (∀ j, blk s.2.1 j = if j < s.1 then blk l j else blk x0 j) ∧ Ext [] w w' ∧ Blk w' d #[.slice a6 (dn l) c6] 121 (0, 0) ∧ Own w' 118 1 a6 (dn l) c6 (s.2.2.map ptr) M6 ∧ Blks w' s.2.2 s.2.1) (fun s => dn l - s.1) ((0, x0, ps)) (Sub.cons rfl (Sub.cons rfl (Sub.cons rfl (Sub.cons rfl (Sub.nil _))))) ⟨Nat.zero_le _, by show x0.length = _; omega, fun j => (if_neg (Nat.not_lt_zero _)).symm, E, B6, o6, hB⟩ ?_
    rintro ⟨i, y, qs⟩ w2 ⟨hi, hyl, hyb, E, B6, o6, hB⟩
    dsimp only at hi hyl hyb o6 hB
    refine G.sub [(0, .slice a n c), (4, .pointer (some ⟨d, 0, none⟩)), (26, .int .i64 (dn l : Int)), (27, .int .i64 (i : Int))] (Sub.cons rfl (Sub.cons rfl (Sub.cons rfl (Sub.cons rfl (Sub.nil _))))) ?_
    have hdy : dn y = dn l := by unfold dn; rw [hyl]
    refine G.seq ?_
    refine G.region ?_
    refine L.val rfl rfl (R.lss rfl rfl) ?_
    refine L.nil ?_
    refine N.seq ?_
    refine G.seq ?_
    refine G.condP rfl (fun h2 => ?_) (fun h2 => ?_)
    · have hil : i < dn l := by omega
      have h64 := blk_length hil
      have hbs := (hb.ext0 E).sub (64 * i) c 64 (by omega) (by omega)
      rw [show (l.drop (64 * i)).take 64 = blk l i from rfl] at hbs
      obtain ⟨q, hq⟩ : ∃ q, subA a (64 * i) c 1 = some q := by
        cases hq : subA a (64 * i) c 1 with
        | none => rw [hq] at hbs; have := hbs.none.2; cases this
        | some q => exact ⟨q, rfl⟩
      rw [hq] at hbs
      have hyb2 : ∀ j, blk (laid y i (blk l i)) j = if j < i + 1 then blk l j else blk x0 j := by
        intro j
        rw [laid_blk h64 (by omega), hyb j]
        by_cases e : j = i
        · subst e; rw [if_pos rfl, if_pos (by omega)]
        · rw [if_neg e]
          by_cases e2 : j < i
          · rw [if_pos e2, if_pos (by omega)]
          · rw [if_neg e2, if_neg (by omega)]
      refine G.skip ?_
      refine N.seq ?_
      refine G.seq ?_
      refine G.block ?_
      refine G.seq ?_
      refine G.region ?_
      refine L.val rfl rfl (R.mv rfl) ?_
      refine L.val rfl rfl (R.as rfl) ?_
      refine L.nil ?_
      refine N.seq ?_
      refine G.seq ?_
      refine G.region ?_
      refine L.val rfl rfl (R.mv rfl) ?_
      refine L.val rfl rfl (R.mv rfl) ?_
      refine L.val rfl rfl (R.mul rfl rfl (by omega)) ?_
      refine L.val rfl rfl (R.mv rfl) ?_
      refine L.val rfl rfl (R.add rfl rfl (by omega)) ?_
      refine L.val rfl rfl (R.mul rfl rfl (by omega)) ?_
      refine L.val rfl rfl (R.slLH rfl rfl rfl (by omega) (by omega) (by omega)) ?_
      refine L.be 36 rfl (show _ = Value.slice (some q) 64 (c - 64 * i) by rw [show ((i : Int) * 64).toNat = 64 * i by omega, show (((i : Int) + 1) * 64).toNat - 64 * i = 64 by omega, hq]) ?_
      refine L.val rfl rfl (R.s2ap rfl (by decide)) ?_
      refine L.val rfl rfl (R.ldN rfl hbs.cells (by rw [vbs_length, h64])) ?_
      refine L.do rfl rfl (R.alloc) ?_
      rintro _ w6 ⟨b7, rfl, hb7, hs7, e6, B7⟩
      have hE6 := E.size
      refine L.set rfl (R.stN rfl rfl B7 (by simp [vbs_length, h64]) (by simp [vbs_length, h64, Value.cells]) (by simpa using vbs_one _)) ?_
      rintro w7 ⟨e7, hs7, B7⟩
      rw [all_stored (by simp [vbs_length, h64, Value.cells])] at B7
      have n7 := e6.news2 e7 (by omega)
      replace E := E.trans0 n7
      replace B6 := B6.ext0 n7
      replace o6 := o6.ext0 n7
      replace hB := hB.ext0 n7
      obtain ⟨gl, curl, rfl, rfl, L6, hkl, hO6⟩ := o6.set i (by omega)
      have hgl := hM6 gl (by simp)
      have hE7 := E.size
      refine L.nil ?_
      refine N.seq ?_
      refine G.region ?_
      refine L.val rfl rfl (R.mv rfl) ?_
      refine L.val rfl rfl (R.nilChk rfl) ?_
      refine L.val rfl rfl (R.fld rfl) ?_
      refine L.val rfl rfl (R.ldB rfl B6 rfl) ?_
      refine L.val rfl rfl (R.mv rfl) ?_
      refine L.val rfl rfl (R.idx rfl rfl (by omega) (by omega) _ rfl) ?_
      refine L.be 44 rfl (show _ = Value.pointer (some ⟨gl, i, none⟩) by rw [Go.Addr.add_lit]; simp) ?_
      refine L.set rfl (R.st rfl rfl L6 hkl rfl) ?_
      rintro w8 ⟨e12, hs12, L12⟩
      replace o6 := hO6 (ptr b7) _ e12 L12
      replace E := E.news2 e12 (by omega)
      replace B6 := B6.ext e12 (fun hm => B6.ne L6 (by decide) (List.mem_singleton.1 hm))
      replace hB := hB.put e12 L6 B7 h64 (show i < dn y by omega)
      refine L.nil ?_
      refine N.block ?_
      refine N.seq ?_
      refine G.region ?_
      refine L.val rfl rfl (R.add rfl rfl (by omega)) ?_
      refine L.val rfl rfl (R.mv rfl) ?_
      refine L.nil ?_
      exact N.again (i + 1, laid y i (blk l i), qs.set i b7) (by show dn l - (i + 1) < dn l - i; omega) (Sub.cons rfl (Sub.cons rfl (Sub.cons rfl (Sub.cons rfl (Sub.nil _))))) ⟨by show i + 1 ≤ dn l; omega, (laid_length h64 (by omega)).trans hyl, hyb2, E, B6, by rw [List.map_set]; exact o6, hB⟩
    · obtain rfl : i = dn l := by omega
      have hyl2 : y = l := eq_of_blk hyl (by rw [hyl, hdy]; exact hv1) (fun k hk => by rw [hyb k, if_pos (by rw [← hdy]; exact hk)])
      subst hyl2
      refine G.exit _ rfl ?_
      refine N.seq ?_
      refine G.seq ?_
      refine G.region ?_
      refine L.val rfl rfl (R.mv rfl) ?_
      refine L.val rfl rfl (R.as rfl) ?_
      refine L.val rfl rfl (R.as rfl) ?_
      refine L.nil ?_
      refine N.seq ?_
      refine G.ret2 rfl rfl rfl ?_
      exact ⟨d, rfl, E, OwnDisk.at (s := 0) ⟨a6, c6, qs, M6, B6, by omega, hv1, hv2, hv3, o6, by simp, hB⟩⟩

theorem ifrom_err (a : Option Addr) (n c : Nat) (l : List UInt8) (w : World) (hb : Bs w a n l) (hn : n ≤ 1000000) (hv : ¬ (l.length = 64 * dn l ∧ 1 ≤ dn l ∧ dn l ≤ 64)) : Meets Try.prog 31 [.slice a n c] w (fun v w' => v = .tuple #[.pointer none, .int .i64 2] ∧ w' = w) := by
  refine Meets.enter Try.func31 rfl 47 rfl (Nat.le_of_ble_eq_true rfl) ?_
  have hl := hb.len
  have hdl : dn l = l.length / 64 := rfl
  refine G.seq ?_
  refine G.region ?_
  refine L.val rfl rfl (R.as rfl) ?_
  refine L.val rfl rfl (R.as rfl) ?_
  refine L.nil ?_
  refine N.seq ?_
  refine G.seq ?_
  refine G.seq ?_
  refine G.region ?_
  refine L.val rfl rfl (R.mv rfl) ?_
  refine L.val rfl rfl (R.lenS rfl) ?_
  refine L.val rfl rfl (R.rem rfl rfl (by omega) (by omega)) ?_
  refine L.val rfl rfl (R.neI rfl rfl) ?_
  refine L.nil ?_
  refine N.seq ?_
  refine G.condP rfl (fun h0 => ?_) (fun h0 => ?_)
  · refine G.seq ?_
    refine G.region ?_
    refine L.val rfl rfl (R.as rfl) ?_
    refine L.val rfl rfl (R.as rfl) ?_
    refine L.nil ?_
    refine N.seq ?_
    refine G.ret2 rfl rfl rfl ?_
    exact ⟨rfl, rfl⟩
  · refine G.skip ?_
    refine N.seq ?_
    refine G.seq ?_
    refine G.region ?_
    refine L.val rfl rfl (R.mv rfl) ?_
    refine L.val rfl rfl (R.lenS rfl) ?_
    refine L.val rfl rfl (R.quo rfl rfl (by omega) (by omega)) ?_
    refine L.callF rfl rfl rfl go17 (inew_err ((n : Int) / 64) _ (fun h9 => hv ⟨by omega, by omega, by omega⟩)) ?_
    rintro _ _ ⟨rfl, rfl⟩
    refine L.val rfl rfl (R.mv rfl) ?_
    refine L.val rfl rfl (R.ext rfl rfl) ?_
    refine L.val rfl rfl (R.ext rfl rfl) ?_
    refine L.val rfl rfl (R.as rfl) ?_
    refine L.val rfl rfl (R.as rfl) ?_
    refine L.nil ?_
    refine N.seq ?_
    refine G.seq ?_
    refine G.seq ?_
    refine G.region ?_
    refine L.val rfl rfl (R.mv rfl) ?_
    refine L.val rfl rfl (R.neI rfl rfl) ?_
    refine L.nil ?_
    refine N.seq ?_
    refine G.condT rfl ?_
    refine G.seq ?_
    refine G.region ?_
    refine L.val rfl rfl (R.mv rfl) ?_
    refine L.val rfl rfl (R.as rfl) ?_
    refine L.val rfl rfl (R.as rfl) ?_
    refine L.nil ?_
    refine N.seq ?_
    refine G.ret2 rfl rfl rfl ?_
    exact ⟨rfl, rfl⟩

end Go.Proofs.Ytjmlcodlnohgdaa
