/-
  The walks of the laws on crc.
-/
import Derived.Test.YtfbkbobphjncfaaCrc
set_option linter.unusedVariables false
namespace Go.Proofs.Ytfbkbobphjncfaa
open Go Brv Brv.Crc

theorem crcJoins_ok (a : Option Addr) (n c : Nat) (l : List UInt8) (x : Int) (y : UInt8) (w : World) (hb : Bs w a n l) (hn : n ≤ c) (hc : c ≤ 140737488355328) (hx : 0 ≤ x ∧ x ≤ 65535) : Meets Try.prog 5 [.slice a n c, .int .u16 x, vb y] w (fun v w' => v = .bool true ∧ Ext [] w w') := by
  refine Meets.enter Try.func5 rfl 54 rfl (Nat.le_of_ble_eq_true rfl) ?_
  have E := Ext.refl [] w
  have hl := hb.len
  refine G.seq ?_
  refine G.region ?_
  refine L.val rfl rfl (R.as rfl) ?_
  refine L.nil ?_
  refine N.seq ?_
  refine G.seq ?_
  refine G.seq ?_
  refine G.region ?_
  refine L.callF rfl rfl rfl go11 (first_ok _) ?_
  rintro _ w1 ⟨rfl, e1⟩
  replace E := E.trans0 e1
  refine L.val rfl rfl (R.not rfl) ?_
  refine L.nil ?_
  refine N.seq ?_
  refine G.condF rfl ?_
  refine G.skip ?_
  refine N.seq ?_
  refine G.seq ?_
  refine G.seq ?_
  refine G.region ?_
  refine L.val rfl rfl (R.mv rfl) ?_
  refine L.val rfl rfl (R.lenS rfl) ?_
  refine L.val rfl rfl (R.gtr rfl rfl) ?_
  refine L.val rfl rfl (R.mv rfl) ?_
  refine L.caseP 14 rfl (fun hg3_3 => ?_) (fun hg3_3 => ?_)
  · refine L.pass rfl rfl ?_
    refine L.pass rfl rfl ?_
    refine L.pass rfl rfl ?_
    first | refine L.val rfl rfl (R.pickT rfl rfl) ?_ | refine L.val rfl rfl (R.pickF rfl rfl) ?_
    refine L.nil ?_
    refine N.seq ?_
    refine G.condT rfl ?_
    refine G.seq ?_
    refine G.region ?_
    refine L.val rfl rfl (R.as rfl) ?_
    refine L.nil ?_
    refine N.seq ?_
    refine G.ret1 rfl rfl ?_
    exact ⟨rfl, E⟩
  · refine L.val rfl rfl (R.mv rfl) ?_
    refine L.val rfl rfl (R.lenS rfl) ?_
    refine L.val rfl rfl (R.eqI rfl rfl) ?_
    first | refine L.val rfl rfl (R.pickT rfl rfl) ?_ | refine L.val rfl rfl (R.pickF rfl rfl) ?_
    refine L.nil ?_
    refine N.seq ?_
    refine G.condP rfl (fun h1 => ?_) (fun h1 => ?_)
    · refine G.seq ?_
      refine G.region ?_
      refine L.val rfl rfl (R.as rfl) ?_
      refine L.nil ?_
      refine N.seq ?_
      refine G.ret1 rfl rfl ?_
      exact ⟨rfl, E⟩
    · refine G.skip ?_
      refine N.seq ?_
      refine G.seq ?_
      refine G.region ?_
      refine L.val rfl rfl (R.mv rfl) ?_
      refine L.val rfl rfl (R.conv rfl _ (wrap_i64 (by omega))) ?_
      refine L.val rfl rfl (R.mv rfl) ?_
      refine L.val rfl rfl (R.lenS rfl) ?_
      refine L.val rfl rfl (R.rem rfl rfl (by omega) (by omega)) ?_
      obtain ⟨k, hk⟩ := Int.eq_ofNat_of_zero_le (Int.emod_nonneg x (show (n : Int) ≠ 0 by omega))
      have hkn := Int.emod_lt_of_pos x (show (0 : Int) < n by omega)
      refine L.be 23 rfl (congrArg (Value.int .i64) hk) ?_
      rw [hk] at hkn
      replace hkn : k < n := by omega
      refine L.val rfl rfl (R.as rfl) ?_
      refine L.nil ?_
      refine N.seq ?_
      refine G.seq ?_
      refine G.seq ?_
      refine G.quiet (by decide +kernel) rfl ?_
      refine Q.val rfl rfl rfl rfl (fun w1 hE => R.mv rfl) ?_
      refine Q.val rfl rfl rfl rfl (fun w1 hE => R.mv rfl) ?_
      refine Q.val rfl rfl rfl rfl (fun w1 hE => R.slH rfl rfl (by omega) (by omega)) ?_
      refine Q.call (v32 (joinF 0 (l.take k))) rfl rfl rfl go12 (fun w1 hE => ⟨_, rfl, (sum_ok _ _ _ _ _ ((hb.ext0 (E.trans0 hE)).take c k (by omega) (by omega)) (by omega)).mono (by rintro _ _ ⟨rfl, rfl⟩; exact ⟨rfl, Ext.refl _ _⟩)⟩) ?_
      refine Q.val rfl rfl rfl rfl (fun w1 hE => R.mv rfl) ?_
      refine Q.val rfl rfl rfl rfl (fun w1 hE => R.mv rfl) ?_
      refine Q.val rfl rfl rfl rfl (fun w1 hE => R.slL rfl rfl (by omega) (by omega)) ?_
      refine Q.be 30 rfl (show _ = Value.slice (subA a k c 1) (n - k) (c - k) from rfl) ?_
      refine Q.call (v32 (joinF (joinF 0 (l.take k)) (l.drop k))) rfl rfl rfl go14 (fun w1 hE => ⟨_, rfl, (join_ok (joinF 0 (l.take k)) (subA a k c 1) (n - k) (c - k) (l.drop k) _ ((hb.ext0 (E.trans0 hE)).drop k c (by omega) (by omega)) (by omega)).mono (by rintro _ _ ⟨rfl, rfl⟩; exact ⟨rfl, Ext.refl _ _⟩)⟩) ?_
      refine Q.val rfl rfl rfl rfl (fun w1 hE => R.mv rfl) ?_
      refine Q.call (v32 (joinF 0 l)) rfl rfl rfl go12 (fun w1 hE => ⟨_, rfl, (sum_ok _ _ _ _ _ (hb.ext0 (E.trans0 hE)) (by omega)).mono (by rintro _ _ ⟨rfl, rfl⟩; exact ⟨rfl, Ext.refl _ _⟩)⟩) ?_
      refine Q.val rfl rfl rfl rfl (fun w1 hE => R.neI rfl rfl) ?_
      refine Q.nil (fun w1 e1 => ?_)
      replace E := E.trans0 e1
      refine N.seq ?_
      refine G.condP rfl (fun h2 => ?_) (fun h2 => ?_)
      · exfalso
        rw [← joinF_append, List.take_append_drop] at h2
        exact h2 rfl
      · refine G.skip ?_
        refine N.seq ?_
        refine G.seq ?_
        refine G.region ?_
        have hz := E.size
        refine L.do rfl rfl (R.buildS rfl (by decide) rfl) ?_
        rintro _ w2 ⟨b5, rfl, hb5, hs5, e2, B5⟩
        replace E := E.trans0 e2
        have o0 := Own.blk (n := 0) (size := 1) B5 (by simp) (by simp [maxLen])
        refine L.val rfl rfl (R.mv rfl) ?_
        refine L.do rfl rfl (R.app rfl rfl o0 (hb.ext0 E).cells (by rw [vbs_length, Nat.mul_one]; exact hb.len.symm) (vbs_one _) (by simp [maxLen]; omega) (by omega)) ?_
        rintro _ w3 ⟨a1, c1, M1, rfl, e3, hM1, o1⟩
        replace o1 : Own w3 5 1 a1 n c1 (vbs l) M1 := by simpa using o1
        replace hM1 : ∀ g ∈ M1, w.heap.size ≤ g := by intro g hg; have := hM1 g hg; simp at this; omega
        have E := E.trans e3 (M := []) (by simp) (by simp; omega)
        refine L.be 37 rfl (show Value.slice a1 (0 + n) c1 = Value.slice a1 n c1 by rw [Nat.zero_add]) ?_
        refine L.val rfl rfl (R.as rfl) ?_
        refine L.nil ?_
        refine N.seq ?_
        refine G.seq ?_
        refine G.region ?_
        refine L.val rfl rfl (R.mv rfl) ?_
        refine L.val rfl rfl (R.mv rfl) ?_
        refine L.val rfl rfl (R.mv rfl) ?_
        obtain ⟨g, cur, ha, hM, hB, hlt, hset⟩ := o1.set k hkn
        refine L.val rfl rfl (R.idxO rfl rfl (by omega) (by omega) ha k (by omega)) ?_
        refine L.set rfl (R.st rfl rfl hB hlt rfl) ?_
        rintro w4 ⟨e4, hs4, B4⟩
        have o4 := hset _ w4 e4 B4
        rw [vbs_set] at o4
        have E := E.trans e4 (M := []) (by simp) (by intro x hx; obtain rfl := List.mem_singleton.1 hx; exact .inr (hM1 x (by simp [hM])))
        refine L.nil ?_
        refine N.seq ?_
        refine G.seq ?_
        refine G.quiet (by decide +kernel) rfl ?_
        refine Q.val rfl rfl rfl rfl (fun w2 hE => R.mv rfl) ?_
        refine Q.call (v32 (joinF 0 (l.set k y))) rfl rfl rfl go12 (fun w2 hE => ⟨_, rfl, (sum_ok _ _ _ _ _ ((Bs.of_own o4).ext0 hE) (by omega)).mono (by rintro _ _ ⟨rfl, rfl⟩; exact ⟨rfl, Ext.refl _ _⟩)⟩) ?_
        refine Q.val rfl rfl rfl rfl (fun w2 hE => R.mv rfl) ?_
        refine Q.call (v32 (joinF 0 l)) rfl rfl rfl go12 (fun w2 hE => ⟨_, rfl, (sum_ok _ _ _ _ _ (hb.ext0 (E.trans0 hE)) (by omega)).mono (by rintro _ _ ⟨rfl, rfl⟩; exact ⟨rfl, Ext.refl _ _⟩)⟩) ?_
        refine Q.val rfl rfl rfl rfl (fun w2 hE => R.eqI rfl rfl) ?_
        refine Q.val rfl rfl rfl rfl (fun w2 hE => R.mv rfl) ?_
        refine Q.val rfl rfl rfl rfl (fun w2 hE => R.mv rfl) ?_
        refine Q.val rfl rfl rfl rfl (fun w2 hE => R.mv rfl) ?_
        obtain ⟨p, hp, hcl⟩ := hb.at k (by omega)
        refine Q.val rfl rfl rfl rfl (fun w2 hE => R.idx rfl rfl (by omega) (by omega) p hp) ?_
        refine Q.val rfl rfl rfl rfl (fun w2 hE => R.ld rfl (cell?_ext0' hcl (E.trans0 hE))) ?_
        refine Q.val rfl rfl rfl rfl (fun w2 hE => R.eqI rfl rfl) ?_
        refine Q.val rfl rfl rfl rfl (fun w2 hE => R.eqB rfl rfl) ?_
        refine Q.val rfl rfl rfl rfl (fun w2 hE => R.as rfl) ?_
        refine Q.nil (fun w2 e2 => ?_)
        replace E := E.trans0 e2
        refine N.seq ?_
        refine G.ret1 rfl rfl ?_
        exact ⟨congrArg Value.bool (joins_end (by omega)), E⟩

end Go.Proofs.Ytfbkbobphjncfaa
