/-
  The walks of the laws on crc.
-/
import Derived.Test.YtfbkbobphjncfaaCrc
set_option linter.unusedVariables false
namespace Go.Proofs.Ytfbkbobphjncfaa
open Go Brv Brv.Crc

theorem crcTells_ok (a a' : Option Addr) (n c n' c' : Nat) (l l' : List UInt8) (r : UInt32) (w : World) (hb : Bs w a n l) (hn : n ≤ c) (hc : c ≤ 140737488351232) (hb' : Bs w a' n' l') (hn' : n' ≤ c') (hc' : c' ≤ 140737488351232) : Meets Try.prog 3 [.slice a n c, .slice a' n' c', v32 r] w (fun v w' => v = .bool true ∧ Ext [] w w') := by
  refine Meets.enter Try.func3 rfl 65 rfl (Nat.le_of_ble_eq_true rfl) ?_
  have E := Ext.refl [] w
  have hl := hb.len
  have hl' := hb'.len
  refine G.seq ?_
  refine G.region ?_
  refine L.val rfl rfl (R.as rfl) ?_
  refine L.nil ?_
  refine N.seq ?_
  refine G.seq ?_
  refine G.seq ?_
  refine G.region ?_
  refine L.callF rfl rfl rfl go11 (first_ok _) ?_
  rintro _ w1 ⟨rfl, e1⟩
  replace E := E.trans0 e1
  refine L.val rfl rfl (R.not rfl) ?_
  refine L.nil ?_
  refine N.seq ?_
  refine G.condF rfl ?_
  refine G.skip ?_
  refine N.seq ?_
  refine G.seq ?_
  refine G.seq ?_
  refine G.region ?_
  refine L.val rfl rfl (R.mv rfl) ?_
  refine L.val rfl rfl (R.lenS rfl) ?_
  refine L.val rfl rfl (R.mv rfl) ?_
  refine L.val rfl rfl (R.lenS rfl) ?_
  refine L.val rfl rfl (R.add rfl rfl (by omega)) ?_
  refine L.val rfl rfl (R.gtr rfl rfl) ?_
  refine L.nil ?_
  refine N.seq ?_
  refine G.condP rfl (fun h1 => ?_) (fun h1 => ?_)
  · refine G.seq ?_
    refine G.region ?_
    refine L.val rfl rfl (R.as rfl) ?_
    refine L.nil ?_
    refine N.seq ?_
    refine G.ret1 rfl rfl ?_
    exact ⟨rfl, E⟩
  · refine G.skip ?_
    refine N.seq ?_
    refine G.seq ?_
    refine G.writes [44, 46] [(44, 57), (46, 57), (46, 59), (44, 31), (46, 31)] (by decide +kernel) (by decide +kernel) rfl ?_
    refine W.val rfl rfl rfl rfl (fun w2 hE => R.mv rfl) ?_
    refine W.call (v32 (joinF 0 l)) rfl rfl rfl go12 (fun w2 hE => ⟨_, rfl, (sum_ok _ _ _ _ _ (hb.ext0 (E.trans0 hE)) (by omega)).mono (by rintro _ _ ⟨rfl, rfl⟩; exact ⟨rfl, Ext.refl _ _⟩)⟩) ?_
    refine W.val rfl rfl rfl rfl (fun w2 hE => R.mv rfl) ?_
    refine W.call (v32 (joinF 0 l)) rfl rfl rfl go13 (fun w2 hE => ⟨_, rfl, (refjoin_ok 0 _ _ _ _ _ (hb.ext0 (E.trans0 hE)) (by omega)).mono (by rintro _ _ ⟨rfl, rfl⟩; exact ⟨rfl, Ext.refl _ _⟩)⟩) ?_
    refine W.val rfl rfl rfl rfl (fun w2 hE => R.eqI rfl rfl) ?_
    refine W.val rfl rfl rfl rfl (fun w2 hE => R.mv rfl) ?_
    refine W.isT 20 rfl (by simp) ?_
    refine W.val rfl rfl rfl rfl (fun w2 hE => R.mv rfl) ?_
    refine W.val rfl rfl rfl rfl (fun w2 hE => R.mv rfl) ?_
    refine W.call (v32 (joinF r l')) rfl rfl rfl go14 (fun w2 hE => ⟨_, rfl, (join_ok _ _ _ _ _ _ (hb'.ext0 (E.trans0 hE)) (by omega)).mono (by rintro _ _ ⟨rfl, rfl⟩; exact ⟨rfl, Ext.refl _ _⟩)⟩) ?_
    refine W.val rfl rfl rfl rfl (fun w2 hE => R.mv rfl) ?_
    refine W.val rfl rfl rfl rfl (fun w2 hE => R.mv rfl) ?_
    refine W.call (v32 (joinF r l')) rfl rfl rfl go13 (fun w2 hE => ⟨_, rfl, (refjoin_ok _ _ _ _ _ _ (hb'.ext0 (E.trans0 hE)) (by omega)).mono (by rintro _ _ ⟨rfl, rfl⟩; exact ⟨rfl, Ext.refl _ _⟩)⟩) ?_
    refine W.val rfl rfl rfl rfl (fun w2 hE => R.eqI rfl rfl) ?_
    first | refine W.val rfl rfl rfl rfl (fun w2 hE => R.pickT rfl rfl) ?_ | refine W.val rfl rfl rfl rfl (fun w2 hE => R.pickF rfl rfl) ?_
    refine W.val rfl rfl rfl rfl (fun w2 hE => R.mv rfl) ?_
    refine W.isT 29 rfl (by simp) ?_
    refine W.val rfl rfl rfl rfl (fun w2 hE => R.mv rfl) ?_
    refine W.callR (A := IsBs n (markF l)) (IsBs.keep _ _) (by decide +kernel) rfl rfl go15 (fun w2 hE => ⟨_, rfl, (mark_ok _ _ _ _ _ (hb.ext0 (E.trans0 hE)) (by omega)).mono (fun _ _ h => ⟨h.is, h.ext⟩)⟩) ?_
    refine W.val rfl rfl rfl rfl (fun w2 hE => fun v hv => by obtain ⟨x, y, rfl, _, hv⟩ := hv; exact R.bytesStr rfl hv.cells hv.len) ?_
    refine W.val rfl rfl rfl rfl (fun w2 hE => R.mv rfl) ?_
    refine W.call (.string (str (markF l))) rfl rfl rfl go16 (fun w2 hE => ⟨_, rfl, (refmark_ok _ _ _ _ _ (hb.ext0 (E.trans0 hE)) hn (by omega)).mono (fun _ _ h => h)⟩) ?_
    refine W.val rfl rfl rfl rfl (fun w2 hE => R.eqStr rfl rfl) ?_
    first | refine W.val rfl rfl rfl rfl (fun w2 hE => R.pickT rfl rfl) ?_ | refine W.val rfl rfl rfl rfl (fun w2 hE => R.pickF rfl rfl) ?_
    refine W.val rfl rfl rfl rfl (fun w2 hE => R.mv rfl) ?_
    refine W.isT 37 rfl (by simp) ?_
    refine W.val rfl rfl rfl rfl (fun w2 hE => R.mv rfl) ?_
    refine W.call (Value.bool (goodF l')) rfl rfl rfl go17 (fun w2 hE => ⟨_, rfl, (good_ok _ _ _ _ _ (hb'.ext0 (E.trans0 hE)) (by omega)).mono (fun _ _ h => h)⟩) ?_
    refine W.val rfl rfl rfl rfl (fun w2 hE => R.mv rfl) ?_
    refine W.val rfl rfl rfl rfl (fun w2 hE => R.lenS rfl) ?_
    refine W.val rfl rfl rfl rfl (fun w2 hE => R.gtr rfl rfl) ?_
    refine W.val rfl rfl rfl rfl (fun w2 hE => R.mv rfl) ?_
    refine W.caseP 43 rfl (fun hg5_28 => ?_) (fun hg5_28 => ?_)
    · refine W.val rfl rfl rfl rfl (fun w2 hE => R.mv rfl) ?_
      refine W.call (Value.string (str (markF l'))) rfl rfl rfl go16 (fun w2 hE => ⟨_, rfl, (refmark_ok _ _ _ _ _ (hb'.ext0 (E.trans0 hE)) hn' (by omega)).mono (fun _ _ h => h)⟩) ?_
      refine W.val rfl rfl rfl rfl (fun w2 hE => R.mv rfl) ?_
      refine W.val rfl rfl rfl rfl (fun w2 hE => R.bytesStr rfl (hb'.ext0 (E.trans0 hE)).cells hb'.len) ?_
      refine W.val rfl rfl rfl rfl (fun w2 hE => R.eqStr rfl rfl) ?_
      first | refine W.val rfl rfl rfl rfl (fun w2 hE => R.pickT rfl rfl) ?_ | refine W.val rfl rfl rfl rfl (fun w2 hE => R.pickF rfl rfl) ?_
      refine W.val rfl rfl rfl rfl (fun w2 hE => R.eqB rfl rfl) ?_
      first | refine W.val rfl rfl rfl rfl (fun w2 hE => R.pickT rfl rfl) ?_ | refine W.val rfl rfl rfl rfl (fun w2 hE => R.pickF rfl rfl) ?_
      refine W.val rfl rfl rfl rfl (fun w2 hE => R.mv rfl) ?_
      refine W.isT 52 rfl (by unfold goodF; rw [decide_eq_true (by omega : 4 ≤ l'.length)]; simp) ?_
      refine W.val rfl rfl rfl rfl (fun w2 hE => R.mv rfl) ?_
      refine W.call (v32 (joinF 0 l)) rfl rfl rfl go12 (fun w2 hE => ⟨_, rfl, (sum_ok _ _ _ _ _ (hb.ext0 (E.trans0 hE)) (by omega)).mono (by rintro _ _ ⟨rfl, rfl⟩; exact ⟨rfl, Ext.refl _ _⟩)⟩) ?_
      refine W.val rfl rfl rfl rfl (fun w2 hE => R.mv rfl) ?_
      refine W.call (v32 (joinF (joinF 0 l) l')) rfl rfl rfl go14 (fun w2 hE => ⟨_, rfl, (join_ok _ _ _ _ _ _ (hb'.ext0 (E.trans0 hE)) (by omega)).mono (by rintro _ _ ⟨rfl, rfl⟩; exact ⟨rfl, Ext.refl _ _⟩)⟩) ?_
      refine W.new (A := Mine w1.heap.size 5 1 0 []) (Mine.keep _ _ _ _ _) (by decide +kernel) rfl rfl rfl (fun w2 hE => (R.buildS rfl (by decide) rfl).mono (fun _ _ h => Mine.none h (by simp) hE)) ?_
      refine W.val rfl rfl rfl rfl (fun w2 hE => R.mv rfl) ?_
      refine W.put (A := Mine w1.heap.size 5 1 n (vbs l)) (Mine.keep _ _ _ _ _) (by decide +kernel) rfl rfl rfl rfl (fun w2 hE => by rintro v ⟨x, y, M, rfl, o, hM⟩; exact (R.app rfl rfl o (hb.ext0 (E.trans0 hE)).cells (by rw [vbs_length, Nat.mul_one]; exact hb.len.symm) (vbs_one _) (by simp [maxLen]; omega) (by omega)).mono (fun _ _ h => Mine.app h hM hE (Nat.zero_add n) rfl)) ?_
      refine W.val rfl rfl rfl rfl (fun w2 hE => R.mv rfl) ?_
      refine W.put (A := Mine w1.heap.size 5 1 (n + n') (vbs (l ++ l'))) (Mine.keep _ _ _ _ _) (by decide +kernel) rfl rfl rfl rfl (fun w2 hE => by rintro v ⟨x, y, M, rfl, o, hM⟩; exact (R.app rfl rfl o (hb'.ext0 (E.trans0 hE)).cells (by rw [vbs_length, Nat.mul_one]; exact hb'.len.symm) (vbs_one _) (by simp [maxLen]; omega) (by omega)).mono (fun _ _ h => Mine.app h hM hE rfl (by simp [vbs]))) ?_
      refine W.call (v32 (joinF 0 (l ++ l'))) rfl rfl rfl go13 (fun w2 hE => fun v hv => by obtain ⟨x, y, rfl, _, hv⟩ := hv.bs; exact ⟨_, rfl, (refjoin_ok 0 _ _ _ _ _ hv (by omega)).mono (by rintro _ _ ⟨rfl, rfl⟩; exact ⟨rfl, Ext.refl _ _⟩)⟩) ?_
      refine W.val rfl rfl rfl rfl (fun w2 hE => R.eqI rfl rfl) ?_
      first | refine W.val rfl rfl rfl rfl (fun w2 hE => R.pickT rfl rfl) ?_ | refine W.val rfl rfl rfl rfl (fun w2 hE => R.pickF rfl rfl) ?_
      refine W.val rfl rfl rfl rfl (fun w2 hE => R.as rfl) ?_
      refine W.nil rfl (fun w3 e3 => ?_)
      intro v61 _
      replace E := E.trans0 e3
      refine N.seq ?_
      refine G.ret1 rfl rfl ?_
      exact ⟨congrArg Value.bool (by rw [joinF_append]; simp), E⟩
    · refine W.pass rfl rfl rfl ?_
      refine W.pass rfl rfl rfl ?_
      refine W.pass rfl rfl rfl ?_
      refine W.pass rfl rfl rfl ?_
      refine W.pass rfl rfl rfl ?_
      first | refine W.val rfl rfl rfl rfl (fun w2 hE => R.pickT rfl rfl) ?_ | refine W.val rfl rfl rfl rfl (fun w2 hE => R.pickF rfl rfl) ?_
      refine W.val rfl rfl rfl rfl (fun w2 hE => R.eqB rfl rfl) ?_
      first | refine W.val rfl rfl rfl rfl (fun w2 hE => R.pickT rfl rfl) ?_ | refine W.val rfl rfl rfl rfl (fun w2 hE => R.pickF rfl rfl) ?_
      refine W.val rfl rfl rfl rfl (fun w2 hE => R.mv rfl) ?_
      refine W.isT 52 rfl (by unfold goodF; rw [decide_eq_false (by omega : ¬ 4 ≤ l'.length)]; rfl) ?_
      refine W.val rfl rfl rfl rfl (fun w2 hE => R.mv rfl) ?_
      refine W.call (v32 (joinF 0 l)) rfl rfl rfl go12 (fun w2 hE => ⟨_, rfl, (sum_ok _ _ _ _ _ (hb.ext0 (E.trans0 hE)) (by omega)).mono (by rintro _ _ ⟨rfl, rfl⟩; exact ⟨rfl, Ext.refl _ _⟩)⟩) ?_
      refine W.val rfl rfl rfl rfl (fun w2 hE => R.mv rfl) ?_
      refine W.call (v32 (joinF (joinF 0 l) l')) rfl rfl rfl go14 (fun w2 hE => ⟨_, rfl, (join_ok _ _ _ _ _ _ (hb'.ext0 (E.trans0 hE)) (by omega)).mono (by rintro _ _ ⟨rfl, rfl⟩; exact ⟨rfl, Ext.refl _ _⟩)⟩) ?_
      refine W.new (A := Mine w1.heap.size 5 1 0 []) (Mine.keep _ _ _ _ _) (by decide +kernel) rfl rfl rfl (fun w2 hE => (R.buildS rfl (by decide) rfl).mono (fun _ _ h => Mine.none h (by simp) hE)) ?_
      refine W.val rfl rfl rfl rfl (fun w2 hE => R.mv rfl) ?_
      refine W.put (A := Mine w1.heap.size 5 1 n (vbs l)) (Mine.keep _ _ _ _ _) (by decide +kernel) rfl rfl rfl rfl (fun w2 hE => by rintro v ⟨x, y, M, rfl, o, hM⟩; exact (R.app rfl rfl o (hb.ext0 (E.trans0 hE)).cells (by rw [vbs_length, Nat.mul_one]; exact hb.len.symm) (vbs_one _) (by simp [maxLen]; omega) (by omega)).mono (fun _ _ h => Mine.app h hM hE (Nat.zero_add n) rfl)) ?_
      refine W.val rfl rfl rfl rfl (fun w2 hE => R.mv rfl) ?_
      refine W.put (A := Mine w1.heap.size 5 1 (n + n') (vbs (l ++ l'))) (Mine.keep _ _ _ _ _) (by decide +kernel) rfl rfl rfl rfl (fun w2 hE => by rintro v ⟨x, y, M, rfl, o, hM⟩; exact (R.app rfl rfl o (hb'.ext0 (E.trans0 hE)).cells (by rw [vbs_length, Nat.mul_one]; exact hb'.len.symm) (vbs_one _) (by simp [maxLen]; omega) (by omega)).mono (fun _ _ h => Mine.app h hM hE rfl (by simp [vbs]))) ?_
      refine W.call (v32 (joinF 0 (l ++ l'))) rfl rfl rfl go13 (fun w2 hE => fun v hv => by obtain ⟨x, y, rfl, _, hv⟩ := hv.bs; exact ⟨_, rfl, (refjoin_ok 0 _ _ _ _ _ hv (by omega)).mono (by rintro _ _ ⟨rfl, rfl⟩; exact ⟨rfl, Ext.refl _ _⟩)⟩) ?_
      refine W.val rfl rfl rfl rfl (fun w2 hE => R.eqI rfl rfl) ?_
      first | refine W.val rfl rfl rfl rfl (fun w2 hE => R.pickT rfl rfl) ?_ | refine W.val rfl rfl rfl rfl (fun w2 hE => R.pickF rfl rfl) ?_
      refine W.val rfl rfl rfl rfl (fun w2 hE => R.as rfl) ?_
      refine W.nil rfl (fun w3 e3 => ?_)
      intro v61 _
      replace E := E.trans0 e3
      refine N.seq ?_
      refine G.ret1 rfl rfl ?_
      exact ⟨congrArg Value.bool (by rw [joinF_append]; simp), E⟩

end Go.Proofs.Ytfbkbobphjncfaa
