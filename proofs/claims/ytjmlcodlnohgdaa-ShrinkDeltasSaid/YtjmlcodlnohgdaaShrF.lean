/-
  The walks of the laws on shrink.
-/
import Derived.Test.YtjmlcodlnohgdaaShr3
set_option linter.unusedVariables false
set_option linter.unusedSimpArgs false
namespace Go.Proofs.Ytjmlcodlnohgdaa
open Go Brv Brv.Crc Brv.Shrink
theorem shr_first_ok  (w : World) : Meets Try.prog 51 [] w (fun v w' => v = .bool true ∧ Ext [] w w') := by
  refine Meets.enter Try.func51 rfl 79 rfl (Nat.le_of_ble_eq_true rfl) ?_
  have E := Ext.refl [] w
  refine G.seq ?_
  refine G.region ?_
  refine L.val rfl rfl (R.as rfl) ?_
  refine L.nil ?_
  refine N.seq ?_
  refine G.seq ?_
  refine G.region ?_
  refine L.do rfl rfl (R.buildA rfl rfl rfl rfl rfl) ?_
  rintro _ w1 ⟨b11, rfl, hb11, hs11, e1, B11⟩
  have E0 := E
  refine L.do rfl rfl (R.bytesBytes rfl B11) ?_
  rintro _ w2 ⟨fz11, rfl, e2, hs2, B11⟩
  have e2 := e1.trans (M := []) e2 (by simp) (by simp; omega)
  replace E := E.trans0 e2
  replace E := E0.trans0 e2
  have L11 := Bs.of_blk B11 [97, 97, 97, 97, 97, 98] rfl _ rfl
  refine L.callF rfl rfl rfl go54 (shrink_ok _ _ _ _ _ L11 (Nat.le_refl _) (by decide)) ?_
  rintro _ w3 h3
  rw [show shrinkF [97, 97, 97, 97, 97, 98] = [130, 97, 0, 98] by decide +kernel] at h3
  obtain ⟨a1, c1, M1, rfl, e3, o1, _⟩ := h3
  replace L11 := L11.ext0 e3
  replace E := E.trans0 e3
  have hcs := o1.le
  have g1 := Bs.of_own o1
  refine L.val rfl rfl (R.as rfl) ?_
  refine L.nil ?_
  refine N.seq ?_
  refine G.seq ?_
  refine G.region ?_
  refine L.val rfl rfl (R.mv rfl) ?_
  refine L.callF rfl rfl rfl go52 (grow_ok _ _ _ _ 6 _ g1 hcs (by decide)) ?_
  rintro _ w4 h4
  rw [show growF 6 [130, 97, 0, 98] = ([97, 97, 97, 97, 97, 98], 0) by decide +kernel] at h4
  obtain ⟨a2, c2, M2, rfl, e4, o2, _⟩ := h4
  replace L11 := L11.ext0 e4
  replace g1 := g1.ext0 e4
  replace E := E.trans0 e4
  have g2 := Bs.of_own o2
  refine L.val rfl rfl (R.mv rfl) ?_
  refine L.val rfl rfl (R.ext rfl rfl) ?_
  refine L.val rfl rfl (R.ext rfl rfl) ?_
  refine L.val rfl rfl (R.as rfl) ?_
  refine L.val rfl rfl (R.as rfl) ?_
  refine L.nil ?_
  refine N.seq ?_
  refine G.seq ?_
  refine G.region ?_
  refine L.val rfl rfl (R.mv rfl) ?_
  refine L.callF rfl rfl rfl go52 (grow_ok _ _ _ _ 5 _ g1 hcs (by decide)) ?_
  rintro _ w5 h5
  rw [show growF 5 [130, 97, 0, 98] = ([], 31) by decide +kernel] at h5
  obtain ⟨a3, c3, M3, rfl, e5, o3, _⟩ := h5
  replace L11 := L11.ext0 e5
  replace g1 := g1.ext0 e5
  replace g2 := g2.ext0 e5
  replace E := E.trans0 e5
  have g3 := Bs.of_own o3
  refine L.val rfl rfl (R.mv rfl) ?_
  refine L.val rfl rfl (R.ext rfl rfl) ?_
  refine L.val rfl rfl (R.ext rfl rfl) ?_
  refine L.val rfl rfl (R.as rfl) ?_
  refine L.val rfl rfl (R.as rfl) ?_
  refine L.nil ?_
  refine N.seq ?_
  refine G.seq ?_
  refine G.region ?_
  refine L.do rfl rfl (R.buildA rfl rfl rfl rfl rfl) ?_
  rintro _ w6 ⟨b25, rfl, hb25, hs25, e6, B25⟩
  replace L11 := L11.ext0 e6
  replace g1 := g1.ext0 e6
  replace g2 := g2.ext0 e6
  replace g3 := g3.ext0 e6
  replace E := E.trans0 e6
  have L25 := Bs.of_blk B25 [5] rfl _ rfl
  refine L.callF rfl rfl rfl go52 (grow_ok _ _ _ _ 9 _ L25 (Nat.le_refl _) (by decide)) ?_
  rintro _ w7 h7
  rw [show growF 9 [5] = ([], 20) by decide +kernel] at h7
  obtain ⟨a4, c4, M4, rfl, e7, o4, _⟩ := h7
  replace L11 := L11.ext0 e7
  replace g1 := g1.ext0 e7
  replace g2 := g2.ext0 e7
  replace g3 := g3.ext0 e7
  replace E := E.trans0 e7
  have g4 := Bs.of_own o4
  refine L.val rfl rfl (R.mv rfl) ?_
  refine L.val rfl rfl (R.ext rfl rfl) ?_
  refine L.val rfl rfl (R.ext rfl rfl) ?_
  refine L.val rfl rfl (R.as rfl) ?_
  refine L.val rfl rfl (R.as rfl) ?_
  refine L.nil ?_
  refine N.seq ?_
  refine G.seq ?_
  refine G.region ?_
  refine L.do rfl rfl (R.buildA rfl rfl rfl rfl rfl) ?_
  rintro _ w8 ⟨b29, rfl, hb29, hs29, e8, B29⟩
  have E0 := E
  refine L.do rfl rfl (R.bytesBytes rfl B29) ?_
  rintro _ w9 ⟨fz29, rfl, e9, hs9, B29⟩
  have e9 := e8.trans (M := []) e9 (by simp) (by simp; omega)
  replace L11 := L11.ext0 e9
  replace g1 := g1.ext0 e9
  replace g2 := g2.ext0 e9
  replace g3 := g3.ext0 e9
  replace g4 := g4.ext0 e9
  replace E := E.trans0 e9
  replace E := E0.trans0 e9
  have L29 := Bs.of_blk B29 [97, 98, 99] rfl _ rfl
  refine L.do rfl rfl (R.buildA rfl rfl rfl rfl rfl) ?_
  rintro _ w10 ⟨b31, rfl, hb31, hs31, e10, B31⟩
  have E0 := E
  refine L.do rfl rfl (R.bytesBytes rfl B31) ?_
  rintro _ w11 ⟨fz31, rfl, e11, hs11, B31⟩
  have e11 := e10.trans (M := []) e11 (by simp) (by simp; omega)
  replace L11 := L11.ext0 e11
  replace g1 := g1.ext0 e11
  replace g2 := g2.ext0 e11
  replace g3 := g3.ext0 e11
  replace g4 := g4.ext0 e11
  replace L29 := L29.ext0 e11
  replace E := E.trans0 e11
  replace E := E0.trans0 e11
  have L31 := Bs.of_blk B31 [97, 98, 99] rfl _ rfl
  refine L.callF rfl rfl rfl go57 (delta_ok _ _ _ _ _ _ _ _ _ L29 L31 (by decide) (Nat.le_refl _) (by decide)) ?_
  rintro _ w12 h12
  rw [show shrinkF (laidF [97, 98, 99] [97, 98, 99]) = [128, 0] by decide +kernel] at h12
  obtain ⟨a5, c5, M5, rfl, e12, o5, _⟩ := h12
  replace L11 := L11.ext0 e12
  replace g1 := g1.ext0 e12
  replace g2 := g2.ext0 e12
  replace g3 := g3.ext0 e12
  replace g4 := g4.ext0 e12
  replace L29 := L29.ext0 e12
  replace L31 := L31.ext0 e12
  replace E := E.trans0 e12
  have hcd := o5.le
  have g5 := Bs.of_own o5
  refine L.val rfl rfl (R.as rfl) ?_
  refine L.nil ?_
  refine N.seq ?_
  refine G.seq ?_
  refine G.region ?_
  refine L.do rfl rfl (R.buildA rfl rfl rfl rfl rfl) ?_
  rintro _ w13 ⟨b35, rfl, hb35, hs35, e13, B35⟩
  have E0 := E
  refine L.do rfl rfl (R.bytesBytes rfl B35) ?_
  rintro _ w14 ⟨fz35, rfl, e14, hs14, B35⟩
  have e14 := e13.trans (M := []) e14 (by simp) (by simp; omega)
  replace L11 := L11.ext0 e14
  replace g1 := g1.ext0 e14
  replace g2 := g2.ext0 e14
  replace g3 := g3.ext0 e14
  replace g4 := g4.ext0 e14
  replace L29 := L29.ext0 e14
  replace L31 := L31.ext0 e14
  replace g5 := g5.ext0 e14
  replace E := E.trans0 e14
  replace E := E0.trans0 e14
  have L35 := Bs.of_blk B35 [97, 98, 99] rfl _ rfl
  refine L.val rfl rfl (R.mv rfl) ?_
  refine L.callF rfl rfl rfl go56 (undo_ok _ _ _ _ _ _ _ _ 9 _ L35 g5 (by decide) hcd (by decide) (by decide +kernel)) ?_
  rintro _ w15 h15
  rw [show undoF 9 [97, 98, 99] [128, 0] = [97, 98, 99] by decide +kernel, show growF 9 [128, 0] = ([0, 0, 0], 0) by decide +kernel] at h15
  obtain ⟨a6, c6, rfl, e15, g6, _⟩ := h15
  replace L11 := L11.ext0 e15
  replace g1 := g1.ext0 e15
  replace g2 := g2.ext0 e15
  replace g3 := g3.ext0 e15
  replace g4 := g4.ext0 e15
  replace L29 := L29.ext0 e15
  replace L31 := L31.ext0 e15
  replace g5 := g5.ext0 e15
  replace L35 := L35.ext0 e15
  replace E := E.trans0 e15
  refine L.val rfl rfl (R.mv rfl) ?_
  refine L.val rfl rfl (R.ext rfl rfl) ?_
  refine L.val rfl rfl (R.ext rfl rfl) ?_
  refine L.val rfl rfl (R.as rfl) ?_
  refine L.val rfl rfl (R.as rfl) ?_
  refine L.nil ?_
  refine N.seq ?_
  refine G.seq ?_
  refine G.region ?_
  refine L.val rfl rfl (R.mv rfl) ?_
  refine L.val rfl rfl (R.bytesStr rfl g1.cells g1.len) ?_
  refine L.val rfl rfl (R.eqStr (b := [130, 97, 0, 98]) rfl rfl) ?_
  refine L.val rfl rfl (R.mv rfl) ?_
  refine L.isT 44 rfl (by decide +kernel) ?_
  refine L.val rfl rfl (R.mv rfl) ?_
  refine L.val rfl rfl (R.bytesStr rfl g2.cells g2.len) ?_
  refine L.val rfl rfl (R.eqStr (b := [97, 97, 97, 97, 97, 98]) rfl rfl) ?_
  first | refine L.val rfl rfl (R.pickT rfl rfl) ?_ | refine L.val rfl rfl (R.pickF rfl rfl) ?_
  refine L.val rfl rfl (R.mv rfl) ?_
  refine L.isT 49 rfl (by decide +kernel) ?_
  refine L.val rfl rfl (R.mv rfl) ?_
  refine L.val rfl rfl (R.eqI rfl rfl) ?_
  first | refine L.val rfl rfl (R.pickT rfl rfl) ?_ | refine L.val rfl rfl (R.pickF rfl rfl) ?_
  refine L.val rfl rfl (R.mv rfl) ?_
  refine L.isT 53 rfl (by decide +kernel) ?_
  refine L.val rfl rfl (R.mv rfl) ?_
  refine L.val rfl rfl (R.eqI rfl rfl) ?_
  first | refine L.val rfl rfl (R.pickT rfl rfl) ?_ | refine L.val rfl rfl (R.pickF rfl rfl) ?_
  refine L.val rfl rfl (R.mv rfl) ?_
  refine L.isT 57 rfl (by decide +kernel) ?_
  refine L.val rfl rfl (R.mv rfl) ?_
  refine L.val rfl rfl (R.eqI rfl rfl) ?_
  first | refine L.val rfl rfl (R.pickT rfl rfl) ?_ | refine L.val rfl rfl (R.pickF rfl rfl) ?_
  refine L.val rfl rfl (R.mv rfl) ?_
  refine L.isT 61 rfl (by decide +kernel) ?_
  refine L.val rfl rfl (R.mv rfl) ?_
  refine L.val rfl rfl (R.bytesStr rfl g5.cells g5.len) ?_
  refine L.val rfl rfl (R.eqStr (b := [128, 0]) rfl rfl) ?_
  first | refine L.val rfl rfl (R.pickT rfl rfl) ?_ | refine L.val rfl rfl (R.pickF rfl rfl) ?_
  refine L.val rfl rfl (R.mv rfl) ?_
  refine L.isT 66 rfl (by decide +kernel) ?_
  refine L.val rfl rfl (R.mv rfl) ?_
  refine L.val rfl rfl (R.bytesStr rfl g6.cells g6.len) ?_
  refine L.val rfl rfl (R.eqStr (b := [97, 98, 99]) rfl rfl) ?_
  first | refine L.val rfl rfl (R.pickT rfl rfl) ?_ | refine L.val rfl rfl (R.pickF rfl rfl) ?_
  refine L.val rfl rfl (R.mv rfl) ?_
  refine L.isT 71 rfl (by decide +kernel) ?_
  refine L.val rfl rfl (R.mv rfl) ?_
  refine L.val rfl rfl (R.eqI rfl rfl) ?_
  first | refine L.val rfl rfl (R.pickT rfl rfl) ?_ | refine L.val rfl rfl (R.pickF rfl rfl) ?_
  refine L.val rfl rfl (R.mv rfl) ?_
  refine L.isT 75 rfl (by decide +kernel) ?_
  refine L.callF rfl rfl rfl go59 (worst_ok 129 _ (by decide)) ?_
  rintro _ _ ⟨rfl, hw⟩
  obtain rfl := hw.symm
  refine L.val rfl rfl (R.eqI rfl rfl) ?_
  first | refine L.val rfl rfl (R.pickT rfl rfl) ?_ | refine L.val rfl rfl (R.pickF rfl rfl) ?_
  refine L.val rfl rfl (R.as rfl) ?_
  refine L.nil ?_
  refine N.seq ?_
  refine G.ret1 rfl rfl ?_
  exact ⟨congrArg Value.bool (by decide +kernel), E⟩

end Go.Proofs.Ytjmlcodlnohgdaa
