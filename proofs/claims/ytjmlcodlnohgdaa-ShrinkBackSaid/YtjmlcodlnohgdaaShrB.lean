/-
  The walks of the laws on shrink.
-/
import Derived.Test.YtjmlcodlnohgdaaShrF
set_option linter.unusedVariables false
set_option linter.unusedSimpArgs false
namespace Go.Proofs.Ytjmlcodlnohgdaa
open Go Brv Brv.Crc Brv.Shrink
theorem shrBack_ok (a0 a1 : Option Addr) (n0 c0 n1 c1 : Nat) (l0 l1 : List UInt8) (w : World) (q0 : Bs w a0 n0 l0) (hc0 : n0 ≤ c0) (q1 : Bs w a1 n1 l1) (hc1 : n1 ≤ c1) : Meets Try.prog 12 [.slice a0 n0 c0, .slice a1 n1 c1] w (fun v w' => v = .bool true ∧ Ext [] w w') := by
  refine Meets.enter Try.func12 rfl 77 rfl (Nat.le_of_ble_eq_true rfl) ?_
  have E := Ext.refl [] w
  have hl0 := q0.len
  have hl1 := q1.len
  have hw1 := shrink_worst l1.length l1 (Nat.le_refl _)
  have hw2 := shrink_worst (laidF l0 l1).length (laidF l0 l1) (Nat.le_refl _)
  rw [laidF_length] at hw2
  unfold worstF at hw1 hw2
  refine G.seq ?_
  refine G.region ?_
  refine L.val rfl rfl (R.as rfl) ?_
  refine L.nil ?_
  refine N.seq ?_
  refine G.seq ?_
  refine G.seq ?_
  refine G.region ?_
  refine L.callF rfl rfl rfl go51 (shr_first_ok _) ?_
  rintro _ w1 ⟨rfl, e1⟩
  replace q0 := q0.ext0 e1
  replace q1 := q1.ext0 e1
  replace E := E.trans0 e1
  refine L.val rfl rfl (R.not rfl) ?_
  refine L.nil ?_
  refine N.seq ?_
  refine G.condF rfl ?_
  refine G.skip ?_
  refine N.seq ?_
  refine G.seq ?_
  refine G.seq ?_
  refine G.region ?_
  refine L.val rfl rfl (R.mv rfl) ?_
  refine L.val rfl rfl (R.lenS rfl) ?_
  refine L.val rfl rfl (R.gtr rfl rfl) ?_
  refine L.val rfl rfl (R.mv rfl) ?_
  refine L.caseP 16 rfl (fun hg3_3 => ?_) (fun hg3_3 => ?_)
  · refine L.pass rfl rfl ?_
    refine L.pass rfl rfl ?_
    refine L.pass rfl rfl ?_
    first | refine L.val rfl rfl (R.pickT rfl rfl) ?_ | refine L.val rfl rfl (R.pickF rfl rfl) ?_
    refine L.nil ?_
    refine N.seq ?_
    refine G.condT rfl ?_
    refine G.seq ?_
    refine G.region ?_
    refine L.val rfl rfl (R.as rfl) ?_
    refine L.nil ?_
    refine N.seq ?_
    refine G.ret1 rfl rfl ?_
    first | exact ⟨rfl, E⟩ | exact ⟨congrArg Value.bool (decide_eq_true (by split <;> omega)), E⟩
  · refine L.val rfl rfl (R.mv rfl) ?_
    refine L.val rfl rfl (R.lenS rfl) ?_
    refine L.val rfl rfl (R.gtr rfl rfl) ?_
    first | refine L.val rfl rfl (R.pickT rfl rfl) ?_ | refine L.val rfl rfl (R.pickF rfl rfl) ?_
    refine L.nil ?_
    refine N.seq ?_
    refine G.condP rfl (fun h1 => ?_) (fun h1 => ?_)
    · refine G.seq ?_
      refine G.region ?_
      refine L.val rfl rfl (R.as rfl) ?_
      refine L.nil ?_
      refine N.seq ?_
      refine G.ret1 rfl rfl ?_
      first | exact ⟨rfl, E⟩ | exact ⟨congrArg Value.bool (decide_eq_true (by split <;> omega)), E⟩
    · refine G.skip ?_
      refine N.seq ?_
      refine G.seq ?_
      refine G.region ?_
      refine L.val rfl rfl (R.mv rfl) ?_
      refine L.callF rfl rfl rfl go54 (shrink_ok _ _ _ _ _ q1 hc1 (by omega)) ?_
      rintro _ w2 ⟨a2, c2, M2, rfl, e2, o2, _⟩
      replace q0 := q0.ext0 e2
      replace q1 := q1.ext0 e2
      replace E := E.trans0 e2
      have hc2 := o2.le
      have g2 := Bs.of_own o2
      refine L.val rfl rfl (R.mv rfl) ?_
      refine L.val rfl rfl (R.mv rfl) ?_
      refine L.callF rfl rfl rfl go57 (delta_ok _ _ _ _ _ _ _ _ _ q0 q1 (by omega) hc1 (by omega)) ?_
      rintro _ w3 ⟨a3, c3, M3, rfl, e3, o3, _⟩
      replace q0 := q0.ext0 e3
      replace q1 := q1.ext0 e3
      replace g2 := g2.ext0 e3
      replace E := E.trans0 e3
      have hc3 := o3.le
      have g3 := Bs.of_own o3
      refine L.val rfl rfl (R.as rfl) ?_
      refine L.val rfl rfl (R.as rfl) ?_
      refine L.nil ?_
      refine N.seq ?_
      refine G.seq ?_
      refine G.region ?_
      refine L.val rfl rfl (R.mv rfl) ?_
      refine L.val rfl rfl (R.mv rfl) ?_
      refine L.val rfl rfl (R.lenS rfl) ?_
      refine L.callF rfl rfl rfl go52 (grow_ok _ _ _ _ (n1 : Int) _ g2 hc2 (by omega)) ?_
      rintro _ w4 h4
      rw [growF_shrinkF l1 n1 (by omega)] at h4
      obtain ⟨a4, c4, M4, rfl, e4, o4, _⟩ := h4
      replace q0 := q0.ext0 e4
      replace q1 := q1.ext0 e4
      replace g2 := g2.ext0 e4
      replace g3 := g3.ext0 e4
      replace E := E.trans0 e4
      have g4 := Bs.of_own o4
      refine L.val rfl rfl (R.mv rfl) ?_
      refine L.val rfl rfl (R.ext rfl rfl) ?_
      refine L.val rfl rfl (R.ext rfl rfl) ?_
      refine L.val rfl rfl (R.as rfl) ?_
      refine L.val rfl rfl (R.as rfl) ?_
      refine L.nil ?_
      refine N.seq ?_
      refine G.seq ?_
      refine G.region ?_
      have hgs := growF_shrinkF (laidF l0 l1) n1 (by rw [laidF_length]; omega)
      have hun : undoF (n1 : Int) l0 (shrinkF (laidF l0 l1)) = l1 := by unfold undoF; rw [hgs]; exact laidF_back l0 l1
      refine L.val rfl rfl (R.mv rfl) ?_
      refine L.val rfl rfl (R.mv rfl) ?_
      refine L.val rfl rfl (R.mv rfl) ?_
      refine L.val rfl rfl (R.lenS rfl) ?_
      refine L.callF rfl rfl rfl go56 (undo_ok _ _ _ _ _ _ _ _ (n1 : Int) _ q0 g3 (by omega) hc3 (by omega) (by rw [hgs]; show (laidF l0 l1).length ≤ _; rw [laidF_length]; omega)) ?_
      rintro _ w5 h5
      rw [hun, hgs] at h5
      obtain ⟨a5, c5, rfl, e5, g5, _⟩ := h5
      replace q0 := q0.ext0 e5
      replace q1 := q1.ext0 e5
      replace g2 := g2.ext0 e5
      replace g3 := g3.ext0 e5
      replace g4 := g4.ext0 e5
      replace E := E.trans0 e5
      refine L.val rfl rfl (R.mv rfl) ?_
      refine L.val rfl rfl (R.ext rfl rfl) ?_
      refine L.val rfl rfl (R.ext rfl rfl) ?_
      refine L.val rfl rfl (R.as rfl) ?_
      refine L.val rfl rfl (R.as rfl) ?_
      refine L.nil ?_
      refine N.seq ?_
      refine G.seq ?_
      refine G.region ?_
      refine L.val rfl rfl (R.mv rfl) ?_
      refine L.val rfl rfl (R.eqI rfl rfl) ?_
      refine L.val rfl rfl (R.mv rfl) ?_
      refine L.isT 43 rfl (by simp) ?_
      refine L.val rfl rfl (R.mv rfl) ?_
      refine L.val rfl rfl (R.eqI rfl rfl) ?_
      first | refine L.val rfl rfl (R.pickT rfl rfl) ?_ | refine L.val rfl rfl (R.pickF rfl rfl) ?_
      refine L.val rfl rfl (R.mv rfl) ?_
      refine L.isT 47 rfl (by simp) ?_
      refine L.val rfl rfl (R.mv rfl) ?_
      refine L.val rfl rfl (R.bytesStr rfl g4.cells g4.len) ?_
      refine L.val rfl rfl (R.mv rfl) ?_
      refine L.val rfl rfl (R.bytesStr rfl q1.cells q1.len) ?_
      refine L.val rfl rfl (R.eqStr rfl rfl) ?_
      first | refine L.val rfl rfl (R.pickT rfl rfl) ?_ | refine L.val rfl rfl (R.pickF rfl rfl) ?_
      refine L.val rfl rfl (R.mv rfl) ?_
      refine L.isT 54 rfl (by simp) ?_
      refine L.val rfl rfl (R.mv rfl) ?_
      refine L.val rfl rfl (R.bytesStr rfl g5.cells g5.len) ?_
      refine L.val rfl rfl (R.mv rfl) ?_
      refine L.val rfl rfl (R.bytesStr rfl q1.cells q1.len) ?_
      refine L.val rfl rfl (R.eqStr rfl rfl) ?_
      first | refine L.val rfl rfl (R.pickT rfl rfl) ?_ | refine L.val rfl rfl (R.pickF rfl rfl) ?_
      refine L.val rfl rfl (R.mv rfl) ?_
      refine L.isT 61 rfl (by simp) ?_
      refine L.val rfl rfl (R.mv rfl) ?_
      refine L.val rfl rfl (R.lenS rfl) ?_
      refine L.val rfl rfl (R.mv rfl) ?_
      refine L.val rfl rfl (R.lenS rfl) ?_
      refine L.callF rfl rfl rfl go59 (worst_ok (n1 : Int) _ (by omega)) ?_
      rintro _ _ ⟨rfl, hw⟩
      obtain rfl := hw.symm
      refine L.val rfl rfl (R.leq rfl rfl) ?_
      first | refine L.val rfl rfl (R.pickT rfl rfl) ?_ | refine L.val rfl rfl (R.pickF rfl rfl) ?_
      refine L.val rfl rfl (R.mv rfl) ?_
      refine L.isT 69 rfl (decide_eq_true (by split <;> omega)) ?_
      refine L.val rfl rfl (R.mv rfl) ?_
      refine L.val rfl rfl (R.lenS rfl) ?_
      refine L.val rfl rfl (R.mv rfl) ?_
      refine L.val rfl rfl (R.lenS rfl) ?_
      refine L.callF rfl rfl rfl go59 (worst_ok (n1 : Int) _ (by omega)) ?_
      rintro _ _ ⟨rfl, hw⟩
      obtain rfl := hw.symm
      refine L.val rfl rfl (R.leq rfl rfl) ?_
      first | refine L.val rfl rfl (R.pickT rfl rfl) ?_ | refine L.val rfl rfl (R.pickF rfl rfl) ?_
      refine L.val rfl rfl (R.as rfl) ?_
      refine L.nil ?_
      refine N.seq ?_
      refine G.ret1 rfl rfl ?_
      first | exact ⟨rfl, E⟩ | exact ⟨congrArg Value.bool (decide_eq_true (by split <;> omega)), E⟩

end Go.Proofs.Ytjmlcodlnohgdaa
