/-
  The walks of the laws on shrink.
-/
import Derived.Test.YtjmlcodlnohgdaaShrF
set_option linter.unusedVariables false
set_option linter.unusedSimpArgs false
namespace Go.Proofs.Ytjmlcodlnohgdaa
open Go Brv Brv.Crc Brv.Shrink
theorem shrTells_ok (a0 a1 : Option Addr) (n0 c0 n1 c1 : Nat) (l0 l1 : List UInt8) (x : Int) (w : World) (q0 : Bs w a0 n0 l0) (hc0 : n0 ≤ c0) (q1 : Bs w a1 n1 l1) (hc1 : n1 ≤ c1) : Meets Try.prog 10 [.slice a0 n0 c0, .slice a1 n1 c1, .int .i64 x] w (fun v w' => v = .bool true ∧ Ext [] w w') := by
  refine Meets.enter Try.func10 rfl 50 rfl (Nat.le_of_ble_eq_true rfl) ?_
  have E := Ext.refl [] w
  have hl0 := q0.len
  have hl1 := q1.len
  refine G.seq ?_
  refine G.region ?_
  refine L.val rfl rfl (R.as rfl) ?_
  refine L.nil ?_
  refine N.seq ?_
  refine G.seq ?_
  refine G.seq ?_
  refine G.region ?_
  refine L.callF rfl rfl rfl go51 (shr_first_ok _) ?_
  rintro _ w1 ⟨rfl, e1⟩
  replace q0 := q0.ext0 e1
  replace q1 := q1.ext0 e1
  replace E := E.trans0 e1
  refine L.val rfl rfl (R.not rfl) ?_
  refine L.nil ?_
  refine N.seq ?_
  refine G.condF rfl ?_
  refine G.skip ?_
  refine N.seq ?_
  refine G.seq ?_
  refine G.seq ?_
  refine G.region ?_
  refine L.val rfl rfl (R.mv rfl) ?_
  refine L.val rfl rfl (R.lenS rfl) ?_
  refine L.val rfl rfl (R.gtr rfl rfl) ?_
  refine L.val rfl rfl (R.mv rfl) ?_
  refine L.caseP 16 rfl (fun hg3_3 => ?_) (fun hg3_3 => ?_)
  · refine L.pass rfl rfl ?_
    refine L.pass rfl rfl ?_
    refine L.pass rfl rfl ?_
    first | refine L.val rfl rfl (R.pickT rfl rfl) ?_ | refine L.val rfl rfl (R.pickF rfl rfl) ?_
    refine L.nil ?_
    refine N.seq ?_
    refine G.condT rfl ?_
    refine G.seq ?_
    refine G.region ?_
    refine L.val rfl rfl (R.as rfl) ?_
    refine L.nil ?_
    refine N.seq ?_
    refine G.ret1 rfl rfl ?_
    first | exact ⟨rfl, E⟩ | exact ⟨congrArg Value.bool (by simp), E⟩
  · refine L.val rfl rfl (R.mv rfl) ?_
    refine L.val rfl rfl (R.lenS rfl) ?_
    refine L.val rfl rfl (R.gtr rfl rfl) ?_
    first | refine L.val rfl rfl (R.pickT rfl rfl) ?_ | refine L.val rfl rfl (R.pickF rfl rfl) ?_
    refine L.nil ?_
    refine N.seq ?_
    refine G.condP rfl (fun h1 => ?_) (fun h1 => ?_)
    · refine G.seq ?_
      refine G.region ?_
      refine L.val rfl rfl (R.as rfl) ?_
      refine L.nil ?_
      refine N.seq ?_
      refine G.ret1 rfl rfl ?_
      first | exact ⟨rfl, E⟩ | exact ⟨congrArg Value.bool (by simp), E⟩
    · refine G.skip ?_
      refine N.seq ?_
      refine G.seq ?_
      refine G.region ?_
      refine L.val rfl rfl (R.mv rfl) ?_
      refine L.val rfl rfl (R.mv rfl) ?_
      refine L.callF rfl rfl rfl go52 (grow_ok _ _ _ _ x _ q1 hc1 (by omega)) ?_
      rintro _ w2 ⟨a2, c2, M2, rfl, e2, o2, _⟩
      replace q0 := q0.ext0 e2
      replace q1 := q1.ext0 e2
      replace E := E.trans0 e2
      have g2 := Bs.of_own o2
      refine L.val rfl rfl (R.mv rfl) ?_
      refine L.val rfl rfl (R.ext rfl rfl) ?_
      refine L.val rfl rfl (R.ext rfl rfl) ?_
      refine L.val rfl rfl (R.as rfl) ?_
      refine L.val rfl rfl (R.as rfl) ?_
      refine L.nil ?_
      refine N.seq ?_
      refine G.seq ?_
      refine G.region ?_
      refine L.val rfl rfl (R.mv rfl) ?_
      refine L.val rfl rfl (R.mv rfl) ?_
      refine L.callF rfl rfl rfl go53 (refgrow_ok _ _ _ _ x _ q1 hc1 (by omega)) ?_
      rintro _ w3 ⟨rfl, e3⟩
      replace q0 := q0.ext0 e3
      replace q1 := q1.ext0 e3
      replace g2 := g2.ext0 e3
      replace E := E.trans0 e3
      refine L.val rfl rfl (R.mv rfl) ?_
      refine L.val rfl rfl (R.ext rfl rfl) ?_
      refine L.val rfl rfl (R.ext rfl rfl) ?_
      refine L.val rfl rfl (R.as rfl) ?_
      refine L.val rfl rfl (R.as rfl) ?_
      refine L.nil ?_
      refine N.seq ?_
      refine G.seq ?_
      refine G.quiet (by decide +kernel) rfl ?_
      refine Q.val rfl rfl rfl rfl (fun w4 hE => R.mv rfl) ?_
      refine Q.callR (A := IsBs (shrinkF l0).length (shrinkF l0)) (IsBs.keep _ _) rfl rfl go54 (fun w4 hE => ⟨_, rfl, (shrink_ok _ _ _ _ _ (q0.ext0 hE) hc0 (by omega)).mono (fun _ _ h => ⟨h.is, h.ext⟩)⟩) ?_
      refine Q.val rfl rfl rfl rfl (fun w4 hE => fun v hv => by obtain ⟨x1, y1, rfl, _, hv⟩ := hv; exact R.bytesStr rfl hv.cells hv.len) ?_
      refine Q.val rfl rfl rfl rfl (fun w4 hE => R.mv rfl) ?_
      refine Q.call (.string (str (shrinkF l0))) rfl rfl rfl go55 (fun w4 hE => ⟨_, rfl, (refshrink_ok _ _ _ _ _ (q0.ext0 hE) hc0 (by omega)).mono (fun _ _ h => h)⟩) ?_
      refine Q.val rfl rfl rfl rfl (fun w4 hE => R.eqStr rfl rfl) ?_
      refine Q.val rfl rfl rfl rfl (fun w4 hE => R.mv rfl) ?_
      refine Q.isT 39 rfl (by simp) ?_
      refine Q.val rfl rfl rfl rfl (fun w4 hE => R.mv rfl) ?_
      refine Q.val rfl rfl rfl rfl (fun w4 hE => R.bytesStr rfl (g2.ext0 hE).cells g2.len) ?_
      refine Q.val rfl rfl rfl rfl (fun w4 hE => R.mv rfl) ?_
      refine Q.val rfl rfl rfl rfl (fun w4 hE => R.eqStr rfl rfl) ?_
      first | refine Q.val rfl rfl rfl rfl (fun w4 hE => R.pickT rfl rfl) ?_ | refine Q.val rfl rfl rfl rfl (fun w4 hE => R.pickF rfl rfl) ?_
      refine Q.val rfl rfl rfl rfl (fun w4 hE => R.mv rfl) ?_
      refine Q.isT 45 rfl (by simp) ?_
      refine Q.val rfl rfl rfl rfl (fun w4 hE => R.mv rfl) ?_
      refine Q.val rfl rfl rfl rfl (fun w4 hE => R.mv rfl) ?_
      refine Q.val rfl rfl rfl rfl (fun w4 hE => R.eqI rfl rfl) ?_
      first | refine Q.val rfl rfl rfl rfl (fun w4 hE => R.pickT rfl rfl) ?_ | refine Q.val rfl rfl rfl rfl (fun w4 hE => R.pickF rfl rfl) ?_
      refine Q.val rfl rfl rfl rfl (fun w4 hE => R.as rfl) ?_
      refine Q.nil (fun w4 e4 => ?_)
      intro v34 _
      replace q0 := q0.ext0 e4
      replace q1 := q1.ext0 e4
      replace g2 := g2.ext0 e4
      replace E := E.trans0 e4
      refine N.seq ?_
      refine G.ret1 rfl rfl ?_
      first | exact ⟨rfl, E⟩ | exact ⟨congrArg Value.bool (by simp), E⟩

end Go.Proofs.Ytjmlcodlnohgdaa
