/-
  Texts of this claim, put together.
-/
import Derived.Test.YthdaelmjiaegfaaRows
import Derived.Test.YthdaelmjiaegfaaFacA
import Derived.Test.YthdaelmjiaegfaaFacB
import Derived.Test.YthdaelmjiaegfaaFacC
import Derived.Test.YthdaelmjiaegfaaFacD
import Derived.Test.YthdaelmjiaegfaaModSLz3
/-
  The law ModelStays: what was stays, whatever is committed and branched.
-/
set_option linter.unusedVariables false
namespace Go.Proofs.Ythdaelmjiaegfaa.modelStays
open Go Brv Go.ChangeShapes Go.WideShapes Go.ChangeAt Go.RowKit
open Go.ChangeMaps (open_string shut_string)

theorem own : ownKnob Try.prog.godebug = none := by kernel_rfl
theorem laidOut : laidOutB Try.prog = true := Facts.laid
set_option maxHeartbeats 2000000 in
set_option maxRecDepth 100000 in
theorem lifted (os : Os) (started : os.Started) (H : Type) (enc : TypeId × Value → H) :
    ReturnsInHanded {} Try.checked os 3 .any (Rows.modelStaysSpec.pre6 enc Try.prog Try.f3 Rows.modelStaysRow.domain false) (Rows.modelStaysSpec.post enc Try.prog Try.f3 false true false false) := by
  refine returnsInHanded_of_change_sized (C := Try.checked) own started (by kernel_rfl) Try.func3
    (ChangeSpec.witness6 (enc := enc) (C := Try.checked) false ⟨#[], #[.slice none 0 0], []⟩ 8 (by kernel_rfl) (by kernel_rfl) (by kernel_rfl) (by kernel_rfl)) ?_
  intro W base args ds gs before hval0 hW hcnd hsz _
  have hval : ∀ (j : Nat) t v, Try.f3.params[j]? = some t → args[j]? = some v → Value.okWide Try.prog W .any base t v := hval0
  have hW' := hW
  obtain ⟨p, q, hA0, hV, rfl, hfz, hnd⟩ := hW
  have hA : DataW.TrodAll enc Try.prog W 0 (fun _ => true) true Try.f3.params.toList args.toList ds p := hA0
  rw [Try.params3] at hA hval hsz
  obtain ⟨v0, vs0, d0, ds0, p0, q0, hargs, rfl, rfl, h0, r0⟩ := trodAll_cons hA
  obtain ⟨rfl, rfl, rfl⟩ := trodAll_nil r0
  obtain rfl : args = #[v0] := by cases args; simp_all
  obtain ⟨rfl, rfl⟩ := trodVars_none hV
  have k0 := h0
  have lt0 : ∀ x ∈ p0, x.block < W.heap.size := by obtain ⟨m, hm⟩ := k0; exact DataW.trod_lt m _ _ _ hm
  obtain ⟨f0, g0⟩ := Rd.of h0 hsz (j := 0) rfl rfl
  obtain ⟨a0, n0, c0, rfl⟩ := okWide_slice Try.underlying22 (hval 0 22 v0 rfl rfl)
  obtain ⟨_, _, _, os0, he, hc0, hb0, T0, K0⟩ := opV_rows22 g0
  cases he
  have hn0 : n0 = os0.length := by have := T0.len; simpa using this
  clear hA0 hval0
  refine Calls.mono (stays_law a0 n0 c0 os0 W ⟨hn0, T0, K0⟩ (by omega)) (fun e W' he => ?_)
  cases e with
  | returned v =>
    obtain ⟨rfl, ext⟩ := he
    have bel := ext.below
    exact ⟨_, rfl, _, _, _, [], _, [], hW', trodAll_mk1 (shut_bool Try.underlying4 _), (trodAll_cons_mk (Below.trod laidOut (by kernel_rfl) (of_decide_eq_true (by kernel_rfl)) k0 bel lt0) trodAll_mk0), rfl, bel.frame _, fun h => by cases h⟩
  | panicked c => exact he.elim
  | outgrown => exact he.elim
theorem k_wf : Rows.modelStaysRow.wf (OpenSpec.ofChange Rows.modelStaysSpec) = true := by kernel_rfl
theorem k_in : (Rows.modelStaysRow.inPlace == Try.prog.inPlace 3) = true := by kernel_rfl
theorem k_un : (Rows.modelStaysRow.unfollowed == Try.prog.unfollowed 3) = true := by kernel_rfl
theorem k_re : (Rows.modelStaysRow.recurses == Try.prog.recurses 3) = true := by kernel_rfl
theorem k_na : (Rows.modelStaysRow.named == Try.prog.varsNamed 3) = true := by kernel_rfl
theorem k_fn : Try.pinned.checked.prog.funcNamed Rows.modelStaysRow.func = some 3 := by kernel_rfl
theorem closed : joinedFacts Try.prog 3 Try.f3 Rows.modelStaysSpec Rows.modelStaysRow = true := by
  unfold joinedFacts
  simp only [Bool.and_eq_true]
  exact ⟨⟨⟨⟨⟨⟨⟨⟨⟨⟨⟨⟨⟨⟨⟨⟨⟨⟨⟨⟨⟨⟨⟨⟨⟨⟨⟨⟨⟨⟨⟨k_wf, Facts.laid⟩, Facts.mapsRowed⟩, by kernel_rfl⟩, by kernel_rfl⟩, by kernel_rfl⟩, Facts.stops⟩, by kernel_rfl⟩, Facts.stopKnobs⟩, k_in⟩, k_un⟩, k_re⟩, k_na⟩, by kernel_rfl⟩, by kernel_rfl⟩, by kernel_rfl⟩, by kernel_rfl⟩, by kernel_rfl⟩, by kernel_rfl⟩, by kernel_rfl⟩, by kernel_rfl⟩, by kernel_rfl⟩, (by rw [Facts.plainKeys]; rfl)⟩, by kernel_rfl⟩, Facts.stopsHeard⟩, Facts.mayEnter⟩, (by rw [Facts.lifts]; rfl)⟩, (by rw [Facts.make]; kernel_rfl)⟩, by kernel_rfl⟩, by kernel_rfl⟩, by kernel_rfl⟩, by kernel_rfl⟩
theorem over : Rows.modelStaysRow.holds Try.pinned (OpenSpec.ofChange Rows.modelStaysSpec) :=
  OpenClaim.holds_of_wide 3 Try.f3 rfl rfl rfl rfl rfl rfl rfl ⟨rfl, rfl, rfl, rfl, rfl⟩ rfl rfl rfl rfl rfl k_fn Try.func3 closed
    (of_decide_eq_true (by kernel_rfl)) (by unfold Func.isWrapper; first | (rw [if_pos (by decide +kernel)]; kernel_rfl) | (rw [if_neg (by decide +kernel)]; exact ⟨rfl, rfl⟩))
    (fun os started H enc _ => lifted os started H enc)
end Go.Proofs.Ythdaelmjiaegfaa.modelStays
namespace Go.Proofs.Ythdaelmjiaegfaa
theorem modelStays_holds : Rows.ModelStaysSaid := modelStays.over
end Go.Proofs.Ythdaelmjiaegfaa
#print axioms Go.Proofs.Ythdaelmjiaegfaa.modelStays_holds
