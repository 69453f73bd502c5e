/-
  Texts of this claim, put together.
-/
import Derived.Test.YthpolibakkmmeaaRows
import Derived.Test.YthpolibakkmmeaaFacA
import Derived.Test.YthpolibakkmmeaaFacB
import Derived.Test.YthpolibakkmmeaaFacC
import Derived.Test.YthpolibakkmmeaaFacD
import Derived.Test.YthpolibakkmmeaaOrlRLz2
/-
  The law OrderRises.
-/
set_option linter.unusedVariables false
namespace Go.Proofs.Ythpolibakkmmeaa.orderRises
open Go Brv Go.ChangeShapes Go.WideShapes Go.ChangeAt Go.RowKit
open Go.ChangeMaps (open_string shut_string)

theorem own : ownKnob Try.prog.godebug = none := by kernel_rfl
theorem laidOut : laidOutB Try.prog = true := Facts.laid
set_option maxHeartbeats 2000000 in
set_option maxRecDepth 100000 in
theorem lifted (os : Os) (started : os.Started) (H : Type) (enc : TypeId × Value → H) :
    ReturnsInHanded {} Try.checked os 5 .any (Rows.orderRisesSpec.pre6 enc Try.prog Try.f5 Rows.orderRisesRow.domain false) (Rows.orderRisesSpec.post enc Try.prog Try.f5 false true false false) := by
  refine returnsInHanded_of_change_sized (C := Try.checked) own started (by kernel_rfl) Try.func5
    (ChangeSpec.witness6 (enc := enc) (C := Try.checked) false ⟨#[], #[.slice none 0 0, .slice none 0 0], []⟩ 8 (by kernel_rfl) (by kernel_rfl) (by kernel_rfl) (by kernel_rfl)) ?_
  intro W base args ds gs before hval0 hW hcnd hsz _
  have hval : ∀ (j : Nat) t v, Try.f5.params[j]? = some t → args[j]? = some v → Value.okWide Try.prog W .any base t v := hval0
  have hW' := hW
  obtain ⟨p, q, hA0, hV, rfl, hfz, hnd⟩ := hW
  have hA : DataW.TrodAll enc Try.prog W 0 (fun _ => true) true Try.f5.params.toList args.toList ds p := hA0
  rw [Try.params5] at hA hval hsz
  obtain ⟨v0, vs0, d0, ds0, p0, q0, hargs, rfl, rfl, h0, r0⟩ := trodAll_cons hA
  obtain ⟨v1, vs1, d1, ds1, p1, q1, rfl, rfl, rfl, h1, r1⟩ := trodAll_cons r0
  obtain ⟨rfl, rfl, rfl⟩ := trodAll_nil r1
  obtain rfl : args = #[v0, v1] := by cases args; simp_all
  obtain ⟨rfl, rfl⟩ := trodVars_none hV
  have k0 := h0
  have lt0 : ∀ x ∈ p0, x.block < W.heap.size := by obtain ⟨m, hm⟩ := k0; exact DataW.trod_lt m _ _ _ hm
  obtain ⟨f0, g0⟩ := Rd.of h0 hsz (j := 0) rfl rfl
  obtain ⟨a0, n0, c0, rfl⟩ := okWide_slice Try.underlying52 (hval 0 52 v0 rfl rfl)
  obtain ⟨_, _, _, l0, he, hc0, hz0, L0, hn0, _⟩ := Rd.strs (E := 9) (sz := 16) Try.underlying52 (by kernel_rfl) (by decide) g0
  cases he
  have k1 := h1
  have lt1 : ∀ x ∈ p1, x.block < W.heap.size := by obtain ⟨m, hm⟩ := k1; exact DataW.trod_lt m _ _ _ hm
  obtain ⟨f1, g1⟩ := Rd.of h1 hsz (j := 1) rfl rfl
  obtain ⟨a1, n1, c1, rfl⟩ := okWide_slice Try.underlying52 (hval 1 52 v1 rfl rfl)
  obtain ⟨_, _, _, l1, he, hc1, hz1, L1, hn1, _⟩ := Rd.strs (E := 9) (sz := 16) Try.underlying52 (by kernel_rfl) (by decide) g1
  cases he
  clear hA0 hval0
  refine Calls.mono ((show Meets _ _ _ _ _ from orises_ok a0 n0 c0 l0 a1 n1 c1 l1 W L0 hn0 hz0 hz1 L1 hn1)) (fun e W' he => ?_)
  cases e with
  | returned v =>
    obtain ⟨rfl, ext⟩ := he
    have bel := ext.below
    exact ⟨_, rfl, _, _, _, [], _, [], hW', trodAll_mk1 (shut_bool Try.underlying4 _), (trodAll_cons_mk (Below.trod laidOut (by kernel_rfl) (of_decide_eq_true (by kernel_rfl)) k0 bel lt0) (trodAll_cons_mk (Below.trod laidOut (by kernel_rfl) (of_decide_eq_true (by kernel_rfl)) k1 bel lt1) trodAll_mk0)), rfl, bel.frame _, fun h => by cases h⟩
  | panicked c => exact he.elim
  | outgrown => exact he.elim
theorem k_wf : Rows.orderRisesRow.wf (OpenSpec.ofChange Rows.orderRisesSpec) = true := by kernel_rfl
theorem k_in : (Rows.orderRisesRow.inPlace == Try.prog.inPlace 5) = true := by kernel_rfl
theorem k_un : (Rows.orderRisesRow.unfollowed == Try.prog.unfollowed 5) = true := by kernel_rfl
theorem k_re : (Rows.orderRisesRow.recurses == Try.prog.recurses 5) = true := by kernel_rfl
theorem k_na : (Rows.orderRisesRow.named == Try.prog.varsNamed 5) = true := by kernel_rfl
theorem k_fn : Try.pinned.checked.prog.funcNamed Rows.orderRisesRow.func = some 5 := by kernel_rfl
theorem closed : joinedFacts Try.prog 5 Try.f5 Rows.orderRisesSpec Rows.orderRisesRow = true := by
  unfold joinedFacts
  simp only [Bool.and_eq_true]
  exact ⟨⟨⟨⟨⟨⟨⟨⟨⟨⟨⟨⟨⟨⟨⟨⟨⟨⟨⟨⟨⟨⟨⟨⟨⟨⟨⟨⟨⟨⟨⟨k_wf, Facts.laid⟩, Facts.mapsRowed⟩, by kernel_rfl⟩, by kernel_rfl⟩, by kernel_rfl⟩, Facts.stops⟩, by kernel_rfl⟩, Facts.stopKnobs⟩, k_in⟩, k_un⟩, k_re⟩, k_na⟩, by kernel_rfl⟩, by kernel_rfl⟩, by kernel_rfl⟩, by kernel_rfl⟩, by kernel_rfl⟩, by kernel_rfl⟩, by kernel_rfl⟩, by kernel_rfl⟩, by kernel_rfl⟩, (by rw [Facts.plainKeys]; rfl)⟩, by kernel_rfl⟩, Facts.stopsHeard⟩, Facts.mayEnter⟩, (by rw [Facts.lifts]; rfl)⟩, (by rw [Facts.make]; kernel_rfl)⟩, by kernel_rfl⟩, by kernel_rfl⟩, by kernel_rfl⟩, by kernel_rfl⟩
theorem over : Rows.orderRisesRow.holds Try.pinned (OpenSpec.ofChange Rows.orderRisesSpec) :=
  OpenClaim.holds_of_wide 5 Try.f5 rfl rfl rfl rfl rfl rfl rfl ⟨rfl, rfl, rfl, rfl, rfl⟩ rfl rfl rfl rfl rfl k_fn Try.func5 closed
    (of_decide_eq_true (by kernel_rfl)) (by unfold Func.isWrapper; first | (rw [if_pos (by decide +kernel)]; kernel_rfl) | (rw [if_neg (by decide +kernel)]; exact ⟨rfl, rfl⟩))
    (fun os started H enc _ => lifted os started H enc)
end Go.Proofs.Ythpolibakkmmeaa.orderRises
namespace Go.Proofs.Ythpolibakkmmeaa
theorem orderRises_holds : Rows.OrderRisesSaid := orderRises.over
end Go.Proofs.Ythpolibakkmmeaa
#print axioms Go.Proofs.Ythpolibakkmmeaa.orderRises_holds
