/-
  Texts of this claim, put together.
-/
import Derived.Test.YteaihincmfbblaaRows
import Derived.Test.YteaihincmfbblaaFacA
import Derived.Test.YteaihincmfbblaaFacB
import Derived.Test.YteaihincmfbblaaFacC
import Derived.Test.YteaihincmfbblaaFacD
import Derived.Test.YteaihincmfbblaaPatCLz4
/-
  The law PatchChains: what patches make, one on the other.
-/
set_option linter.unusedVariables false
namespace Go.Proofs.Yteaihincmfbblaa.patchChains
open Go Brv Go.ChangeShapes Go.WideShapes Go.ChangeAt Go.RowKit
open Go.ChangeMaps (open_string shut_string)

theorem own : ownKnob Try.prog.godebug = none := by kernel_rfl
theorem laidOut : laidOutB Try.prog = true := Facts.laid
set_option maxHeartbeats 2000000 in
set_option maxRecDepth 100000 in
theorem lifted (os : Os) (started : os.Started) (H : Type) (enc : TypeId × Value → H) :
    ReturnsInHanded {} Try.checked os 5 .any (Rows.patchChainsSpec.pre6 enc Try.prog Try.f5 Rows.patchChainsRow.domain false) (Rows.patchChainsSpec.post enc Try.prog Try.f5 false true false false) := by
  refine returnsInHanded_of_change_sized (C := Try.checked) own started (by kernel_rfl) Try.func5
    (ChangeSpec.witness6 (enc := enc) (C := Try.checked) false ⟨#[], #[.slice none 0 0, .slice none 0 0], []⟩ 8 (by kernel_rfl) (by kernel_rfl) (by kernel_rfl) (by kernel_rfl)) ?_
  intro W base args ds gs before hval0 hW hcnd hsz _
  have hval : ∀ (j : Nat) t v, Try.f5.params[j]? = some t → args[j]? = some v → Value.okWide Try.prog W .any base t v := hval0
  have hW' := hW
  obtain ⟨p, q, hA0, hV, rfl, hfz, hnd⟩ := hW
  have hA : DataW.TrodAll enc Try.prog W 0 (fun _ => true) true Try.f5.params.toList args.toList ds p := hA0
  rw [Try.params5] at hA hval hsz
  obtain ⟨v0, vs0, d0, ds0, p0, q0, hargs, rfl, rfl, h0, r0⟩ := trodAll_cons hA
  obtain ⟨v1, vs1, d1, ds1, p1, q1, rfl, rfl, rfl, h1, r1⟩ := trodAll_cons r0
  obtain ⟨rfl, rfl, rfl⟩ := trodAll_nil r1
  obtain rfl : args = #[v0, v1] := by cases args; simp_all
  obtain ⟨rfl, rfl⟩ := trodVars_none hV
  have k0 := h0
  have lt0 : ∀ x ∈ p0, x.block < W.heap.size := by obtain ⟨m, hm⟩ := k0; exact DataW.trod_lt m _ _ _ hm
  obtain ⟨f0, g0⟩ := Rd.of h0 hsz (j := 0) rfl rfl
  obtain ⟨a0, n0, c0, rfl⟩ := okWide_slice Try.underlying22 (hval 0 22 v0 rfl rfl)
  obtain ⟨_, _, _, l0, he, hc0, hn0, hr0, B0⟩ := g0.bytes (by kernel_rfl) (by kernel_rfl)
  cases he
  have k1 := h1
  have lt1 : ∀ x ∈ p1, x.block < W.heap.size := by obtain ⟨m, hm⟩ := k1; exact DataW.trod_lt m _ _ _ hm
  obtain ⟨f1, g1⟩ := Rd.of h1 hsz (j := 1) rfl rfl
  obtain ⟨a1, n1, c1, rfl⟩ := okWide_slice Try.underlying49 (hval 1 49 v1 rfl rfl)
  obtain ⟨_, _, _, rs1, he, hc1, hm1, K1, hn1, ok1⟩ := Rd.bss (E := 22) (U := 5) (s := 24) Try.underlying49 (by kernel_rfl) (by kernel_rfl) (by kernel_rfl) g1
  cases he
  subst hn1
  clear hA0 hval0
  refine Calls.mono (by
    by_cases hv : l0.length = 64 * Image.dn l0 ∧ 1 ≤ Image.dn l0 ∧ Image.dn l0 ≤ 64
    · exact chains_yes a0 a1 n0 c0 c1 l0 rs1 W B0 hc0 (by omega) ⟨K1, ok1⟩ (by omega) hv
    · exact chains_no a0 a1 n0 c0 c1 l0 rs1 W B0 hc0 (by omega) ⟨K1, ok1⟩ (by omega) hv) (fun e W' he => ?_)
  cases e with
  | returned v =>
    obtain ⟨rfl, ext⟩ := he
    have bel := ext.below
    exact ⟨_, rfl, _, _, _, [], _, [], hW', trodAll_mk1 (shut_bool Try.underlying4 _), (trodAll_cons_mk (Below.trod laidOut (by kernel_rfl) (of_decide_eq_true (by kernel_rfl)) k0 bel lt0) (trodAll_cons_mk (Below.trod laidOut (by kernel_rfl) (of_decide_eq_true (by kernel_rfl)) k1 bel lt1) trodAll_mk0)), rfl, bel.frame _, fun h => by cases h⟩
  | panicked c => exact he.elim
  | outgrown => exact he.elim
theorem k_wf : Rows.patchChainsRow.wf (OpenSpec.ofChange Rows.patchChainsSpec) = true := by kernel_rfl
theorem k_in : (Rows.patchChainsRow.inPlace == Try.prog.inPlace 5) = true := by kernel_rfl
theorem k_un : (Rows.patchChainsRow.unfollowed == Try.prog.unfollowed 5) = true := by kernel_rfl
theorem k_re : (Rows.patchChainsRow.recurses == Try.prog.recurses 5) = true := by kernel_rfl
theorem k_na : (Rows.patchChainsRow.named == Try.prog.varsNamed 5) = true := by kernel_rfl
theorem k_fn : Try.pinned.checked.prog.funcNamed Rows.patchChainsRow.func = some 5 := by kernel_rfl
theorem closed : joinedFacts Try.prog 5 Try.f5 Rows.patchChainsSpec Rows.patchChainsRow = true := by
  unfold joinedFacts
  simp only [Bool.and_eq_true]
  exact ⟨⟨⟨⟨⟨⟨⟨⟨⟨⟨⟨⟨⟨⟨⟨⟨⟨⟨⟨⟨⟨⟨⟨⟨⟨⟨⟨⟨⟨⟨⟨k_wf, Facts.laid⟩, Facts.mapsRowed⟩, by kernel_rfl⟩, by kernel_rfl⟩, by kernel_rfl⟩, Facts.stops⟩, by kernel_rfl⟩, Facts.stopKnobs⟩, k_in⟩, k_un⟩, k_re⟩, k_na⟩, by kernel_rfl⟩, by kernel_rfl⟩, by kernel_rfl⟩, by kernel_rfl⟩, by kernel_rfl⟩, by kernel_rfl⟩, by kernel_rfl⟩, by kernel_rfl⟩, by kernel_rfl⟩, (by rw [Facts.plainKeys]; rfl)⟩, by kernel_rfl⟩, Facts.stopsHeard⟩, Facts.mayEnter⟩, (by rw [Facts.lifts]; rfl)⟩, (by rw [Facts.make]; kernel_rfl)⟩, by kernel_rfl⟩, by kernel_rfl⟩, by kernel_rfl⟩, by kernel_rfl⟩
theorem over : Rows.patchChainsRow.holds Try.pinned (OpenSpec.ofChange Rows.patchChainsSpec) :=
  OpenClaim.holds_of_wide 5 Try.f5 rfl rfl rfl rfl rfl rfl rfl ⟨rfl, rfl, rfl, rfl, rfl⟩ rfl rfl rfl rfl rfl k_fn Try.func5 closed
    (of_decide_eq_true (by kernel_rfl)) (by unfold Func.isWrapper; first | (rw [if_pos (by decide +kernel)]; kernel_rfl) | (rw [if_neg (by decide +kernel)]; exact ⟨rfl, rfl⟩))
    (fun os started H enc _ => lifted os started H enc)
end Go.Proofs.Yteaihincmfbblaa.patchChains
namespace Go.Proofs.Yteaihincmfbblaa
theorem patchChains_holds : Rows.PatchChainsSaid := patchChains.over
end Go.Proofs.Yteaihincmfbblaa
#print axioms Go.Proofs.Yteaihincmfbblaa.patchChains_holds
