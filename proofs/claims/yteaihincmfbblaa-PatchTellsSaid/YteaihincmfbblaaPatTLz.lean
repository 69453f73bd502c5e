/-
  Texts of this claim, put together.
-/
import Derived.Test.YteaihincmfbblaaRows
import Derived.Test.YteaihincmfbblaaFacA
import Derived.Test.YteaihincmfbblaaFacB
import Derived.Test.YteaihincmfbblaaFacC
import Derived.Test.YteaihincmfbblaaFacD
import Derived.Test.YteaihincmfbblaaPatTLz5
/-
  The law PatchTells: the patch of any two disks, what any bytes are, and what they make of a disk.
-/
set_option linter.unusedVariables false
namespace Go.Proofs.Yteaihincmfbblaa.patchTells
open Go Brv Go.ChangeShapes Go.WideShapes Go.ChangeAt Go.RowKit
open Go.ChangeMaps (open_string shut_string)

theorem own : ownKnob Try.prog.godebug = none := by kernel_rfl
theorem laidOut : laidOutB Try.prog = true := Facts.laid
set_option maxHeartbeats 2000000 in
set_option maxRecDepth 100000 in
theorem lifted (os : Os) (started : os.Started) (H : Type) (enc : TypeId × Value → H) :
    ReturnsInHanded {} Try.checked os 4 .any (Rows.patchTellsSpec.pre6 enc Try.prog Try.f4 Rows.patchTellsRow.domain false) (Rows.patchTellsSpec.post enc Try.prog Try.f4 false true false false) := by
  refine returnsInHanded_of_change_sized (C := Try.checked) own started (by kernel_rfl) Try.func4
    (ChangeSpec.witness6 (enc := enc) (C := Try.checked) false ⟨#[], #[.slice none 0 0, .slice none 0 0, .slice none 0 0], []⟩ 8 (by kernel_rfl) (by kernel_rfl) (by kernel_rfl) (by kernel_rfl)) ?_
  intro W base args ds gs before hval0 hW hcnd hsz _
  have hval : ∀ (j : Nat) t v, Try.f4.params[j]? = some t → args[j]? = some v → Value.okWide Try.prog W .any base t v := hval0
  have hW' := hW
  obtain ⟨p, q, hA0, hV, rfl, hfz, hnd⟩ := hW
  have hA : DataW.TrodAll enc Try.prog W 0 (fun _ => true) true Try.f4.params.toList args.toList ds p := hA0
  rw [Try.params4] at hA hval hsz
  obtain ⟨v0, vs0, d0, ds0, p0, q0, hargs, rfl, rfl, h0, r0⟩ := trodAll_cons hA
  obtain ⟨v1, vs1, d1, ds1, p1, q1, rfl, rfl, rfl, h1, r1⟩ := trodAll_cons r0
  obtain ⟨v2, vs2, d2, ds2, p2, q2, rfl, rfl, rfl, h2, r2⟩ := trodAll_cons r1
  obtain ⟨rfl, rfl, rfl⟩ := trodAll_nil r2
  obtain rfl : args = #[v0, v1, v2] := by cases args; simp_all
  obtain ⟨rfl, rfl⟩ := trodVars_none hV
  have k0 := h0
  have lt0 : ∀ x ∈ p0, x.block < W.heap.size := by obtain ⟨m, hm⟩ := k0; exact DataW.trod_lt m _ _ _ hm
  obtain ⟨f0, g0⟩ := Rd.of h0 hsz (j := 0) rfl rfl
  obtain ⟨a0, n0, c0, rfl⟩ := okWide_slice Try.underlying22 (hval 0 22 v0 rfl rfl)
  obtain ⟨_, _, _, l0, he, hc0, hn0, hr0, B0⟩ := g0.bytes (by kernel_rfl) (by kernel_rfl)
  cases he
  have k1 := h1
  have lt1 : ∀ x ∈ p1, x.block < W.heap.size := by obtain ⟨m, hm⟩ := k1; exact DataW.trod_lt m _ _ _ hm
  obtain ⟨f1, g1⟩ := Rd.of h1 hsz (j := 1) rfl rfl
  obtain ⟨a1, n1, c1, rfl⟩ := okWide_slice Try.underlying22 (hval 1 22 v1 rfl rfl)
  obtain ⟨_, _, _, l1, he, hc1, hn1, hr1, B1⟩ := g1.bytes (by kernel_rfl) (by kernel_rfl)
  cases he
  have k2 := h2
  have lt2 : ∀ x ∈ p2, x.block < W.heap.size := by obtain ⟨m, hm⟩ := k2; exact DataW.trod_lt m _ _ _ hm
  obtain ⟨f2, g2⟩ := Rd.of h2 hsz (j := 2) rfl rfl
  obtain ⟨a2, n2, c2, rfl⟩ := okWide_slice Try.underlying22 (hval 2 22 v2 rfl rfl)
  obtain ⟨_, _, _, l2, he, hc2, hn2, hr2, B2⟩ := g2.bytes (by kernel_rfl) (by kernel_rfl)
  cases he
  clear hA0 hval0
  refine Calls.mono (by
    by_cases hs : n2 > 3000
    · exact ptells_long a0 a1 a2 n0 n1 n2 c0 c1 c2 l0 l1 l2 W B0 hc0 B1 hc1 ⟨by omega, by omega⟩ B2 hc2 hs
    · cases hq : Patch.parseF l2 with
      | none => exact ptells_none a0 a1 a2 n0 n1 n2 c0 c1 c2 l0 l1 l2 W B0 hc0 B1 hc1 ⟨by omega, by omega⟩ B2 hc2 (by omega) hq
      | some q => exact ptells_some a0 a1 a2 n0 n1 n2 c0 c1 c2 l0 l1 l2 q W B0 hc0 B1 hc1 ⟨by omega, by omega⟩ B2 hc2 (by omega) hq) (fun e W' he => ?_)
  cases e with
  | returned v =>
    obtain ⟨rfl, ext⟩ := he
    have bel := ext.below
    exact ⟨_, rfl, _, _, _, [], _, [], hW', trodAll_mk1 (shut_bool Try.underlying4 _), (trodAll_cons_mk (Below.trod laidOut (by kernel_rfl) (of_decide_eq_true (by kernel_rfl)) k0 bel lt0) (trodAll_cons_mk (Below.trod laidOut (by kernel_rfl) (of_decide_eq_true (by kernel_rfl)) k1 bel lt1) (trodAll_cons_mk (Below.trod laidOut (by kernel_rfl) (of_decide_eq_true (by kernel_rfl)) k2 bel lt2) trodAll_mk0))), rfl, bel.frame _, fun h => by cases h⟩
  | panicked c => exact he.elim
  | outgrown => exact he.elim
theorem k_wf : Rows.patchTellsRow.wf (OpenSpec.ofChange Rows.patchTellsSpec) = true := by kernel_rfl
theorem k_in : (Rows.patchTellsRow.inPlace == Try.prog.inPlace 4) = true := by kernel_rfl
theorem k_un : (Rows.patchTellsRow.unfollowed == Try.prog.unfollowed 4) = true := by kernel_rfl
theorem k_re : (Rows.patchTellsRow.recurses == Try.prog.recurses 4) = true := by kernel_rfl
theorem k_na : (Rows.patchTellsRow.named == Try.prog.varsNamed 4) = true := by kernel_rfl
theorem k_fn : Try.pinned.checked.prog.funcNamed Rows.patchTellsRow.func = some 4 := by kernel_rfl
theorem closed : joinedFacts Try.prog 4 Try.f4 Rows.patchTellsSpec Rows.patchTellsRow = true := by
  unfold joinedFacts
  simp only [Bool.and_eq_true]
  exact ⟨⟨⟨⟨⟨⟨⟨⟨⟨⟨⟨⟨⟨⟨⟨⟨⟨⟨⟨⟨⟨⟨⟨⟨⟨⟨⟨⟨⟨⟨⟨k_wf, Facts.laid⟩, Facts.mapsRowed⟩, by kernel_rfl⟩, by kernel_rfl⟩, by kernel_rfl⟩, Facts.stops⟩, by kernel_rfl⟩, Facts.stopKnobs⟩, k_in⟩, k_un⟩, k_re⟩, k_na⟩, by kernel_rfl⟩, by kernel_rfl⟩, by kernel_rfl⟩, by kernel_rfl⟩, by kernel_rfl⟩, by kernel_rfl⟩, by kernel_rfl⟩, by kernel_rfl⟩, by kernel_rfl⟩, (by rw [Facts.plainKeys]; rfl)⟩, by kernel_rfl⟩, Facts.stopsHeard⟩, Facts.mayEnter⟩, (by rw [Facts.lifts]; rfl)⟩, (by rw [Facts.make]; kernel_rfl)⟩, by kernel_rfl⟩, by kernel_rfl⟩, by kernel_rfl⟩, by kernel_rfl⟩
theorem over : Rows.patchTellsRow.holds Try.pinned (OpenSpec.ofChange Rows.patchTellsSpec) :=
  OpenClaim.holds_of_wide 4 Try.f4 rfl rfl rfl rfl rfl rfl rfl ⟨rfl, rfl, rfl, rfl, rfl⟩ rfl rfl rfl rfl rfl k_fn Try.func4 closed
    (of_decide_eq_true (by kernel_rfl)) (by unfold Func.isWrapper; first | (rw [if_pos (by decide +kernel)]; kernel_rfl) | (rw [if_neg (by decide +kernel)]; exact ⟨rfl, rfl⟩))
    (fun os started H enc _ => lifted os started H enc)
end Go.Proofs.Yteaihincmfbblaa.patchTells
namespace Go.Proofs.Yteaihincmfbblaa
theorem patchTells_holds : Rows.PatchTellsSaid := patchTells.over
end Go.Proofs.Yteaihincmfbblaa
#print axioms Go.Proofs.Yteaihincmfbblaa.patchTells_holds
