/-
  Texts of this claim, put together.
-/
import Derived.Test.YtiiiplhfgblamaaRows
import Derived.Test.YtiiiplhfgblamaaFacA
import Derived.Test.YtiiiplhfgblamaaFacB
import Derived.Test.YtiiiplhfgblamaaFacC
import Derived.Test.YtiiiplhfgblamaaFacD
import Derived.Test.YtiiiplhfgblamaaRecJLz5
/-
  The law RecordJoins, where the arguments are of bulk at most 1048576.
-/
set_option linter.unusedVariables false
namespace Go.Proofs.Ytiiiplhfgblamaa.recordJoins
open Go Brv Go.ChangeShapes Go.WideShapes Go.ChangeAt Go.RowKit
open Go.ChangeMaps (open_string shut_string)

theorem own : ownKnob Try.prog.godebug = none := by kernel_rfl
theorem laidOut : laidOutB Try.prog = true := Facts.laid
set_option maxHeartbeats 2000000 in
set_option maxRecDepth 100000 in
theorem lifted (os : Os) (started : os.Started) (H : Type) (enc : TypeId × Value → H) :
    ReturnsInHanded {} Try.checked os 6 .any (fun w args => (Rows.recordJoinsSpec.pre enc Try.prog Try.f6 Rows.recordJoinsUptoRow.domain false w args ∧ Upt.X enc Try.prog Try.f6 Rows.recordJoinsSpec false Rows.uptoSmall w args) ∧ sizedMet enc Try.prog Try.f6 (OpenSpec.ofChange Rows.recordJoinsSpec) false w args) (Rows.recordJoinsSpec.post enc Try.prog Try.f6 false true false false) := by
  refine returnsInHanded_of_change_and (C := Try.checked) (X := Upt.X enc Try.prog Try.f6 Rows.recordJoinsSpec false Rows.uptoSmall) Upt.X_heap own started (by kernel_rfl) Try.func6
    (Upt.witness (enc := enc) (C := Try.checked) false ⟨#[], #[.slice none 0 0, .slice none 0 0, .slice none 0 0], []⟩ 8 (by kernel_rfl) (by kernel_rfl) (by kernel_rfl) (by kernel_rfl) (by kernel_rfl)) ?_
  intro W base args ds gs before hval0 hW hcnd hsz hx _
  have hval : ∀ (j : Nat) t v, Try.f6.params[j]? = some t → args[j]? = some v → Value.okWide Try.prog W .any base t v := hval0
  have hW' := hW
  obtain ⟨ds', gs', before', hW2, hk⟩ := hx
  obtain ⟨rfl, rfl, _⟩ := hW.unique hW2
  have hsm := of_decide_eq_true hk
  clear hk hW2
  obtain ⟨p, q, hA0, hV, rfl, hfz, hnd⟩ := hW
  have hA : DataW.TrodAll enc Try.prog W 0 (fun _ => true) true Try.f6.params.toList args.toList ds p := hA0
  rw [Try.params6] at hA hval hsz
  obtain ⟨v0, vs0, d0, ds0, p0, q0, hargs, rfl, rfl, h0, r0⟩ := trodAll_cons hA
  obtain ⟨v1, vs1, d1, ds1, p1, q1, rfl, rfl, rfl, h1, r1⟩ := trodAll_cons r0
  obtain ⟨v2, vs2, d2, ds2, p2, q2, rfl, rfl, rfl, h2, r2⟩ := trodAll_cons r1
  obtain ⟨rfl, rfl, rfl⟩ := trodAll_nil r2
  obtain rfl : args = #[v0, v1, v2] := by cases args; simp_all
  obtain ⟨rfl, rfl⟩ := trodVars_none hV
  simp only [List.append_nil, Rows.uptoBulkAll] at hsm
  have k0 := h0
  have lt0 : ∀ x ∈ p0, x.block < W.heap.size := by obtain ⟨m, hm⟩ := k0; exact DataW.trod_lt m _ _ _ hm
  obtain ⟨f0, g0⟩ := RdM.of h0 hsz (j := 0) rfl rfl
  obtain ⟨a0, n0, c0, rfl⟩ := okWide_slice Try.underlying22 (hval 0 22 v0 rfl rfl)
  obtain ⟨r0, he, okr0, hb0⟩ := rowW_ofM f0 _ _ g0
  obtain ⟨xa0, xn0, xc0, os0⟩ := r0
  cases he
  have k1 := h1
  have lt1 : ∀ x ∈ p1, x.block < W.heap.size := by obtain ⟨m, hm⟩ := k1; exact DataW.trod_lt m _ _ _ hm
  obtain ⟨f1, g1⟩ := RdM.of h1 hsz (j := 1) rfl rfl
  obtain ⟨a1, n1, c1, rfl⟩ := okWide_slice Try.underlying22 (hval 1 22 v1 rfl rfl)
  obtain ⟨r1, he, okr1, hb1⟩ := rowW_ofM f1 _ _ g1
  obtain ⟨xa1, xn1, xc1, os1⟩ := r1
  cases he
  have k2 := h2
  have lt2 : ∀ x ∈ p2, x.block < W.heap.size := by obtain ⟨m, hm⟩ := k2; exact DataW.trod_lt m _ _ _ hm
  obtain ⟨f2, g2⟩ := RdM.of h2 hsz (j := 2) rfl rfl
  obtain ⟨a2, n2, c2, rfl⟩ := okWide_slice Try.underlying22 (hval 2 22 v2 rfl rfl)
  obtain ⟨r2, he, okr2, hb2⟩ := rowW_ofM f2 _ _ g2
  obtain ⟨xa2, xn2, xc2, os2⟩ := r2
  cases he
  clear hA0 hval0
  refine Calls.mono (by
    have h0 := RowW.sum_bulk (k := 8) (by decide) okr0
    have h1 := RowW.sum_bulk (k := 8) (by decide) okr1
    have h2 := RowW.sum_bulk (k := 8) (by decide) okr2
    exact joins7_ok ⟨_, _, _, os0⟩ ⟨_, _, _, os1⟩ ⟨_, _, _, os2⟩ W okr0 okr1 okr2 (by omega) (by omega) (by omega)) (fun e W' he => ?_)
  cases e with
  | returned v =>
    obtain ⟨rfl, ext⟩ := he
    have bel := ext.below
    exact ⟨_, rfl, _, _, _, [], _, [], hW', trodAll_mk1 (shut_bool Try.underlying4 _), (trodAll_cons_mk (Below.trod laidOut (by kernel_rfl) (of_decide_eq_true (by kernel_rfl)) k0 bel lt0) (trodAll_cons_mk (Below.trod laidOut (by kernel_rfl) (of_decide_eq_true (by kernel_rfl)) k1 bel lt1) (trodAll_cons_mk (Below.trod laidOut (by kernel_rfl) (of_decide_eq_true (by kernel_rfl)) k2 bel lt2) trodAll_mk0))), rfl, bel.frame _, fun h => by cases h⟩
  | panicked c => exact he.elim
  | outgrown => exact he.elim
theorem k_wf : Rows.recordJoinsUptoRow.wf (OpenSpec.ofChange Rows.recordJoinsSpec) = true := by kernel_rfl
theorem k_in : (Rows.recordJoinsUptoRow.inPlace == Try.prog.inPlace 6) = true := by kernel_rfl
theorem k_un : (Rows.recordJoinsUptoRow.unfollowed == Try.prog.unfollowed 6) = true := by kernel_rfl
theorem k_re : (Rows.recordJoinsUptoRow.recurses == Try.prog.recurses 6) = true := by kernel_rfl
theorem k_na : (Rows.recordJoinsUptoRow.named == Try.prog.varsNamed 6) = true := by kernel_rfl
theorem k_fn : Try.pinned.checked.prog.funcNamed Rows.recordJoinsUptoRow.func = some 6 := by kernel_rfl
theorem closed : joinedFacts Try.prog 6 Try.f6 Rows.recordJoinsSpec Rows.recordJoinsUptoRow = true := by
  unfold joinedFacts
  simp only [Bool.and_eq_true]
  exact ⟨⟨⟨⟨⟨⟨⟨⟨⟨⟨⟨⟨⟨⟨⟨⟨⟨⟨⟨⟨⟨⟨⟨⟨⟨⟨⟨⟨⟨⟨⟨k_wf, Facts.laid⟩, Facts.mapsRowed⟩, by kernel_rfl⟩, by kernel_rfl⟩, by kernel_rfl⟩, Facts.stops⟩, by kernel_rfl⟩, Facts.stopKnobs⟩, k_in⟩, k_un⟩, k_re⟩, k_na⟩, by kernel_rfl⟩, by kernel_rfl⟩, by kernel_rfl⟩, by kernel_rfl⟩, by kernel_rfl⟩, by kernel_rfl⟩, by kernel_rfl⟩, by kernel_rfl⟩, by kernel_rfl⟩, (by rw [Facts.plainKeys]; rfl)⟩, by kernel_rfl⟩, Facts.stopsHeard⟩, Facts.mayEnter⟩, (by rw [Facts.lifts]; rfl)⟩, (by rw [Facts.make]; kernel_rfl)⟩, by kernel_rfl⟩, by kernel_rfl⟩, by kernel_rfl⟩, by kernel_rfl⟩
theorem over : Rows.recordJoinsUptoRow.holds Try.pinned (Rows.OpenSpec.upto Rows.recordJoinsSpec) :=
  Upt.holds 6 Try.f6 rfl rfl rfl rfl rfl rfl rfl ⟨rfl, rfl, rfl, rfl, rfl⟩ rfl rfl rfl rfl rfl rfl k_fn Try.func6 closed
    (of_decide_eq_true (by kernel_rfl)) (by unfold Func.isWrapper; first | (rw [if_pos (by decide +kernel)]; kernel_rfl) | (rw [if_neg (by decide +kernel)]; exact ⟨rfl, rfl⟩))
    (fun os started H enc _ => lifted os started H enc)
end Go.Proofs.Ytiiiplhfgblamaa.recordJoins
namespace Go.Proofs.Ytiiiplhfgblamaa
theorem recordJoinsUpto_holds : Rows.RecordJoinsUptoSaid := recordJoins.over
end Go.Proofs.Ytiiiplhfgblamaa
#print axioms Go.Proofs.Ytiiiplhfgblamaa.recordJoinsUpto_holds
