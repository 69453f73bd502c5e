/-
  Texts of this claim, put together.
-/
import Derived.Test.YtiiiplhfgblamaaRows
import Derived.Test.YtiiiplhfgblamaaFacA
import Derived.Test.YtiiiplhfgblamaaFacB
import Derived.Test.YtiiiplhfgblamaaFacC
import Derived.Test.YtiiiplhfgblamaaFacD
import Derived.Test.YtiiiplhfgblamaaRecMLz5
/-
  The law RecordMerges, where the arguments are of bulk at most 1048576.
-/
set_option linter.unusedVariables false
namespace Go.Proofs.Ytiiiplhfgblamaa.recordMerges
open Go Brv Go.ChangeShapes Go.WideShapes Go.ChangeAt Go.RowKit
open Go.ChangeMaps (open_string shut_string)

theorem own : ownKnob Try.prog.godebug = none := by kernel_rfl
theorem laidOut : laidOutB Try.prog = true := Facts.laid
set_option maxHeartbeats 2000000 in
set_option maxRecDepth 100000 in
theorem lifted (os : Os) (started : os.Started) (H : Type) (enc : TypeId × Value → H) :
    ReturnsInHanded {} Try.checked os 4 .any (fun w args => (Rows.recordMergesSpec.pre enc Try.prog Try.f4 Rows.recordMergesUptoRow.domain false w args ∧ Upt.X enc Try.prog Try.f4 Rows.recordMergesSpec false Rows.uptoSmall w args) ∧ sizedMet enc Try.prog Try.f4 (OpenSpec.ofChange Rows.recordMergesSpec) false w args) (Rows.recordMergesSpec.post enc Try.prog Try.f4 false true false false) := by
  refine returnsInHanded_of_change_and (C := Try.checked) (X := Upt.X enc Try.prog Try.f4 Rows.recordMergesSpec false Rows.uptoSmall) Upt.X_heap own started (by kernel_rfl) Try.func4
    (Upt.witness (enc := enc) (C := Try.checked) false ⟨#[], #[.slice none 0 0], []⟩ 8 (by kernel_rfl) (by kernel_rfl) (by kernel_rfl) (by kernel_rfl) (by kernel_rfl)) ?_
  intro W base args ds gs before hval0 hW hcnd hsz hx _
  have hval : ∀ (j : Nat) t v, Try.f4.params[j]? = some t → args[j]? = some v → Value.okWide Try.prog W .any base t v := hval0
  have hW' := hW
  obtain ⟨ds', gs', before', hW2, hk⟩ := hx
  obtain ⟨rfl, rfl, _⟩ := hW.unique hW2
  have hsm := of_decide_eq_true hk
  clear hk hW2
  obtain ⟨p, q, hA0, hV, rfl, hfz, hnd⟩ := hW
  have hA : DataW.TrodAll enc Try.prog W 0 (fun _ => true) true Try.f4.params.toList args.toList ds p := hA0
  rw [Try.params4] at hA hval hsz
  obtain ⟨v0, vs0, d0, ds0, p0, q0, hargs, rfl, rfl, h0, r0⟩ := trodAll_cons hA
  obtain ⟨rfl, rfl, rfl⟩ := trodAll_nil r0
  obtain rfl : args = #[v0] := by cases args; simp_all
  obtain ⟨rfl, rfl⟩ := trodVars_none hV
  simp only [List.append_nil, Rows.uptoBulkAll] at hsm
  have k0 := h0
  have lt0 : ∀ x ∈ p0, x.block < W.heap.size := by obtain ⟨m, hm⟩ := k0; exact DataW.trod_lt m _ _ _ hm
  obtain ⟨f0, g0⟩ := RdM.of h0 hsz (j := 0) rfl rfl
  obtain ⟨a0, n0, c0, rfl⟩ := okWide_slice Try.underlying38 (hval 0 38 v0 rfl rfl)
  obtain ⟨_, _, _, rs0, he, hn0, hc0, hr0, hb0⟩ := rowsW_ofM g0
  cases he
  clear hA0 hval0
  refine Calls.mono (by
    have hsb := allW_bulk (k := 10) (by decide) hr0
    have hlb := rows_bulk rs0
    exact merges7_ok _ _ _ rs0 W hc0 hn0 hr0 (by omega) (by omega)) (fun e W' he => ?_)
  cases e with
  | returned v =>
    obtain ⟨rfl, ext⟩ := he
    have bel := ext.below
    exact ⟨_, rfl, _, _, _, [], _, [], hW', trodAll_mk1 (shut_bool Try.underlying4 _), (trodAll_cons_mk (Below.trod laidOut (by kernel_rfl) (of_decide_eq_true (by kernel_rfl)) k0 bel lt0) trodAll_mk0), rfl, bel.frame _, fun h => by cases h⟩
  | panicked c => exact he.elim
  | outgrown => exact he.elim
theorem k_wf : Rows.recordMergesUptoRow.wf (OpenSpec.ofChange Rows.recordMergesSpec) = true := by kernel_rfl
theorem k_in : (Rows.recordMergesUptoRow.inPlace == Try.prog.inPlace 4) = true := by kernel_rfl
theorem k_un : (Rows.recordMergesUptoRow.unfollowed == Try.prog.unfollowed 4) = true := by kernel_rfl
theorem k_re : (Rows.recordMergesUptoRow.recurses == Try.prog.recurses 4) = true := by kernel_rfl
theorem k_na : (Rows.recordMergesUptoRow.named == Try.prog.varsNamed 4) = true := by kernel_rfl
theorem k_fn : Try.pinned.checked.prog.funcNamed Rows.recordMergesUptoRow.func = some 4 := by kernel_rfl
theorem closed : joinedFacts Try.prog 4 Try.f4 Rows.recordMergesSpec Rows.recordMergesUptoRow = true := by
  unfold joinedFacts
  simp only [Bool.and_eq_true]
  exact ⟨⟨⟨⟨⟨⟨⟨⟨⟨⟨⟨⟨⟨⟨⟨⟨⟨⟨⟨⟨⟨⟨⟨⟨⟨⟨⟨⟨⟨⟨⟨k_wf, Facts.laid⟩, Facts.mapsRowed⟩, by kernel_rfl⟩, by kernel_rfl⟩, by kernel_rfl⟩, Facts.stops⟩, by kernel_rfl⟩, Facts.stopKnobs⟩, k_in⟩, k_un⟩, k_re⟩, k_na⟩, by kernel_rfl⟩, by kernel_rfl⟩, by kernel_rfl⟩, by kernel_rfl⟩, by kernel_rfl⟩, by kernel_rfl⟩, by kernel_rfl⟩, by kernel_rfl⟩, by kernel_rfl⟩, (by rw [Facts.plainKeys]; rfl)⟩, by kernel_rfl⟩, Facts.stopsHeard⟩, Facts.mayEnter⟩, (by rw [Facts.lifts]; rfl)⟩, (by rw [Facts.make]; kernel_rfl)⟩, by kernel_rfl⟩, by kernel_rfl⟩, by kernel_rfl⟩, by kernel_rfl⟩
theorem over : Rows.recordMergesUptoRow.holds Try.pinned (Rows.OpenSpec.upto Rows.recordMergesSpec) :=
  Upt.holds 4 Try.f4 rfl rfl rfl rfl rfl rfl rfl ⟨rfl, rfl, rfl, rfl, rfl⟩ rfl rfl rfl rfl rfl rfl k_fn Try.func4 closed
    (of_decide_eq_true (by kernel_rfl)) (by unfold Func.isWrapper; first | (rw [if_pos (by decide +kernel)]; kernel_rfl) | (rw [if_neg (by decide +kernel)]; exact ⟨rfl, rfl⟩))
    (fun os started H enc _ => lifted os started H enc)
end Go.Proofs.Ytiiiplhfgblamaa.recordMerges
namespace Go.Proofs.Ytiiiplhfgblamaa
theorem recordMergesUpto_holds : Rows.RecordMergesUptoSaid := recordMerges.over
end Go.Proofs.Ytiiiplhfgblamaa
#print axioms Go.Proofs.Ytiiiplhfgblamaa.recordMergesUpto_holds
