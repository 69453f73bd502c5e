/-
  Texts of this claim, put together.
-/
import Derived.Test.YtiiiplhfgblamaaRows
import Derived.Test.YtiiiplhfgblamaaFacA
import Derived.Test.YtiiiplhfgblamaaFacB
import Derived.Test.YtiiiplhfgblamaaFacC
import Derived.Test.YtiiiplhfgblamaaFacD
import Derived.Test.YtiiiplhfgblamaaRecBLz5
/-
  The law RecordBack, where the arguments are of bulk at most 1048576.
-/
set_option linter.unusedVariables false
namespace Go.Proofs.Ytiiiplhfgblamaa.recordBack
open Go Brv Go.ChangeShapes Go.WideShapes Go.ChangeAt Go.RowKit
open Go.ChangeMaps (open_string shut_string)

theorem own : ownKnob Try.prog.godebug = none := by kernel_rfl
theorem laidOut : laidOutB Try.prog = true := Facts.laid
set_option maxHeartbeats 2000000 in
set_option maxRecDepth 100000 in
theorem lifted (os : Os) (started : os.Started) (H : Type) (enc : TypeId × Value → H) :
    ReturnsInHanded {} Try.checked os 5 .any (fun w args => (Rows.recordBackSpec.pre enc Try.prog Try.f5 Rows.recordBackUptoRow.domain false w args ∧ Upt.X enc Try.prog Try.f5 Rows.recordBackSpec false Rows.uptoSmall w args) ∧ sizedMet enc Try.prog Try.f5 (OpenSpec.ofChange Rows.recordBackSpec) false w args) (Rows.recordBackSpec.post enc Try.prog Try.f5 false true false false) := by
  refine returnsInHanded_of_change_and (C := Try.checked) (X := Upt.X enc Try.prog Try.f5 Rows.recordBackSpec false Rows.uptoSmall) Upt.X_heap own started (by kernel_rfl) Try.func5
    (Upt.witness (enc := enc) (C := Try.checked) false ⟨#[], #[.agg #[.int .i64 0, .int .i64 0, .int .i64 0, .slice none 0 0], .slice none 0 0], []⟩ 8 (by kernel_rfl) (by kernel_rfl) (by kernel_rfl) (by kernel_rfl) (by kernel_rfl)) ?_
  intro W base args ds gs before hval0 hW hcnd hsz hx _
  have hval : ∀ (j : Nat) t v, Try.f5.params[j]? = some t → args[j]? = some v → Value.okWide Try.prog W .any base t v := hval0
  have hW' := hW
  obtain ⟨ds', gs', before', hW2, hk⟩ := hx
  obtain ⟨rfl, rfl, _⟩ := hW.unique hW2
  have hsm := of_decide_eq_true hk
  clear hk hW2
  obtain ⟨p, q, hA0, hV, rfl, hfz, hnd⟩ := hW
  have hA : DataW.TrodAll enc Try.prog W 0 (fun _ => true) true Try.f5.params.toList args.toList ds p := hA0
  rw [Try.params5] at hA hval hsz
  obtain ⟨v0, vs0, d0, ds0, p0, q0, hargs, rfl, rfl, h0, r0⟩ := trodAll_cons hA
  obtain ⟨v1, vs1, d1, ds1, p1, q1, rfl, rfl, rfl, h1, r1⟩ := trodAll_cons r0
  obtain ⟨rfl, rfl, rfl⟩ := trodAll_nil r1
  obtain rfl : args = #[v0, v1] := by cases args; simp_all
  obtain ⟨rfl, rfl⟩ := trodVars_none hV
  simp only [List.append_nil, Rows.uptoBulkAll] at hsm
  have k0 := h0
  have lt0 : ∀ x ∈ p0, x.block < W.heap.size := by obtain ⟨m, hm⟩ := k0; exact DataW.trod_lt m _ _ _ hm
  obtain ⟨f0, g0⟩ := RdM.of h0 hsz (j := 0) rfl rfl
  obtain ⟨cs0, rfl, hz0⟩ := Brv.okWide_struct Try.underlying24 (hval 0 24 v0 rfl rfl)
  obtain ⟨o0, he0, ok0, hb0⟩ := recordV_ofM f0 _ _ g0
  obtain rfl : cs0 = o0.cells.toArray := Array.toList_inj.1 he0
  have k1 := h1
  have lt1 : ∀ x ∈ p1, x.block < W.heap.size := by obtain ⟨m, hm⟩ := k1; exact DataW.trod_lt m _ _ _ hm
  obtain ⟨f1, g1⟩ := RdM.of h1 hsz (j := 1) rfl rfl
  obtain ⟨a1, n1, c1, rfl⟩ := okWide_slice Try.underlying38 (hval 1 38 v1 rfl rfl)
  obtain ⟨_, _, _, rs1, he, hn1, hc1, hr1, hb1⟩ := rowsW_ofM g1
  cases he
  clear hA0 hval0
  refine Calls.mono (by
    have h0 := RowW.sum_bulk (k := 8) (by decide) (RecordV.row_ok ok0)
    have hbr : o0.row.bulk ≤ o0.bulk := by show (o0.Writes'.map WriteV.bulk).sum + 1 ≤ 1 + 1 + 1 + ((o0.Writes'.map WriteV.bulk).sum + 1); omega
    refine back7_ok _ _ _ o0.row _ _ _ rs1 W (RecordV.row_ok ok0) (by omega) hc1 hn1 hr1 (fun q hq => ?_)
    have h1 := RowW.sum_bulk (k := 8) (by decide) (hr1 q hq)
    have h2 := row_bulk_le hq
    omega) (fun e W' he => ?_)
  cases e with
  | returned v =>
    obtain ⟨rfl, ext⟩ := he
    have bel := ext.below
    exact ⟨_, rfl, _, _, _, [], _, [], hW', trodAll_mk1 (shut_bool Try.underlying4 _), (trodAll_cons_mk (Below.trod laidOut (by kernel_rfl) (of_decide_eq_true (by kernel_rfl)) k0 bel lt0) (trodAll_cons_mk (Below.trod laidOut (by kernel_rfl) (of_decide_eq_true (by kernel_rfl)) k1 bel lt1) trodAll_mk0)), rfl, bel.frame _, fun h => by cases h⟩
  | panicked c => exact he.elim
  | outgrown => exact he.elim
theorem k_wf : Rows.recordBackUptoRow.wf (OpenSpec.ofChange Rows.recordBackSpec) = true := by kernel_rfl
theorem k_in : (Rows.recordBackUptoRow.inPlace == Try.prog.inPlace 5) = true := by kernel_rfl
theorem k_un : (Rows.recordBackUptoRow.unfollowed == Try.prog.unfollowed 5) = true := by kernel_rfl
theorem k_re : (Rows.recordBackUptoRow.recurses == Try.prog.recurses 5) = true := by kernel_rfl
theorem k_na : (Rows.recordBackUptoRow.named == Try.prog.varsNamed 5) = true := by kernel_rfl
theorem k_fn : Try.pinned.checked.prog.funcNamed Rows.recordBackUptoRow.func = some 5 := by kernel_rfl
theorem closed : joinedFacts Try.prog 5 Try.f5 Rows.recordBackSpec Rows.recordBackUptoRow = true := by
  unfold joinedFacts
  simp only [Bool.and_eq_true]
  exact ⟨⟨⟨⟨⟨⟨⟨⟨⟨⟨⟨⟨⟨⟨⟨⟨⟨⟨⟨⟨⟨⟨⟨⟨⟨⟨⟨⟨⟨⟨⟨k_wf, Facts.laid⟩, Facts.mapsRowed⟩, by kernel_rfl⟩, by kernel_rfl⟩, by kernel_rfl⟩, Facts.stops⟩, by kernel_rfl⟩, Facts.stopKnobs⟩, k_in⟩, k_un⟩, k_re⟩, k_na⟩, by kernel_rfl⟩, by kernel_rfl⟩, by kernel_rfl⟩, by kernel_rfl⟩, by kernel_rfl⟩, by kernel_rfl⟩, by kernel_rfl⟩, by kernel_rfl⟩, by kernel_rfl⟩, (by rw [Facts.plainKeys]; rfl)⟩, by kernel_rfl⟩, Facts.stopsHeard⟩, Facts.mayEnter⟩, (by rw [Facts.lifts]; rfl)⟩, (by rw [Facts.make]; kernel_rfl)⟩, by kernel_rfl⟩, by kernel_rfl⟩, by kernel_rfl⟩, by kernel_rfl⟩
theorem over : Rows.recordBackUptoRow.holds Try.pinned (Rows.OpenSpec.upto Rows.recordBackSpec) :=
  Upt.holds 5 Try.f5 rfl rfl rfl rfl rfl rfl rfl ⟨rfl, rfl, rfl, rfl, rfl⟩ rfl rfl rfl rfl rfl rfl k_fn Try.func5 closed
    (of_decide_eq_true (by kernel_rfl)) (by unfold Func.isWrapper; first | (rw [if_pos (by decide +kernel)]; kernel_rfl) | (rw [if_neg (by decide +kernel)]; exact ⟨rfl, rfl⟩))
    (fun os started H enc _ => lifted os started H enc)
end Go.Proofs.Ytiiiplhfgblamaa.recordBack
namespace Go.Proofs.Ytiiiplhfgblamaa
theorem recordBackUpto_holds : Rows.RecordBackUptoSaid := recordBack.over
end Go.Proofs.Ytiiiplhfgblamaa
#print axioms Go.Proofs.Ytiiiplhfgblamaa.recordBackUpto_holds
