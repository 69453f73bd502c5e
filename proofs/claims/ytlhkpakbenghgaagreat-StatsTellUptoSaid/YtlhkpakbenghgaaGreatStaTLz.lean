/-
  Texts of this claim, put together.
-/
import Derived.Test.YtlhkpakbenghgaaGreatRows
import Derived.Test.YtlhkpakbenghgaaGreatFacA
import Derived.Test.YtlhkpakbenghgaaGreatFacB
import Derived.Test.YtlhkpakbenghgaaGreatFacC
import Derived.Test.YtlhkpakbenghgaaGreatFacD
import Derived.Test.YtlhkpakbenghgaaGreatStaTLz4
/-
  The law StatsTell, where the arguments are of bulk at most 1048576.
-/
set_option linter.unusedVariables false
namespace Go.Proofs.YtlhkpakbenghgaaGreat.statsTell
open Go Brv Go.ChangeShapes Go.WideShapes Go.ChangeAt Go.RowKit
open Go.ChangeMaps (open_string shut_string)

theorem own : ownKnob Tryz.prog.godebug = none := by kernel_rfl
theorem laidOut : laidOutB Tryz.prog = true := Facts.laid
set_option maxHeartbeats 2000000 in
set_option maxRecDepth 100000 in
theorem lifted (os : Os) (started : os.Started) (H : Type) (enc : TypeId × Value → H) :
    ReturnsInHanded {} Tryz.checked os 3 .any (fun w args => (Rows.statsTellSpec.pre enc Tryz.prog Tryz.f3 Rows.statsTellUptoRow.domain false w args ∧ Upt.X enc Tryz.prog Tryz.f3 Rows.statsTellSpec false Rows.uptoSmall w args) ∧ sizedMet enc Tryz.prog Tryz.f3 (OpenSpec.ofChange Rows.statsTellSpec) false w args) (Rows.statsTellSpec.post enc Tryz.prog Tryz.f3 false true false false) := by
  refine returnsInHanded_of_change_and (C := Tryz.checked) (X := Upt.X enc Tryz.prog Tryz.f3 Rows.statsTellSpec false Rows.uptoSmall) Upt.X_heap own started (by kernel_rfl) Tryz.func3
    (Upt.witness (enc := enc) (C := Tryz.checked) false ⟨#[], #[.slice none 0 0, .slice none 0 0, .int .i64 0], []⟩ 8 (by kernel_rfl) (by kernel_rfl) (by kernel_rfl) (by kernel_rfl) (by kernel_rfl)) ?_
  intro W base args ds gs before hval0 hW hcnd hsz hx _
  have hval : ∀ (j : Nat) t v, Tryz.f3.params[j]? = some t → args[j]? = some v → Value.okWide Tryz.prog W .any base t v := hval0
  have hW' := hW
  obtain ⟨ds', gs', before', hW2, hk⟩ := hx
  obtain ⟨rfl, rfl, _⟩ := hW.unique hW2
  have hsm := of_decide_eq_true hk
  clear hk hW2
  obtain ⟨p, q, hA0, hV, rfl, hfz, hnd⟩ := hW
  have hA : DataW.TrodAll enc Tryz.prog W 0 (fun _ => true) true Tryz.f3.params.toList args.toList ds p := hA0
  rw [Tryz.params3] at hA hval hsz
  obtain ⟨v0, vs0, d0, ds0, p0, q0, hargs, rfl, rfl, h0, r0⟩ := trodAll_cons hA
  obtain ⟨v1, vs1, d1, ds1, p1, q1, rfl, rfl, rfl, h1, r1⟩ := trodAll_cons r0
  obtain ⟨v2, vs2, d2, ds2, p2, q2, rfl, rfl, rfl, h2, r2⟩ := trodAll_cons r1
  obtain ⟨rfl, rfl, rfl⟩ := trodAll_nil r2
  obtain rfl : args = #[v0, v1, v2] := by cases args; simp_all
  obtain ⟨rfl, rfl⟩ := trodVars_none hV
  simp only [List.append_nil, Rows.uptoBulkAll] at hsm
  have k0 := h0
  have lt0 : ∀ x ∈ p0, x.block < W.heap.size := by obtain ⟨m, hm⟩ := k0; exact DataW.trod_lt m _ _ _ hm
  obtain ⟨f0, g0⟩ := RdM.of h0 hsz (j := 0) rfl rfl
  obtain ⟨a0, n0, c0, rfl⟩ := okWide_slice Tryz.underlying22 (hval 0 22 v0 rfl rfl)
  obtain ⟨_, _, _, os0, he, hc0, hm0, T0, K0, hb0⟩ := itemV_rowsM22 g0
  cases he
  have hn0 : n0 = os0.length := by have := T0.len; simpa using this
  have k1 := h1
  have lt1 : ∀ x ∈ p1, x.block < W.heap.size := by obtain ⟨m, hm⟩ := k1; exact DataW.trod_lt m _ _ _ hm
  obtain ⟨f1, g1⟩ := RdM.of h1 hsz (j := 1) rfl rfl
  obtain ⟨a1, n1, c1, rfl⟩ := okWide_slice Tryz.underlying23 (hval 1 23 v1 rfl rfl)
  obtain ⟨_, _, _, os1, he, hc1, hm1, T1, K1, hb1⟩ := recV_rowsM23 g1
  cases he
  have hn1 : n1 = os1.length := by have := T1.len; simpa using this
  have k2 := h2
  have lt2 : ∀ x ∈ p2, x.block < W.heap.size := by obtain ⟨m, hm⟩ := k2; exact DataW.trod_lt m _ _ _ hm
  obtain ⟨f2, g2⟩ := RdM.of h2 hsz (j := 2) rfl rfl
  clear k2
  obtain ⟨x2, rfl, rfl, rfl, wf2⟩ := open_int Tryz.underlying3 (hval 2 3 v2 rfl rfl) h2
  clear hA0 hval0
  refine Calls.mono (by
    have hw := szR_bulk os1
    have hv := szI_bulk os0
    exact tell_law a0 n0 c0 os0 a1 n1 c1 os1 x2 W ⟨hn0, T0, K0⟩ ⟨hn1, T1, fun x hx => RecX.of (K1 x hx)⟩ (wf_i64 wf2).2 (by omega)) (fun e W' he => ?_)
  cases e with
  | returned v =>
    obtain ⟨rfl, ext⟩ := he
    have bel := ext.below
    exact ⟨_, rfl, _, _, _, [], _, [], hW', trodAll_mk1 (shut_bool Tryz.underlying4 _), (trodAll_cons_mk (Below.trod laidOut (by kernel_rfl) (of_decide_eq_true (by kernel_rfl)) k0 bel lt0) (trodAll_cons_mk (Below.trod laidOut (by kernel_rfl) (of_decide_eq_true (by kernel_rfl)) k1 bel lt1) (trodAll_cons_mk (shut_int Tryz.underlying3 wf2) trodAll_mk0))), rfl, bel.frame _, fun h => by cases h⟩
  | panicked c => exact he.elim
  | outgrown => exact he.elim
theorem k_wf : Rows.statsTellUptoRow.wf (OpenSpec.ofChange Rows.statsTellSpec) = true := by kernel_rfl
theorem k_in : (Rows.statsTellUptoRow.inPlace == Tryz.prog.inPlace 3) = true := by kernel_rfl
theorem k_un : (Rows.statsTellUptoRow.unfollowed == Tryz.prog.unfollowed 3) = true := by kernel_rfl
theorem k_re : (Rows.statsTellUptoRow.recurses == Tryz.prog.recurses 3) = true := by kernel_rfl
theorem k_na : (Rows.statsTellUptoRow.named == Tryz.prog.varsNamed 3) = true := by kernel_rfl
theorem k_fn : Tryz.pinned.checked.prog.funcNamed Rows.statsTellUptoRow.func = some 3 := by kernel_rfl
theorem closed : joinedFacts Tryz.prog 3 Tryz.f3 Rows.statsTellSpec Rows.statsTellUptoRow = true := by
  unfold joinedFacts
  simp only [Bool.and_eq_true]
  exact ⟨⟨⟨⟨⟨⟨⟨⟨⟨⟨⟨⟨⟨⟨⟨⟨⟨⟨⟨⟨⟨⟨⟨⟨⟨⟨⟨⟨⟨⟨⟨k_wf, Facts.laid⟩, Facts.mapsRowed⟩, by kernel_rfl⟩, by kernel_rfl⟩, by kernel_rfl⟩, Facts.stops⟩, by kernel_rfl⟩, Facts.stopKnobs⟩, k_in⟩, k_un⟩, k_re⟩, k_na⟩, by kernel_rfl⟩, by kernel_rfl⟩, by kernel_rfl⟩, by kernel_rfl⟩, by kernel_rfl⟩, by kernel_rfl⟩, by kernel_rfl⟩, by kernel_rfl⟩, by kernel_rfl⟩, (by rw [Facts.plainKeys]; rfl)⟩, by kernel_rfl⟩, Facts.stopsHeard⟩, Facts.mayEnter⟩, (by rw [Facts.lifts]; rfl)⟩, (by rw [Facts.make]; kernel_rfl)⟩, by kernel_rfl⟩, by kernel_rfl⟩, by kernel_rfl⟩, by kernel_rfl⟩
theorem over : Rows.statsTellUptoRow.holds Tryz.pinned (Rows.OpenSpec.upto Rows.statsTellSpec) :=
  Upt.holds 3 Tryz.f3 rfl rfl rfl rfl rfl rfl rfl ⟨rfl, rfl, rfl, rfl, rfl⟩ rfl rfl rfl rfl rfl rfl k_fn Tryz.func3 closed
    (of_decide_eq_true (by kernel_rfl)) (by unfold Func.isWrapper; first | (rw [if_pos (by decide +kernel)]; kernel_rfl) | (rw [if_neg (by decide +kernel)]; exact ⟨rfl, rfl⟩))
    (fun os started H enc _ => lifted os started H enc)
end Go.Proofs.YtlhkpakbenghgaaGreat.statsTell
namespace Go.Proofs.YtlhkpakbenghgaaGreat
theorem statsTellUpto_holds : Rows.StatsTellUptoSaid := statsTell.over
end Go.Proofs.YtlhkpakbenghgaaGreat
#print axioms Go.Proofs.YtlhkpakbenghgaaGreat.statsTellUpto_holds
