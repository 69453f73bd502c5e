/-
  Texts of this claim, put together.
-/
import Derived.Test.YthpolibakkmmeaaRows
import Derived.Test.YthpolibakkmmeaaFacA
import Derived.Test.YthpolibakkmmeaaFacB
import Derived.Test.YthpolibakkmmeaaFacC
import Derived.Test.YthpolibakkmmeaaFacD
import Derived.Test.YthpolibakkmmeaaCtlCLz4
/-
  The law ControlCrash.
-/
set_option linter.unusedVariables false
namespace Go.Proofs.Ythpolibakkmmeaa.controlCrash
open Go Brv Go.ChangeShapes Go.WideShapes Go.ChangeAt Go.RowKit
open Go.ChangeMaps (open_string shut_string)

theorem own : ownKnob Try.prog.godebug = none := by kernel_rfl
theorem laidOut : laidOutB Try.prog = true := Facts.laid
set_option maxHeartbeats 2000000 in
set_option maxRecDepth 100000 in
theorem lifted (os : Os) (started : os.Started) (H : Type) (enc : TypeId × Value → H) :
    ReturnsInHanded {} Try.checked os 12 .any (Rows.controlCrashSpec.pre6 enc Try.prog Try.f12 Rows.controlCrashRow.domain false) (Rows.controlCrashSpec.post enc Try.prog Try.f12 false true false false) := by
  refine returnsInHanded_of_change_sized (C := Try.checked) own started (by kernel_rfl) Try.func12
    (ChangeSpec.witness6 (enc := enc) (C := Try.checked) false ⟨#[], #[.agg #[.int .i64 0, .int .i64 0, .int .i64 0, .int .i64 0, .int .i64 0, .int .i64 0, .int .i64 0], .agg #[.int .i64 0, .int .i64 0, .int .i64 0, .int .i64 0, .int .i64 0, .int .i64 0, .int .i64 0], .slice none 0 0], []⟩ 8 (by kernel_rfl) (by kernel_rfl) (by kernel_rfl) (by kernel_rfl)) ?_
  intro W base args ds gs before hval0 hW hcnd hsz _
  have hval : ∀ (j : Nat) t v, Try.f12.params[j]? = some t → args[j]? = some v → Value.okWide Try.prog W .any base t v := hval0
  have hW' := hW
  obtain ⟨p, q, hA0, hV, rfl, hfz, hnd⟩ := hW
  have hA : DataW.TrodAll enc Try.prog W 0 (fun _ => true) true Try.f12.params.toList args.toList ds p := hA0
  rw [Try.params12] at hA hval hsz
  obtain ⟨v0, vs0, d0, ds0, p0, q0, hargs, rfl, rfl, h0, r0⟩ := trodAll_cons hA
  obtain ⟨v1, vs1, d1, ds1, p1, q1, rfl, rfl, rfl, h1, r1⟩ := trodAll_cons r0
  obtain ⟨v2, vs2, d2, ds2, p2, q2, rfl, rfl, rfl, h2, r2⟩ := trodAll_cons r1
  obtain ⟨rfl, rfl, rfl⟩ := trodAll_nil r2
  obtain rfl : args = #[v0, v1, v2] := by cases args; simp_all
  obtain ⟨rfl, rfl⟩ := trodVars_none hV
  have k0 := h0
  have lt0 : ∀ x ∈ p0, x.block < W.heap.size := by obtain ⟨m, hm⟩ := k0; exact DataW.trod_lt m _ _ _ hm
  obtain ⟨f0, g0⟩ := Rd.of h0 hsz (j := 0) rfl rfl
  obtain ⟨cs0, rfl, hz0⟩ := Brv.okWide_struct Try.underlying121 (hval 0 121 v0 rfl rfl)
  obtain ⟨o0, he0, ok0⟩ := ctlR_of g0
  obtain rfl : cs0 = Brv.Control.ctlC o0.c := Array.toList_inj.1 he0
  have k1 := h1
  have lt1 : ∀ x ∈ p1, x.block < W.heap.size := by obtain ⟨m, hm⟩ := k1; exact DataW.trod_lt m _ _ _ hm
  obtain ⟨f1, g1⟩ := Rd.of h1 hsz (j := 1) rfl rfl
  obtain ⟨cs1, rfl, hz1⟩ := Brv.okWide_struct Try.underlying121 (hval 1 121 v1 rfl rfl)
  obtain ⟨o1, he1, ok1⟩ := ctlR_of g1
  obtain rfl : cs1 = Brv.Control.ctlC o1.c := Array.toList_inj.1 he1
  have k2 := h2
  have lt2 : ∀ x ∈ p2, x.block < W.heap.size := by obtain ⟨m, hm⟩ := k2; exact DataW.trod_lt m _ _ _ hm
  obtain ⟨f2, g2⟩ := Rd.of h2 hsz (j := 2) rfl rfl
  obtain ⟨a2, n2, c2, rfl⟩ := okWide_slice Try.underlying138 (hval 2 138 v2 rfl rfl)
  obtain ⟨_, _, _, ks2, he, hc2, hm2, K2, hn2⟩ := Rd.bools (E := 4) Try.underlying138 (by kernel_rfl) g2
  cases he
  subst hn2
  clear hA0 hval0
  refine Calls.mono (controlCrash_ok o0.c o1.c a2 c2 ks2 W (CtlR.inC ok0) (CtlR.inC ok1) K2 (by omega)) (fun e W' he => ?_)
  cases e with
  | returned v =>
    obtain ⟨rfl, ext⟩ := he
    have bel := ext.below
    exact ⟨_, rfl, _, _, _, [], _, [], hW', trodAll_mk1 (shut_bool Try.underlying4 _), (trodAll_cons_mk (Below.trod laidOut (by kernel_rfl) (of_decide_eq_true (by kernel_rfl)) k0 bel lt0) (trodAll_cons_mk (Below.trod laidOut (by kernel_rfl) (of_decide_eq_true (by kernel_rfl)) k1 bel lt1) (trodAll_cons_mk (Below.trod laidOut (by kernel_rfl) (of_decide_eq_true (by kernel_rfl)) k2 bel lt2) trodAll_mk0))), rfl, bel.frame _, fun h => by cases h⟩
  | panicked c => exact he.elim
  | outgrown => exact he.elim
theorem k_wf : Rows.controlCrashRow.wf (OpenSpec.ofChange Rows.controlCrashSpec) = true := by kernel_rfl
theorem k_in : (Rows.controlCrashRow.inPlace == Try.prog.inPlace 12) = true := by kernel_rfl
theorem k_un : (Rows.controlCrashRow.unfollowed == Try.prog.unfollowed 12) = true := by kernel_rfl
theorem k_re : (Rows.controlCrashRow.recurses == Try.prog.recurses 12) = true := by kernel_rfl
theorem k_na : (Rows.controlCrashRow.named == Try.prog.varsNamed 12) = true := by kernel_rfl
theorem k_fn : Try.pinned.checked.prog.funcNamed Rows.controlCrashRow.func = some 12 := by kernel_rfl
theorem closed : joinedFacts Try.prog 12 Try.f12 Rows.controlCrashSpec Rows.controlCrashRow = true := by
  unfold joinedFacts
  simp only [Bool.and_eq_true]
  exact ⟨⟨⟨⟨⟨⟨⟨⟨⟨⟨⟨⟨⟨⟨⟨⟨⟨⟨⟨⟨⟨⟨⟨⟨⟨⟨⟨⟨⟨⟨⟨k_wf, Facts.laid⟩, Facts.mapsRowed⟩, by kernel_rfl⟩, by kernel_rfl⟩, by kernel_rfl⟩, Facts.stops⟩, by kernel_rfl⟩, Facts.stopKnobs⟩, k_in⟩, k_un⟩, k_re⟩, k_na⟩, by kernel_rfl⟩, by kernel_rfl⟩, by kernel_rfl⟩, by kernel_rfl⟩, by kernel_rfl⟩, by kernel_rfl⟩, by kernel_rfl⟩, by kernel_rfl⟩, by kernel_rfl⟩, (by rw [Facts.plainKeys]; rfl)⟩, by kernel_rfl⟩, Facts.stopsHeard⟩, Facts.mayEnter⟩, (by rw [Facts.lifts]; rfl)⟩, (by rw [Facts.make]; kernel_rfl)⟩, by kernel_rfl⟩, by kernel_rfl⟩, by kernel_rfl⟩, by kernel_rfl⟩
theorem over : Rows.controlCrashRow.holds Try.pinned (OpenSpec.ofChange Rows.controlCrashSpec) :=
  OpenClaim.holds_of_wide 12 Try.f12 rfl rfl rfl rfl rfl rfl rfl ⟨rfl, rfl, rfl, rfl, rfl⟩ rfl rfl rfl rfl rfl k_fn Try.func12 closed
    (of_decide_eq_true (by kernel_rfl)) (by unfold Func.isWrapper; first | (rw [if_pos (by decide +kernel)]; kernel_rfl) | (rw [if_neg (by decide +kernel)]; exact ⟨rfl, rfl⟩))
    (fun os started H enc _ => lifted os started H enc)
end Go.Proofs.Ythpolibakkmmeaa.controlCrash
namespace Go.Proofs.Ythpolibakkmmeaa
theorem controlCrash_holds : Rows.ControlCrashSaid := controlCrash.over
end Go.Proofs.Ythpolibakkmmeaa
#print axioms Go.Proofs.Ythpolibakkmmeaa.controlCrash_holds
