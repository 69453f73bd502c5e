/-
  The law FrameBack.
-/
import Derived.Test.YtjmlcodlnohgdaaRows
import Derived.Test.YtjmlcodlnohgdaaFrameB
import Derived.Test.YtjmlcodlnohgdaaC7
set_option linter.unusedVariables false
namespace Go.Proofs.Ytjmlcodlnohgdaa.frameBack
open Go Brv Go.ChangeShapes Go.WideShapes Go.ChangeAt Go.RowKit
open Go.ChangeMaps (open_string shut_string)

theorem own : ownKnob Try.prog.godebug = none := by kernel_rfl
theorem laidOut : laidOutB Try.prog = true := by kernel_rfl
set_option maxHeartbeats 2000000 in
set_option maxRecDepth 100000 in
theorem lifted (os : Os) (started : os.Started) (H : Type) (enc : TypeId × Value → H) :
    ReturnsInHanded {} Try.checked os 14 .any (Rows.frameBackSpec.pre6 enc Try.prog Try.f14 Rows.frameBackRow.domain false) (Rows.frameBackSpec.post enc Try.prog Try.f14 false true false false) := by
  refine returnsInHanded_of_change_sized (C := Try.checked) own started (by kernel_rfl) Try.func14
    (ChangeSpec.witness6 (enc := enc) (C := Try.checked) false ⟨#[], #[.int .u32 0, .slice none 0 0, .int .u8 0], []⟩ 8 (by kernel_rfl) (by kernel_rfl) (by kernel_rfl) (by kernel_rfl)) ?_
  intro W base args ds gs before hval0 hW hcnd hsz _
  have hval : ∀ (j : Nat) t v, Try.f14.params[j]? = some t → args[j]? = some v → Value.okWide Try.prog W .any base t v := hval0
  have hW' := hW
  obtain ⟨p, q, hA0, hV, rfl, hfz, hnd⟩ := hW
  have hA : DataW.TrodAll enc Try.prog W 0 (fun _ => true) true Try.f14.params.toList args.toList ds p := hA0
  rw [Try.params14] at hA hval hsz
  obtain ⟨v0, vs0, d0, ds0, p0, q0, hargs, rfl, rfl, h0, r0⟩ := trodAll_cons hA
  obtain ⟨v1, vs1, d1, ds1, p1, q1, rfl, rfl, rfl, h1, r1⟩ := trodAll_cons r0
  obtain ⟨v2, vs2, d2, ds2, p2, q2, rfl, rfl, rfl, h2, r2⟩ := trodAll_cons r1
  obtain ⟨rfl, rfl, rfl⟩ := trodAll_nil r2
  obtain rfl : args = #[v0, v1, v2] := by cases args; simp_all
  obtain ⟨rfl, rfl⟩ := trodVars_none hV
  have k0 := h0
  have lt0 : ∀ x ∈ p0, x.block < W.heap.size := by obtain ⟨m, hm⟩ := k0; exact DataW.trod_lt m _ _ _ hm
  obtain ⟨f0, g0⟩ := Rd.of h0 hsz (j := 0) rfl rfl
  clear k0
  obtain ⟨x0, rfl, rfl, rfl, wf0⟩ := open_int Try.underlying108 (hval 0 108 v0 rfl rfl) h0
  have k1 := h1
  have lt1 : ∀ x ∈ p1, x.block < W.heap.size := by obtain ⟨m, hm⟩ := k1; exact DataW.trod_lt m _ _ _ hm
  obtain ⟨f1, g1⟩ := Rd.of h1 hsz (j := 1) rfl rfl
  obtain ⟨a1, n1, c1, rfl⟩ := okWide_slice Try.underlying28 (hval 1 28 v1 rfl rfl)
  obtain ⟨_, _, _, l1, he, hc1, hn1, hr1, B1⟩ := g1.bytes (by kernel_rfl) (by kernel_rfl)
  cases he
  have k2 := h2
  have lt2 : ∀ x ∈ p2, x.block < W.heap.size := by obtain ⟨m, hm⟩ := k2; exact DataW.trod_lt m _ _ _ hm
  obtain ⟨f2, g2⟩ := Rd.of h2 hsz (j := 2) rfl rfl
  clear k2
  obtain ⟨x2, rfl, rfl, rfl, wf2⟩ := open_int Try.underlying5 (hval 2 5 v2 rfl rfl) h2
  obtain ⟨y2, rfl⟩ := u8_of_wf wf2
  clear hA0 hval0
  refine Calls.mono (frameBack_ok x0 a1 n1 c1 l1 y2.toNat W (wf_u32 wf0) B1 hc1 (by have := y2.toNat_lt; omega)) (fun e W' he => ?_)
  cases e with
  | returned v =>
    obtain ⟨rfl, ext⟩ := he
    have bel := ext.below
    exact ⟨_, rfl, _, _, _, [], _, [], hW', trodAll_mk1 (shut_bool Try.underlying4 _), (trodAll_cons_mk (shut_int Try.underlying108 wf0) (trodAll_cons_mk (Below.trod laidOut (by kernel_rfl) (of_decide_eq_true (by kernel_rfl)) k1 bel lt1) (trodAll_cons_mk (shut_int Try.underlying5 wf2) trodAll_mk0))), rfl, bel.frame _, fun h => by cases h⟩
  | panicked c => exact he.elim
  | outgrown => exact he.elim
theorem over : Rows.frameBackRow.holds Try.pinned (OpenSpec.ofChange Rows.frameBackSpec) :=
  OpenClaim.holds_of_wide 14 Try.f14 rfl rfl rfl rfl rfl rfl rfl ⟨rfl, rfl, rfl, rfl, rfl⟩ rfl rfl rfl rfl rfl (by kernel_rfl) Try.func14 (by kernel_rfl)
    (of_decide_eq_true (by kernel_rfl)) (by unfold Func.isWrapper; first | (rw [if_pos (by decide +kernel)]; kernel_rfl) | (rw [if_neg (by decide +kernel)]; exact ⟨rfl, rfl⟩))
    (fun os started H enc _ => lifted os started H enc)
end Go.Proofs.Ytjmlcodlnohgdaa.frameBack
namespace Go.Proofs.Ytjmlcodlnohgdaa
theorem frameBack_holds : Rows.FrameBackSaid := frameBack.over
end Go.Proofs.Ytjmlcodlnohgdaa
#print axioms Go.Proofs.Ytjmlcodlnohgdaa.frameBack_holds
