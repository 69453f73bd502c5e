/-
  Texts of this claim, put together.
-/
import Derived.Test.YtmbppidafnakhaaRows
import Derived.Test.YtmbppidafnakhaaFacA
import Derived.Test.YtmbppidafnakhaaFacB
import Derived.Test.YtmbppidafnakhaaFacC
import Derived.Test.YtmbppidafnakhaaFacD
import Derived.Test.YtmbppidafnakhaaPoolPLz4
/-
  The law PoolPlays: what a pool has, saves and refuses, whatever is done.
-/
set_option linter.unusedVariables false
namespace Go.Proofs.Ytmbppidafnakhaa.poolPlays
open Go Brv Go.ChangeShapes Go.WideShapes Go.ChangeAt Go.RowKit
open Go.ChangeMaps (open_string shut_string)

theorem own : ownKnob Try.prog.godebug = none := by kernel_rfl
theorem laidOut : laidOutB Try.prog = true := Facts.laid
set_option maxHeartbeats 2000000 in
set_option maxRecDepth 100000 in
theorem lifted (os : Os) (started : os.Started) (H : Type) (enc : TypeId × Value → H) :
    ReturnsInHanded {} Try.checked os 5 .any (Rows.poolPlaysSpec.pre6 enc Try.prog Try.f5 Rows.poolPlaysRow.domain false) (Rows.poolPlaysSpec.post enc Try.prog Try.f5 false true false false) := by
  refine returnsInHanded_of_change_sized (C := Try.checked) own started (by kernel_rfl) Try.func5
    (ChangeSpec.witness6 (enc := enc) (C := Try.checked) false ⟨#[], #[.int .i64 0, .int .i64 0, .slice none 0 0], []⟩ 8 (by kernel_rfl) (by kernel_rfl) (by kernel_rfl) (by kernel_rfl)) ?_
  intro W base args ds gs before hval0 hW hcnd hsz _
  have hval : ∀ (j : Nat) t v, Try.f5.params[j]? = some t → args[j]? = some v → Value.okWide Try.prog W .any base t v := hval0
  have hW' := hW
  obtain ⟨p, q, hA0, hV, rfl, hfz, hnd⟩ := hW
  have hA : DataW.TrodAll enc Try.prog W 0 (fun _ => true) true Try.f5.params.toList args.toList ds p := hA0
  rw [Try.params5] at hA hval hsz
  obtain ⟨v0, vs0, d0, ds0, p0, q0, hargs, rfl, rfl, h0, r0⟩ := trodAll_cons hA
  obtain ⟨v1, vs1, d1, ds1, p1, q1, rfl, rfl, rfl, h1, r1⟩ := trodAll_cons r0
  obtain ⟨v2, vs2, d2, ds2, p2, q2, rfl, rfl, rfl, h2, r2⟩ := trodAll_cons r1
  obtain ⟨rfl, rfl, rfl⟩ := trodAll_nil r2
  obtain rfl : args = #[v0, v1, v2] := by cases args; simp_all
  obtain ⟨rfl, rfl⟩ := trodVars_none hV
  have k0 := h0
  have lt0 : ∀ x ∈ p0, x.block < W.heap.size := by obtain ⟨m, hm⟩ := k0; exact DataW.trod_lt m _ _ _ hm
  obtain ⟨f0, g0⟩ := Rd.of h0 hsz (j := 0) rfl rfl
  clear k0
  obtain ⟨x0, rfl, rfl, rfl, wf0⟩ := open_int Try.underlying3 (hval 0 3 v0 rfl rfl) h0
  have k1 := h1
  have lt1 : ∀ x ∈ p1, x.block < W.heap.size := by obtain ⟨m, hm⟩ := k1; exact DataW.trod_lt m _ _ _ hm
  obtain ⟨f1, g1⟩ := Rd.of h1 hsz (j := 1) rfl rfl
  clear k1
  obtain ⟨x1, rfl, rfl, rfl, wf1⟩ := open_int Try.underlying3 (hval 1 3 v1 rfl rfl) h1
  have k2 := h2
  have lt2 : ∀ x ∈ p2, x.block < W.heap.size := by obtain ⟨m, hm⟩ := k2; exact DataW.trod_lt m _ _ _ hm
  obtain ⟨f2, g2⟩ := Rd.of h2 hsz (j := 2) rfl rfl
  obtain ⟨a2, n2, c2, rfl⟩ := okWide_slice Try.underlying42 (hval 2 42 v2 rfl rfl)
  obtain ⟨_, _, _, os2, he, hc2, hb2, T2, K2⟩ := opV_rows42 g2
  cases he
  have hn2 : n2 = os2.length := by have := T2.len; simpa using this
  clear hA0 hval0
  refine Calls.mono (by
    have hO : OpsOk W a2 n2 os2 := ⟨hn2, T2, K2⟩
    by_cases hE : pnewE 20 x0 x1 = 0
    · have hE1 := hE
      unfold pnewE at hE1
      have h1 : ¬ (x0 < 0 ∨ x1 < 1 ∨ 64 < x1) := fun h => by rw [if_pos h] at hE1; cases hE1
      rw [if_neg h1] at hE1
      have h2 : ¬ (((20 : Nat) : Int) - x1 < x0) := fun h => by rw [if_pos h] at hE1; cases hE1
      obtain ⟨fr, rfl⟩ := Int.eq_ofNat_of_zero_le (show 0 ≤ x0 by omega)
      obtain ⟨B, rfl⟩ := Int.eq_ofNat_of_zero_le (show 0 ≤ x1 by omega)
      exact plays_yes fr B a2 n2 c2 os2 W (by omega) (by omega) (by omega) hO
    · exact plays_no x0 x1 a2 n2 c2 os2 W hE hO) (fun e W' he => ?_)
  cases e with
  | returned v =>
    obtain ⟨rfl, ext⟩ := he
    have bel := ext.below
    exact ⟨_, rfl, _, _, _, [], _, [], hW', trodAll_mk1 (shut_bool Try.underlying4 _), (trodAll_cons_mk (shut_int Try.underlying3 wf0) (trodAll_cons_mk (shut_int Try.underlying3 wf1) (trodAll_cons_mk (Below.trod laidOut (by kernel_rfl) (of_decide_eq_true (by kernel_rfl)) k2 bel lt2) trodAll_mk0))), rfl, bel.frame _, fun h => by cases h⟩
  | panicked c => exact he.elim
  | outgrown => exact he.elim
theorem k_wf : Rows.poolPlaysRow.wf (OpenSpec.ofChange Rows.poolPlaysSpec) = true := by kernel_rfl
theorem k_in : (Rows.poolPlaysRow.inPlace == Try.prog.inPlace 5) = true := by kernel_rfl
theorem k_un : (Rows.poolPlaysRow.unfollowed == Try.prog.unfollowed 5) = true := by kernel_rfl
theorem k_re : (Rows.poolPlaysRow.recurses == Try.prog.recurses 5) = true := by kernel_rfl
theorem k_na : (Rows.poolPlaysRow.named == Try.prog.varsNamed 5) = true := by kernel_rfl
theorem k_fn : Try.pinned.checked.prog.funcNamed Rows.poolPlaysRow.func = some 5 := by kernel_rfl
theorem closed : joinedFacts Try.prog 5 Try.f5 Rows.poolPlaysSpec Rows.poolPlaysRow = true := by
  unfold joinedFacts
  simp only [Bool.and_eq_true]
  exact ⟨⟨⟨⟨⟨⟨⟨⟨⟨⟨⟨⟨⟨⟨⟨⟨⟨⟨⟨⟨⟨⟨⟨⟨⟨⟨⟨⟨⟨⟨⟨k_wf, Facts.laid⟩, Facts.mapsRowed⟩, by kernel_rfl⟩, by kernel_rfl⟩, by kernel_rfl⟩, Facts.stops⟩, by kernel_rfl⟩, Facts.stopKnobs⟩, k_in⟩, k_un⟩, k_re⟩, k_na⟩, by kernel_rfl⟩, by kernel_rfl⟩, by kernel_rfl⟩, by kernel_rfl⟩, by kernel_rfl⟩, by kernel_rfl⟩, by kernel_rfl⟩, by kernel_rfl⟩, by kernel_rfl⟩, (by rw [Facts.plainKeys]; rfl)⟩, by kernel_rfl⟩, Facts.stopsHeard⟩, Facts.mayEnter⟩, (by rw [Facts.lifts]; rfl)⟩, (by rw [Facts.make]; kernel_rfl)⟩, by kernel_rfl⟩, by kernel_rfl⟩, by kernel_rfl⟩, by kernel_rfl⟩
theorem over : Rows.poolPlaysRow.holds Try.pinned (OpenSpec.ofChange Rows.poolPlaysSpec) :=
  OpenClaim.holds_of_wide 5 Try.f5 rfl rfl rfl rfl rfl rfl rfl ⟨rfl, rfl, rfl, rfl, rfl⟩ rfl rfl rfl rfl rfl k_fn Try.func5 closed
    (of_decide_eq_true (by kernel_rfl)) (by unfold Func.isWrapper; first | (rw [if_pos (by decide +kernel)]; kernel_rfl) | (rw [if_neg (by decide +kernel)]; exact ⟨rfl, rfl⟩))
    (fun os started H enc _ => lifted os started H enc)
end Go.Proofs.Ytmbppidafnakhaa.poolPlays
namespace Go.Proofs.Ytmbppidafnakhaa
theorem poolPlays_holds : Rows.PoolPlaysSaid := poolPlays.over
end Go.Proofs.Ytmbppidafnakhaa
#print axioms Go.Proofs.Ytmbppidafnakhaa.poolPlays_holds
