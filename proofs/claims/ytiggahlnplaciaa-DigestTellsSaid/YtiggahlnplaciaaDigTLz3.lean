/-
  Texts of this claim, put together.
-/
import Derived.Test.YtiggahlnplaciaaDigTLz2
/-
  The walks of package digest.
-/
set_option linter.unusedVariables false
set_option linter.unusedSimpArgs false
set_option maxRecDepth 4000
namespace Go.Proofs.Ytiggahlnplaciaa
open Go Brv
theorem dif_nil (B : List (List Nat)) : difF [] B = ([], 0) := by
  unfold difF; rw [if_neg (fun h => by have := h.2; simp at this)]
theorem row_same {Ra Rb : List URow} (h : Ra.map URow.l = Rb.map URow.l) {i : Nat} {ra rb : URow} (ha : Ra[i]? = some ra) (hb : Rb[i]? = some rb) : ra.l = rb.l := by
  have := congrArg (fun l => l[i]?) h
  simp only [List.getElem?_map, ha, hb, Option.map_some, Option.some.injEq] at this
  exact this

theorem tells_long (a0 a1 a2 : Option Addr) (n0 n1 c0 c1 c2 : Nat) (l0 l1 : List UInt8) (ks : List Nat) (w : World) (hb0 : Bs w a0 n0 l0) (hc0 : n0 ≤ c0) (hb1 : Bs w a1 n1 l1) (hc1 : n1 ≤ c1) (hk : Cells w a2 (us ks)) (hku : okU ks) (hs : n0 > 8000 ∨ n1 > 8000 ∨ ks.length > 50) : Meets Try.prog 3 [.slice a0 n0 c0, .slice a1 n1 c1, .slice a2 ks.length c2] w (fun v w' => v = .bool true ∧ Ext [] w w') := by
  refine Meets.law Try.func3 rfl 191 rfl (Nat.le_of_ble_eq_true rfl) (law_bs (hb0) (law_bs (hb1) (law_cons (p := fun w => Cells w a2 (us ks)) (fun w9 he => hk.ext0 he) (law_nil w)))) ?_
  refine SG.fact (fun w9 F9 S9 s => (s.bs (a := a0) (n := n0) (l := l0) (by repeat (first | exact Sel.keep | exact Sel.here | apply Sel.there))).len) (fun hf9 => ?_)
  have hl0 := hf9; clear hf9
  refine SG.fact (fun w9 F9 S9 s => (s.bs (a := a1) (n := n1) (l := l1) (by repeat (first | exact Sel.keep | exact Sel.here | apply Sel.there))).len) (fun hf9 => ?_)
  have hl1 := hf9; clear hf9
  refine SG.seq ?_
  refine SG.region ?_
  refine SL.val rfl rfl (fun w9 F9 S9 s => R.as rfl) ?_
  refine SL.nil ?_
  refine SN.seq ?_
  refine SG.seq ?_
  refine SG.seq ?_
  refine SG.region ?_
  refine SL.step rfl rfl (CS.callR rfl go5 (fun w9 F9 S9 s => first44_law w9)) ?_
  rintro _ _ ⟨rfl, rfl⟩
  refine SL.val rfl rfl (fun w9 F9 S9 s => R.not rfl) ?_
  refine SL.nil ?_
  refine SN.seq ?_
  refine SG.condF rfl ?_
  refine SG.skip ?_
  refine SN.seq ?_
  refine SG.seq ?_
  refine SG.seq ?_
  refine SG.region ?_
  refine SL.val rfl rfl (fun w9 F9 S9 s => R.mv rfl) ?_
  refine SL.val rfl rfl (fun w9 F9 S9 s => R.lenS rfl) ?_
  refine SL.val rfl rfl (fun w9 F9 S9 s => R.gtr rfl rfl) ?_
  refine SL.val rfl rfl (fun w9 F9 S9 s => R.mv rfl) ?_
  refine SL.caseP 28 rfl (fun hg3_3 => ?_) (fun hg3_3 => ?_)
  · refine SL.pass rfl rfl ?_
    refine SL.pass rfl rfl ?_
    refine SL.pass rfl rfl ?_
    first | refine SL.val rfl rfl (fun w9 F9 S9 s => R.pickT rfl rfl) ?_ | refine SL.val rfl rfl (fun w9 F9 S9 s => R.pickF rfl rfl) ?_
    refine SL.val rfl rfl (fun w9 F9 S9 s => R.mv rfl) ?_
    refine SL.pass rfl rfl ?_
    refine SL.pass rfl rfl ?_
    refine SL.pass rfl rfl ?_
    first | refine SL.val rfl rfl (fun w9 F9 S9 s => R.pickT rfl rfl) ?_ | refine SL.val rfl rfl (fun w9 F9 S9 s => R.pickF rfl rfl) ?_
    refine SL.nil ?_
    refine SN.seq ?_
    refine SG.condT rfl ?_
    refine SG.seq ?_
    refine SG.region ?_
    refine SL.val rfl rfl (fun w9 F9 S9 s => R.as rfl) ?_
    refine SL.nil ?_
    refine SN.seq ?_
    exact SG.ret1 rfl rfl ((Imp.sels (by repeat (first | exact Sels.nil | apply Sels.cons | exact Sel.keep | exact Sel.here | apply Sel.there)))) (rfl)
  · refine SL.val rfl rfl (fun w9 F9 S9 s => R.mv rfl) ?_
    refine SL.val rfl rfl (fun w9 F9 S9 s => R.lenS rfl) ?_
    refine SL.val rfl rfl (fun w9 F9 S9 s => R.gtr rfl rfl) ?_
    first | refine SL.val rfl rfl (fun w9 F9 S9 s => R.pickT rfl rfl) ?_ | refine SL.val rfl rfl (fun w9 F9 S9 s => R.pickF rfl rfl) ?_
    refine SL.val rfl rfl (fun w9 F9 S9 s => R.mv rfl) ?_
    refine SL.caseP 33 rfl (fun hg3_8 => ?_) (fun hg3_8 => ?_)
    · refine SL.pass rfl rfl ?_
      refine SL.pass rfl rfl ?_
      refine SL.pass rfl rfl ?_
      first | refine SL.val rfl rfl (fun w9 F9 S9 s => R.pickT rfl rfl) ?_ | refine SL.val rfl rfl (fun w9 F9 S9 s => R.pickF rfl rfl) ?_
      refine SL.nil ?_
      refine SN.seq ?_
      refine SG.condT rfl ?_
      refine SG.seq ?_
      refine SG.region ?_
      refine SL.val rfl rfl (fun w9 F9 S9 s => R.as rfl) ?_
      refine SL.nil ?_
      refine SN.seq ?_
      exact SG.ret1 rfl rfl ((Imp.sels (by repeat (first | exact Sels.nil | apply Sels.cons | exact Sel.keep | exact Sel.here | apply Sel.there)))) (rfl)
    · refine SL.val rfl rfl (fun w9 F9 S9 s => R.mv rfl) ?_
      refine SL.val rfl rfl (fun w9 F9 S9 s => R.lenS rfl) ?_
      refine SL.val rfl rfl (fun w9 F9 S9 s => R.gtr rfl rfl) ?_
      first | refine SL.val rfl rfl (fun w9 F9 S9 s => R.pickT rfl rfl) ?_ | refine SL.val rfl rfl (fun w9 F9 S9 s => R.pickF rfl rfl) ?_
      refine SL.nil ?_
      refine SN.seq ?_
      refine SG.condP rfl (fun h1 => ?_) (fun h1 => ?_)
      · refine SG.seq ?_
        refine SG.region ?_
        refine SL.val rfl rfl (fun w9 F9 S9 s => R.as rfl) ?_
        refine SL.nil ?_
        refine SN.seq ?_
        exact SG.ret1 rfl rfl ((Imp.sels (by repeat (first | exact Sels.nil | apply Sels.cons | exact Sel.keep | exact Sel.here | apply Sel.there)))) (rfl)
      · exfalso; omega

set_option maxHeartbeats 1000000 in
theorem tells_nn (a0 a1 a2 : Option Addr) (n0 n1 c0 c1 c2 : Nat) (l0 l1 : List UInt8) (ks : List Nat) (w : World) (hb0 : Bs w a0 n0 l0) (hc0 : n0 ≤ c0) (hb1 : Bs w a1 n1 l1) (hc1 : n1 ≤ c1) (hk : Cells w a2 (us ks)) (hku : okU ks) (hs : n0 ≤ 8000 ∧ n1 ≤ 8000 ∧ ks.length ≤ 50) (hv0 : ¬ (l0.length = 64 * Image.dn l0 ∧ 1 ≤ Image.dn l0 ∧ Image.dn l0 ≤ 64)) (hv1 : ¬ (l1.length = 64 * Image.dn l1 ∧ 1 ≤ Image.dn l1 ∧ Image.dn l1 ≤ 64)) : Meets Try.prog 3 [.slice a0 n0 c0, .slice a1 n1 c1, .slice a2 ks.length c2] w (fun v w' => v = .bool true ∧ Ext [] w w') := by
  refine Meets.law Try.func3 rfl 191 rfl (Nat.le_of_ble_eq_true rfl) (law_bs (hb0) (law_bs (hb1) (law_cons (p := fun w => Cells w a2 (us ks)) (fun w9 he => hk.ext0 he) (law_nil w)))) ?_
  refine SG.fact (fun w9 F9 S9 s => (s.bs (a := a0) (n := n0) (l := l0) (by repeat (first | exact Sel.keep | exact Sel.here | apply Sel.there))).len) (fun hf9 => ?_)
  have hl0 := hf9; clear hf9
  refine SG.fact (fun w9 F9 S9 s => (s.bs (a := a1) (n := n1) (l := l1) (by repeat (first | exact Sel.keep | exact Sel.here | apply Sel.there))).len) (fun hf9 => ?_)
  have hl1 := hf9; clear hf9
  refine SG.seq ?_
  refine SG.region ?_
  refine SL.val rfl rfl (fun w9 F9 S9 s => R.as rfl) ?_
  refine SL.nil ?_
  refine SN.seq ?_
  refine SG.seq ?_
  refine SG.seq ?_
  refine SG.region ?_
  refine SL.step rfl rfl (CS.callR rfl go5 (fun w9 F9 S9 s => first44_law w9)) ?_
  rintro _ _ ⟨rfl, rfl⟩
  refine SL.val rfl rfl (fun w9 F9 S9 s => R.not rfl) ?_
  refine SL.nil ?_
  refine SN.seq ?_
  refine SG.condF rfl ?_
  refine SG.skip ?_
  refine SN.seq ?_
  refine SG.seq ?_
  refine SG.seq ?_
  refine SG.region ?_
  refine SL.val rfl rfl (fun w9 F9 S9 s => R.mv rfl) ?_
  refine SL.val rfl rfl (fun w9 F9 S9 s => R.lenS rfl) ?_
  refine SL.val rfl rfl (fun w9 F9 S9 s => R.gtr rfl rfl) ?_
  refine SL.val rfl rfl (fun w9 F9 S9 s => R.mv rfl) ?_
  refine SL.caseP 28 rfl (fun hg3_3 => ?_) (fun hg3_3 => ?_)
  · exfalso; omega
  · refine SL.val rfl rfl (fun w9 F9 S9 s => R.mv rfl) ?_
    refine SL.val rfl rfl (fun w9 F9 S9 s => R.lenS rfl) ?_
    refine SL.val rfl rfl (fun w9 F9 S9 s => R.gtr rfl rfl) ?_
    first | refine SL.val rfl rfl (fun w9 F9 S9 s => R.pickT rfl rfl) ?_ | refine SL.val rfl rfl (fun w9 F9 S9 s => R.pickF rfl rfl) ?_
    refine SL.val rfl rfl (fun w9 F9 S9 s => R.mv rfl) ?_
    refine SL.caseP 33 rfl (fun hg3_8 => ?_) (fun hg3_8 => ?_)
    · exfalso; omega
    · refine SL.val rfl rfl (fun w9 F9 S9 s => R.mv rfl) ?_
      refine SL.val rfl rfl (fun w9 F9 S9 s => R.lenS rfl) ?_
      refine SL.val rfl rfl (fun w9 F9 S9 s => R.gtr rfl rfl) ?_
      first | refine SL.val rfl rfl (fun w9 F9 S9 s => R.pickT rfl rfl) ?_ | refine SL.val rfl rfl (fun w9 F9 S9 s => R.pickF rfl rfl) ?_
      refine SL.nil ?_
      refine SN.seq ?_
      refine SG.condP rfl (fun h1 => ?_) (fun h1 => ?_)
      · exfalso; omega
      · refine SG.skip ?_
        refine SN.seq ?_
        refine SG.seq ?_
        refine SG.seq ?_
        refine SG.draw [1, 4, 8, 10] [0, 2, 3, 1, 4, 5, 6, 7, 9, 8, 10, 11, 12] (by decide +kernel) rfl ?_
        refine SW.pure rfl rfl rfl rfl (fun w9 => R.mv rfl) ?_
        refine SW.pure rfl rfl rfl rfl (fun w9 => R.mv rfl) ?_
        refine SW.read rfl rfl rfl rfl (fun w9 F9 S9 s => R.strB rfl (s.bs (l := l0) (by repeat (first | exact Sel.keep | exact Sel.here | apply Sel.there)))) ?_
        refine SW.step rfl rfl rfl rfl (CS.call rfl go6 (dsum_ok a0 n0 c0 l0 (by omega)) (by repeat (first | exact Sels.nil | apply Sels.cons | exact Sel.keep | exact Sel.here | apply Sel.there))) ?_
        rintro _ _ ⟨_, ⟨rfl, rfl⟩, rfl⟩
        refine ⟨⟨.inr (fun w9 F9 S9 s => R.strB rfl (s.bs (l := l0) (by repeat (first | exact Sel.keep | exact Sel.here | apply Sel.there)))), trivial⟩, ?_⟩
        refine SW.n0 ?_
        refine SW.step rfl rfl rfl rfl (CS.call rfl go7 (rsum_ok l0 (by omega)) (by repeat (first | exact Sels.nil | apply Sels.cons | exact Sel.keep | exact Sel.here | apply Sel.there))) ?_
        rintro _ _ ⟨_, ⟨rfl, rfl⟩, rfl⟩
        refine ⟨⟨.inl (by decide +kernel), trivial⟩, ?_⟩
        refine SW.n0 ?_
        refine SW.pure rfl rfl rfl rfl (fun w9 => R.neI rfl rfl) ?_
        refine SW.pure rfl rfl rfl rfl (fun w9 => R.mv rfl) ?_
        refine SW.caseP 44 rfl (fun hg5_6 => ?_) (fun hg5_6 => ?_)
        · exact absurd rfl hg5_6
        · refine SW.pure rfl rfl rfl rfl (fun w9 => R.mv rfl) ?_
          refine SW.pure rfl rfl rfl rfl (fun w9 => R.mv rfl) ?_
          refine SW.step rfl rfl rfl rfl (CS.call rfl go8 (dnode_ok a2 ks.length c2 ks rfl (by omega) hku) (by repeat (first | exact Sels.nil | apply Sels.cons | exact Sel.keep | exact Sel.here | apply Sel.there))) ?_
          rintro _ _ ⟨_, ⟨rfl, rfl⟩, rfl⟩
          refine ⟨⟨.inl (by decide +kernel), trivial⟩, ?_⟩
          refine SW.n0 ?_
          refine SW.step rfl rfl rfl rfl (CS.call rfl go9 (rnode_ok a2 ks.length c2 ks rfl (by omega) hku) (by repeat (first | exact Sels.nil | apply Sels.cons | exact Sel.keep | exact Sel.here | apply Sel.there))) ?_
          rintro _ _ ⟨_, ⟨rfl, rfl⟩, rfl⟩
          refine ⟨⟨.inl (by decide +kernel), trivial⟩, ?_⟩
          refine SW.n0 ?_
          refine SW.pure rfl rfl rfl rfl (fun w9 => R.neI rfl rfl) ?_
          first | refine SW.pure rfl rfl rfl rfl (fun w9 => R.pickT rfl rfl) ?_ | refine SW.pure rfl rfl rfl rfl (fun w9 => R.pickF rfl rfl) ?_
          refine SW.nil ?_
          refine SN.seq ?_
          refine SG.condP rfl (fun h2 => ?_) (fun h2 => ?_)
          · exact absurd rfl h2
          · refine SG.skip ?_
            refine SN.seq ?_
            refine SG.seq ?_
            refine SG.region ?_
            refine SL.val rfl rfl (fun w9 F9 S9 s => R.mv rfl) ?_
            refine SL.step rfl rfl (CS.callR rfl go10 (fun w9 F9 S9 s => ifromE a0 n0 c0 l0 w9 (s.bs (l := l0) (by repeat (first | exact Sel.keep | exact Sel.here | apply Sel.there))) (by omega) hv0)) ?_
            rintro _ _ ⟨rfl, rfl⟩
            refine SL.val rfl rfl (fun w9 F9 S9 s => R.mv rfl) ?_
            refine SL.val rfl rfl (fun w9 F9 S9 s => R.ext rfl rfl) ?_
            refine SL.val rfl rfl (fun w9 F9 S9 s => R.ext rfl rfl) ?_
            refine SL.val rfl rfl (fun w9 F9 S9 s => R.as rfl) ?_
            refine SL.val rfl rfl (fun w9 F9 S9 s => R.as rfl) ?_
            refine SL.nil ?_
            refine SN.seq ?_
            refine SG.seq ?_
            refine SG.region ?_
            refine SL.val rfl rfl (fun w9 F9 S9 s => R.mv rfl) ?_
            refine SL.step rfl rfl (CS.callR rfl go10 (fun w9 F9 S9 s => ifromE a1 n1 c1 l1 w9 (s.bs (l := l1) (by repeat (first | exact Sel.keep | exact Sel.here | apply Sel.there))) (by omega) hv1)) ?_
            rintro _ _ ⟨rfl, rfl⟩
            refine SL.val rfl rfl (fun w9 F9 S9 s => R.mv rfl) ?_
            refine SL.val rfl rfl (fun w9 F9 S9 s => R.ext rfl rfl) ?_
            refine SL.val rfl rfl (fun w9 F9 S9 s => R.ext rfl rfl) ?_
            refine SL.val rfl rfl (fun w9 F9 S9 s => R.as rfl) ?_
            refine SL.val rfl rfl (fun w9 F9 S9 s => R.as rfl) ?_
            refine SL.nil ?_
            refine SN.seq ?_
            refine SG.seq ?_
            refine SG.region ?_
            refine SL.val rfl rfl (fun w9 F9 S9 s => R.mv rfl) ?_
            refine SL.step rfl rfl (CS.call rfl go11 (dtree_nil) (by repeat (first | exact Sels.nil | apply Sels.cons | exact Sel.keep | exact Sel.here | apply Sel.there))) ?_
            rintro _ _ ⟨_, ⟨rfl, rfl⟩, rfl⟩
            refine SL.n0 ?_
            refine SL.val rfl rfl (fun w9 F9 S9 s => R.mv rfl) ?_
            refine SL.step rfl rfl (CS.call rfl go11 (dtree_nil) (by repeat (first | exact Sels.nil | apply Sels.cons | exact Sel.keep | exact Sel.here | apply Sel.there))) ?_
            rintro _ _ ⟨_, ⟨rfl, rfl⟩, rfl⟩
            refine SL.n0 ?_
            refine SL.val rfl rfl (fun w9 F9 S9 s => R.as rfl) ?_
            refine SL.val rfl rfl (fun w9 F9 S9 s => R.as rfl) ?_
            refine SL.nil ?_
            refine SN.seq ?_
            refine SG.seq ?_
            refine SG.seq ?_
            refine SG.region ?_
            refine SL.val rfl rfl (fun w9 F9 S9 s => R.mv rfl) ?_
            refine SL.val rfl rfl (fun w9 F9 S9 s => R.neI rfl rfl) ?_
            refine SL.val rfl rfl (fun w9 F9 S9 s => R.mv rfl) ?_
            refine SL.isT 67 rfl (decide_eq_true (by decide)) ?_
            refine SL.pass rfl rfl ?_
            refine SL.pass rfl rfl ?_
            first | refine SL.val rfl rfl (fun w9 F9 S9 s => R.pickT rfl rfl) ?_ | refine SL.val rfl rfl (fun w9 F9 S9 s => R.pickF rfl rfl) ?_
            refine SL.nil ?_
            refine SN.seq ?_
            refine SG.condT rfl ?_
            refine SG.seq ?_
            refine SG.imp ((show Imp _ (sh (fun w => Cells w none (([] : List URow).map URow.val) ∧ ∀ r ∈ ([] : List URow), URow.ok w r) :: _) from Imp.pure (fun w => ⟨Cells.nil _ _, by simp⟩))) ?_
            refine SG.region ?_
            refine SL.val rfl rfl (fun w9 F9 S9 s => R.mv rfl) ?_
            refine SL.step rfl rfl (CS.call rfl go12 (ddif_ok none none 0 0 [] [] (by decide)) (by repeat (first | exact Sels.nil | apply Sels.cons | exact Sel.keep | exact Sel.here | apply Sel.there))) ?_
            rintro _ _ ⟨_, ⟨ak, ck, rfl, rfl, rfl⟩, rfl⟩
            refine SL.n1 ?_
            refine SL.val rfl rfl (fun w9 F9 S9 s => R.mv rfl) ?_
            refine SL.val rfl rfl (fun w9 F9 S9 s => R.ext rfl rfl) ?_
            refine SL.val rfl rfl (fun w9 F9 S9 s => R.ext rfl rfl) ?_
            refine SL.val rfl rfl (fun w9 F9 S9 s => R.as rfl) ?_
            refine SL.val rfl rfl (fun w9 F9 S9 s => R.as rfl) ?_
            refine SL.nil ?_
            rw [show difF (([] : List URow).map URow.l) (([] : List URow).map URow.l) = ([], 0) from dif_nil _]
            refine SN.seq ?_
            refine SG.seq ?_
            refine SG.region ?_
            refine SL.val rfl rfl (fun w9 F9 S9 s => R.mv rfl) ?_
            refine SL.val rfl rfl (fun w9 F9 S9 s => R.neI rfl rfl) ?_
            refine SL.val rfl rfl (fun w9 F9 S9 s => R.mv rfl) ?_
            refine SL.isT 78 rfl (decide_eq_true (by decide)) ?_
            refine SL.val rfl rfl (fun w9 F9 S9 s => R.mv rfl) ?_
            refine SL.val rfl rfl (fun w9 F9 S9 s => R.lenS rfl) ?_
            refine SL.val rfl rfl (fun w9 F9 S9 s => R.eqI rfl rfl) ?_
            first | refine SL.val rfl rfl (fun w9 F9 S9 s => R.pickT rfl rfl) ?_ | refine SL.val rfl rfl (fun w9 F9 S9 s => R.pickF rfl rfl) ?_
            refine SL.val rfl rfl (fun w9 F9 S9 s => R.mv rfl) ?_
            refine SL.isT 83 rfl (decide_eq_true rfl) ?_
            refine SL.val rfl rfl (fun w9 F9 S9 s => R.mv rfl) ?_
            refine SL.step rfl rfl (CS.call rfl go13 (droot_nil) (by repeat (first | exact Sels.nil | apply Sels.cons | exact Sel.keep | exact Sel.here | apply Sel.there))) ?_
            rintro _ _ ⟨_, ⟨rfl, rfl⟩, rfl⟩
            refine SL.n0 ?_
            refine SL.val rfl rfl (fun w9 F9 S9 s => R.eqI rfl rfl) ?_
            first | refine SL.val rfl rfl (fun w9 F9 S9 s => R.pickT rfl rfl) ?_ | refine SL.val rfl rfl (fun w9 F9 S9 s => R.pickF rfl rfl) ?_
            refine SL.val rfl rfl (fun w9 F9 S9 s => R.mv rfl) ?_
            refine SL.isT 88 rfl (decide_eq_true rfl) ?_
            refine SL.pass rfl rfl ?_
            refine SL.pass rfl rfl ?_
            first | refine SL.val rfl rfl (fun w9 F9 S9 s => R.pickT rfl rfl) ?_ | refine SL.val rfl rfl (fun w9 F9 S9 s => R.pickF rfl rfl) ?_
            refine SL.val rfl rfl (fun w9 F9 S9 s => R.mv rfl) ?_
            refine SL.val rfl rfl (fun w9 F9 S9 s => R.mv rfl) ?_
            refine SL.val rfl rfl (fun w9 F9 S9 s => R.lenS rfl) ?_
            refine SL.val rfl rfl (fun w9 F9 S9 s => R.eqI rfl rfl) ?_
            first | refine SL.val rfl rfl (fun w9 F9 S9 s => R.pickT rfl rfl) ?_ | refine SL.val rfl rfl (fun w9 F9 S9 s => R.pickF rfl rfl) ?_
            refine SL.val rfl rfl (fun w9 F9 S9 s => R.mv rfl) ?_
            refine SL.isT 97 rfl (decide_eq_true rfl) ?_
            refine SL.val rfl rfl (fun w9 F9 S9 s => R.mv rfl) ?_
            refine SL.val rfl rfl (fun w9 F9 S9 s => R.eqI rfl rfl) ?_
            first | refine SL.val rfl rfl (fun w9 F9 S9 s => R.pickT rfl rfl) ?_ | refine SL.val rfl rfl (fun w9 F9 S9 s => R.pickF rfl rfl) ?_
            refine SL.val rfl rfl (fun w9 F9 S9 s => R.as rfl) ?_
            refine SL.nil ?_
            refine SN.seq ?_
            exact SG.ret1 rfl rfl ((Imp.sels (by repeat (first | exact Sels.nil | apply Sels.cons | exact Sel.keep | exact Sel.here | apply Sel.there)))) (congrArg Value.bool (decide_eq_true rfl))

set_option maxHeartbeats 1000000 in
theorem tells_ny (a0 a1 a2 : Option Addr) (n0 n1 c0 c1 c2 : Nat) (l0 l1 : List UInt8) (ks : List Nat) (w : World) (hb0 : Bs w a0 n0 l0) (hc0 : n0 ≤ c0) (hb1 : Bs w a1 n1 l1) (hc1 : n1 ≤ c1) (hk : Cells w a2 (us ks)) (hku : okU ks) (hs : n0 ≤ 8000 ∧ n1 ≤ 8000 ∧ ks.length ≤ 50) (hv0 : ¬ (l0.length = 64 * Image.dn l0 ∧ 1 ≤ Image.dn l0 ∧ Image.dn l0 ≤ 64)) (hv1 : l1.length = 64 * Image.dn l1 ∧ 1 ≤ Image.dn l1 ∧ Image.dn l1 ≤ 64) : Meets Try.prog 3 [.slice a0 n0 c0, .slice a1 n1 c1, .slice a2 ks.length c2] w (fun v w' => v = .bool true ∧ Ext [] w w') := by
  refine Meets.law Try.func3 rfl 191 rfl (Nat.le_of_ble_eq_true rfl) (law_bs (hb0) (law_bs (hb1) (law_cons (p := fun w => Cells w a2 (us ks)) (fun w9 he => hk.ext0 he) (law_nil w)))) ?_
  refine SG.fact (fun w9 F9 S9 s => (s.bs (a := a0) (n := n0) (l := l0) (by repeat (first | exact Sel.keep | exact Sel.here | apply Sel.there))).len) (fun hf9 => ?_)
  have hl0 := hf9; clear hf9
  refine SG.fact (fun w9 F9 S9 s => (s.bs (a := a1) (n := n1) (l := l1) (by repeat (first | exact Sel.keep | exact Sel.here | apply Sel.there))).len) (fun hf9 => ?_)
  have hl1 := hf9; clear hf9
  refine SG.seq ?_
  refine SG.region ?_
  refine SL.val rfl rfl (fun w9 F9 S9 s => R.as rfl) ?_
  refine SL.nil ?_
  refine SN.seq ?_
  refine SG.seq ?_
  refine SG.seq ?_
  refine SG.region ?_
  refine SL.step rfl rfl (CS.callR rfl go5 (fun w9 F9 S9 s => first44_law w9)) ?_
  rintro _ _ ⟨rfl, rfl⟩
  refine SL.val rfl rfl (fun w9 F9 S9 s => R.not rfl) ?_
  refine SL.nil ?_
  refine SN.seq ?_
  refine SG.condF rfl ?_
  refine SG.skip ?_
  refine SN.seq ?_
  refine SG.seq ?_
  refine SG.seq ?_
  refine SG.region ?_
  refine SL.val rfl rfl (fun w9 F9 S9 s => R.mv rfl) ?_
  refine SL.val rfl rfl (fun w9 F9 S9 s => R.lenS rfl) ?_
  refine SL.val rfl rfl (fun w9 F9 S9 s => R.gtr rfl rfl) ?_
  refine SL.val rfl rfl (fun w9 F9 S9 s => R.mv rfl) ?_
  refine SL.caseP 28 rfl (fun hg3_3 => ?_) (fun hg3_3 => ?_)
  · exfalso; omega
  · refine SL.val rfl rfl (fun w9 F9 S9 s => R.mv rfl) ?_
    refine SL.val rfl rfl (fun w9 F9 S9 s => R.lenS rfl) ?_
    refine SL.val rfl rfl (fun w9 F9 S9 s => R.gtr rfl rfl) ?_
    first | refine SL.val rfl rfl (fun w9 F9 S9 s => R.pickT rfl rfl) ?_ | refine SL.val rfl rfl (fun w9 F9 S9 s => R.pickF rfl rfl) ?_
    refine SL.val rfl rfl (fun w9 F9 S9 s => R.mv rfl) ?_
    refine SL.caseP 33 rfl (fun hg3_8 => ?_) (fun hg3_8 => ?_)
    · exfalso; omega
    · refine SL.val rfl rfl (fun w9 F9 S9 s => R.mv rfl) ?_
      refine SL.val rfl rfl (fun w9 F9 S9 s => R.lenS rfl) ?_
      refine SL.val rfl rfl (fun w9 F9 S9 s => R.gtr rfl rfl) ?_
      first | refine SL.val rfl rfl (fun w9 F9 S9 s => R.pickT rfl rfl) ?_ | refine SL.val rfl rfl (fun w9 F9 S9 s => R.pickF rfl rfl) ?_
      refine SL.nil ?_
      refine SN.seq ?_
      refine SG.condP rfl (fun h1 => ?_) (fun h1 => ?_)
      · exfalso; omega
      · refine SG.skip ?_
        refine SN.seq ?_
        refine SG.seq ?_
        refine SG.seq ?_
        refine SG.draw [1, 4, 8, 10] [0, 2, 3, 1, 4, 5, 6, 7, 9, 8, 10, 11, 12] (by decide +kernel) rfl ?_
        refine SW.pure rfl rfl rfl rfl (fun w9 => R.mv rfl) ?_
        refine SW.pure rfl rfl rfl rfl (fun w9 => R.mv rfl) ?_
        refine SW.read rfl rfl rfl rfl (fun w9 F9 S9 s => R.strB rfl (s.bs (l := l0) (by repeat (first | exact Sel.keep | exact Sel.here | apply Sel.there)))) ?_
        refine SW.step rfl rfl rfl rfl (CS.call rfl go6 (dsum_ok a0 n0 c0 l0 (by omega)) (by repeat (first | exact Sels.nil | apply Sels.cons | exact Sel.keep | exact Sel.here | apply Sel.there))) ?_
        rintro _ _ ⟨_, ⟨rfl, rfl⟩, rfl⟩
        refine ⟨⟨.inr (fun w9 F9 S9 s => R.strB rfl (s.bs (l := l0) (by repeat (first | exact Sel.keep | exact Sel.here | apply Sel.there)))), trivial⟩, ?_⟩
        refine SW.n0 ?_
        refine SW.step rfl rfl rfl rfl (CS.call rfl go7 (rsum_ok l0 (by omega)) (by repeat (first | exact Sels.nil | apply Sels.cons | exact Sel.keep | exact Sel.here | apply Sel.there))) ?_
        rintro _ _ ⟨_, ⟨rfl, rfl⟩, rfl⟩
        refine ⟨⟨.inl (by decide +kernel), trivial⟩, ?_⟩
        refine SW.n0 ?_
        refine SW.pure rfl rfl rfl rfl (fun w9 => R.neI rfl rfl) ?_
        refine SW.pure rfl rfl rfl rfl (fun w9 => R.mv rfl) ?_
        refine SW.caseP 44 rfl (fun hg5_6 => ?_) (fun hg5_6 => ?_)
        · exact absurd rfl hg5_6
        · refine SW.pure rfl rfl rfl rfl (fun w9 => R.mv rfl) ?_
          refine SW.pure rfl rfl rfl rfl (fun w9 => R.mv rfl) ?_
          refine SW.step rfl rfl rfl rfl (CS.call rfl go8 (dnode_ok a2 ks.length c2 ks rfl (by omega) hku) (by repeat (first | exact Sels.nil | apply Sels.cons | exact Sel.keep | exact Sel.here | apply Sel.there))) ?_
          rintro _ _ ⟨_, ⟨rfl, rfl⟩, rfl⟩
          refine ⟨⟨.inl (by decide +kernel), trivial⟩, ?_⟩
          refine SW.n0 ?_
          refine SW.step rfl rfl rfl rfl (CS.call rfl go9 (rnode_ok a2 ks.length c2 ks rfl (by omega) hku) (by repeat (first | exact Sels.nil | apply Sels.cons | exact Sel.keep | exact Sel.here | apply Sel.there))) ?_
          rintro _ _ ⟨_, ⟨rfl, rfl⟩, rfl⟩
          refine ⟨⟨.inl (by decide +kernel), trivial⟩, ?_⟩
          refine SW.n0 ?_
          refine SW.pure rfl rfl rfl rfl (fun w9 => R.neI rfl rfl) ?_
          first | refine SW.pure rfl rfl rfl rfl (fun w9 => R.pickT rfl rfl) ?_ | refine SW.pure rfl rfl rfl rfl (fun w9 => R.pickF rfl rfl) ?_
          refine SW.nil ?_
          refine SN.seq ?_
          refine SG.condP rfl (fun h2 => ?_) (fun h2 => ?_)
          · exact absurd rfl h2
          · refine SG.skip ?_
            refine SN.seq ?_
            refine SG.seq ?_
            refine SG.region ?_
            refine SL.val rfl rfl (fun w9 F9 S9 s => R.mv rfl) ?_
            refine SL.step rfl rfl (CS.callR rfl go10 (fun w9 F9 S9 s => ifromE a0 n0 c0 l0 w9 (s.bs (l := l0) (by repeat (first | exact Sel.keep | exact Sel.here | apply Sel.there))) (by omega) hv0)) ?_
            rintro _ _ ⟨rfl, rfl⟩
            refine SL.val rfl rfl (fun w9 F9 S9 s => R.mv rfl) ?_
            refine SL.val rfl rfl (fun w9 F9 S9 s => R.ext rfl rfl) ?_
            refine SL.val rfl rfl (fun w9 F9 S9 s => R.ext rfl rfl) ?_
            refine SL.val rfl rfl (fun w9 F9 S9 s => R.as rfl) ?_
            refine SL.val rfl rfl (fun w9 F9 S9 s => R.as rfl) ?_
            refine SL.nil ?_
            refine SN.seq ?_
            refine SG.seq ?_
            refine SG.region ?_
            refine SL.val rfl rfl (fun w9 F9 S9 s => R.mv rfl) ?_
            refine SL.step rfl rfl (CS.callP rfl go10 (fun w9 F9 S9 s => ifromP a1 n1 c1 l1 w9 (s.bs (l := l1) (by repeat (first | exact Sel.keep | exact Sel.here | apply Sel.there))) hc1 hv1)) ?_
            rintro _ _ ⟨_, ⟨d1, g1, e1, cur1, ps1, rfl, rfl⟩, rfl⟩
            refine SL.val rfl rfl (fun w9 F9 S9 s => R.mv rfl) ?_
            refine SL.val rfl rfl (fun w9 F9 S9 s => R.ext rfl rfl) ?_
            refine SL.val rfl rfl (fun w9 F9 S9 s => R.ext rfl rfl) ?_
            refine SL.val rfl rfl (fun w9 F9 S9 s => R.as rfl) ?_
            refine SL.val rfl rfl (fun w9 F9 S9 s => R.as rfl) ?_
            refine SL.nil ?_
            refine SN.seq ?_
            refine SG.seq ?_
            refine SG.region ?_
            refine SL.val rfl rfl (fun w9 F9 S9 s => R.mv rfl) ?_
            refine SL.step rfl rfl (CS.call rfl go11 (dtree_nil) (by repeat (first | exact Sels.nil | apply Sels.cons | exact Sel.keep | exact Sel.here | apply Sel.there))) ?_
            rintro _ _ ⟨_, ⟨rfl, rfl⟩, rfl⟩
            refine SL.n0 ?_
            refine SL.val rfl rfl (fun w9 F9 S9 s => R.mv rfl) ?_
            refine SL.step rfl rfl (CS.call rfl go11 (dtree_ok d1 g1 e1 cur1 ps1 l1) (by repeat (first | exact Sels.nil | apply Sels.cons | exact Sel.keep | exact Sel.here | apply Sel.there))) ?_
            rintro _ _ ⟨_, ⟨at1, nt1, ct1, Rt1, rfl, rfl, hct1, hRt1, rfl⟩, rfl⟩
            refine SL.n1 ?_
            refine SL.val rfl rfl (fun w9 F9 S9 s => R.as rfl) ?_
            refine SL.val rfl rfl (fun w9 F9 S9 s => R.as rfl) ?_
            refine SL.nil ?_
            refine SN.seq ?_
            refine SG.seq ?_
            refine SG.seq ?_
            refine SG.region ?_
            refine SL.val rfl rfl (fun w9 F9 S9 s => R.mv rfl) ?_
            refine SL.val rfl rfl (fun w9 F9 S9 s => R.neI rfl rfl) ?_
            refine SL.val rfl rfl (fun w9 F9 S9 s => R.mv rfl) ?_
            refine SL.isT 67 rfl (decide_eq_true (by decide)) ?_
            refine SL.pass rfl rfl ?_
            refine SL.pass rfl rfl ?_
            first | refine SL.val rfl rfl (fun w9 F9 S9 s => R.pickT rfl rfl) ?_ | refine SL.val rfl rfl (fun w9 F9 S9 s => R.pickF rfl rfl) ?_
            refine SL.nil ?_
            refine SN.seq ?_
            refine SG.condT rfl ?_
            refine SG.seq ?_
            refine SG.imp ((show Imp _ (sh (fun w => Cells w none (([] : List URow).map URow.val) ∧ ∀ r ∈ ([] : List URow), URow.ok w r) :: _) from Imp.pure (fun w => ⟨Cells.nil _ _, by simp⟩))) ?_
            refine SG.region ?_
            refine SL.val rfl rfl (fun w9 F9 S9 s => R.mv rfl) ?_
            refine SL.step rfl rfl (CS.call rfl go12 (ddif_ok none at1 0 ct1 [] Rt1 (by decide)) (by repeat (first | exact Sels.nil | apply Sels.cons | exact Sel.keep | exact Sel.here | apply Sel.there))) ?_
            rintro _ _ ⟨_, ⟨ak, ck, rfl, rfl, rfl⟩, rfl⟩
            refine SL.n1 ?_
            refine SL.val rfl rfl (fun w9 F9 S9 s => R.mv rfl) ?_
            refine SL.val rfl rfl (fun w9 F9 S9 s => R.ext rfl rfl) ?_
            refine SL.val rfl rfl (fun w9 F9 S9 s => R.ext rfl rfl) ?_
            refine SL.val rfl rfl (fun w9 F9 S9 s => R.as rfl) ?_
            refine SL.val rfl rfl (fun w9 F9 S9 s => R.as rfl) ?_
            refine SL.nil ?_
            rw [show ([] : List URow).map URow.l = [] from rfl, dif_nil]
            refine SN.seq ?_
            refine SG.seq ?_
            refine SG.region ?_
            refine SL.val rfl rfl (fun w9 F9 S9 s => R.mv rfl) ?_
            refine SL.val rfl rfl (fun w9 F9 S9 s => R.neI rfl rfl) ?_
            refine SL.val rfl rfl (fun w9 F9 S9 s => R.mv rfl) ?_
            refine SL.isT 78 rfl (decide_eq_true (by decide)) ?_
            refine SL.val rfl rfl (fun w9 F9 S9 s => R.mv rfl) ?_
            refine SL.val rfl rfl (fun w9 F9 S9 s => R.lenS rfl) ?_
            refine SL.val rfl rfl (fun w9 F9 S9 s => R.eqI rfl rfl) ?_
            first | refine SL.val rfl rfl (fun w9 F9 S9 s => R.pickT rfl rfl) ?_ | refine SL.val rfl rfl (fun w9 F9 S9 s => R.pickF rfl rfl) ?_
            refine SL.val rfl rfl (fun w9 F9 S9 s => R.mv rfl) ?_
            refine SL.isT 83 rfl (decide_eq_true rfl) ?_
            refine SL.val rfl rfl (fun w9 F9 S9 s => R.mv rfl) ?_
            refine SL.step rfl rfl (CS.call rfl go13 (droot_nil) (by repeat (first | exact Sels.nil | apply Sels.cons | exact Sel.keep | exact Sel.here | apply Sel.there))) ?_
            rintro _ _ ⟨_, ⟨rfl, rfl⟩, rfl⟩
            refine SL.n0 ?_
            refine SL.val rfl rfl (fun w9 F9 S9 s => R.eqI rfl rfl) ?_
            first | refine SL.val rfl rfl (fun w9 F9 S9 s => R.pickT rfl rfl) ?_ | refine SL.val rfl rfl (fun w9 F9 S9 s => R.pickF rfl rfl) ?_
            refine SL.val rfl rfl (fun w9 F9 S9 s => R.mv rfl) ?_
            refine SL.isT 88 rfl (decide_eq_true rfl) ?_
            refine SL.pass rfl rfl ?_
            refine SL.pass rfl rfl ?_
            first | refine SL.val rfl rfl (fun w9 F9 S9 s => R.pickT rfl rfl) ?_ | refine SL.val rfl rfl (fun w9 F9 S9 s => R.pickF rfl rfl) ?_
            refine SL.val rfl rfl (fun w9 F9 S9 s => R.mv rfl) ?_
            refine SL.val rfl rfl (fun w9 F9 S9 s => R.mv rfl) ?_
            refine SL.val rfl rfl (fun w9 F9 S9 s => R.lenS rfl) ?_
            refine SL.val rfl rfl (fun w9 F9 S9 s => R.eqI rfl rfl) ?_
            first | refine SL.val rfl rfl (fun w9 F9 S9 s => R.pickT rfl rfl) ?_ | refine SL.val rfl rfl (fun w9 F9 S9 s => R.pickF rfl rfl) ?_
            refine SL.val rfl rfl (fun w9 F9 S9 s => R.mv rfl) ?_
            refine SL.isT 97 rfl (decide_eq_true rfl) ?_
            refine SL.val rfl rfl (fun w9 F9 S9 s => R.mv rfl) ?_
            refine SL.val rfl rfl (fun w9 F9 S9 s => R.eqI rfl rfl) ?_
            first | refine SL.val rfl rfl (fun w9 F9 S9 s => R.pickT rfl rfl) ?_ | refine SL.val rfl rfl (fun w9 F9 S9 s => R.pickF rfl rfl) ?_
            refine SL.val rfl rfl (fun w9 F9 S9 s => R.as rfl) ?_
            refine SL.nil ?_
            refine SN.seq ?_
            exact SG.ret1 rfl rfl ((Imp.sels (by repeat (first | exact Sels.nil | apply Sels.cons | exact Sel.keep | exact Sel.here | apply Sel.there)))) (congrArg Value.bool (decide_eq_true rfl))

set_option maxHeartbeats 1000000 in
theorem tells_yn (a0 a1 a2 : Option Addr) (n0 n1 c0 c1 c2 : Nat) (l0 l1 : List UInt8) (ks : List Nat) (w : World) (hb0 : Bs w a0 n0 l0) (hc0 : n0 ≤ c0) (hb1 : Bs w a1 n1 l1) (hc1 : n1 ≤ c1) (hk : Cells w a2 (us ks)) (hku : okU ks) (hs : n0 ≤ 8000 ∧ n1 ≤ 8000 ∧ ks.length ≤ 50) (hv0 : l0.length = 64 * Image.dn l0 ∧ 1 ≤ Image.dn l0 ∧ Image.dn l0 ≤ 64) (hv1 : ¬ (l1.length = 64 * Image.dn l1 ∧ 1 ≤ Image.dn l1 ∧ Image.dn l1 ≤ 64)) : Meets Try.prog 3 [.slice a0 n0 c0, .slice a1 n1 c1, .slice a2 ks.length c2] w (fun v w' => v = .bool true ∧ Ext [] w w') := by
  refine Meets.law Try.func3 rfl 191 rfl (Nat.le_of_ble_eq_true rfl) (law_bs (hb0) (law_bs (hb1) (law_cons (p := fun w => Cells w a2 (us ks)) (fun w9 he => hk.ext0 he) (law_nil w)))) ?_
  refine SG.fact (fun w9 F9 S9 s => (s.bs (a := a0) (n := n0) (l := l0) (by repeat (first | exact Sel.keep | exact Sel.here | apply Sel.there))).len) (fun hf9 => ?_)
  have hl0 := hf9; clear hf9
  refine SG.fact (fun w9 F9 S9 s => (s.bs (a := a1) (n := n1) (l := l1) (by repeat (first | exact Sel.keep | exact Sel.here | apply Sel.there))).len) (fun hf9 => ?_)
  have hl1 := hf9; clear hf9
  refine SG.seq ?_
  refine SG.region ?_
  refine SL.val rfl rfl (fun w9 F9 S9 s => R.as rfl) ?_
  refine SL.nil ?_
  refine SN.seq ?_
  refine SG.seq ?_
  refine SG.seq ?_
  refine SG.region ?_
  refine SL.step rfl rfl (CS.callR rfl go5 (fun w9 F9 S9 s => first44_law w9)) ?_
  rintro _ _ ⟨rfl, rfl⟩
  refine SL.val rfl rfl (fun w9 F9 S9 s => R.not rfl) ?_
  refine SL.nil ?_
  refine SN.seq ?_
  refine SG.condF rfl ?_
  refine SG.skip ?_
  refine SN.seq ?_
  refine SG.seq ?_
  refine SG.seq ?_
  refine SG.region ?_
  refine SL.val rfl rfl (fun w9 F9 S9 s => R.mv rfl) ?_
  refine SL.val rfl rfl (fun w9 F9 S9 s => R.lenS rfl) ?_
  refine SL.val rfl rfl (fun w9 F9 S9 s => R.gtr rfl rfl) ?_
  refine SL.val rfl rfl (fun w9 F9 S9 s => R.mv rfl) ?_
  refine SL.caseP 28 rfl (fun hg3_3 => ?_) (fun hg3_3 => ?_)
  · exfalso; omega
  · refine SL.val rfl rfl (fun w9 F9 S9 s => R.mv rfl) ?_
    refine SL.val rfl rfl (fun w9 F9 S9 s => R.lenS rfl) ?_
    refine SL.val rfl rfl (fun w9 F9 S9 s => R.gtr rfl rfl) ?_
    first | refine SL.val rfl rfl (fun w9 F9 S9 s => R.pickT rfl rfl) ?_ | refine SL.val rfl rfl (fun w9 F9 S9 s => R.pickF rfl rfl) ?_
    refine SL.val rfl rfl (fun w9 F9 S9 s => R.mv rfl) ?_
    refine SL.caseP 33 rfl (fun hg3_8 => ?_) (fun hg3_8 => ?_)
    · exfalso; omega
    · refine SL.val rfl rfl (fun w9 F9 S9 s => R.mv rfl) ?_
      refine SL.val rfl rfl (fun w9 F9 S9 s => R.lenS rfl) ?_
      refine SL.val rfl rfl (fun w9 F9 S9 s => R.gtr rfl rfl) ?_
      first | refine SL.val rfl rfl (fun w9 F9 S9 s => R.pickT rfl rfl) ?_ | refine SL.val rfl rfl (fun w9 F9 S9 s => R.pickF rfl rfl) ?_
      refine SL.nil ?_
      refine SN.seq ?_
      refine SG.condP rfl (fun h1 => ?_) (fun h1 => ?_)
      · exfalso; omega
      · refine SG.skip ?_
        refine SN.seq ?_
        refine SG.seq ?_
        refine SG.seq ?_
        refine SG.draw [1, 4, 8, 10] [0, 2, 3, 1, 4, 5, 6, 7, 9, 8, 10, 11, 12] (by decide +kernel) rfl ?_
        refine SW.pure rfl rfl rfl rfl (fun w9 => R.mv rfl) ?_
        refine SW.pure rfl rfl rfl rfl (fun w9 => R.mv rfl) ?_
        refine SW.read rfl rfl rfl rfl (fun w9 F9 S9 s => R.strB rfl (s.bs (l := l0) (by repeat (first | exact Sel.keep | exact Sel.here | apply Sel.there)))) ?_
        refine SW.step rfl rfl rfl rfl (CS.call rfl go6 (dsum_ok a0 n0 c0 l0 (by omega)) (by repeat (first | exact Sels.nil | apply Sels.cons | exact Sel.keep | exact Sel.here | apply Sel.there))) ?_
        rintro _ _ ⟨_, ⟨rfl, rfl⟩, rfl⟩
        refine ⟨⟨.inr (fun w9 F9 S9 s => R.strB rfl (s.bs (l := l0) (by repeat (first | exact Sel.keep | exact Sel.here | apply Sel.there)))), trivial⟩, ?_⟩
        refine SW.n0 ?_
        refine SW.step rfl rfl rfl rfl (CS.call rfl go7 (rsum_ok l0 (by omega)) (by repeat (first | exact Sels.nil | apply Sels.cons | exact Sel.keep | exact Sel.here | apply Sel.there))) ?_
        rintro _ _ ⟨_, ⟨rfl, rfl⟩, rfl⟩
        refine ⟨⟨.inl (by decide +kernel), trivial⟩, ?_⟩
        refine SW.n0 ?_
        refine SW.pure rfl rfl rfl rfl (fun w9 => R.neI rfl rfl) ?_
        refine SW.pure rfl rfl rfl rfl (fun w9 => R.mv rfl) ?_
        refine SW.caseP 44 rfl (fun hg5_6 => ?_) (fun hg5_6 => ?_)
        · exact absurd rfl hg5_6
        · refine SW.pure rfl rfl rfl rfl (fun w9 => R.mv rfl) ?_
          refine SW.pure rfl rfl rfl rfl (fun w9 => R.mv rfl) ?_
          refine SW.step rfl rfl rfl rfl (CS.call rfl go8 (dnode_ok a2 ks.length c2 ks rfl (by omega) hku) (by repeat (first | exact Sels.nil | apply Sels.cons | exact Sel.keep | exact Sel.here | apply Sel.there))) ?_
          rintro _ _ ⟨_, ⟨rfl, rfl⟩, rfl⟩
          refine ⟨⟨.inl (by decide +kernel), trivial⟩, ?_⟩
          refine SW.n0 ?_
          refine SW.step rfl rfl rfl rfl (CS.call rfl go9 (rnode_ok a2 ks.length c2 ks rfl (by omega) hku) (by repeat (first | exact Sels.nil | apply Sels.cons | exact Sel.keep | exact Sel.here | apply Sel.there))) ?_
          rintro _ _ ⟨_, ⟨rfl, rfl⟩, rfl⟩
          refine ⟨⟨.inl (by decide +kernel), trivial⟩, ?_⟩
          refine SW.n0 ?_
          refine SW.pure rfl rfl rfl rfl (fun w9 => R.neI rfl rfl) ?_
          first | refine SW.pure rfl rfl rfl rfl (fun w9 => R.pickT rfl rfl) ?_ | refine SW.pure rfl rfl rfl rfl (fun w9 => R.pickF rfl rfl) ?_
          refine SW.nil ?_
          refine SN.seq ?_
          refine SG.condP rfl (fun h2 => ?_) (fun h2 => ?_)
          · exact absurd rfl h2
          · refine SG.skip ?_
            refine SN.seq ?_
            refine SG.seq ?_
            refine SG.region ?_
            refine SL.val rfl rfl (fun w9 F9 S9 s => R.mv rfl) ?_
            refine SL.step rfl rfl (CS.callP rfl go10 (fun w9 F9 S9 s => ifromP a0 n0 c0 l0 w9 (s.bs (l := l0) (by repeat (first | exact Sel.keep | exact Sel.here | apply Sel.there))) hc0 hv0)) ?_
            rintro _ _ ⟨_, ⟨d0, g0, e0, cur0, ps0, rfl, rfl⟩, rfl⟩
            refine SL.val rfl rfl (fun w9 F9 S9 s => R.mv rfl) ?_
            refine SL.val rfl rfl (fun w9 F9 S9 s => R.ext rfl rfl) ?_
            refine SL.val rfl rfl (fun w9 F9 S9 s => R.ext rfl rfl) ?_
            refine SL.val rfl rfl (fun w9 F9 S9 s => R.as rfl) ?_
            refine SL.val rfl rfl (fun w9 F9 S9 s => R.as rfl) ?_
            refine SL.nil ?_
            refine SN.seq ?_
            refine SG.seq ?_
            refine SG.region ?_
            refine SL.val rfl rfl (fun w9 F9 S9 s => R.mv rfl) ?_
            refine SL.step rfl rfl (CS.callR rfl go10 (fun w9 F9 S9 s => ifromE a1 n1 c1 l1 w9 (s.bs (l := l1) (by repeat (first | exact Sel.keep | exact Sel.here | apply Sel.there))) (by omega) hv1)) ?_
            rintro _ _ ⟨rfl, rfl⟩
            refine SL.val rfl rfl (fun w9 F9 S9 s => R.mv rfl) ?_
            refine SL.val rfl rfl (fun w9 F9 S9 s => R.ext rfl rfl) ?_
            refine SL.val rfl rfl (fun w9 F9 S9 s => R.ext rfl rfl) ?_
            refine SL.val rfl rfl (fun w9 F9 S9 s => R.as rfl) ?_
            refine SL.val rfl rfl (fun w9 F9 S9 s => R.as rfl) ?_
            refine SL.nil ?_
            refine SN.seq ?_
            refine SG.seq ?_
            refine SG.region ?_
            refine SL.val rfl rfl (fun w9 F9 S9 s => R.mv rfl) ?_
            refine SL.step rfl rfl (CS.call rfl go11 (dtree_ok d0 g0 e0 cur0 ps0 l0) (by repeat (first | exact Sels.nil | apply Sels.cons | exact Sel.keep | exact Sel.here | apply Sel.there))) ?_
            rintro _ _ ⟨_, ⟨at0, nt0, ct0, Rt0, rfl, rfl, hct0, hRt0, rfl⟩, rfl⟩
            refine SL.n1 ?_
            refine SL.val rfl rfl (fun w9 F9 S9 s => R.mv rfl) ?_
            refine SL.step rfl rfl (CS.call rfl go11 (dtree_nil) (by repeat (first | exact Sels.nil | apply Sels.cons | exact Sel.keep | exact Sel.here | apply Sel.there))) ?_
            rintro _ _ ⟨_, ⟨rfl, rfl⟩, rfl⟩
            refine SL.n0 ?_
            refine SL.val rfl rfl (fun w9 F9 S9 s => R.as rfl) ?_
            refine SL.val rfl rfl (fun w9 F9 S9 s => R.as rfl) ?_
            refine SL.nil ?_
            refine SN.seq ?_
            refine SG.seq ?_
            refine SG.seq ?_
            refine SG.region ?_
            refine SL.val rfl rfl (fun w9 F9 S9 s => R.mv rfl) ?_
            refine SL.val rfl rfl (fun w9 F9 S9 s => R.neI rfl rfl) ?_
            refine SL.val rfl rfl (fun w9 F9 S9 s => R.mv rfl) ?_
            refine SL.isF 67 rfl (decide_eq_false (by decide)) ?_
            refine SL.val rfl rfl (fun w9 F9 S9 s => R.mv rfl) ?_
            refine SL.val rfl rfl (fun w9 F9 S9 s => R.neI rfl rfl) ?_
            first | refine SL.val rfl rfl (fun w9 F9 S9 s => R.pickT rfl rfl) ?_ | refine SL.val rfl rfl (fun w9 F9 S9 s => R.pickF rfl rfl) ?_
            refine SL.nil ?_
            refine SN.seq ?_
            refine SG.condT rfl ?_
            refine SG.seq ?_
            refine SG.imp ((show Imp _ (sh (fun w => Cells w none (([] : List URow).map URow.val) ∧ ∀ r ∈ ([] : List URow), URow.ok w r) :: _) from Imp.pure (fun w => ⟨Cells.nil _ _, by simp⟩))) ?_
            refine SG.region ?_
            refine SL.val rfl rfl (fun w9 F9 S9 s => R.mv rfl) ?_
            refine SL.step rfl rfl (CS.call rfl go12 (ddif_ok none none 0 0 [] [] (by decide)) (by repeat (first | exact Sels.nil | apply Sels.cons | exact Sel.keep | exact Sel.here | apply Sel.there))) ?_
            rintro _ _ ⟨_, ⟨ak, ck, rfl, rfl, rfl⟩, rfl⟩
            refine SL.n1 ?_
            refine SL.val rfl rfl (fun w9 F9 S9 s => R.mv rfl) ?_
            refine SL.val rfl rfl (fun w9 F9 S9 s => R.ext rfl rfl) ?_
            refine SL.val rfl rfl (fun w9 F9 S9 s => R.ext rfl rfl) ?_
            refine SL.val rfl rfl (fun w9 F9 S9 s => R.as rfl) ?_
            refine SL.val rfl rfl (fun w9 F9 S9 s => R.as rfl) ?_
            refine SL.nil ?_
            rw [show difF (([] : List URow).map URow.l) (([] : List URow).map URow.l) = ([], 0) from dif_nil _]
            refine SN.seq ?_
            refine SG.seq ?_
            refine SG.region ?_
            refine SL.val rfl rfl (fun w9 F9 S9 s => R.mv rfl) ?_
            refine SL.val rfl rfl (fun w9 F9 S9 s => R.neI rfl rfl) ?_
            refine SL.val rfl rfl (fun w9 F9 S9 s => R.mv rfl) ?_
            refine SL.isF 78 rfl (decide_eq_false (by decide)) ?_
            refine SL.pass rfl rfl ?_
            refine SL.pass rfl rfl ?_
            refine SL.pass rfl rfl ?_
            first | refine SL.val rfl rfl (fun w9 F9 S9 s => R.pickT rfl rfl) ?_ | refine SL.val rfl rfl (fun w9 F9 S9 s => R.pickF rfl rfl) ?_
            refine SL.val rfl rfl (fun w9 F9 S9 s => R.mv rfl) ?_
            refine SL.pass rfl rfl ?_
            refine SL.pass rfl rfl ?_
            refine SL.pass rfl rfl ?_
            first | refine SL.val rfl rfl (fun w9 F9 S9 s => R.pickT rfl rfl) ?_ | refine SL.val rfl rfl (fun w9 F9 S9 s => R.pickF rfl rfl) ?_
            refine SL.val rfl rfl (fun w9 F9 S9 s => R.mv rfl) ?_
            refine SL.val rfl rfl (fun w9 F9 S9 s => R.mv rfl) ?_
            refine SL.val rfl rfl (fun w9 F9 S9 s => R.eqI rfl rfl) ?_
            first | refine SL.val rfl rfl (fun w9 F9 S9 s => R.pickT rfl rfl) ?_ | refine SL.val rfl rfl (fun w9 F9 S9 s => R.pickF rfl rfl) ?_
            refine SL.val rfl rfl (fun w9 F9 S9 s => R.mv rfl) ?_
            refine SL.isT 92 rfl (decide_eq_true rfl) ?_
            refine SL.val rfl rfl (fun w9 F9 S9 s => R.mv rfl) ?_
            refine SL.val rfl rfl (fun w9 F9 S9 s => R.lenS rfl) ?_
            refine SL.val rfl rfl (fun w9 F9 S9 s => R.eqI rfl rfl) ?_
            first | refine SL.val rfl rfl (fun w9 F9 S9 s => R.pickT rfl rfl) ?_ | refine SL.val rfl rfl (fun w9 F9 S9 s => R.pickF rfl rfl) ?_
            refine SL.val rfl rfl (fun w9 F9 S9 s => R.mv rfl) ?_
            refine SL.isT 97 rfl (decide_eq_true rfl) ?_
            refine SL.val rfl rfl (fun w9 F9 S9 s => R.mv rfl) ?_
            refine SL.val rfl rfl (fun w9 F9 S9 s => R.eqI rfl rfl) ?_
            first | refine SL.val rfl rfl (fun w9 F9 S9 s => R.pickT rfl rfl) ?_ | refine SL.val rfl rfl (fun w9 F9 S9 s => R.pickF rfl rfl) ?_
            refine SL.val rfl rfl (fun w9 F9 S9 s => R.as rfl) ?_
            refine SL.nil ?_
            refine SN.seq ?_
            exact SG.ret1 rfl rfl ((Imp.sels (by repeat (first | exact Sels.nil | apply Sels.cons | exact Sel.keep | exact Sel.here | apply Sel.there)))) (congrArg Value.bool (decide_eq_true rfl))

theorem treeF_row : ∀ (n : Nat) (r : List Nat), r.length ≤ n → ∀ q ∈ treeF r, q.length ≤ r.length
  | 0, r, h, q, hq => by rw [treeF_one (by omega)] at hq; rw [List.mem_singleton.1 hq]; exact Nat.le_refl _
  | n + 1, r, h, q, hq => by
    by_cases h1 : r.length ≤ 1
    · rw [treeF_one h1] at hq; rw [List.mem_singleton.1 hq]; exact Nat.le_refl _
    · rw [treeF_more h1] at hq
      rcases List.mem_cons.1 hq with rfl | hq
      · exact Nat.le_refl _
      · have := treeF_row n _ (by rw [nextR_len]; omega) q hq
        rw [nextR_len] at this; omega
theorem treeD_row {x : List UInt8} (h : x.length / 64 ≤ 64) {q : List Nat} (hq : q ∈ treeD x) : q.length ≤ 64 := by
  unfold treeD at hq
  split at hq
  · cases hq
  · have := treeF_row _ _ (Nat.le_refl _) q hq
    rw [sumsT_len] at this; omega
theorem difF_len {x y : List UInt8} (h : x.length / 64 ≤ 64) (hx : 1 ≤ x.length / 64 ∧ x.length / 64 = y.length / 64) : (difF (treeD x) (treeD y)).1.length ≤ 64 := by
  rw [difF_rd hx.1 hx.2]
  have := (rdD_le (treeD x) (treeD y) ((treeD x).length - 1) 0).1
  have h7 := treeD_seven h
  have : 2 ^ ((treeD x).length - 1) ≤ 2 ^ 6 := Nat.pow_le_pow_right (by decide) (by omega)
  omega

set_option maxHeartbeats 2000000 in
theorem tells_yy (a0 a1 a2 : Option Addr) (n0 n1 c0 c1 c2 : Nat) (l0 l1 : List UInt8) (ks : List Nat) (w : World) (hb0 : Bs w a0 n0 l0) (hc0 : n0 ≤ c0) (hb1 : Bs w a1 n1 l1) (hc1 : n1 ≤ c1) (hk : Cells w a2 (us ks)) (hku : okU ks) (hs : n0 ≤ 8000 ∧ n1 ≤ 8000 ∧ ks.length ≤ 50) (hv0 : l0.length = 64 * Image.dn l0 ∧ 1 ≤ Image.dn l0 ∧ Image.dn l0 ≤ 64) (hv1 : l1.length = 64 * Image.dn l1 ∧ 1 ≤ Image.dn l1 ∧ Image.dn l1 ≤ 64) : Meets Try.prog 3 [.slice a0 n0 c0, .slice a1 n1 c1, .slice a2 ks.length c2] w (fun v w' => v = .bool true ∧ Ext [] w w') := by
  refine Meets.law Try.func3 rfl 191 rfl (Nat.le_of_ble_eq_true rfl) (law_bs (hb0) (law_bs (hb1) (law_cons (p := fun w => Cells w a2 (us ks)) (fun w9 he => hk.ext0 he) (law_nil w)))) ?_
  refine SG.fact (fun w9 F9 S9 s => (s.bs (a := a0) (n := n0) (l := l0) (by repeat (first | exact Sel.keep | exact Sel.here | apply Sel.there))).len) (fun hf9 => ?_)
  have hl0 := hf9; clear hf9
  refine SG.fact (fun w9 F9 S9 s => (s.bs (a := a1) (n := n1) (l := l1) (by repeat (first | exact Sel.keep | exact Sel.here | apply Sel.there))).len) (fun hf9 => ?_)
  have hl1 := hf9; clear hf9
  refine SG.seq ?_
  refine SG.region ?_
  refine SL.val rfl rfl (fun w9 F9 S9 s => R.as rfl) ?_
  refine SL.nil ?_
  refine SN.seq ?_
  refine SG.seq ?_
  refine SG.seq ?_
  refine SG.region ?_
  refine SL.step rfl rfl (CS.callR rfl go5 (fun w9 F9 S9 s => first44_law w9)) ?_
  rintro _ _ ⟨rfl, rfl⟩
  refine SL.val rfl rfl (fun w9 F9 S9 s => R.not rfl) ?_
  refine SL.nil ?_
  refine SN.seq ?_
  refine SG.condF rfl ?_
  refine SG.skip ?_
  refine SN.seq ?_
  refine SG.seq ?_
  refine SG.seq ?_
  refine SG.region ?_
  refine SL.val rfl rfl (fun w9 F9 S9 s => R.mv rfl) ?_
  refine SL.val rfl rfl (fun w9 F9 S9 s => R.lenS rfl) ?_
  refine SL.val rfl rfl (fun w9 F9 S9 s => R.gtr rfl rfl) ?_
  refine SL.val rfl rfl (fun w9 F9 S9 s => R.mv rfl) ?_
  refine SL.caseP 28 rfl (fun hg3_3 => ?_) (fun hg3_3 => ?_)
  · exfalso; omega
  · refine SL.val rfl rfl (fun w9 F9 S9 s => R.mv rfl) ?_
    refine SL.val rfl rfl (fun w9 F9 S9 s => R.lenS rfl) ?_
    refine SL.val rfl rfl (fun w9 F9 S9 s => R.gtr rfl rfl) ?_
    first | refine SL.val rfl rfl (fun w9 F9 S9 s => R.pickT rfl rfl) ?_ | refine SL.val rfl rfl (fun w9 F9 S9 s => R.pickF rfl rfl) ?_
    refine SL.val rfl rfl (fun w9 F9 S9 s => R.mv rfl) ?_
    refine SL.caseP 33 rfl (fun hg3_8 => ?_) (fun hg3_8 => ?_)
    · exfalso; omega
    · refine SL.val rfl rfl (fun w9 F9 S9 s => R.mv rfl) ?_
      refine SL.val rfl rfl (fun w9 F9 S9 s => R.lenS rfl) ?_
      refine SL.val rfl rfl (fun w9 F9 S9 s => R.gtr rfl rfl) ?_
      first | refine SL.val rfl rfl (fun w9 F9 S9 s => R.pickT rfl rfl) ?_ | refine SL.val rfl rfl (fun w9 F9 S9 s => R.pickF rfl rfl) ?_
      refine SL.nil ?_
      refine SN.seq ?_
      refine SG.condP rfl (fun h1 => ?_) (fun h1 => ?_)
      · exfalso; omega
      · refine SG.skip ?_
        refine SN.seq ?_
        refine SG.seq ?_
        refine SG.seq ?_
        refine SG.draw [1, 4, 8, 10] [0, 2, 3, 1, 4, 5, 6, 7, 9, 8, 10, 11, 12] (by decide +kernel) rfl ?_
        refine SW.pure rfl rfl rfl rfl (fun w9 => R.mv rfl) ?_
        refine SW.pure rfl rfl rfl rfl (fun w9 => R.mv rfl) ?_
        refine SW.read rfl rfl rfl rfl (fun w9 F9 S9 s => R.strB rfl (s.bs (l := l0) (by repeat (first | exact Sel.keep | exact Sel.here | apply Sel.there)))) ?_
        refine SW.step rfl rfl rfl rfl (CS.call rfl go6 (dsum_ok a0 n0 c0 l0 (by omega)) (by repeat (first | exact Sels.nil | apply Sels.cons | exact Sel.keep | exact Sel.here | apply Sel.there))) ?_
        rintro _ _ ⟨_, ⟨rfl, rfl⟩, rfl⟩
        refine ⟨⟨.inr (fun w9 F9 S9 s => R.strB rfl (s.bs (l := l0) (by repeat (first | exact Sel.keep | exact Sel.here | apply Sel.there)))), trivial⟩, ?_⟩
        refine SW.n0 ?_
        refine SW.step rfl rfl rfl rfl (CS.call rfl go7 (rsum_ok l0 (by omega)) (by repeat (first | exact Sels.nil | apply Sels.cons | exact Sel.keep | exact Sel.here | apply Sel.there))) ?_
        rintro _ _ ⟨_, ⟨rfl, rfl⟩, rfl⟩
        refine ⟨⟨.inl (by decide +kernel), trivial⟩, ?_⟩
        refine SW.n0 ?_
        refine SW.pure rfl rfl rfl rfl (fun w9 => R.neI rfl rfl) ?_
        refine SW.pure rfl rfl rfl rfl (fun w9 => R.mv rfl) ?_
        refine SW.caseP 44 rfl (fun hg5_6 => ?_) (fun hg5_6 => ?_)
        · exact absurd rfl hg5_6
        · refine SW.pure rfl rfl rfl rfl (fun w9 => R.mv rfl) ?_
          refine SW.pure rfl rfl rfl rfl (fun w9 => R.mv rfl) ?_
          refine SW.step rfl rfl rfl rfl (CS.call rfl go8 (dnode_ok a2 ks.length c2 ks rfl (by omega) hku) (by repeat (first | exact Sels.nil | apply Sels.cons | exact Sel.keep | exact Sel.here | apply Sel.there))) ?_
          rintro _ _ ⟨_, ⟨rfl, rfl⟩, rfl⟩
          refine ⟨⟨.inl (by decide +kernel), trivial⟩, ?_⟩
          refine SW.n0 ?_
          refine SW.step rfl rfl rfl rfl (CS.call rfl go9 (rnode_ok a2 ks.length c2 ks rfl (by omega) hku) (by repeat (first | exact Sels.nil | apply Sels.cons | exact Sel.keep | exact Sel.here | apply Sel.there))) ?_
          rintro _ _ ⟨_, ⟨rfl, rfl⟩, rfl⟩
          refine ⟨⟨.inl (by decide +kernel), trivial⟩, ?_⟩
          refine SW.n0 ?_
          refine SW.pure rfl rfl rfl rfl (fun w9 => R.neI rfl rfl) ?_
          first | refine SW.pure rfl rfl rfl rfl (fun w9 => R.pickT rfl rfl) ?_ | refine SW.pure rfl rfl rfl rfl (fun w9 => R.pickF rfl rfl) ?_
          refine SW.nil ?_
          refine SN.seq ?_
          refine SG.condP rfl (fun h2 => ?_) (fun h2 => ?_)
          · exact absurd rfl h2
          · refine SG.skip ?_
            refine SN.seq ?_
            refine SG.seq ?_
            refine SG.region ?_
            refine SL.val rfl rfl (fun w9 F9 S9 s => R.mv rfl) ?_
            refine SL.step rfl rfl (CS.callP rfl go10 (fun w9 F9 S9 s => ifromP a0 n0 c0 l0 w9 (s.bs (l := l0) (by repeat (first | exact Sel.keep | exact Sel.here | apply Sel.there))) hc0 hv0)) ?_
            rintro _ _ ⟨_, ⟨d0, g0, e0, cur0, ps0, rfl, rfl⟩, rfl⟩
            refine SL.val rfl rfl (fun w9 F9 S9 s => R.mv rfl) ?_
            refine SL.val rfl rfl (fun w9 F9 S9 s => R.ext rfl rfl) ?_
            refine SL.val rfl rfl (fun w9 F9 S9 s => R.ext rfl rfl) ?_
            refine SL.val rfl rfl (fun w9 F9 S9 s => R.as rfl) ?_
            refine SL.val rfl rfl (fun w9 F9 S9 s => R.as rfl) ?_
            refine SL.nil ?_
            refine SN.seq ?_
            refine SG.seq ?_
            refine SG.region ?_
            refine SL.val rfl rfl (fun w9 F9 S9 s => R.mv rfl) ?_
            refine SL.step rfl rfl (CS.callP rfl go10 (fun w9 F9 S9 s => ifromP a1 n1 c1 l1 w9 (s.bs (l := l1) (by repeat (first | exact Sel.keep | exact Sel.here | apply Sel.there))) hc1 hv1)) ?_
            rintro _ _ ⟨_, ⟨d1, g1, e1, cur1, ps1, rfl, rfl⟩, rfl⟩
            refine SL.val rfl rfl (fun w9 F9 S9 s => R.mv rfl) ?_
            refine SL.val rfl rfl (fun w9 F9 S9 s => R.ext rfl rfl) ?_
            refine SL.val rfl rfl (fun w9 F9 S9 s => R.ext rfl rfl) ?_
            refine SL.val rfl rfl (fun w9 F9 S9 s => R.as rfl) ?_
            refine SL.val rfl rfl (fun w9 F9 S9 s => R.as rfl) ?_
            refine SL.nil ?_
            refine SN.seq ?_
            refine SG.seq ?_
            refine SG.region ?_
            refine SL.val rfl rfl (fun w9 F9 S9 s => R.mv rfl) ?_
            refine SL.step rfl rfl (CS.call rfl go11 (dtree_ok d0 g0 e0 cur0 ps0 l0) (by repeat (first | exact Sels.nil | apply Sels.cons | exact Sel.keep | exact Sel.here | apply Sel.there))) ?_
            rintro _ _ ⟨_, ⟨at0, nt0, ct0, Rt0, rfl, rfl, hct0, hRt0, rfl⟩, rfl⟩
            refine SL.n1 ?_
            refine SL.val rfl rfl (fun w9 F9 S9 s => R.mv rfl) ?_
            refine SL.step rfl rfl (CS.call rfl go11 (dtree_ok d1 g1 e1 cur1 ps1 l1) (by repeat (first | exact Sels.nil | apply Sels.cons | exact Sel.keep | exact Sel.here | apply Sel.there))) ?_
            rintro _ _ ⟨_, ⟨at1, nt1, ct1, Rt1, rfl, rfl, hct1, hRt1, rfl⟩, rfl⟩
            refine SL.n1 ?_
            refine SL.val rfl rfl (fun w9 F9 S9 s => R.as rfl) ?_
            refine SL.val rfl rfl (fun w9 F9 S9 s => R.as rfl) ?_
            refine SL.nil ?_
            refine SN.seq ?_
            refine SG.seq ?_
            refine SG.seq ?_
            refine SG.region ?_
            refine SL.val rfl rfl (fun w9 F9 S9 s => R.mv rfl) ?_
            refine SL.val rfl rfl (fun w9 F9 S9 s => R.neI rfl rfl) ?_
            refine SL.val rfl rfl (fun w9 F9 S9 s => R.mv rfl) ?_
            refine SL.isF 67 rfl (decide_eq_false (by decide)) ?_
            refine SL.val rfl rfl (fun w9 F9 S9 s => R.mv rfl) ?_
            refine SL.val rfl rfl (fun w9 F9 S9 s => R.neI rfl rfl) ?_
            first | refine SL.val rfl rfl (fun w9 F9 S9 s => R.pickT rfl rfl) ?_ | refine SL.val rfl rfl (fun w9 F9 S9 s => R.pickF rfl rfl) ?_
            refine SL.nil ?_
            obtain ⟨hv01, hv02, hv03⟩ := hv0
            obtain ⟨hv11, hv12, hv13⟩ := hv1
            have hdn0 : Image.dn l0 = l0.length / 64 := rfl
            have hdn1 : Image.dn l1 = l1.length / 64 := rfl
            have h70 := treeD_seven (x := l0) (by omega)
            have h71 := treeD_seven (x := l1) (by omega)
            have hlt0 : Rt0.length = (treeD l0).length := by rw [← hRt0, List.length_map]
            have hlt1 : Rt1.length = (treeD l1).length := by rw [← hRt1, List.length_map]
            refine SN.seq ?_
            refine SG.condF rfl ?_
            refine SG.skip ?_
            refine SN.seq ?_
            refine SG.seq ?_
            refine SG.draw [2, 5] [0, 1, 3, 4, 2, 5, 6, 7] (by decide +kernel) rfl ?_
            refine SW.pure rfl rfl rfl rfl (fun w9 => R.mv rfl) ?_
            refine SW.read rfl rfl rfl rfl (fun w9 F9 S9 s => R.strB rfl (s.bs (l := l0) (by repeat (first | exact Sel.keep | exact Sel.here | apply Sel.there)))) ?_
            refine SW.pure rfl rfl rfl rfl (fun w9 => R.mv rfl) ?_
            refine SW.read rfl rfl rfl rfl (fun w9 F9 S9 s => R.strB rfl (s.bs (l := l1) (by repeat (first | exact Sel.keep | exact Sel.here | apply Sel.there)))) ?_
            refine SW.step rfl rfl rfl rfl (CS.call rfl go14 (rtree_ok l0 (by omega)) (by repeat (first | exact Sels.nil | apply Sels.cons | exact Sel.keep | exact Sel.here | apply Sel.there))) ?_
            rintro _ _ ⟨_, ⟨av, nv, cv, Rv, rfl, rfl, hRv, rfl⟩, rfl⟩
            refine ⟨⟨.inr (fun w9 F9 S9 s => R.strB rfl (s.bs (l := l1) (by repeat (first | exact Sel.keep | exact Sel.here | apply Sel.there)))), ⟨.inl (by decide +kernel), trivial⟩⟩, ?_⟩
            refine SW.n1 ?_
            refine SW.step rfl rfl rfl rfl (CS.call rfl go14 (rtree_ok l1 (by omega)) (by repeat (first | exact Sels.nil | apply Sels.cons | exact Sel.keep | exact Sel.here | apply Sel.there))) ?_
            rintro _ _ ⟨_, ⟨aw, nw, cw, Rw, rfl, rfl, hRw, rfl⟩, rfl⟩
            refine ⟨⟨.inl (by decide +kernel), ⟨.inl (by decide +kernel), trivial⟩⟩, ?_⟩
            refine SW.n1 ?_
            refine SW.pure rfl rfl rfl rfl (fun w9 => R.as rfl) ?_
            refine SW.pure rfl rfl rfl rfl (fun w9 => R.as rfl) ?_
            refine SW.nil ?_
            have hlv : Rv.length = (treeD l0).length := by rw [← hRv, List.length_map]
            have hlw : Rw.length = (treeD l1).length := by rw [← hRw, List.length_map]
            obtain ⟨top, htop, hroot⟩ := treeD_top (x := l0) (by omega)
            obtain ⟨hRvp, rtop, hrtop, hrl⟩ := row_topp hRv htop
            refine SN.seq ?_
            refine SG.seq ?_
            refine SG.seq ?_
            refine SG.region ?_
            refine SL.val rfl rfl (fun w9 F9 S9 s => R.mv rfl) ?_
            refine SL.val rfl rfl (fun w9 F9 S9 s => R.lenS rfl) ?_
            refine SL.val rfl rfl (fun w9 F9 S9 s => R.mv rfl) ?_
            refine SL.val rfl rfl (fun w9 F9 S9 s => R.lenS rfl) ?_
            refine SL.val rfl rfl (fun w9 F9 S9 s => R.neI rfl rfl) ?_
            refine SL.nil ?_
            refine SN.seq ?_
            refine SG.condP rfl (fun h4 => ?_) (fun h4 => ?_)
            · exfalso; omega
            · refine SG.skip ?_
              refine SN.seq ?_
              refine SG.seq ?_
              refine SG.seq ?_
              refine SG.region ?_
              refine SL.val rfl rfl (fun w9 F9 S9 s => R.mv rfl) ?_
              refine SL.val rfl rfl (fun w9 F9 S9 s => R.lenS rfl) ?_
              refine SL.val rfl rfl (fun w9 F9 S9 s => R.mv rfl) ?_
              refine SL.nil ?_
              refine SN.seq ?_
              refine SG.block ?_
              refine SG.loop (X := Nat) (fun i => [(0, .slice a0 n0 c0), (1, .slice a1 n1 c1), (7, .pointer (some ⟨d0, 0, none⟩)), (11, .slice at0 Rt0.length ct0), (12, .slice at1 Rt1.length ct1), (15, .slice av Rv.length cv), (16, .slice aw Rw.length cw), (112, .slice at0 Rt0.length ct0), (113, .int .i64 (Rt0.length : Int)), (114, .int .i64 (i : Int))]) (fun i => [sh (fun w => Cells w at0 (Rt0.map URow.val) ∧ ∀ r ∈ Rt0, URow.ok w r), sh (fun w => Cells w at1 (Rt1.map URow.val) ∧ ∀ r ∈ Rt1, URow.ok w r), sh (fun w => Cells w av (Rv.map URow.val) ∧ ∀ r ∈ Rv, URow.ok w r), sh (fun w => Cells w aw (Rw.map URow.val) ∧ ∀ r ∈ Rw, URow.ok w r), sh (fun w => DiskL w d0 g0 e0 cur0 ps0 l0)]) (fun i => i ≤ Rt0.length) (fun i => Rt0.length - i) (0) (Sub.cons rfl (Sub.cons rfl (Sub.cons rfl (Sub.cons rfl (Sub.cons rfl (Sub.cons rfl (Sub.cons rfl (Sub.cons rfl (Sub.cons rfl (Sub.cons rfl (Sub.nil _))))))))))) ((Imp.sels (by repeat (first | exact Sels.nil | apply Sels.cons | exact Sel.keep | exact Sel.here | apply Sel.there)))) (Nat.zero_le _) ?_
              intro i hi
              show SG _ _ _ _ _ [(0, .slice a0 n0 c0), (1, .slice a1 n1 c1), (7, .pointer (some ⟨d0, 0, none⟩)), (11, .slice at0 Rt0.length ct0), (12, .slice at1 Rt1.length ct1), (15, .slice av Rv.length cv), (16, .slice aw Rw.length cw), (112, .slice at0 Rt0.length ct0), (113, .int .i64 (Rt0.length : Int)), (114, .int .i64 (i : Int))] [sh (fun w => Cells w at0 (Rt0.map URow.val) ∧ ∀ r ∈ Rt0, URow.ok w r), sh (fun w => Cells w at1 (Rt1.map URow.val) ∧ ∀ r ∈ Rt1, URow.ok w r), sh (fun w => Cells w av (Rv.map URow.val) ∧ ∀ r ∈ Rv, URow.ok w r), sh (fun w => Cells w aw (Rw.map URow.val) ∧ ∀ r ∈ Rw, URow.ok w r), sh (fun w => DiskL w d0 g0 e0 cur0 ps0 l0)] _
              refine SG.seq ?_
              refine SG.region ?_
              refine SL.val rfl rfl (fun w9 F9 S9 s => R.lss rfl rfl) ?_
              refine SL.nil ?_
              refine SN.seq ?_
              refine SG.seq ?_
              refine SG.condP rfl (fun h5 => ?_) (fun h5 => ?_)
              · obtain ⟨rt, hrt⟩ : ∃ r, Rt0[i]? = some r := ⟨_, List.getElem?_eq_getElem (by omega)⟩
                obtain ⟨rv, hrv⟩ : ∃ r, Rv[i]? = some r := ⟨_, List.getElem?_eq_getElem (by omega)⟩
                refine SG.fact (fun w9 F9 S9 s => rows_pt (s.sh (p := (fun w => Cells w at0 (Rt0.map URow.val) ∧ ∀ r ∈ Rt0, URow.ok w r)) (by repeat (first | exact Sel.keep | exact Sel.here | apply Sel.there))).1 hrt) (fun hf9 => ?_)
                obtain ⟨q, hq⟩ := hf9
                refine SG.fact (fun w9 F9 S9 s => rows_pt (s.sh (p := (fun w => Cells w av (Rv.map URow.val) ∧ ∀ r ∈ Rv, URow.ok w r)) (by repeat (first | exact Sel.keep | exact Sel.here | apply Sel.there))).1 hrv) (fun hf9 => ?_)
                obtain ⟨q2, hq2⟩ := hf9
                refine SG.fact (fun w9 F9 S9 s => (s.sh (p := (fun w => Cells w at0 (Rt0.map URow.val) ∧ ∀ r ∈ Rt0, URow.ok w r)) (by repeat (first | exact Sel.keep | exact Sel.here | apply Sel.there))).2 rt (List.mem_of_getElem? hrt) |>.len) (fun hf9 => ?_)
                have hkt := hf9; clear hf9
                refine SG.fact (fun w9 F9 S9 s => (s.sh (p := (fun w => Cells w av (Rv.map URow.val) ∧ ∀ r ∈ Rv, URow.ok w r)) (by repeat (first | exact Sel.keep | exact Sel.here | apply Sel.there))).2 rv (List.mem_of_getElem? hrv) |>.len) (fun hf9 => ?_)
                have hkv := hf9; clear hf9
                have hsm : rt.l = rv.l := row_same (hRt0.trans hRv.symm) hrt hrv
                refine SG.imp (Imp.weak (p := (fun w => Cells w at0 (Rt0.map URow.val) ∧ ∀ r ∈ Rt0, URow.ok w r)) (q := fun w => Cells w rt.a (us rt.l)) (by repeat (first | exact Sel.keep | exact Sel.here | apply Sel.there)) (fun w h => (h.2 rt (List.mem_of_getElem? hrt)).cells)) ?_
                refine SG.imp (Imp.weak (p := (fun w => Cells w av (Rv.map URow.val) ∧ ∀ r ∈ Rv, URow.ok w r)) (q := fun w => Cells w rv.a (us rv.l)) (by repeat (first | exact Sel.keep | exact Sel.here | apply Sel.there)) (fun w h => (h.2 rv (List.mem_of_getElem? hrv)).cells)) ?_
                have hrlen : rt.l.length ≤ 64 := treeD_row (by omega) (show rt.l ∈ treeD l0 by rw [← hRt0]; exact List.mem_map_of_mem (List.mem_of_getElem? hrt))
                refine SG.skip ?_
                refine SN.seq ?_
                refine SG.seq ?_
                refine SG.block ?_
                refine SG.seq ?_
                refine SG.region ?_
                refine SL.val rfl rfl (fun w9 F9 S9 s => R.mv rfl) ?_
                refine SL.val rfl rfl (fun w9 F9 S9 s => R.as rfl) ?_
                refine SL.nil ?_
                refine SN.seq ?_
                refine SG.seq ?_
                refine SG.draw [8] [0, 1, 2, 3, 4, 5, 6, 7, 8, 9] (by decide +kernel) rfl ?_
                refine SW.pure rfl rfl rfl rfl (fun w9 => R.mv rfl) ?_
                refine SW.pure rfl rfl rfl rfl (fun w9 => R.mv rfl) ?_
                refine SW.pure rfl rfl rfl rfl (fun w9 => R.idx rfl rfl (by omega) (by omega) q hq) ?_
                refine SW.read rfl rfl rfl rfl (fun w9 F9 S9 s => R.ld (v := .slice rt.a rt.n rt.c) rfl (rows_ld (s.sh (p := (fun w => Cells w at0 (Rt0.map URow.val) ∧ ∀ r ∈ Rt0, URow.ok w r)) (by repeat (first | exact Sel.keep | exact Sel.here | apply Sel.there))).1 hq hrt)) ?_
                refine SW.pure rfl rfl rfl rfl (fun w9 => R.mv rfl) ?_
                refine SW.pure rfl rfl rfl rfl (fun w9 => R.mv rfl) ?_
                refine SW.pure rfl rfl rfl rfl (fun w9 => R.idx rfl rfl (by omega) (by omega) q2 hq2) ?_
                refine SW.read rfl rfl rfl rfl (fun w9 F9 S9 s => R.ld (v := .slice rv.a rv.n rv.c) rfl (rows_ld (s.sh (p := (fun w => Cells w av (Rv.map URow.val) ∧ ∀ r ∈ Rv, URow.ok w r)) (by repeat (first | exact Sel.keep | exact Sel.here | apply Sel.there))).1 hq2 hrv)) ?_
                refine SW.be 120 rfl (show _ = Value.slice rt.a rt.l.length rt.c by rw [hkt]) ?_
                refine SW.be 124 rfl (show _ = Value.slice rv.a rv.l.length rv.c by rw [hkv]) ?_
                refine SW.step rfl rfl rfl rfl (CS.call rfl go15 (same44_ok rt.a rv.a rt.c rv.c rt.l rv.l (by omega)) (by repeat (first | exact Sels.nil | apply Sels.cons | exact Sel.keep | exact Sel.here | apply Sel.there))) ?_
                rintro _ _ ⟨_, ⟨rfl, rfl⟩, rfl⟩
                refine ⟨⟨.inl (by decide +kernel), ⟨.inl (by decide +kernel), trivial⟩⟩, ?_⟩
                refine SW.n0 ?_
                refine SW.pure rfl rfl rfl rfl (fun w9 => R.not rfl) ?_
                refine SW.nil ?_
                refine SN.seq ?_
                refine SG.condB rfl (fun h6 => ?_) (fun h6 => ?_)
                · exfalso; rw [decide_eq_true hsm] at h6; cases h6
                · refine SG.skip ?_
                  refine SN.block ?_
                  refine SN.seq ?_
                  refine SG.region ?_
                  refine SL.val rfl rfl (fun w9 F9 S9 s => R.add rfl rfl (by omega)) ?_
                  refine SL.val rfl rfl (fun w9 F9 S9 s => R.mv rfl) ?_
                  refine SL.nil ?_
                  exact SN.again (i + 1) (by show Rt0.length - (i + 1) < Rt0.length - i; omega) (Sub.cons rfl (Sub.cons rfl (Sub.cons rfl (Sub.cons rfl (Sub.cons rfl (Sub.cons rfl (Sub.cons rfl (Sub.cons rfl (Sub.cons rfl (Sub.cons rfl (Sub.nil _))))))))))) ((Imp.sels (by repeat (first | exact Sels.nil | apply Sels.cons | exact Sel.keep | exact Sel.here | apply Sel.there)))) (by show i + 1 ≤ Rt0.length; omega)
              · refine SG.exit _ rfl ?_
                refine SN.seq ?_
                refine SG.seq ?_
                refine SG.region ?_
                refine SL.val rfl rfl (fun w9 F9 S9 s => R.mv rfl) ?_
                refine SL.val rfl rfl (fun w9 F9 S9 s => R.mv rfl) ?_
                refine SL.step rfl rfl (CS.call rfl go12 (ddif_ok at0 at1 ct0 ct1 Rt0 Rt1 (by omega)) (by repeat (first | exact Sels.nil | apply Sels.cons | exact Sel.keep | exact Sel.here | apply Sel.there))) ?_
                rintro _ _ ⟨_, ⟨a18, c18, rfl, rfl, rfl⟩, rfl⟩
                refine SL.n1 ?_
                refine SL.val rfl rfl (fun w9 F9 S9 s => R.mv rfl) ?_
                refine SL.val rfl rfl (fun w9 F9 S9 s => R.ext rfl rfl) ?_
                refine SL.val rfl rfl (fun w9 F9 S9 s => R.ext rfl rfl) ?_
                refine SL.val rfl rfl (fun w9 F9 S9 s => R.as rfl) ?_
                refine SL.val rfl rfl (fun w9 F9 S9 s => R.as rfl) ?_
                refine SL.nil ?_
                rw [hRt0, hRt1]
                refine SN.seq ?_
                refine SG.seq ?_
                refine SG.seq ?_
                refine SG.region ?_
                refine SL.val rfl rfl (fun w9 F9 S9 s => R.mv rfl) ?_
                refine SL.val rfl rfl (fun w9 F9 S9 s => R.lenS rfl) ?_
                refine SL.val rfl rfl (fun w9 F9 S9 s => R.mv rfl) ?_
                refine SL.val rfl rfl (fun w9 F9 S9 s => R.lenS rfl) ?_
                refine SL.val rfl rfl (fun w9 F9 S9 s => R.neI rfl rfl) ?_
                refine SL.nil ?_
                refine SN.seq ?_
                refine SG.condP rfl (fun h7 => ?_) (fun h7 => ?_)
                · have hno : (difF (treeD l0) (treeD l1)) = ([], 0) := dif_no (treeD_unlike (by omega) (by omega) (by omega))
                  rw [hno]
                  refine SG.seq ?_
                  refine SG.region ?_
                  refine SL.val rfl rfl (fun w9 F9 S9 s => R.mv rfl) ?_
                  refine SL.val rfl rfl (fun w9 F9 S9 s => R.lenS rfl) ?_
                  refine SL.val rfl rfl (fun w9 F9 S9 s => R.eqI rfl rfl) ?_
                  refine SL.val rfl rfl (fun w9 F9 S9 s => R.mv rfl) ?_
                  refine SL.isT 142 rfl (decide_eq_true rfl) ?_
                  refine SL.val rfl rfl (fun w9 F9 S9 s => R.mv rfl) ?_
                  refine SL.val rfl rfl (fun w9 F9 S9 s => R.eqI rfl rfl) ?_
                  first | refine SL.val rfl rfl (fun w9 F9 S9 s => R.pickT rfl rfl) ?_ | refine SL.val rfl rfl (fun w9 F9 S9 s => R.pickF rfl rfl) ?_
                  refine SL.val rfl rfl (fun w9 F9 S9 s => R.as rfl) ?_
                  refine SL.nil ?_
                  refine SN.seq ?_
                  exact SG.ret1 rfl rfl ((Imp.sels (by repeat (first | exact Sels.nil | apply Sels.cons | exact Sel.keep | exact Sel.here | apply Sel.there)))) (congrArg Value.bool (decide_eq_true rfl))
                · have hlike := treeD_like (x := l0) (y := l1) (by omega) (by omega)
                  have hlk2 := likeT_len hlike
                  refine SG.skip ?_
                  refine SN.seq ?_
                  refine SG.seq ?_
                  refine SG.region ?_
                  refine SL.val rfl rfl (fun w9 F9 S9 s => R.mv rfl) ?_
                  refine SL.val rfl rfl (fun w9 F9 S9 s => R.mv rfl) ?_
                  refine SL.val rfl rfl (fun w9 F9 S9 s => R.mv rfl) ?_
                  refine SL.val rfl rfl (fun w9 F9 S9 s => R.lenS rfl) ?_
                  refine SL.val rfl rfl (fun w9 F9 S9 s => R.sub' rfl rfl (by omega)) ?_
                  refine SL.be 151 rfl (congrArg (Value.int .i64) (show (Rv.length : Int) - 1 = (((treeD l0).length - 1 : Nat) : Int) by omega)) ?_
                  refine SL.step rfl rfl (CS.call rfl go16 (rdif_ok av aw cv cw Rv Rw (by omega) (by omega) (by rw [hRv, hRw]; exact hlike) ((treeD l0).length - 1) 0 (by omega) (by have : 2 ^ ((treeD l0).length - 1) ≤ 2 ^ 20 := Nat.pow_le_pow_right (by decide) (by omega); omega)) (by repeat (first | exact Sels.nil | apply Sels.cons | exact Sel.keep | exact Sel.here | apply Sel.there))) ?_
                  rintro _ _ ⟨_, ⟨a20, c20, rfl, rfl, rfl⟩, rfl⟩
                  refine SL.n1 ?_
                  refine SL.val rfl rfl (fun w9 F9 S9 s => R.mv rfl) ?_
                  refine SL.val rfl rfl (fun w9 F9 S9 s => R.ext rfl rfl) ?_
                  refine SL.val rfl rfl (fun w9 F9 S9 s => R.ext rfl rfl) ?_
                  refine SL.val rfl rfl (fun w9 F9 S9 s => R.as rfl) ?_
                  refine SL.val rfl rfl (fun w9 F9 S9 s => R.as rfl) ?_
                  refine SL.nil ?_
                  rw [hRv, hRw, ← difF_rd (by omega) (by omega)]
                  have hdl : (difF (treeD l0) (treeD l1)).1.length ≤ 64 := difF_len (by omega) (by omega)
                  refine SN.seq ?_
                  refine SG.seq ?_
                  refine SG.seq ?_
                  refine SG.region ?_
                  refine SL.val rfl rfl (fun w9 F9 S9 s => R.mv rfl) ?_
                  refine SL.val rfl rfl (fun w9 F9 S9 s => R.lenS rfl) ?_
                  refine SL.val rfl rfl (fun w9 F9 S9 s => R.mv rfl) ?_
                  refine SL.val rfl rfl (fun w9 F9 S9 s => R.lenS rfl) ?_
                  refine SL.val rfl rfl (fun w9 F9 S9 s => R.neI rfl rfl) ?_
                  refine SL.val rfl rfl (fun w9 F9 S9 s => R.mv rfl) ?_
                  refine SL.caseP 160 rfl (fun hg26_5 => ?_) (fun hg26_5 => ?_)
                  · exact absurd rfl hg26_5
                  · refine SL.val rfl rfl (fun w9 F9 S9 s => R.mv rfl) ?_
                    refine SL.val rfl rfl (fun w9 F9 S9 s => R.mv rfl) ?_
                    refine SL.val rfl rfl (fun w9 F9 S9 s => R.neI rfl rfl) ?_
                    first | refine SL.val rfl rfl (fun w9 F9 S9 s => R.pickT rfl rfl) ?_ | refine SL.val rfl rfl (fun w9 F9 S9 s => R.pickF rfl rfl) ?_
                    refine SL.nil ?_
                    refine SN.seq ?_
                    refine SG.condP rfl (fun h8 => ?_) (fun h8 => ?_)
                    · exact absurd rfl h8
                    · refine SG.skip ?_
                      refine SN.seq ?_
                      refine SG.seq ?_
                      refine SG.seq ?_
                      refine SG.region ?_
                      refine SL.val rfl rfl (fun w9 F9 S9 s => R.mv rfl) ?_
                      refine SL.val rfl rfl (fun w9 F9 S9 s => R.lenS rfl) ?_
                      refine SL.val rfl rfl (fun w9 F9 S9 s => R.mv rfl) ?_
                      refine SL.nil ?_
                      refine SN.seq ?_
                      refine SG.block ?_
                      refine SG.loop (X := Nat) (fun i => [(7, .pointer (some ⟨d0, 0, none⟩)), (15, .slice av Rv.length cv), (18, .slice a18 (difF (treeD l0) (treeD l1)).1.length c18), (20, .slice a20 (difF (treeD l0) (treeD l1)).1.length c20), (165, .slice a18 (difF (treeD l0) (treeD l1)).1.length c18), (166, .int .i64 ((difF (treeD l0) (treeD l1)).1.length : Int)), (167, .int .i64 (i : Int))]) (fun i => [own 3 1 a18 ((difF (treeD l0) (treeD l1)).1.length) c18 (nums ((difF (treeD l0) (treeD l1)).1)), own 3 1 a20 ((difF (treeD l0) (treeD l1)).1.length) c20 (nums ((difF (treeD l0) (treeD l1)).1)), sh (fun w => Cells w av (Rv.map URow.val) ∧ ∀ r ∈ Rv, URow.ok w r), sh (fun w => DiskL w d0 g0 e0 cur0 ps0 l0)]) (fun i => i ≤ (difF (treeD l0) (treeD l1)).1.length) (fun i => (difF (treeD l0) (treeD l1)).1.length - i) (0) (Sub.cons rfl (Sub.cons rfl (Sub.cons rfl (Sub.cons rfl (Sub.cons rfl (Sub.cons rfl (Sub.cons rfl (Sub.nil _)))))))) ((Imp.sels (by repeat (first | exact Sels.nil | apply Sels.cons | exact Sel.keep | exact Sel.here | apply Sel.there)))) (Nat.zero_le _) ?_
                      intro i hi
                      show SG _ _ _ _ _ [(7, .pointer (some ⟨d0, 0, none⟩)), (15, .slice av Rv.length cv), (18, .slice a18 (difF (treeD l0) (treeD l1)).1.length c18), (20, .slice a20 (difF (treeD l0) (treeD l1)).1.length c20), (165, .slice a18 (difF (treeD l0) (treeD l1)).1.length c18), (166, .int .i64 ((difF (treeD l0) (treeD l1)).1.length : Int)), (167, .int .i64 (i : Int))] [own 3 1 a18 ((difF (treeD l0) (treeD l1)).1.length) c18 (nums ((difF (treeD l0) (treeD l1)).1)), own 3 1 a20 ((difF (treeD l0) (treeD l1)).1.length) c20 (nums ((difF (treeD l0) (treeD l1)).1)), sh (fun w => Cells w av (Rv.map URow.val) ∧ ∀ r ∈ Rv, URow.ok w r), sh (fun w => DiskL w d0 g0 e0 cur0 ps0 l0)] _
                      refine SG.seq ?_
                      refine SG.region ?_
                      refine SL.val rfl rfl (fun w9 F9 S9 s => R.lss rfl rfl) ?_
                      refine SL.nil ?_
                      refine SN.seq ?_
                      refine SG.seq ?_
                      refine SG.condP rfl (fun h9 => ?_) (fun h9 => ?_)
                      · obtain ⟨z, hz⟩ : ∃ z, (difF (treeD l0) (treeD l1)).1[i]? = some z := ⟨_, List.getElem?_eq_getElem (by omega)⟩
                        refine SG.fact (fun w9 F9 S9 s => nums_pt (s.ownC (show Sel _ (own 3 1 a18 ((difF (treeD l0) (treeD l1)).1.length) c18 (nums ((difF (treeD l0) (treeD l1)).1))) _ from (by repeat (first | exact Sel.keep | exact Sel.here | apply Sel.there)))) hz) (fun hf9 => ?_)
                        obtain ⟨q, hq⟩ := hf9
                        refine SG.fact (fun w9 F9 S9 s => nums_pt (s.ownC (show Sel _ (own 3 1 a20 ((difF (treeD l0) (treeD l1)).1.length) c20 (nums ((difF (treeD l0) (treeD l1)).1))) _ from (by repeat (first | exact Sel.keep | exact Sel.here | apply Sel.there)))) hz) (fun hf9 => ?_)
                        obtain ⟨q2, hq2⟩ := hf9
                        refine SG.skip ?_
                        refine SN.seq ?_
                        refine SG.seq ?_
                        refine SG.block ?_
                        refine SG.seq ?_
                        refine SG.region ?_
                        refine SL.val rfl rfl (fun w9 F9 S9 s => R.mv rfl) ?_
                        refine SL.val rfl rfl (fun w9 F9 S9 s => R.as rfl) ?_
                        refine SL.nil ?_
                        refine SN.seq ?_
                        refine SG.seq ?_
                        refine SG.draw [] [0, 1, 2, 3, 4, 5, 6, 7, 8] (by decide +kernel) rfl ?_
                        refine SW.pure rfl rfl rfl rfl (fun w9 => R.mv rfl) ?_
                        refine SW.pure rfl rfl rfl rfl (fun w9 => R.mv rfl) ?_
                        refine SW.pure rfl rfl rfl rfl (fun w9 => R.idx rfl rfl (by omega) (by omega) q hq) ?_
                        refine SW.read rfl rfl rfl rfl (fun w9 F9 S9 s => R.ld (v := .int .i64 (z : Int)) rfl (nums_ld (s.ownC (show Sel _ (own 3 1 a18 ((difF (treeD l0) (treeD l1)).1.length) c18 (nums ((difF (treeD l0) (treeD l1)).1))) _ from (by repeat (first | exact Sel.keep | exact Sel.here | apply Sel.there)))) hq hz)) ?_
                        refine SW.pure rfl rfl rfl rfl (fun w9 => R.mv rfl) ?_
                        refine SW.pure rfl rfl rfl rfl (fun w9 => R.mv rfl) ?_
                        refine SW.pure rfl rfl rfl rfl (fun w9 => R.idx rfl rfl (by omega) (by omega) q2 hq2) ?_
                        refine SW.read rfl rfl rfl rfl (fun w9 F9 S9 s => R.ld (v := .int .i64 (z : Int)) rfl (nums_ld (s.ownC (show Sel _ (own 3 1 a20 ((difF (treeD l0) (treeD l1)).1.length) c20 (nums ((difF (treeD l0) (treeD l1)).1))) _ from (by repeat (first | exact Sel.keep | exact Sel.here | apply Sel.there)))) hq2 hz)) ?_
                        refine SW.pure rfl rfl rfl rfl (fun w9 => R.neI rfl rfl) ?_
                        refine SW.nil ?_
                        refine SN.seq ?_
                        refine SG.condP rfl (fun h10 => ?_) (fun h10 => ?_)
                        · exact absurd rfl h10
                        · refine SG.skip ?_
                          refine SN.block ?_
                          refine SN.seq ?_
                          refine SG.region ?_
                          refine SL.val rfl rfl (fun w9 F9 S9 s => R.add rfl rfl (by omega)) ?_
                          refine SL.val rfl rfl (fun w9 F9 S9 s => R.mv rfl) ?_
                          refine SL.nil ?_
                          exact SN.again (i + 1) (by show (difF (treeD l0) (treeD l1)).1.length - (i + 1) < (difF (treeD l0) (treeD l1)).1.length - i; omega) (Sub.cons rfl (Sub.cons rfl (Sub.cons rfl (Sub.cons rfl (Sub.cons rfl (Sub.cons rfl (Sub.cons rfl (Sub.nil _)))))))) ((Imp.sels (by repeat (first | exact Sels.nil | apply Sels.cons | exact Sel.keep | exact Sel.here | apply Sel.there)))) (by show i + 1 ≤ (difF (treeD l0) (treeD l1)).1.length; omega)
                      · refine SG.exit _ rfl ?_
                        refine SN.seq ?_
                        refine SG.seq ?_
                        refine SG.fact (fun w9 F9 S9 s => rows_pt (s.sh (p := (fun w => Cells w av (Rv.map URow.val) ∧ ∀ r ∈ Rv, URow.ok w r)) (by repeat (first | exact Sel.keep | exact Sel.here | apply Sel.there))).1 hrtop) (fun hf9 => ?_)
                        obtain ⟨q, hq⟩ := hf9
                        refine SG.fact (fun w9 F9 S9 s => (s.sh (p := (fun w => Cells w av (Rv.map URow.val) ∧ ∀ r ∈ Rv, URow.ok w r)) (by repeat (first | exact Sel.keep | exact Sel.here | apply Sel.there))).2 rtop (List.mem_of_getElem? hrtop) |>.len) (fun hf9 => ?_)
                        have hkr := hf9; clear hf9
                        have hr0 : rtop.l[0]? = some top := by rw [hrl]; rfl
                        have hl1 : rtop.l.length = 1 := by rw [hrl]; rfl
                        refine SG.fact (fun w9 F9 S9 s => us_pt ((s.sh (p := (fun w => Cells w av (Rv.map URow.val) ∧ ∀ r ∈ Rv, URow.ok w r)) (by repeat (first | exact Sel.keep | exact Sel.here | apply Sel.there))).2 rtop (List.mem_of_getElem? hrtop)).cells hr0) (fun hf9 => ?_)
                        obtain ⟨q2, hq2⟩ := hf9
                        refine SG.draw [1] [0, 2, 3, 4, 5, 6, 7, 8, 9, 1, 10, 11] (by decide +kernel) rfl ?_
                        refine SW.pure rfl rfl rfl rfl (fun w9 => R.mv rfl) ?_
                        refine SW.pure rfl rfl rfl rfl (fun w9 => R.mv rfl) ?_
                        refine SW.pure rfl rfl rfl rfl (fun w9 => R.mv rfl) ?_
                        refine SW.pure rfl rfl rfl rfl (fun w9 => R.lenS rfl) ?_
                        refine SW.pure rfl rfl rfl rfl (fun w9 => R.sub' rfl rfl (by omega)) ?_
                        refine SW.be 185 rfl (congrArg (Value.int .i64) (show (Rv.length : Int) - 1 = ((Rv.length - 1 : Nat) : Int) by omega)) ?_
                        refine SW.pure rfl rfl rfl rfl (fun w9 => R.idx rfl rfl (by omega) (by omega) q hq) ?_
                        refine SW.read rfl rfl rfl rfl (fun w9 F9 S9 s => R.ld (v := .slice rtop.a rtop.n rtop.c) rfl (rows_ld (s.sh (p := (fun w => Cells w av (Rv.map URow.val) ∧ ∀ r ∈ Rv, URow.ok w r)) (by repeat (first | exact Sel.keep | exact Sel.here | apply Sel.there))).1 hq hrtop)) ?_
                        refine SW.pure rfl rfl rfl rfl (fun w9 => R.idx (i := 0) rfl rfl (by omega) (by omega) q2 hq2) ?_
                        refine SW.read rfl rfl rfl rfl (fun w9 F9 S9 s => R.ld (v := .int .u64 (top : Int)) rfl (us_ld (i := 0) ((s.sh (p := (fun w => Cells w av (Rv.map URow.val) ∧ ∀ r ∈ Rv, URow.ok w r)) (by repeat (first | exact Sel.keep | exact Sel.here | apply Sel.there))).2 rtop (List.mem_of_getElem? hrtop)).cells hq2 hr0)) ?_
                        refine SW.step rfl rfl rfl rfl (CS.call rfl go13 (droot_ok d0 g0 e0 cur0 ps0 l0) (by repeat (first | exact Sels.nil | apply Sels.cons | exact Sel.keep | exact Sel.here | apply Sel.there))) ?_
                        rintro _ _ ⟨_, ⟨rfl, rfl⟩, rfl⟩
                        refine ⟨⟨.inr (fun w9 F9 S9 s => R.ld (v := .int .u64 (top : Int)) rfl (us_ld (i := 0) ((s.sh (p := (fun w => Cells w av (Rv.map URow.val) ∧ ∀ r ∈ Rv, URow.ok w r)) (by repeat (first | exact Sel.keep | exact Sel.here | apply Sel.there))).2 rtop (List.mem_of_getElem? hrtop)).cells hq2 hr0)), ⟨.inr (fun w9 F9 S9 s => R.ld (v := .slice rtop.a rtop.n rtop.c) rfl (rows_ld (s.sh (p := (fun w => Cells w av (Rv.map URow.val) ∧ ∀ r ∈ Rv, URow.ok w r)) (by repeat (first | exact Sel.keep | exact Sel.here | apply Sel.there))).1 hq hrtop)), trivial⟩⟩, ?_⟩
                        refine SW.n0 ?_
                        rw [hroot]
                        refine SW.pure rfl rfl rfl rfl (fun w9 => R.eqI rfl rfl) ?_
                        refine SW.pure rfl rfl rfl rfl (fun w9 => R.as rfl) ?_
                        refine SW.nil ?_
                        refine SN.seq ?_
                        exact SG.ret1 rfl rfl ((Imp.sels (by repeat (first | exact Sels.nil | apply Sels.cons | exact Sel.keep | exact Sel.here | apply Sel.there)))) (congrArg Value.bool (decide_eq_true rfl))

end Go.Proofs.Ytiggahlnplaciaa
