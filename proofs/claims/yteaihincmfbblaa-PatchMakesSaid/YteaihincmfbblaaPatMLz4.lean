/-
  Texts of this claim, put together.
-/
import Derived.Test.YteaihincmfbblaaPatMLz3
/-
  The walks of package patch.
-/
set_option linter.unusedVariables false
set_option linter.unusedSimpArgs false
set_option maxRecDepth 4000
namespace Go.Proofs.Yteaihincmfbblaa
open Go Brv Brv.Pack Brv.Shrink Brv.Patch
theorem disks_yy (a0 a1 : Option Addr) (n0 n1 c0 c1 : Nat) (l0 l1 : List UInt8) (w : World) (hb0 : Bs w a0 n0 l0) (hc0 : n0 ≤ c0) (hb1 : Bs w a1 n1 l1) (hc1 : n1 ≤ c1) (hm : n0 ≤ 140737488351232 ∧ n1 ≤ 140737488351232) (hv0 : l0.length = 64 * Image.dn l0 ∧ 1 ≤ Image.dn l0 ∧ Image.dn l0 ≤ 64) (hv1 : l1.length = 64 * Image.dn l1 ∧ 1 ≤ Image.dn l1 ∧ Image.dn l1 ≤ 64) : Meets Try.prog 7 [.slice a0 n0 c0, .slice a1 n1 c1] w (fun v w' => ∃ p : World → Prop, (∃ d0 g0 e0 cur0 ps0 d1 g1 e1 cur1 ps1, v = .tuple #[.pointer (some ⟨d0, 0, none⟩), .pointer (some ⟨d1, 0, none⟩), .bool true] ∧ p = fun w => DiskL w d0 g0 e0 cur0 ps0 l0 ∧ DiskL w d1 g1 e1 cur1 ps1 l1) ∧ Ext [] w w' ∧ ∀ w'', Ext [] w' w'' → p w'') := by
  refine Meets.lawP (φ := fun v p => ∃ d0 g0 e0 cur0 ps0 d1 g1 e1 cur1 ps1, v = .tuple #[.pointer (some ⟨d0, 0, none⟩), .pointer (some ⟨d1, 0, none⟩), .bool true] ∧ p = fun w => DiskL w d0 g0 e0 cur0 ps0 l0 ∧ DiskL w d1 g1 e1 cur1 ps1 l1) Try.func7 rfl 29 rfl (Nat.le_of_ble_eq_true rfl) (law_bs (hb0) (law_bs (hb1) (law_nil w))) ?_
  refine SG.seq ?_
  refine SG.region ?_
  refine SL.val rfl rfl (fun w9 F9 S9 s => R.as rfl) ?_
  refine SL.val rfl rfl (fun w9 F9 S9 s => R.as rfl) ?_
  refine SL.val rfl rfl (fun w9 F9 S9 s => R.as rfl) ?_
  refine SL.nil ?_
  refine SN.seq ?_
  refine SG.seq ?_
  refine SG.region ?_
  refine SL.val rfl rfl (fun w9 F9 S9 s => R.mv rfl) ?_
  refine SL.step rfl rfl (CS.callP rfl go22 (fun w9 F9 S9 s => ifromP a0 n0 c0 l0 w9 (s.bs (l := l0) (by repeat (first | exact Sel.keep | exact Sel.here | apply Sel.there))) hc0 hv0)) ?_
  rintro _ _ ⟨_, ⟨d0, g0, e0, cur0, ps0, rfl, rfl⟩, rfl⟩
  refine SL.val rfl rfl (fun w9 F9 S9 s => R.mv rfl) ?_
  refine SL.val rfl rfl (fun w9 F9 S9 s => R.ext rfl rfl) ?_
  refine SL.val rfl rfl (fun w9 F9 S9 s => R.ext rfl rfl) ?_
  refine SL.val rfl rfl (fun w9 F9 S9 s => R.as rfl) ?_
  refine SL.val rfl rfl (fun w9 F9 S9 s => R.as rfl) ?_
  refine SL.nil ?_
  refine SN.seq ?_
  refine SG.seq ?_
  refine SG.region ?_
  refine SL.val rfl rfl (fun w9 F9 S9 s => R.mv rfl) ?_
  refine SL.step rfl rfl (CS.callP rfl go22 (fun w9 F9 S9 s => ifromP a1 n1 c1 l1 w9 (s.bs (l := l1) (by repeat (first | exact Sel.keep | exact Sel.here | apply Sel.there))) hc1 hv1)) ?_
  rintro _ _ ⟨_, ⟨d1, g1, e1, cur1, ps1, rfl, rfl⟩, rfl⟩
  refine SL.val rfl rfl (fun w9 F9 S9 s => R.mv rfl) ?_
  refine SL.val rfl rfl (fun w9 F9 S9 s => R.ext rfl rfl) ?_
  refine SL.val rfl rfl (fun w9 F9 S9 s => R.ext rfl rfl) ?_
  refine SL.val rfl rfl (fun w9 F9 S9 s => R.as rfl) ?_
  refine SL.val rfl rfl (fun w9 F9 S9 s => R.as rfl) ?_
  refine SL.nil ?_
  refine SN.seq ?_
  refine SG.seq ?_
  refine SG.region ?_
  refine SL.val rfl rfl (fun w9 F9 S9 s => R.mv rfl) ?_
  refine SL.val rfl rfl (fun w9 F9 S9 s => R.mv rfl) ?_
  refine SL.val rfl rfl (fun w9 F9 S9 s => R.mv rfl) ?_
  refine SL.val rfl rfl (fun w9 F9 S9 s => R.eqI rfl rfl) ?_
  refine SL.val rfl rfl (fun w9 F9 S9 s => R.mv rfl) ?_
  refine SL.isT 25 rfl (decide_eq_true (by decide)) ?_
  refine SL.val rfl rfl (fun w9 F9 S9 s => R.mv rfl) ?_
  refine SL.val rfl rfl (fun w9 F9 S9 s => R.eqI rfl rfl) ?_
  first | refine SL.val rfl rfl (fun w9 F9 S9 s => R.pickT rfl rfl) ?_ | refine SL.val rfl rfl (fun w9 F9 S9 s => R.pickF rfl rfl) ?_
  refine SL.val rfl rfl (fun w9 F9 S9 s => R.as rfl) ?_
  refine SL.val rfl rfl (fun w9 F9 S9 s => R.as rfl) ?_
  refine SL.val rfl rfl (fun w9 F9 S9 s => R.as rfl) ?_
  refine SL.nil ?_
  refine SN.imp (Imp.both (p := fun w => DiskL w d0 g0 e0 cur0 ps0 l0) (q := fun w => DiskL w d1 g1 e1 cur1 ps1 l1) (by repeat (first | exact Sel.keep | exact Sel.here | apply Sel.there)) (by repeat (first | exact Sel.keep | exact Sel.here | apply Sel.there))) ?_
  refine SN.seq ?_
  exact SG.ret3 rfl rfl rfl rfl ((show Imp _ [sh (fun w => DiskL w d0 g0 e0 cur0 ps0 l0 ∧ DiskL w d1 g1 e1 cur1 ps1 l1)] from (Imp.sels (by repeat (first | exact Sels.nil | apply Sels.cons | exact Sel.keep | exact Sel.here | apply Sel.there))))) (⟨_, ⟨d0, g0, e0, cur0, ps0, d1, g1, e1, cur1, ps1, rfl, rfl⟩, rfl⟩)

theorem disks_yn (a0 a1 : Option Addr) (n0 n1 c0 c1 : Nat) (l0 l1 : List UInt8) (w : World) (hb0 : Bs w a0 n0 l0) (hc0 : n0 ≤ c0) (hb1 : Bs w a1 n1 l1) (hc1 : n1 ≤ c1) (hm : n0 ≤ 140737488351232 ∧ n1 ≤ 140737488351232) (hv0 : l0.length = 64 * Image.dn l0 ∧ 1 ≤ Image.dn l0 ∧ Image.dn l0 ≤ 64) (hv1 : ¬ (l1.length = 64 * Image.dn l1 ∧ 1 ≤ Image.dn l1 ∧ Image.dn l1 ≤ 64)) : Meets Try.prog 7 [.slice a0 n0 c0, .slice a1 n1 c1] w (fun v w' => ∃ p : World → Prop, (∃ q0 q1 : Option Addr, v = .tuple #[.pointer q0, .pointer q1, .bool false] ∧ p = fun _ => True) ∧ Ext [] w w' ∧ ∀ w'', Ext [] w' w'' → p w'') := by
  refine Meets.lawP (φ := fun v p => ∃ q0 q1 : Option Addr, v = .tuple #[.pointer q0, .pointer q1, .bool false] ∧ p = fun _ => True) Try.func7 rfl 29 rfl (Nat.le_of_ble_eq_true rfl) (law_bs (hb0) (law_bs (hb1) (law_nil w))) ?_
  refine SG.seq ?_
  refine SG.region ?_
  refine SL.val rfl rfl (fun w9 F9 S9 s => R.as rfl) ?_
  refine SL.val rfl rfl (fun w9 F9 S9 s => R.as rfl) ?_
  refine SL.val rfl rfl (fun w9 F9 S9 s => R.as rfl) ?_
  refine SL.nil ?_
  refine SN.seq ?_
  refine SG.seq ?_
  refine SG.region ?_
  refine SL.val rfl rfl (fun w9 F9 S9 s => R.mv rfl) ?_
  refine SL.step rfl rfl (CS.callP rfl go22 (fun w9 F9 S9 s => ifromP a0 n0 c0 l0 w9 (s.bs (l := l0) (by repeat (first | exact Sel.keep | exact Sel.here | apply Sel.there))) hc0 hv0)) ?_
  rintro _ _ ⟨_, ⟨d0, g0, e0, cur0, ps0, rfl, rfl⟩, rfl⟩
  refine SL.val rfl rfl (fun w9 F9 S9 s => R.mv rfl) ?_
  refine SL.val rfl rfl (fun w9 F9 S9 s => R.ext rfl rfl) ?_
  refine SL.val rfl rfl (fun w9 F9 S9 s => R.ext rfl rfl) ?_
  refine SL.val rfl rfl (fun w9 F9 S9 s => R.as rfl) ?_
  refine SL.val rfl rfl (fun w9 F9 S9 s => R.as rfl) ?_
  refine SL.nil ?_
  refine SN.seq ?_
  refine SG.seq ?_
  refine SG.region ?_
  refine SL.val rfl rfl (fun w9 F9 S9 s => R.mv rfl) ?_
  refine SL.step rfl rfl (CS.callR rfl go22 (fun w9 F9 S9 s => ifromE a1 n1 c1 l1 w9 (s.bs (l := l1) (by repeat (first | exact Sel.keep | exact Sel.here | apply Sel.there))) hm.2 hv1)) ?_
  rintro _ _ ⟨rfl, rfl⟩
  refine SL.val rfl rfl (fun w9 F9 S9 s => R.mv rfl) ?_
  refine SL.val rfl rfl (fun w9 F9 S9 s => R.ext rfl rfl) ?_
  refine SL.val rfl rfl (fun w9 F9 S9 s => R.ext rfl rfl) ?_
  refine SL.val rfl rfl (fun w9 F9 S9 s => R.as rfl) ?_
  refine SL.val rfl rfl (fun w9 F9 S9 s => R.as rfl) ?_
  refine SL.nil ?_
  refine SN.seq ?_
  refine SG.seq ?_
  refine SG.region ?_
  refine SL.val rfl rfl (fun w9 F9 S9 s => R.mv rfl) ?_
  refine SL.val rfl rfl (fun w9 F9 S9 s => R.mv rfl) ?_
  refine SL.val rfl rfl (fun w9 F9 S9 s => R.mv rfl) ?_
  refine SL.val rfl rfl (fun w9 F9 S9 s => R.eqI rfl rfl) ?_
  refine SL.val rfl rfl (fun w9 F9 S9 s => R.mv rfl) ?_
  refine SL.isT 25 rfl (decide_eq_true (by decide)) ?_
  refine SL.val rfl rfl (fun w9 F9 S9 s => R.mv rfl) ?_
  refine SL.val rfl rfl (fun w9 F9 S9 s => R.eqI rfl rfl) ?_
  first | refine SL.val rfl rfl (fun w9 F9 S9 s => R.pickT rfl rfl) ?_ | refine SL.val rfl rfl (fun w9 F9 S9 s => R.pickF rfl rfl) ?_
  refine SL.val rfl rfl (fun w9 F9 S9 s => R.as rfl) ?_
  refine SL.val rfl rfl (fun w9 F9 S9 s => R.as rfl) ?_
  refine SL.val rfl rfl (fun w9 F9 S9 s => R.as rfl) ?_
  refine SL.nil ?_
  refine SN.seq ?_
  exact SG.ret3 rfl rfl rfl rfl ((show Imp _ [sh (fun _ => True)] from Imp.trans (Imp.pure (p := fun _ => True) (fun _ => trivial)) (Imp.sels (by repeat (first | exact Sels.nil | apply Sels.cons | exact Sel.keep | exact Sel.here | apply Sel.there))))) (⟨_, ⟨_, _, rfl, rfl⟩, rfl⟩)

theorem disks_ny (a0 a1 : Option Addr) (n0 n1 c0 c1 : Nat) (l0 l1 : List UInt8) (w : World) (hb0 : Bs w a0 n0 l0) (hc0 : n0 ≤ c0) (hb1 : Bs w a1 n1 l1) (hc1 : n1 ≤ c1) (hm : n0 ≤ 140737488351232 ∧ n1 ≤ 140737488351232) (hv0 : ¬ (l0.length = 64 * Image.dn l0 ∧ 1 ≤ Image.dn l0 ∧ Image.dn l0 ≤ 64)) (hv1 : l1.length = 64 * Image.dn l1 ∧ 1 ≤ Image.dn l1 ∧ Image.dn l1 ≤ 64) : Meets Try.prog 7 [.slice a0 n0 c0, .slice a1 n1 c1] w (fun v w' => ∃ p : World → Prop, (∃ q0 q1 : Option Addr, v = .tuple #[.pointer q0, .pointer q1, .bool false] ∧ p = fun _ => True) ∧ Ext [] w w' ∧ ∀ w'', Ext [] w' w'' → p w'') := by
  refine Meets.lawP (φ := fun v p => ∃ q0 q1 : Option Addr, v = .tuple #[.pointer q0, .pointer q1, .bool false] ∧ p = fun _ => True) Try.func7 rfl 29 rfl (Nat.le_of_ble_eq_true rfl) (law_bs (hb0) (law_bs (hb1) (law_nil w))) ?_
  refine SG.seq ?_
  refine SG.region ?_
  refine SL.val rfl rfl (fun w9 F9 S9 s => R.as rfl) ?_
  refine SL.val rfl rfl (fun w9 F9 S9 s => R.as rfl) ?_
  refine SL.val rfl rfl (fun w9 F9 S9 s => R.as rfl) ?_
  refine SL.nil ?_
  refine SN.seq ?_
  refine SG.seq ?_
  refine SG.region ?_
  refine SL.val rfl rfl (fun w9 F9 S9 s => R.mv rfl) ?_
  refine SL.step rfl rfl (CS.callR rfl go22 (fun w9 F9 S9 s => ifromE a0 n0 c0 l0 w9 (s.bs (l := l0) (by repeat (first | exact Sel.keep | exact Sel.here | apply Sel.there))) hm.1 hv0)) ?_
  rintro _ _ ⟨rfl, rfl⟩
  refine SL.val rfl rfl (fun w9 F9 S9 s => R.mv rfl) ?_
  refine SL.val rfl rfl (fun w9 F9 S9 s => R.ext rfl rfl) ?_
  refine SL.val rfl rfl (fun w9 F9 S9 s => R.ext rfl rfl) ?_
  refine SL.val rfl rfl (fun w9 F9 S9 s => R.as rfl) ?_
  refine SL.val rfl rfl (fun w9 F9 S9 s => R.as rfl) ?_
  refine SL.nil ?_
  refine SN.seq ?_
  refine SG.seq ?_
  refine SG.region ?_
  refine SL.val rfl rfl (fun w9 F9 S9 s => R.mv rfl) ?_
  refine SL.step rfl rfl (CS.callP rfl go22 (fun w9 F9 S9 s => ifromP a1 n1 c1 l1 w9 (s.bs (l := l1) (by repeat (first | exact Sel.keep | exact Sel.here | apply Sel.there))) hc1 hv1)) ?_
  rintro _ _ ⟨_, ⟨d1, g1, e1, cur1, ps1, rfl, rfl⟩, rfl⟩
  refine SL.val rfl rfl (fun w9 F9 S9 s => R.mv rfl) ?_
  refine SL.val rfl rfl (fun w9 F9 S9 s => R.ext rfl rfl) ?_
  refine SL.val rfl rfl (fun w9 F9 S9 s => R.ext rfl rfl) ?_
  refine SL.val rfl rfl (fun w9 F9 S9 s => R.as rfl) ?_
  refine SL.val rfl rfl (fun w9 F9 S9 s => R.as rfl) ?_
  refine SL.nil ?_
  refine SN.seq ?_
  refine SG.seq ?_
  refine SG.region ?_
  refine SL.val rfl rfl (fun w9 F9 S9 s => R.mv rfl) ?_
  refine SL.val rfl rfl (fun w9 F9 S9 s => R.mv rfl) ?_
  refine SL.val rfl rfl (fun w9 F9 S9 s => R.mv rfl) ?_
  refine SL.val rfl rfl (fun w9 F9 S9 s => R.eqI rfl rfl) ?_
  refine SL.val rfl rfl (fun w9 F9 S9 s => R.mv rfl) ?_
  refine SL.isF 25 rfl (decide_eq_false (by decide)) ?_
  refine SL.pass rfl rfl ?_
  refine SL.pass rfl rfl ?_
  first | refine SL.val rfl rfl (fun w9 F9 S9 s => R.pickT rfl rfl) ?_ | refine SL.val rfl rfl (fun w9 F9 S9 s => R.pickF rfl rfl) ?_
  refine SL.val rfl rfl (fun w9 F9 S9 s => R.as rfl) ?_
  refine SL.val rfl rfl (fun w9 F9 S9 s => R.as rfl) ?_
  refine SL.val rfl rfl (fun w9 F9 S9 s => R.as rfl) ?_
  refine SL.nil ?_
  refine SN.seq ?_
  exact SG.ret3 rfl rfl rfl rfl ((show Imp _ [sh (fun _ => True)] from Imp.trans (Imp.pure (p := fun _ => True) (fun _ => trivial)) (Imp.sels (by repeat (first | exact Sels.nil | apply Sels.cons | exact Sel.keep | exact Sel.here | apply Sel.there))))) (⟨_, ⟨_, _, rfl, rfl⟩, rfl⟩)

theorem disks_nn (a0 a1 : Option Addr) (n0 n1 c0 c1 : Nat) (l0 l1 : List UInt8) (w : World) (hb0 : Bs w a0 n0 l0) (hc0 : n0 ≤ c0) (hb1 : Bs w a1 n1 l1) (hc1 : n1 ≤ c1) (hm : n0 ≤ 140737488351232 ∧ n1 ≤ 140737488351232) (hv0 : ¬ (l0.length = 64 * Image.dn l0 ∧ 1 ≤ Image.dn l0 ∧ Image.dn l0 ≤ 64)) (hv1 : ¬ (l1.length = 64 * Image.dn l1 ∧ 1 ≤ Image.dn l1 ∧ Image.dn l1 ≤ 64)) : Meets Try.prog 7 [.slice a0 n0 c0, .slice a1 n1 c1] w (fun v w' => ∃ p : World → Prop, (∃ q0 q1 : Option Addr, v = .tuple #[.pointer q0, .pointer q1, .bool false] ∧ p = fun _ => True) ∧ Ext [] w w' ∧ ∀ w'', Ext [] w' w'' → p w'') := by
  refine Meets.lawP (φ := fun v p => ∃ q0 q1 : Option Addr, v = .tuple #[.pointer q0, .pointer q1, .bool false] ∧ p = fun _ => True) Try.func7 rfl 29 rfl (Nat.le_of_ble_eq_true rfl) (law_bs (hb0) (law_bs (hb1) (law_nil w))) ?_
  refine SG.seq ?_
  refine SG.region ?_
  refine SL.val rfl rfl (fun w9 F9 S9 s => R.as rfl) ?_
  refine SL.val rfl rfl (fun w9 F9 S9 s => R.as rfl) ?_
  refine SL.val rfl rfl (fun w9 F9 S9 s => R.as rfl) ?_
  refine SL.nil ?_
  refine SN.seq ?_
  refine SG.seq ?_
  refine SG.region ?_
  refine SL.val rfl rfl (fun w9 F9 S9 s => R.mv rfl) ?_
  refine SL.step rfl rfl (CS.callR rfl go22 (fun w9 F9 S9 s => ifromE a0 n0 c0 l0 w9 (s.bs (l := l0) (by repeat (first | exact Sel.keep | exact Sel.here | apply Sel.there))) hm.1 hv0)) ?_
  rintro _ _ ⟨rfl, rfl⟩
  refine SL.val rfl rfl (fun w9 F9 S9 s => R.mv rfl) ?_
  refine SL.val rfl rfl (fun w9 F9 S9 s => R.ext rfl rfl) ?_
  refine SL.val rfl rfl (fun w9 F9 S9 s => R.ext rfl rfl) ?_
  refine SL.val rfl rfl (fun w9 F9 S9 s => R.as rfl) ?_
  refine SL.val rfl rfl (fun w9 F9 S9 s => R.as rfl) ?_
  refine SL.nil ?_
  refine SN.seq ?_
  refine SG.seq ?_
  refine SG.region ?_
  refine SL.val rfl rfl (fun w9 F9 S9 s => R.mv rfl) ?_
  refine SL.step rfl rfl (CS.callR rfl go22 (fun w9 F9 S9 s => ifromE a1 n1 c1 l1 w9 (s.bs (l := l1) (by repeat (first | exact Sel.keep | exact Sel.here | apply Sel.there))) hm.2 hv1)) ?_
  rintro _ _ ⟨rfl, rfl⟩
  refine SL.val rfl rfl (fun w9 F9 S9 s => R.mv rfl) ?_
  refine SL.val rfl rfl (fun w9 F9 S9 s => R.ext rfl rfl) ?_
  refine SL.val rfl rfl (fun w9 F9 S9 s => R.ext rfl rfl) ?_
  refine SL.val rfl rfl (fun w9 F9 S9 s => R.as rfl) ?_
  refine SL.val rfl rfl (fun w9 F9 S9 s => R.as rfl) ?_
  refine SL.nil ?_
  refine SN.seq ?_
  refine SG.seq ?_
  refine SG.region ?_
  refine SL.val rfl rfl (fun w9 F9 S9 s => R.mv rfl) ?_
  refine SL.val rfl rfl (fun w9 F9 S9 s => R.mv rfl) ?_
  refine SL.val rfl rfl (fun w9 F9 S9 s => R.mv rfl) ?_
  refine SL.val rfl rfl (fun w9 F9 S9 s => R.eqI rfl rfl) ?_
  refine SL.val rfl rfl (fun w9 F9 S9 s => R.mv rfl) ?_
  refine SL.isF 25 rfl (decide_eq_false (by decide)) ?_
  refine SL.pass rfl rfl ?_
  refine SL.pass rfl rfl ?_
  first | refine SL.val rfl rfl (fun w9 F9 S9 s => R.pickT rfl rfl) ?_ | refine SL.val rfl rfl (fun w9 F9 S9 s => R.pickF rfl rfl) ?_
  refine SL.val rfl rfl (fun w9 F9 S9 s => R.as rfl) ?_
  refine SL.val rfl rfl (fun w9 F9 S9 s => R.as rfl) ?_
  refine SL.val rfl rfl (fun w9 F9 S9 s => R.as rfl) ?_
  refine SL.nil ?_
  refine SN.seq ?_
  exact SG.ret3 rfl rfl rfl rfl ((show Imp _ [sh (fun _ => True)] from Imp.trans (Imp.pure (p := fun _ => True) (fun _ => trivial)) (Imp.sels (by repeat (first | exact Sels.nil | apply Sels.cons | exact Sel.keep | exact Sel.here | apply Sel.there))))) (⟨_, ⟨_, _, rfl, rfl⟩, rfl⟩)

theorem disks_no (a0 a1 : Option Addr) (n0 n1 c0 c1 : Nat) (l0 l1 : List UInt8) (w : World) (hb0 : Bs w a0 n0 l0) (hc0 : n0 ≤ c0) (hb1 : Bs w a1 n1 l1) (hc1 : n1 ≤ c1) (hm : n0 ≤ 140737488351232 ∧ n1 ≤ 140737488351232) (hv : ¬ ((l0.length = 64 * Image.dn l0 ∧ 1 ≤ Image.dn l0 ∧ Image.dn l0 ≤ 64) ∧ (l1.length = 64 * Image.dn l1 ∧ 1 ≤ Image.dn l1 ∧ Image.dn l1 ≤ 64))) : Meets Try.prog 7 [.slice a0 n0 c0, .slice a1 n1 c1] w (fun v w' => ∃ p : World → Prop, (∃ q0 q1 : Option Addr, v = .tuple #[.pointer q0, .pointer q1, .bool false] ∧ p = fun _ => True) ∧ Ext [] w w' ∧ ∀ w'', Ext [] w' w'' → p w'') := by
  by_cases hv0 : l0.length = 64 * Image.dn l0 ∧ 1 ≤ Image.dn l0 ∧ Image.dn l0 ≤ 64
  · by_cases hv1 : l1.length = 64 * Image.dn l1 ∧ 1 ≤ Image.dn l1 ∧ Image.dn l1 ≤ 64
    · exact (hv ⟨hv0, hv1⟩).elim
    · exact disks_yn a0 a1 n0 n1 c0 c1 l0 l1 w hb0 hc0 hb1 hc1 hm hv0 hv1
  · by_cases hv1 : l1.length = 64 * Image.dn l1 ∧ 1 ≤ Image.dn l1 ∧ Image.dn l1 ≤ 64
    · exact disks_ny a0 a1 n0 n1 c0 c1 l0 l1 w hb0 hc0 hb1 hc1 hm hv0 hv1
    · exact disks_nn a0 a1 n0 n1 c0 c1 l0 l1 w hb0 hc0 hb1 hc1 hm hv0 hv1

theorem makes_no (a0 a1 : Option Addr) (n0 n1 c0 c1 : Nat) (l0 l1 : List UInt8) (w : World) (hb0 : Bs w a0 n0 l0) (hc0 : n0 ≤ c0) (hb1 : Bs w a1 n1 l1) (hc1 : n1 ≤ c1) (hm : n0 ≤ 140737488351232 ∧ n1 ≤ 140737488351232) (hv : ¬ ((l0.length = 64 * Image.dn l0 ∧ 1 ≤ Image.dn l0 ∧ Image.dn l0 ≤ 64) ∧ (l1.length = 64 * Image.dn l1 ∧ 1 ≤ Image.dn l1 ∧ Image.dn l1 ≤ 64))) : Meets Try.prog 3 [.slice a0 n0 c0, .slice a1 n1 c1] w (fun v w' => v = .bool true ∧ Ext [] w w') := by
  refine Meets.law Try.func3 rfl 113 rfl (Nat.le_of_ble_eq_true rfl) (law_bs (hb0) (law_bs (hb1) (law_nil w))) ?_
  refine SG.fact (fun w9 F9 S9 s => (s.bs (a := a0) (n := n0) (l := l0) (by repeat (first | exact Sel.keep | exact Sel.here | apply Sel.there))).len) (fun hf9 => ?_)
  have hl0 := hf9; clear hf9
  refine SG.fact (fun w9 F9 S9 s => (s.bs (a := a1) (n := n1) (l := l1) (by repeat (first | exact Sel.keep | exact Sel.here | apply Sel.there))).len) (fun hf9 => ?_)
  have hl1 := hf9; clear hf9
  refine SG.seq ?_
  refine SG.region ?_
  refine SL.val rfl rfl (fun w9 F9 S9 s => R.as rfl) ?_
  refine SL.nil ?_
  refine SN.seq ?_
  refine SG.seq ?_
  refine SG.seq ?_
  refine SG.region ?_
  refine SL.step rfl rfl (CS.callR rfl go6 (fun w9 F9 S9 s => first46_law w9)) ?_
  rintro _ _ ⟨rfl, rfl⟩
  refine SL.val rfl rfl (fun w9 F9 S9 s => R.not rfl) ?_
  refine SL.nil ?_
  refine SN.seq ?_
  refine SG.condF rfl ?_
  refine SG.skip ?_
  refine SN.seq ?_
  refine SG.seq ?_
  refine SG.region ?_
  refine SL.val rfl rfl (fun w9 F9 S9 s => R.mv rfl) ?_
  refine SL.val rfl rfl (fun w9 F9 S9 s => R.mv rfl) ?_
  refine SL.step rfl rfl (CS.callP rfl go7 (fun w9 F9 S9 s => disks_no a0 a1 n0 n1 c0 c1 l0 l1 w9 (s.bs (l := l0) (by repeat (first | exact Sel.keep | exact Sel.here | apply Sel.there))) hc0 (s.bs (l := l1) (by repeat (first | exact Sel.keep | exact Sel.here | apply Sel.there))) hc1 hm hv)) ?_
  rintro _ _ ⟨_, ⟨q0, q1, rfl, rfl⟩, rfl⟩
  refine SL.val rfl rfl (fun w9 F9 S9 s => R.mv rfl) ?_
  refine SL.val rfl rfl (fun w9 F9 S9 s => R.ext rfl rfl) ?_
  refine SL.val rfl rfl (fun w9 F9 S9 s => R.ext rfl rfl) ?_
  refine SL.val rfl rfl (fun w9 F9 S9 s => R.ext rfl rfl) ?_
  refine SL.val rfl rfl (fun w9 F9 S9 s => R.as rfl) ?_
  refine SL.val rfl rfl (fun w9 F9 S9 s => R.as rfl) ?_
  refine SL.val rfl rfl (fun w9 F9 S9 s => R.as rfl) ?_
  refine SL.nil ?_
  refine SN.seq ?_
  refine SG.seq ?_
  refine SG.seq ?_
  refine SG.region ?_
  refine SL.val rfl rfl (fun w9 F9 S9 s => R.mv rfl) ?_
  refine SL.val rfl rfl (fun w9 F9 S9 s => R.not rfl) ?_
  refine SL.val rfl rfl (fun w9 F9 S9 s => R.mv rfl) ?_
  refine SL.pass rfl rfl ?_
  refine SL.pass rfl rfl ?_
  refine SL.pass rfl rfl ?_
  refine SL.pass rfl rfl ?_
  refine SL.pass rfl rfl ?_
  first | refine SL.val rfl rfl (fun w9 F9 S9 s => R.pickT rfl rfl) ?_ | refine SL.val rfl rfl (fun w9 F9 S9 s => R.pickF rfl rfl) ?_
  refine SL.nil ?_
  refine SN.seq ?_
  refine SG.condT rfl ?_
  refine SG.seq ?_
  refine SG.region ?_
  refine SL.val rfl rfl (fun w9 F9 S9 s => R.as rfl) ?_
  refine SL.nil ?_
  refine SN.seq ?_
  exact SG.ret1 rfl rfl ((Imp.sels (by repeat (first | exact Sels.nil | apply Sels.cons | exact Sel.keep | exact Sel.here | apply Sel.there)))) (rfl)

theorem makes_len (a0 a1 : Option Addr) (n0 n1 c0 c1 : Nat) (l0 l1 : List UInt8) (w : World) (hb0 : Bs w a0 n0 l0) (hc0 : n0 ≤ c0) (hb1 : Bs w a1 n1 l1) (hc1 : n1 ≤ c1) (hm : n0 ≤ 140737488351232 ∧ n1 ≤ 140737488351232) (hv0 : l0.length = 64 * Image.dn l0 ∧ 1 ≤ Image.dn l0 ∧ Image.dn l0 ≤ 64) (hv1 : l1.length = 64 * Image.dn l1 ∧ 1 ≤ Image.dn l1 ∧ Image.dn l1 ≤ 64) (hne : l0.length ≠ l1.length) : Meets Try.prog 3 [.slice a0 n0 c0, .slice a1 n1 c1] w (fun v w' => v = .bool true ∧ Ext [] w w') := by
  refine Meets.law Try.func3 rfl 113 rfl (Nat.le_of_ble_eq_true rfl) (law_bs (hb0) (law_bs (hb1) (law_nil w))) ?_
  refine SG.fact (fun w9 F9 S9 s => (s.bs (a := a0) (n := n0) (l := l0) (by repeat (first | exact Sel.keep | exact Sel.here | apply Sel.there))).len) (fun hf9 => ?_)
  have hl0 := hf9; clear hf9
  refine SG.fact (fun w9 F9 S9 s => (s.bs (a := a1) (n := n1) (l := l1) (by repeat (first | exact Sel.keep | exact Sel.here | apply Sel.there))).len) (fun hf9 => ?_)
  have hl1 := hf9; clear hf9
  refine SG.seq ?_
  refine SG.region ?_
  refine SL.val rfl rfl (fun w9 F9 S9 s => R.as rfl) ?_
  refine SL.nil ?_
  refine SN.seq ?_
  refine SG.seq ?_
  refine SG.seq ?_
  refine SG.region ?_
  refine SL.step rfl rfl (CS.callR rfl go6 (fun w9 F9 S9 s => first46_law w9)) ?_
  rintro _ _ ⟨rfl, rfl⟩
  refine SL.val rfl rfl (fun w9 F9 S9 s => R.not rfl) ?_
  refine SL.nil ?_
  refine SN.seq ?_
  refine SG.condF rfl ?_
  refine SG.skip ?_
  refine SN.seq ?_
  refine SG.seq ?_
  refine SG.region ?_
  refine SL.val rfl rfl (fun w9 F9 S9 s => R.mv rfl) ?_
  refine SL.val rfl rfl (fun w9 F9 S9 s => R.mv rfl) ?_
  refine SL.step rfl rfl (CS.callP rfl go7 (fun w9 F9 S9 s => disks_yy a0 a1 n0 n1 c0 c1 l0 l1 w9 (s.bs (l := l0) (by repeat (first | exact Sel.keep | exact Sel.here | apply Sel.there))) hc0 (s.bs (l := l1) (by repeat (first | exact Sel.keep | exact Sel.here | apply Sel.there))) hc1 hm hv0 hv1)) ?_
  rintro _ _ ⟨_, ⟨d0, g0, e0, cur0, ps0, d1, g1, e1, cur1, ps1, rfl, rfl⟩, rfl⟩
  refine SL.val rfl rfl (fun w9 F9 S9 s => R.mv rfl) ?_
  refine SL.val rfl rfl (fun w9 F9 S9 s => R.ext rfl rfl) ?_
  refine SL.val rfl rfl (fun w9 F9 S9 s => R.ext rfl rfl) ?_
  refine SL.val rfl rfl (fun w9 F9 S9 s => R.ext rfl rfl) ?_
  refine SL.val rfl rfl (fun w9 F9 S9 s => R.as rfl) ?_
  refine SL.val rfl rfl (fun w9 F9 S9 s => R.as rfl) ?_
  refine SL.val rfl rfl (fun w9 F9 S9 s => R.as rfl) ?_
  refine SL.nil ?_
  refine SN.seq ?_
  refine SG.seq ?_
  refine SG.seq ?_
  refine SG.region ?_
  refine SL.val rfl rfl (fun w9 F9 S9 s => R.mv rfl) ?_
  refine SL.val rfl rfl (fun w9 F9 S9 s => R.not rfl) ?_
  refine SL.val rfl rfl (fun w9 F9 S9 s => R.mv rfl) ?_
  refine SL.val rfl rfl (fun w9 F9 S9 s => R.mv rfl) ?_
  refine SL.val rfl rfl (fun w9 F9 S9 s => R.lenS rfl) ?_
  refine SL.val rfl rfl (fun w9 F9 S9 s => R.mv rfl) ?_
  refine SL.val rfl rfl (fun w9 F9 S9 s => R.lenS rfl) ?_
  refine SL.val rfl rfl (fun w9 F9 S9 s => R.neI rfl rfl) ?_
  first | refine SL.val rfl rfl (fun w9 F9 S9 s => R.pickT rfl rfl) ?_ | refine SL.val rfl rfl (fun w9 F9 S9 s => R.pickF rfl rfl) ?_
  refine SL.nil ?_
  refine SN.seq ?_
  refine SG.condP rfl (fun h1 => ?_) (fun h1 => ?_)
  · refine SG.seq ?_
    refine SG.region ?_
    refine SL.val rfl rfl (fun w9 F9 S9 s => R.as rfl) ?_
    refine SL.nil ?_
    refine SN.seq ?_
    exact SG.ret1 rfl rfl ((Imp.sels (by repeat (first | exact Sels.nil | apply Sels.cons | exact Sel.keep | exact Sel.here | apply Sel.there)))) (rfl)
  · exfalso; omega

set_option maxHeartbeats 4000000 in
theorem makes_yes (a0 a1 : Option Addr) (n0 n1 c0 c1 : Nat) (l0 l1 : List UInt8) (w : World) (hb0 : Bs w a0 n0 l0) (hc0 : n0 ≤ c0) (hb1 : Bs w a1 n1 l1) (hc1 : n1 ≤ c1) (hm : n0 ≤ 140737488351232 ∧ n1 ≤ 140737488351232) (hv0 : l0.length = 64 * Image.dn l0 ∧ 1 ≤ Image.dn l0 ∧ Image.dn l0 ≤ 64) (hv1 : l1.length = 64 * Image.dn l1 ∧ 1 ≤ Image.dn l1 ∧ Image.dn l1 ≤ 64) (hle : l0.length = l1.length) : Meets Try.prog 3 [.slice a0 n0 c0, .slice a1 n1 c1] w (fun v w' => v = .bool true ∧ Ext [] w w') := by
  refine Meets.law Try.func3 rfl 113 rfl (Nat.le_of_ble_eq_true rfl) (law_bs (hb0) (law_bs (hb1) (law_nil w))) ?_
  refine SG.fact (fun w9 F9 S9 s => (s.bs (a := a0) (n := n0) (l := l0) (by repeat (first | exact Sel.keep | exact Sel.here | apply Sel.there))).len) (fun hf9 => ?_)
  have hl0 := hf9; clear hf9
  refine SG.fact (fun w9 F9 S9 s => (s.bs (a := a1) (n := n1) (l := l1) (by repeat (first | exact Sel.keep | exact Sel.here | apply Sel.there))).len) (fun hf9 => ?_)
  have hl1 := hf9; clear hf9
  refine SG.seq ?_
  refine SG.region ?_
  refine SL.val rfl rfl (fun w9 F9 S9 s => R.as rfl) ?_
  refine SL.nil ?_
  refine SN.seq ?_
  refine SG.seq ?_
  refine SG.seq ?_
  refine SG.region ?_
  refine SL.step rfl rfl (CS.callR rfl go6 (fun w9 F9 S9 s => first46_law w9)) ?_
  rintro _ _ ⟨rfl, rfl⟩
  refine SL.val rfl rfl (fun w9 F9 S9 s => R.not rfl) ?_
  refine SL.nil ?_
  refine SN.seq ?_
  refine SG.condF rfl ?_
  refine SG.skip ?_
  refine SN.seq ?_
  refine SG.seq ?_
  refine SG.region ?_
  refine SL.val rfl rfl (fun w9 F9 S9 s => R.mv rfl) ?_
  refine SL.val rfl rfl (fun w9 F9 S9 s => R.mv rfl) ?_
  refine SL.step rfl rfl (CS.callP rfl go7 (fun w9 F9 S9 s => disks_yy a0 a1 n0 n1 c0 c1 l0 l1 w9 (s.bs (l := l0) (by repeat (first | exact Sel.keep | exact Sel.here | apply Sel.there))) hc0 (s.bs (l := l1) (by repeat (first | exact Sel.keep | exact Sel.here | apply Sel.there))) hc1 hm hv0 hv1)) ?_
  rintro _ _ ⟨_, ⟨d0, g0, e0, cur0, ps0, d1, g1, e1, cur1, ps1, rfl, rfl⟩, rfl⟩
  refine SL.val rfl rfl (fun w9 F9 S9 s => R.mv rfl) ?_
  refine SL.val rfl rfl (fun w9 F9 S9 s => R.ext rfl rfl) ?_
  refine SL.val rfl rfl (fun w9 F9 S9 s => R.ext rfl rfl) ?_
  refine SL.val rfl rfl (fun w9 F9 S9 s => R.ext rfl rfl) ?_
  refine SL.val rfl rfl (fun w9 F9 S9 s => R.as rfl) ?_
  refine SL.val rfl rfl (fun w9 F9 S9 s => R.as rfl) ?_
  refine SL.val rfl rfl (fun w9 F9 S9 s => R.as rfl) ?_
  refine SL.nil ?_
  refine SN.imp (Imp.weak (p := fun w => DiskL w d0 g0 e0 cur0 ps0 l0 ∧ DiskL w d1 g1 e1 cur1 ps1 l1) (q := fun w => DiskL w d0 g0 e0 cur0 ps0 l0) (by repeat (first | exact Sel.keep | exact Sel.here | apply Sel.there)) (fun w h => h.1)) ?_
  refine SN.imp (Imp.weak (p := fun w => DiskL w d0 g0 e0 cur0 ps0 l0 ∧ DiskL w d1 g1 e1 cur1 ps1 l1) (q := fun w => DiskL w d1 g1 e1 cur1 ps1 l1) (by repeat (first | exact Sel.keep | exact Sel.here | apply Sel.there)) (fun w h => h.2)) ?_
  obtain ⟨hv01, hv02, hv03⟩ := hv0
  obtain ⟨hv11, hv12, hv13⟩ := hv1
  have hdn0 : Image.dn l0 = l0.length / 64 := rfl
  have hdn1 : Image.dn l1 = l1.length / 64 := rfl
  have hdd : Image.dn l0 = Image.dn l1 := by omega
  have hA1 := apply_make rootD rootD_all hv01 hv11 hdd hv02 hv03
  have hA2 := apply_make rootD rootD_all hv11 hv01 hdd.symm hv12 hv13
  have hp1 := parse_make rootD rootD_all hv01 hv11 hdd hv02 hv03
  have hm1 := make_len rootD l0 l1
  have hm2 := make_len rootD l1 l0
  have hfl : (Image.diffF l0 l1).length ≤ Image.dn l0 := by have := Image.diffN_length l0 l1 (max (Image.dn l0) (Image.dn l1)); show (Image.diffN l0 l1 _).length ≤ _; omega
  have hfc : (Image.diffF l1 l0).length = (Image.diffF l0 l1).length := by rw [Image.diffF_comm]
  refine SN.seq ?_
  refine SG.seq ?_
  refine SG.seq ?_
  refine SG.region ?_
  refine SL.val rfl rfl (fun w9 F9 S9 s => R.mv rfl) ?_
  refine SL.val rfl rfl (fun w9 F9 S9 s => R.not rfl) ?_
  refine SL.val rfl rfl (fun w9 F9 S9 s => R.mv rfl) ?_
  refine SL.val rfl rfl (fun w9 F9 S9 s => R.mv rfl) ?_
  refine SL.val rfl rfl (fun w9 F9 S9 s => R.lenS rfl) ?_
  refine SL.val rfl rfl (fun w9 F9 S9 s => R.mv rfl) ?_
  refine SL.val rfl rfl (fun w9 F9 S9 s => R.lenS rfl) ?_
  refine SL.val rfl rfl (fun w9 F9 S9 s => R.neI rfl rfl) ?_
  first | refine SL.val rfl rfl (fun w9 F9 S9 s => R.pickT rfl rfl) ?_ | refine SL.val rfl rfl (fun w9 F9 S9 s => R.pickF rfl rfl) ?_
  refine SL.nil ?_
  refine SN.seq ?_
  refine SG.condP rfl (fun h1 => ?_) (fun h1 => ?_)
  · exfalso; omega
  · refine SG.skip ?_
    refine SN.seq ?_
    refine SG.seq ?_
    refine SG.region ?_
    refine SL.val rfl rfl (fun w9 F9 S9 s => R.mv rfl) ?_
    refine SL.val rfl rfl (fun w9 F9 S9 s => R.mv rfl) ?_
    refine SL.step rfl rfl (CS.call rfl go8 (make_ok d0 g0 e0 cur0 ps0 l0 d1 g1 e1 cur1 ps1 l1 hdd) (by repeat (first | exact Sels.nil | apply Sels.cons | exact Sel.keep | exact Sel.here | apply Sel.there))) ?_
    rintro _ _ ⟨_, ⟨a8, c8, rfl, rfl, rfl⟩, rfl⟩
    refine SL.n1 ?_
    refine SL.val rfl rfl (fun w9 F9 S9 s => R.as rfl) ?_
    refine SL.nil ?_
    refine SN.fact (fun w9 F9 S9 s => s.ownL (show Sel _ (own 5 1 a8 (makeF rootD l0 l1).length c8 (vbs (makeF rootD l0 l1))) _ from (by repeat (first | exact Sel.keep | exact Sel.here | apply Sel.there)))) (fun hf9 => ?_)
    obtain ⟨_, hc8⟩ := hf9
    refine SN.imp (Imp.ownBs (show Sel _ (own 5 1 a8 (makeF rootD l0 l1).length c8 (vbs (makeF rootD l0 l1))) _ from (by repeat (first | exact Sel.keep | exact Sel.here | apply Sel.there)))) ?_
    refine SN.seq ?_
    refine SG.seq ?_
    refine SG.region ?_
    refine SL.val rfl rfl (fun w9 F9 S9 s => R.mv rfl) ?_
    refine SL.val rfl rfl (fun w9 F9 S9 s => R.mv rfl) ?_
    refine SL.step rfl rfl (CS.callP rfl go9 (fun w9 F9 S9 s => applyY d0 g0 e0 cur0 ps0 l0 a8 (makeF rootD l0 l1).length c8 (makeF rootD l0 l1) w9 (s.sh (p := fun w => DiskL w d0 g0 e0 cur0 ps0 l0) (by repeat (first | exact Sel.keep | exact Sel.here | apply Sel.there))) (s.bs (a := a8) (l := makeF rootD l0 l1) (by repeat (first | exact Sel.keep | exact Sel.here | apply Sel.there))) hc8 (by omega) (by rw [hA1]))) ?_
    rintro _ _ ⟨_, ⟨d3, g3, e3, cur3, ps3, rfl, rfl⟩, rfl⟩
    rw [hA1]
    refine SL.val rfl rfl (fun w9 F9 S9 s => R.mv rfl) ?_
    refine SL.val rfl rfl (fun w9 F9 S9 s => R.ext rfl rfl) ?_
    refine SL.val rfl rfl (fun w9 F9 S9 s => R.ext rfl rfl) ?_
    refine SL.val rfl rfl (fun w9 F9 S9 s => R.as rfl) ?_
    refine SL.val rfl rfl (fun w9 F9 S9 s => R.as rfl) ?_
    refine SL.nil ?_
    refine SN.seq ?_
    refine SG.seq ?_
    refine SG.region ?_
    refine SL.val rfl rfl (fun w9 F9 S9 s => R.mv rfl) ?_
    refine SL.step rfl rfl (CS.call rfl go10 (blocks_yes a8 (makeF rootD l0 l1).length c8 (makeF rootD l0 l1) _ hc8 (by omega) hp1) (by repeat (first | exact Sels.nil | apply Sels.cons | exact Sel.keep | exact Sel.here | apply Sel.there))) ?_
    rintro _ _ ⟨_, ⟨a11, c11, rfl, rfl, rfl⟩, rfl⟩
    refine SL.n1 ?_
    refine SL.val rfl rfl (fun w9 F9 S9 s => R.mv rfl) ?_
    refine SL.val rfl rfl (fun w9 F9 S9 s => R.ext rfl rfl) ?_
    refine SL.val rfl rfl (fun w9 F9 S9 s => R.ext rfl rfl) ?_
    refine SL.val rfl rfl (fun w9 F9 S9 s => R.as rfl) ?_
    refine SL.val rfl rfl (fun w9 F9 S9 s => R.as rfl) ?_
    refine SL.nil ?_
    dsimp only
    rw [List.length_map, List.map_map, show (Prod.fst ∘ fun k => (k, shrinkF (laidF (Image.blk l0 k) (Image.blk l1 k)))) = fun k : Nat => k from rfl, List.map_id']
    refine SN.seq ?_
    refine SG.seq ?_
    refine SG.region ?_
    refine SL.val rfl rfl (fun w9 F9 S9 s => R.mv rfl) ?_
    refine SL.val rfl rfl (fun w9 F9 S9 s => R.strB rfl (s.bs (a := a0) (l := l0) (by repeat (first | exact Sel.keep | exact Sel.here | apply Sel.there)))) ?_
    refine SL.val rfl rfl (fun w9 F9 S9 s => R.mv rfl) ?_
    refine SL.val rfl rfl (fun w9 F9 S9 s => R.strB rfl (s.bs (a := a1) (l := l1) (by repeat (first | exact Sel.keep | exact Sel.here | apply Sel.there)))) ?_
    refine SL.step rfl rfl (CS.callC rfl go11 (fun w9 F9 S9 s => rdiff_ok l0 l1 w9 (by omega) (by omega) hv01 hv11)) ?_
    rintro _ _ ⟨a13, c13, rfl, rfl, rfl⟩
    refine SL.val rfl rfl (fun w9 F9 S9 s => R.as rfl) ?_
    refine SL.nil ?_
    refine SN.seq ?_
    refine SG.seq ?_
    refine SG.seq ?_
    refine SG.region ?_
    refine SL.val rfl rfl (fun w9 F9 S9 s => R.mv rfl) ?_
    refine SL.val rfl rfl (fun w9 F9 S9 s => R.lenS rfl) ?_
    refine SL.val rfl rfl (fun w9 F9 S9 s => R.mv rfl) ?_
    refine SL.val rfl rfl (fun w9 F9 S9 s => R.lenS rfl) ?_
    refine SL.val rfl rfl (fun w9 F9 S9 s => R.neI rfl rfl) ?_
    refine SL.nil ?_
    refine SN.seq ?_
    refine SG.condP rfl (fun h2 => ?_) (fun h2 => ?_)
    · exact absurd rfl h2
    · refine SG.skip ?_
      refine SN.seq ?_
      refine SG.seq ?_
      refine SG.seq ?_
      refine SG.region ?_
      refine SL.val rfl rfl (fun w9 F9 S9 s => R.mv rfl) ?_
      refine SL.val rfl rfl (fun w9 F9 S9 s => R.lenS rfl) ?_
      refine SL.val rfl rfl (fun w9 F9 S9 s => R.mv rfl) ?_
      refine SL.nil ?_
      refine SN.seq ?_
      refine SG.block ?_
      refine SG.loop (X := Nat) (fun i => [(5, .pointer (some ⟨d0, 0, none⟩)), (6, .pointer (some ⟨d1, 0, none⟩)), (8, .slice a8 (makeF rootD l0 l1).length c8), (9, .pointer (some ⟨d3, 0, none⟩)), (10, .int .i64 0), (11, .slice a11 (Image.diffF l0 l1).length c11), (12, .int .i64 0), (13, .slice a13 (Image.diffF l0 l1).length c13), (59, .slice a11 (Image.diffF l0 l1).length c11), (60, .int .i64 ((Image.diffF l0 l1).length : Int)), (61, .int .i64 (i : Int))]) (fun i => [own 3 1 a11 ((Image.diffF l0 l1).length) c11 (nums ((Image.diffF l0 l1))), own 3 1 a13 ((Image.diffF l0 l1).length) c13 (nums ((Image.diffF l0 l1))), sh (fun w => DiskL w d3 g3 e3 cur3 ps3 l1), sh (fun w => DiskL w d0 g0 e0 cur0 ps0 l0), sh (fun w => DiskL w d1 g1 e1 cur1 ps1 l1)]) (fun i => i ≤ (Image.diffF l0 l1).length) (fun i => (Image.diffF l0 l1).length - i) (0) (Sub.cons rfl (Sub.cons rfl (Sub.cons rfl (Sub.cons rfl (Sub.cons rfl (Sub.cons rfl (Sub.cons rfl (Sub.cons rfl (Sub.cons rfl (Sub.cons rfl (Sub.cons rfl (Sub.nil _)))))))))))) ((Imp.sels (by repeat (first | exact Sels.nil | apply Sels.cons | exact Sel.keep | exact Sel.here | apply Sel.there)))) (Nat.zero_le _) ?_
      intro i hi
      show SG _ _ _ _ _ [(5, .pointer (some ⟨d0, 0, none⟩)), (6, .pointer (some ⟨d1, 0, none⟩)), (8, .slice a8 (makeF rootD l0 l1).length c8), (9, .pointer (some ⟨d3, 0, none⟩)), (10, .int .i64 0), (11, .slice a11 (Image.diffF l0 l1).length c11), (12, .int .i64 0), (13, .slice a13 (Image.diffF l0 l1).length c13), (59, .slice a11 (Image.diffF l0 l1).length c11), (60, .int .i64 ((Image.diffF l0 l1).length : Int)), (61, .int .i64 (i : Int))] [own 3 1 a11 ((Image.diffF l0 l1).length) c11 (nums ((Image.diffF l0 l1))), own 3 1 a13 ((Image.diffF l0 l1).length) c13 (nums ((Image.diffF l0 l1))), sh (fun w => DiskL w d3 g3 e3 cur3 ps3 l1), sh (fun w => DiskL w d0 g0 e0 cur0 ps0 l0), sh (fun w => DiskL w d1 g1 e1 cur1 ps1 l1)] _
      refine SG.seq ?_
      refine SG.region ?_
      refine SL.val rfl rfl (fun w9 F9 S9 s => R.lss rfl rfl) ?_
      refine SL.nil ?_
      refine SN.seq ?_
      refine SG.seq ?_
      refine SG.condP rfl (fun h3 => ?_) (fun h3 => ?_)
      · obtain ⟨z, hz⟩ : ∃ z, (Image.diffF l0 l1)[i]? = some z := ⟨_, List.getElem?_eq_getElem (by omega)⟩
        refine SG.fact (fun w9 F9 S9 s => numsP_pt (s.ownC (show Sel _ (own 3 1 a11 ((Image.diffF l0 l1).length) c11 (nums ((Image.diffF l0 l1)))) _ from (by repeat (first | exact Sel.keep | exact Sel.here | apply Sel.there)))) hz) (fun hf9 => ?_)
        obtain ⟨q, hq⟩ := hf9
        refine SG.fact (fun w9 F9 S9 s => numsP_pt (s.ownC (show Sel _ (own 3 1 a13 ((Image.diffF l0 l1).length) c13 (nums ((Image.diffF l0 l1)))) _ from (by repeat (first | exact Sel.keep | exact Sel.here | apply Sel.there)))) hz) (fun hf9 => ?_)
        obtain ⟨q2, hq2⟩ := hf9
        refine SG.skip ?_
        refine SN.seq ?_
        refine SG.seq ?_
        refine SG.block ?_
        refine SG.seq ?_
        refine SG.region ?_
        refine SL.val rfl rfl (fun w9 F9 S9 s => R.mv rfl) ?_
        refine SL.val rfl rfl (fun w9 F9 S9 s => R.as rfl) ?_
        refine SL.nil ?_
        refine SN.seq ?_
        refine SG.seq ?_
        refine SG.draw [] [0, 1, 2, 3, 4, 5, 6, 7, 8] (by decide +kernel) rfl ?_
        refine SW.pure rfl rfl rfl rfl (fun w9 => R.mv rfl) ?_
        refine SW.pure rfl rfl rfl rfl (fun w9 => R.mv rfl) ?_
        refine SW.pure rfl rfl rfl rfl (fun w9 => R.idx rfl rfl (by omega) (by omega) q hq) ?_
        refine SW.read rfl rfl rfl rfl (fun w9 F9 S9 s => R.ld (v := .int .i64 (z : Int)) rfl (numsP_ld (s.ownC (show Sel _ (own 3 1 a11 ((Image.diffF l0 l1).length) c11 (nums ((Image.diffF l0 l1)))) _ from (by repeat (first | exact Sel.keep | exact Sel.here | apply Sel.there)))) hq hz)) ?_
        refine SW.pure rfl rfl rfl rfl (fun w9 => R.mv rfl) ?_
        refine SW.pure rfl rfl rfl rfl (fun w9 => R.mv rfl) ?_
        refine SW.pure rfl rfl rfl rfl (fun w9 => R.idx rfl rfl (by omega) (by omega) q2 hq2) ?_
        refine SW.read rfl rfl rfl rfl (fun w9 F9 S9 s => R.ld (v := .int .i64 (z : Int)) rfl (numsP_ld (s.ownC (show Sel _ (own 3 1 a13 ((Image.diffF l0 l1).length) c13 (nums ((Image.diffF l0 l1)))) _ from (by repeat (first | exact Sel.keep | exact Sel.here | apply Sel.there)))) hq2 hz)) ?_
        refine SW.pure rfl rfl rfl rfl (fun w9 => R.neI rfl rfl) ?_
        refine SW.nil ?_
        refine SN.seq ?_
        refine SG.condP rfl (fun h4 => ?_) (fun h4 => ?_)
        · exact absurd rfl h4
        · refine SG.skip ?_
          refine SN.block ?_
          refine SN.seq ?_
          refine SG.region ?_
          refine SL.val rfl rfl (fun w9 F9 S9 s => R.add rfl rfl (by omega)) ?_
          refine SL.val rfl rfl (fun w9 F9 S9 s => R.mv rfl) ?_
          refine SL.nil ?_
          exact SN.again (i + 1) (by show (Image.diffF l0 l1).length - (i + 1) < (Image.diffF l0 l1).length - i; omega) (Sub.cons rfl (Sub.cons rfl (Sub.cons rfl (Sub.cons rfl (Sub.cons rfl (Sub.cons rfl (Sub.cons rfl (Sub.cons rfl (Sub.cons rfl (Sub.cons rfl (Sub.cons rfl (Sub.nil _)))))))))))) ((Imp.sels (by repeat (first | exact Sels.nil | apply Sels.cons | exact Sel.keep | exact Sel.here | apply Sel.there)))) (by show i + 1 ≤ (Image.diffF l0 l1).length; omega)
      · refine SG.exit _ rfl ?_
        refine SN.seq ?_
        refine SG.seq ?_
        refine SG.imp (Imp.trans (Imp.sels (show Sels _ [sh (fun w => DiskL w d3 g3 e3 cur3 ps3 l1), sh (fun w => DiskL w d0 g0 e0 cur0 ps0 l0), sh (fun w => DiskL w d1 g1 e1 cur1 ps1 l1)] _ from (by repeat (first | exact Sels.nil | apply Sels.cons | exact Sel.keep | exact Sel.here | apply Sel.there)))) (Imp.refl _)) ?_
        refine SG.region ?_
        refine SL.val rfl rfl (fun w9 F9 S9 s => R.mv rfl) ?_
        refine SL.val rfl rfl (fun w9 F9 S9 s => R.mv rfl) ?_
        refine SL.val rfl rfl (fun w9 F9 S9 s => R.mv rfl) ?_
        refine SL.step rfl rfl (CS.call rfl go8 (make_ok d1 g1 e1 cur1 ps1 l1 d0 g0 e0 cur0 ps0 l0 hdd.symm) (by repeat (first | exact Sels.nil | apply Sels.cons | exact Sel.keep | exact Sel.here | apply Sel.there))) ?_
        rintro _ _ ⟨_, ⟨a78, c78, rfl, rfl, rfl⟩, rfl⟩
        refine SL.n1 ?_
        refine SL.fact (fun w9 F9 S9 s => s.ownL (show Sel _ (own 5 1 a78 (makeF rootD l1 l0).length c78 (vbs (makeF rootD l1 l0))) _ from (by repeat (first | exact Sel.keep | exact Sel.here | apply Sel.there)))) (fun hf9 => ?_)
        obtain ⟨_, hc78⟩ := hf9
        refine SL.imp (Imp.ownBs (show Sel _ (own 5 1 a78 (makeF rootD l1 l0).length c78 (vbs (makeF rootD l1 l0))) _ from (by repeat (first | exact Sel.keep | exact Sel.here | apply Sel.there)))) ?_
        refine SL.step rfl rfl (CS.callP rfl go9 (fun w9 F9 S9 s => applyY d1 g1 e1 cur1 ps1 l1 a78 (makeF rootD l1 l0).length c78 (makeF rootD l1 l0) w9 (s.sh (p := fun w => DiskL w d1 g1 e1 cur1 ps1 l1) (by repeat (first | exact Sel.keep | exact Sel.here | apply Sel.there))) (s.bs (a := a78) (l := makeF rootD l1 l0) (by repeat (first | exact Sel.keep | exact Sel.here | apply Sel.there))) hc78 (by omega) (by rw [hA2]))) ?_
        rintro _ _ ⟨_, ⟨d4, g4, e4, cur4, ps4, rfl, rfl⟩, rfl⟩
        rw [hA2]
        refine SL.val rfl rfl (fun w9 F9 S9 s => R.mv rfl) ?_
        refine SL.val rfl rfl (fun w9 F9 S9 s => R.ext rfl rfl) ?_
        refine SL.val rfl rfl (fun w9 F9 S9 s => R.ext rfl rfl) ?_
        refine SL.val rfl rfl (fun w9 F9 S9 s => R.as rfl) ?_
        refine SL.val rfl rfl (fun w9 F9 S9 s => R.as rfl) ?_
        refine SL.nil ?_
        refine SN.seq ?_
        refine SG.seq ?_
        refine SG.region ?_
        refine SL.val rfl rfl (fun w9 F9 S9 s => R.mv rfl) ?_
        refine SL.val rfl rfl (fun w9 F9 S9 s => R.eqI rfl rfl) ?_
        refine SL.val rfl rfl (fun w9 F9 S9 s => R.mv rfl) ?_
        refine SL.isT 84 rfl (decide_eq_true (by decide)) ?_
        refine SL.val rfl rfl (fun w9 F9 S9 s => R.mv rfl) ?_
        refine SL.val rfl rfl (fun w9 F9 S9 s => R.eqI rfl rfl) ?_
        first | refine SL.val rfl rfl (fun w9 F9 S9 s => R.pickT rfl rfl) ?_ | refine SL.val rfl rfl (fun w9 F9 S9 s => R.pickF rfl rfl) ?_
        refine SL.val rfl rfl (fun w9 F9 S9 s => R.mv rfl) ?_
        refine SL.isT 88 rfl (decide_eq_true (by decide)) ?_
        refine SL.val rfl rfl (fun w9 F9 S9 s => R.mv rfl) ?_
        refine SL.val rfl rfl (fun w9 F9 S9 s => R.eqI rfl rfl) ?_
        first | refine SL.val rfl rfl (fun w9 F9 S9 s => R.pickT rfl rfl) ?_ | refine SL.val rfl rfl (fun w9 F9 S9 s => R.pickF rfl rfl) ?_
        refine SL.val rfl rfl (fun w9 F9 S9 s => R.mv rfl) ?_
        refine SL.isT 92 rfl (decide_eq_true (by decide)) ?_
        refine SL.val rfl rfl (fun w9 F9 S9 s => R.mv rfl) ?_
        refine SL.val rfl rfl (fun w9 F9 S9 s => R.mv rfl) ?_
        refine SL.step rfl rfl (CS.callR rfl go12 (fun w9 F9 S9 s => isame_ok (some ⟨d3, 0, none⟩) (some ⟨d1, 0, none⟩) l1 l1 w9 (disk_o (s.sh (p := fun w => DiskL w d3 g3 e3 cur3 ps3 l1) (by repeat (first | exact Sel.keep | exact Sel.here | apply Sel.there)))) (disk_o (s.sh (p := fun w => DiskL w d1 g1 e1 cur1 ps1 l1) (by repeat (first | exact Sel.keep | exact Sel.here | apply Sel.there)))))) ?_
        rintro _ _ ⟨rfl, rfl⟩
        first | refine SL.val rfl rfl (fun w9 F9 S9 s => R.pickT rfl rfl) ?_ | refine SL.val rfl rfl (fun w9 F9 S9 s => R.pickF rfl rfl) ?_
        refine SL.val rfl rfl (fun w9 F9 S9 s => R.mv rfl) ?_
        refine SL.isT 97 rfl (decide_eq_true rfl) ?_
        refine SL.val rfl rfl (fun w9 F9 S9 s => R.mv rfl) ?_
        refine SL.val rfl rfl (fun w9 F9 S9 s => R.mv rfl) ?_
        refine SL.step rfl rfl (CS.callR rfl go12 (fun w9 F9 S9 s => isame_ok (some ⟨d4, 0, none⟩) (some ⟨d0, 0, none⟩) l0 l0 w9 (disk_o (s.sh (p := fun w => DiskL w d4 g4 e4 cur4 ps4 l0) (by repeat (first | exact Sel.keep | exact Sel.here | apply Sel.there)))) (disk_o (s.sh (p := fun w => DiskL w d0 g0 e0 cur0 ps0 l0) (by repeat (first | exact Sel.keep | exact Sel.here | apply Sel.there)))))) ?_
        rintro _ _ ⟨rfl, rfl⟩
        first | refine SL.val rfl rfl (fun w9 F9 S9 s => R.pickT rfl rfl) ?_ | refine SL.val rfl rfl (fun w9 F9 S9 s => R.pickF rfl rfl) ?_
        refine SL.val rfl rfl (fun w9 F9 S9 s => R.mv rfl) ?_
        refine SL.isT 102 rfl (decide_eq_true rfl) ?_
        refine SL.val rfl rfl (fun w9 F9 S9 s => R.mv rfl) ?_
        refine SL.val rfl rfl (fun w9 F9 S9 s => R.lenS rfl) ?_
        refine SL.val rfl rfl (fun w9 F9 S9 s => R.mv rfl) ?_
        refine SL.step rfl rfl (CS.callR rfl go13 (fun w9 F9 S9 s => iblocksE (some ⟨d0, 0, none⟩) l0 w9 (disk_o (s.sh (p := fun w => DiskL w d0 g0 e0 cur0 ps0 l0) (by repeat (first | exact Sel.keep | exact Sel.here | apply Sel.there)))))) ?_
        rintro _ _ ⟨rfl, rfl⟩
        refine SL.step rfl rfl (CS.callR rfl go14 (fun w9 F9 S9 s => (worst_ok 64 w9 (by decide)).mono fun v w' h9 => ⟨(show v = .int .i64 65 from h9.1), by rw [h9.2]; exact Ext.refl _ _⟩)) ?_
        rintro _ _ ⟨rfl, rfl⟩
        refine SL.val rfl rfl (fun w9 F9 S9 s => R.add rfl rfl (by omega)) ?_
        refine SL.val rfl rfl (fun w9 F9 S9 s => R.mul rfl rfl (by omega)) ?_
        refine SL.val rfl rfl (fun w9 F9 S9 s => R.add rfl rfl (by omega)) ?_
        refine SL.val rfl rfl (fun w9 F9 S9 s => R.leq rfl rfl) ?_
        first | refine SL.val rfl rfl (fun w9 F9 S9 s => R.pickT rfl rfl) ?_ | refine SL.val rfl rfl (fun w9 F9 S9 s => R.pickF rfl rfl) ?_
        refine SL.val rfl rfl (fun w9 F9 S9 s => R.as rfl) ?_
        refine SL.nil ?_
        refine SN.seq ?_
        exact SG.ret1 rfl rfl ((Imp.sels (by repeat (first | exact Sels.nil | apply Sels.cons | exact Sel.keep | exact Sel.here | apply Sel.there)))) (congrArg Value.bool (decide_eq_true (by omega)))

end Go.Proofs.Yteaihincmfbblaa
