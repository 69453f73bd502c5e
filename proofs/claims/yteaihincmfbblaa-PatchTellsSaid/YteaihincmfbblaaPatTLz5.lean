/-
  Texts of this claim, put together.
-/
import Derived.Test.YteaihincmfbblaaPatTLz4
/-
  The walks of package patch.
-/
set_option linter.unusedVariables false
set_option linter.unusedSimpArgs false
set_option maxRecDepth 4000
namespace Go.Proofs.Yteaihincmfbblaa
open Go Brv Brv.Pack Brv.Shrink Brv.Patch
theorem disks_yy (a0 a1 : Option Addr) (n0 n1 c0 c1 : Nat) (l0 l1 : List UInt8) (w : World) (hb0 : Bs w a0 n0 l0) (hc0 : n0 ≤ c0) (hb1 : Bs w a1 n1 l1) (hc1 : n1 ≤ c1) (hm : n0 ≤ 140737488351232 ∧ n1 ≤ 140737488351232) (hv0 : l0.length = 64 * Image.dn l0 ∧ 1 ≤ Image.dn l0 ∧ Image.dn l0 ≤ 64) (hv1 : l1.length = 64 * Image.dn l1 ∧ 1 ≤ Image.dn l1 ∧ Image.dn l1 ≤ 64) : Meets Try.prog 7 [.slice a0 n0 c0, .slice a1 n1 c1] w (fun v w' => ∃ p : World → Prop, (∃ d0 g0 e0 cur0 ps0 d1 g1 e1 cur1 ps1, v = .tuple #[.pointer (some ⟨d0, 0, none⟩), .pointer (some ⟨d1, 0, none⟩), .bool true] ∧ p = fun w => DiskL w d0 g0 e0 cur0 ps0 l0 ∧ DiskL w d1 g1 e1 cur1 ps1 l1) ∧ Ext [] w w' ∧ ∀ w'', Ext [] w' w'' → p w'') := by
  refine Meets.lawP (φ := fun v p => ∃ d0 g0 e0 cur0 ps0 d1 g1 e1 cur1 ps1, v = .tuple #[.pointer (some ⟨d0, 0, none⟩), .pointer (some ⟨d1, 0, none⟩), .bool true] ∧ p = fun w => DiskL w d0 g0 e0 cur0 ps0 l0 ∧ DiskL w d1 g1 e1 cur1 ps1 l1) Try.func7 rfl 29 rfl (Nat.le_of_ble_eq_true rfl) (law_bs (hb0) (law_bs (hb1) (law_nil w))) ?_
  refine SG.seq ?_
  refine SG.region ?_
  refine SL.val rfl rfl (fun w9 F9 S9 s => R.as rfl) ?_
  refine SL.val rfl rfl (fun w9 F9 S9 s => R.as rfl) ?_
  refine SL.val rfl rfl (fun w9 F9 S9 s => R.as rfl) ?_
  refine SL.nil ?_
  refine SN.seq ?_
  refine SG.seq ?_
  refine SG.region ?_
  refine SL.val rfl rfl (fun w9 F9 S9 s => R.mv rfl) ?_
  refine SL.step rfl rfl (CS.callP rfl go22 (fun w9 F9 S9 s => ifromP a0 n0 c0 l0 w9 (s.bs (l := l0) (by repeat (first | exact Sel.keep | exact Sel.here | apply Sel.there))) hc0 hv0)) ?_
  rintro _ _ ⟨_, ⟨d0, g0, e0, cur0, ps0, rfl, rfl⟩, rfl⟩
  refine SL.val rfl rfl (fun w9 F9 S9 s => R.mv rfl) ?_
  refine SL.val rfl rfl (fun w9 F9 S9 s => R.ext rfl rfl) ?_
  refine SL.val rfl rfl (fun w9 F9 S9 s => R.ext rfl rfl) ?_
  refine SL.val rfl rfl (fun w9 F9 S9 s => R.as rfl) ?_
  refine SL.val rfl rfl (fun w9 F9 S9 s => R.as rfl) ?_
  refine SL.nil ?_
  refine SN.seq ?_
  refine SG.seq ?_
  refine SG.region ?_
  refine SL.val rfl rfl (fun w9 F9 S9 s => R.mv rfl) ?_
  refine SL.step rfl rfl (CS.callP rfl go22 (fun w9 F9 S9 s => ifromP a1 n1 c1 l1 w9 (s.bs (l := l1) (by repeat (first | exact Sel.keep | exact Sel.here | apply Sel.there))) hc1 hv1)) ?_
  rintro _ _ ⟨_, ⟨d1, g1, e1, cur1, ps1, rfl, rfl⟩, rfl⟩
  refine SL.val rfl rfl (fun w9 F9 S9 s => R.mv rfl) ?_
  refine SL.val rfl rfl (fun w9 F9 S9 s => R.ext rfl rfl) ?_
  refine SL.val rfl rfl (fun w9 F9 S9 s => R.ext rfl rfl) ?_
  refine SL.val rfl rfl (fun w9 F9 S9 s => R.as rfl) ?_
  refine SL.val rfl rfl (fun w9 F9 S9 s => R.as rfl) ?_
  refine SL.nil ?_
  refine SN.seq ?_
  refine SG.seq ?_
  refine SG.region ?_
  refine SL.val rfl rfl (fun w9 F9 S9 s => R.mv rfl) ?_
  refine SL.val rfl rfl (fun w9 F9 S9 s => R.mv rfl) ?_
  refine SL.val rfl rfl (fun w9 F9 S9 s => R.mv rfl) ?_
  refine SL.val rfl rfl (fun w9 F9 S9 s => R.eqI rfl rfl) ?_
  refine SL.val rfl rfl (fun w9 F9 S9 s => R.mv rfl) ?_
  refine SL.isT 25 rfl (decide_eq_true (by decide)) ?_
  refine SL.val rfl rfl (fun w9 F9 S9 s => R.mv rfl) ?_
  refine SL.val rfl rfl (fun w9 F9 S9 s => R.eqI rfl rfl) ?_
  first | refine SL.val rfl rfl (fun w9 F9 S9 s => R.pickT rfl rfl) ?_ | refine SL.val rfl rfl (fun w9 F9 S9 s => R.pickF rfl rfl) ?_
  refine SL.val rfl rfl (fun w9 F9 S9 s => R.as rfl) ?_
  refine SL.val rfl rfl (fun w9 F9 S9 s => R.as rfl) ?_
  refine SL.val rfl rfl (fun w9 F9 S9 s => R.as rfl) ?_
  refine SL.nil ?_
  refine SN.imp (Imp.both (p := fun w => DiskL w d0 g0 e0 cur0 ps0 l0) (q := fun w => DiskL w d1 g1 e1 cur1 ps1 l1) (by repeat (first | exact Sel.keep | exact Sel.here | apply Sel.there)) (by repeat (first | exact Sel.keep | exact Sel.here | apply Sel.there))) ?_
  refine SN.seq ?_
  exact SG.ret3 rfl rfl rfl rfl ((show Imp _ [sh (fun w => DiskL w d0 g0 e0 cur0 ps0 l0 ∧ DiskL w d1 g1 e1 cur1 ps1 l1)] from (Imp.sels (by repeat (first | exact Sels.nil | apply Sels.cons | exact Sel.keep | exact Sel.here | apply Sel.there))))) (⟨_, ⟨d0, g0, e0, cur0, ps0, d1, g1, e1, cur1, ps1, rfl, rfl⟩, rfl⟩)

theorem disks_yn (a0 a1 : Option Addr) (n0 n1 c0 c1 : Nat) (l0 l1 : List UInt8) (w : World) (hb0 : Bs w a0 n0 l0) (hc0 : n0 ≤ c0) (hb1 : Bs w a1 n1 l1) (hc1 : n1 ≤ c1) (hm : n0 ≤ 140737488351232 ∧ n1 ≤ 140737488351232) (hv0 : l0.length = 64 * Image.dn l0 ∧ 1 ≤ Image.dn l0 ∧ Image.dn l0 ≤ 64) (hv1 : ¬ (l1.length = 64 * Image.dn l1 ∧ 1 ≤ Image.dn l1 ∧ Image.dn l1 ≤ 64)) : Meets Try.prog 7 [.slice a0 n0 c0, .slice a1 n1 c1] w (fun v w' => ∃ p : World → Prop, (∃ q0 q1 : Option Addr, v = .tuple #[.pointer q0, .pointer q1, .bool false] ∧ p = fun _ => True) ∧ Ext [] w w' ∧ ∀ w'', Ext [] w' w'' → p w'') := by
  refine Meets.lawP (φ := fun v p => ∃ q0 q1 : Option Addr, v = .tuple #[.pointer q0, .pointer q1, .bool false] ∧ p = fun _ => True) Try.func7 rfl 29 rfl (Nat.le_of_ble_eq_true rfl) (law_bs (hb0) (law_bs (hb1) (law_nil w))) ?_
  refine SG.seq ?_
  refine SG.region ?_
  refine SL.val rfl rfl (fun w9 F9 S9 s => R.as rfl) ?_
  refine SL.val rfl rfl (fun w9 F9 S9 s => R.as rfl) ?_
  refine SL.val rfl rfl (fun w9 F9 S9 s => R.as rfl) ?_
  refine SL.nil ?_
  refine SN.seq ?_
  refine SG.seq ?_
  refine SG.region ?_
  refine SL.val rfl rfl (fun w9 F9 S9 s => R.mv rfl) ?_
  refine SL.step rfl rfl (CS.callP rfl go22 (fun w9 F9 S9 s => ifromP a0 n0 c0 l0 w9 (s.bs (l := l0) (by repeat (first | exact Sel.keep | exact Sel.here | apply Sel.there))) hc0 hv0)) ?_
  rintro _ _ ⟨_, ⟨d0, g0, e0, cur0, ps0, rfl, rfl⟩, rfl⟩
  refine SL.val rfl rfl (fun w9 F9 S9 s => R.mv rfl) ?_
  refine SL.val rfl rfl (fun w9 F9 S9 s => R.ext rfl rfl) ?_
  refine SL.val rfl rfl (fun w9 F9 S9 s => R.ext rfl rfl) ?_
  refine SL.val rfl rfl (fun w9 F9 S9 s => R.as rfl) ?_
  refine SL.val rfl rfl (fun w9 F9 S9 s => R.as rfl) ?_
  refine SL.nil ?_
  refine SN.seq ?_
  refine SG.seq ?_
  refine SG.region ?_
  refine SL.val rfl rfl (fun w9 F9 S9 s => R.mv rfl) ?_
  refine SL.step rfl rfl (CS.callR rfl go22 (fun w9 F9 S9 s => ifromE a1 n1 c1 l1 w9 (s.bs (l := l1) (by repeat (first | exact Sel.keep | exact Sel.here | apply Sel.there))) hm.2 hv1)) ?_
  rintro _ _ ⟨rfl, rfl⟩
  refine SL.val rfl rfl (fun w9 F9 S9 s => R.mv rfl) ?_
  refine SL.val rfl rfl (fun w9 F9 S9 s => R.ext rfl rfl) ?_
  refine SL.val rfl rfl (fun w9 F9 S9 s => R.ext rfl rfl) ?_
  refine SL.val rfl rfl (fun w9 F9 S9 s => R.as rfl) ?_
  refine SL.val rfl rfl (fun w9 F9 S9 s => R.as rfl) ?_
  refine SL.nil ?_
  refine SN.seq ?_
  refine SG.seq ?_
  refine SG.region ?_
  refine SL.val rfl rfl (fun w9 F9 S9 s => R.mv rfl) ?_
  refine SL.val rfl rfl (fun w9 F9 S9 s => R.mv rfl) ?_
  refine SL.val rfl rfl (fun w9 F9 S9 s => R.mv rfl) ?_
  refine SL.val rfl rfl (fun w9 F9 S9 s => R.eqI rfl rfl) ?_
  refine SL.val rfl rfl (fun w9 F9 S9 s => R.mv rfl) ?_
  refine SL.isT 25 rfl (decide_eq_true (by decide)) ?_
  refine SL.val rfl rfl (fun w9 F9 S9 s => R.mv rfl) ?_
  refine SL.val rfl rfl (fun w9 F9 S9 s => R.eqI rfl rfl) ?_
  first | refine SL.val rfl rfl (fun w9 F9 S9 s => R.pickT rfl rfl) ?_ | refine SL.val rfl rfl (fun w9 F9 S9 s => R.pickF rfl rfl) ?_
  refine SL.val rfl rfl (fun w9 F9 S9 s => R.as rfl) ?_
  refine SL.val rfl rfl (fun w9 F9 S9 s => R.as rfl) ?_
  refine SL.val rfl rfl (fun w9 F9 S9 s => R.as rfl) ?_
  refine SL.nil ?_
  refine SN.seq ?_
  exact SG.ret3 rfl rfl rfl rfl ((show Imp _ [sh (fun _ => True)] from Imp.trans (Imp.pure (p := fun _ => True) (fun _ => trivial)) (Imp.sels (by repeat (first | exact Sels.nil | apply Sels.cons | exact Sel.keep | exact Sel.here | apply Sel.there))))) (⟨_, ⟨_, _, rfl, rfl⟩, rfl⟩)

theorem disks_ny (a0 a1 : Option Addr) (n0 n1 c0 c1 : Nat) (l0 l1 : List UInt8) (w : World) (hb0 : Bs w a0 n0 l0) (hc0 : n0 ≤ c0) (hb1 : Bs w a1 n1 l1) (hc1 : n1 ≤ c1) (hm : n0 ≤ 140737488351232 ∧ n1 ≤ 140737488351232) (hv0 : ¬ (l0.length = 64 * Image.dn l0 ∧ 1 ≤ Image.dn l0 ∧ Image.dn l0 ≤ 64)) (hv1 : l1.length = 64 * Image.dn l1 ∧ 1 ≤ Image.dn l1 ∧ Image.dn l1 ≤ 64) : Meets Try.prog 7 [.slice a0 n0 c0, .slice a1 n1 c1] w (fun v w' => ∃ p : World → Prop, (∃ q0 q1 : Option Addr, v = .tuple #[.pointer q0, .pointer q1, .bool false] ∧ p = fun _ => True) ∧ Ext [] w w' ∧ ∀ w'', Ext [] w' w'' → p w'') := by
  refine Meets.lawP (φ := fun v p => ∃ q0 q1 : Option Addr, v = .tuple #[.pointer q0, .pointer q1, .bool false] ∧ p = fun _ => True) Try.func7 rfl 29 rfl (Nat.le_of_ble_eq_true rfl) (law_bs (hb0) (law_bs (hb1) (law_nil w))) ?_
  refine SG.seq ?_
  refine SG.region ?_
  refine SL.val rfl rfl (fun w9 F9 S9 s => R.as rfl) ?_
  refine SL.val rfl rfl (fun w9 F9 S9 s => R.as rfl) ?_
  refine SL.val rfl rfl (fun w9 F9 S9 s => R.as rfl) ?_
  refine SL.nil ?_
  refine SN.seq ?_
  refine SG.seq ?_
  refine SG.region ?_
  refine SL.val rfl rfl (fun w9 F9 S9 s => R.mv rfl) ?_
  refine SL.step rfl rfl (CS.callR rfl go22 (fun w9 F9 S9 s => ifromE a0 n0 c0 l0 w9 (s.bs (l := l0) (by repeat (first | exact Sel.keep | exact Sel.here | apply Sel.there))) hm.1 hv0)) ?_
  rintro _ _ ⟨rfl, rfl⟩
  refine SL.val rfl rfl (fun w9 F9 S9 s => R.mv rfl) ?_
  refine SL.val rfl rfl (fun w9 F9 S9 s => R.ext rfl rfl) ?_
  refine SL.val rfl rfl (fun w9 F9 S9 s => R.ext rfl rfl) ?_
  refine SL.val rfl rfl (fun w9 F9 S9 s => R.as rfl) ?_
  refine SL.val rfl rfl (fun w9 F9 S9 s => R.as rfl) ?_
  refine SL.nil ?_
  refine SN.seq ?_
  refine SG.seq ?_
  refine SG.region ?_
  refine SL.val rfl rfl (fun w9 F9 S9 s => R.mv rfl) ?_
  refine SL.step rfl rfl (CS.callP rfl go22 (fun w9 F9 S9 s => ifromP a1 n1 c1 l1 w9 (s.bs (l := l1) (by repeat (first | exact Sel.keep | exact Sel.here | apply Sel.there))) hc1 hv1)) ?_
  rintro _ _ ⟨_, ⟨d1, g1, e1, cur1, ps1, rfl, rfl⟩, rfl⟩
  refine SL.val rfl rfl (fun w9 F9 S9 s => R.mv rfl) ?_
  refine SL.val rfl rfl (fun w9 F9 S9 s => R.ext rfl rfl) ?_
  refine SL.val rfl rfl (fun w9 F9 S9 s => R.ext rfl rfl) ?_
  refine SL.val rfl rfl (fun w9 F9 S9 s => R.as rfl) ?_
  refine SL.val rfl rfl (fun w9 F9 S9 s => R.as rfl) ?_
  refine SL.nil ?_
  refine SN.seq ?_
  refine SG.seq ?_
  refine SG.region ?_
  refine SL.val rfl rfl (fun w9 F9 S9 s => R.mv rfl) ?_
  refine SL.val rfl rfl (fun w9 F9 S9 s => R.mv rfl) ?_
  refine SL.val rfl rfl (fun w9 F9 S9 s => R.mv rfl) ?_
  refine SL.val rfl rfl (fun w9 F9 S9 s => R.eqI rfl rfl) ?_
  refine SL.val rfl rfl (fun w9 F9 S9 s => R.mv rfl) ?_
  refine SL.isF 25 rfl (decide_eq_false (by decide)) ?_
  refine SL.pass rfl rfl ?_
  refine SL.pass rfl rfl ?_
  first | refine SL.val rfl rfl (fun w9 F9 S9 s => R.pickT rfl rfl) ?_ | refine SL.val rfl rfl (fun w9 F9 S9 s => R.pickF rfl rfl) ?_
  refine SL.val rfl rfl (fun w9 F9 S9 s => R.as rfl) ?_
  refine SL.val rfl rfl (fun w9 F9 S9 s => R.as rfl) ?_
  refine SL.val rfl rfl (fun w9 F9 S9 s => R.as rfl) ?_
  refine SL.nil ?_
  refine SN.seq ?_
  exact SG.ret3 rfl rfl rfl rfl ((show Imp _ [sh (fun _ => True)] from Imp.trans (Imp.pure (p := fun _ => True) (fun _ => trivial)) (Imp.sels (by repeat (first | exact Sels.nil | apply Sels.cons | exact Sel.keep | exact Sel.here | apply Sel.there))))) (⟨_, ⟨_, _, rfl, rfl⟩, rfl⟩)

theorem disks_nn (a0 a1 : Option Addr) (n0 n1 c0 c1 : Nat) (l0 l1 : List UInt8) (w : World) (hb0 : Bs w a0 n0 l0) (hc0 : n0 ≤ c0) (hb1 : Bs w a1 n1 l1) (hc1 : n1 ≤ c1) (hm : n0 ≤ 140737488351232 ∧ n1 ≤ 140737488351232) (hv0 : ¬ (l0.length = 64 * Image.dn l0 ∧ 1 ≤ Image.dn l0 ∧ Image.dn l0 ≤ 64)) (hv1 : ¬ (l1.length = 64 * Image.dn l1 ∧ 1 ≤ Image.dn l1 ∧ Image.dn l1 ≤ 64)) : Meets Try.prog 7 [.slice a0 n0 c0, .slice a1 n1 c1] w (fun v w' => ∃ p : World → Prop, (∃ q0 q1 : Option Addr, v = .tuple #[.pointer q0, .pointer q1, .bool false] ∧ p = fun _ => True) ∧ Ext [] w w' ∧ ∀ w'', Ext [] w' w'' → p w'') := by
  refine Meets.lawP (φ := fun v p => ∃ q0 q1 : Option Addr, v = .tuple #[.pointer q0, .pointer q1, .bool false] ∧ p = fun _ => True) Try.func7 rfl 29 rfl (Nat.le_of_ble_eq_true rfl) (law_bs (hb0) (law_bs (hb1) (law_nil w))) ?_
  refine SG.seq ?_
  refine SG.region ?_
  refine SL.val rfl rfl (fun w9 F9 S9 s => R.as rfl) ?_
  refine SL.val rfl rfl (fun w9 F9 S9 s => R.as rfl) ?_
  refine SL.val rfl rfl (fun w9 F9 S9 s => R.as rfl) ?_
  refine SL.nil ?_
  refine SN.seq ?_
  refine SG.seq ?_
  refine SG.region ?_
  refine SL.val rfl rfl (fun w9 F9 S9 s => R.mv rfl) ?_
  refine SL.step rfl rfl (CS.callR rfl go22 (fun w9 F9 S9 s => ifromE a0 n0 c0 l0 w9 (s.bs (l := l0) (by repeat (first | exact Sel.keep | exact Sel.here | apply Sel.there))) hm.1 hv0)) ?_
  rintro _ _ ⟨rfl, rfl⟩
  refine SL.val rfl rfl (fun w9 F9 S9 s => R.mv rfl) ?_
  refine SL.val rfl rfl (fun w9 F9 S9 s => R.ext rfl rfl) ?_
  refine SL.val rfl rfl (fun w9 F9 S9 s => R.ext rfl rfl) ?_
  refine SL.val rfl rfl (fun w9 F9 S9 s => R.as rfl) ?_
  refine SL.val rfl rfl (fun w9 F9 S9 s => R.as rfl) ?_
  refine SL.nil ?_
  refine SN.seq ?_
  refine SG.seq ?_
  refine SG.region ?_
  refine SL.val rfl rfl (fun w9 F9 S9 s => R.mv rfl) ?_
  refine SL.step rfl rfl (CS.callR rfl go22 (fun w9 F9 S9 s => ifromE a1 n1 c1 l1 w9 (s.bs (l := l1) (by repeat (first | exact Sel.keep | exact Sel.here | apply Sel.there))) hm.2 hv1)) ?_
  rintro _ _ ⟨rfl, rfl⟩
  refine SL.val rfl rfl (fun w9 F9 S9 s => R.mv rfl) ?_
  refine SL.val rfl rfl (fun w9 F9 S9 s => R.ext rfl rfl) ?_
  refine SL.val rfl rfl (fun w9 F9 S9 s => R.ext rfl rfl) ?_
  refine SL.val rfl rfl (fun w9 F9 S9 s => R.as rfl) ?_
  refine SL.val rfl rfl (fun w9 F9 S9 s => R.as rfl) ?_
  refine SL.nil ?_
  refine SN.seq ?_
  refine SG.seq ?_
  refine SG.region ?_
  refine SL.val rfl rfl (fun w9 F9 S9 s => R.mv rfl) ?_
  refine SL.val rfl rfl (fun w9 F9 S9 s => R.mv rfl) ?_
  refine SL.val rfl rfl (fun w9 F9 S9 s => R.mv rfl) ?_
  refine SL.val rfl rfl (fun w9 F9 S9 s => R.eqI rfl rfl) ?_
  refine SL.val rfl rfl (fun w9 F9 S9 s => R.mv rfl) ?_
  refine SL.isF 25 rfl (decide_eq_false (by decide)) ?_
  refine SL.pass rfl rfl ?_
  refine SL.pass rfl rfl ?_
  first | refine SL.val rfl rfl (fun w9 F9 S9 s => R.pickT rfl rfl) ?_ | refine SL.val rfl rfl (fun w9 F9 S9 s => R.pickF rfl rfl) ?_
  refine SL.val rfl rfl (fun w9 F9 S9 s => R.as rfl) ?_
  refine SL.val rfl rfl (fun w9 F9 S9 s => R.as rfl) ?_
  refine SL.val rfl rfl (fun w9 F9 S9 s => R.as rfl) ?_
  refine SL.nil ?_
  refine SN.seq ?_
  exact SG.ret3 rfl rfl rfl rfl ((show Imp _ [sh (fun _ => True)] from Imp.trans (Imp.pure (p := fun _ => True) (fun _ => trivial)) (Imp.sels (by repeat (first | exact Sels.nil | apply Sels.cons | exact Sel.keep | exact Sel.here | apply Sel.there))))) (⟨_, ⟨_, _, rfl, rfl⟩, rfl⟩)

theorem disks_no (a0 a1 : Option Addr) (n0 n1 c0 c1 : Nat) (l0 l1 : List UInt8) (w : World) (hb0 : Bs w a0 n0 l0) (hc0 : n0 ≤ c0) (hb1 : Bs w a1 n1 l1) (hc1 : n1 ≤ c1) (hm : n0 ≤ 140737488351232 ∧ n1 ≤ 140737488351232) (hv : ¬ ((l0.length = 64 * Image.dn l0 ∧ 1 ≤ Image.dn l0 ∧ Image.dn l0 ≤ 64) ∧ (l1.length = 64 * Image.dn l1 ∧ 1 ≤ Image.dn l1 ∧ Image.dn l1 ≤ 64))) : Meets Try.prog 7 [.slice a0 n0 c0, .slice a1 n1 c1] w (fun v w' => ∃ p : World → Prop, (∃ q0 q1 : Option Addr, v = .tuple #[.pointer q0, .pointer q1, .bool false] ∧ p = fun _ => True) ∧ Ext [] w w' ∧ ∀ w'', Ext [] w' w'' → p w'') := by
  by_cases hv0 : l0.length = 64 * Image.dn l0 ∧ 1 ≤ Image.dn l0 ∧ Image.dn l0 ≤ 64
  · by_cases hv1 : l1.length = 64 * Image.dn l1 ∧ 1 ≤ Image.dn l1 ∧ Image.dn l1 ≤ 64
    · exact (hv ⟨hv0, hv1⟩).elim
    · exact disks_yn a0 a1 n0 n1 c0 c1 l0 l1 w hb0 hc0 hb1 hc1 hm hv0 hv1
  · by_cases hv1 : l1.length = 64 * Image.dn l1 ∧ 1 ≤ Image.dn l1 ∧ Image.dn l1 ≤ 64
    · exact disks_ny a0 a1 n0 n1 c0 c1 l0 l1 w hb0 hc0 hb1 hc1 hm hv0 hv1
    · exact disks_nn a0 a1 n0 n1 c0 c1 l0 l1 w hb0 hc0 hb1 hc1 hm hv0 hv1

end Go.Proofs.Yteaihincmfbblaa
/-
  The walks of package patch.
-/
set_option linter.unusedVariables false
set_option linter.unusedSimpArgs false
set_option maxRecDepth 4000
namespace Go.Proofs.Yteaihincmfbblaa
open Go Brv Brv.Pack Brv.Shrink Brv.Patch
theorem apply_errN {R : List UInt8 → Nat} {x l : List UInt8} (h : (applyF R x l).2 ≠ 0) : (applyF R x l).1 = [] := by
  unfold applyF at h ⊢
  split at h
  · rfl
  · split at h
    · rename_i h1; rw [if_pos h1]
    · rename_i h1; rw [if_neg h1]; split at h
      · rename_i h2; rw [if_pos h2]
      · rename_i h2; rw [if_neg h2]; split at h
        · rename_i h3; rw [if_pos h3]
        · exact absurd rfl h
theorem St.ownBs {H H' : List Asn} {E k c : Nat} {a : Option Addr} {l : List UInt8} {F S : List Nat} {w : World} (s : St H F S w) (h : Sel H (own E 1 a k c (vbs l)) H') : Bs w a k l := (s.own h).elim fun _ h => by
  have hl := h.len
  rw [vbs_length] at hl
  obtain rfl : k = l.length := by omega
  exact Bs.of_own h

theorem apply_nil (u : Value) : SpecS Try.prog 9 [.pointer none, u] [] (fun v H' => v = .tuple #[.pointer none, .int .i64 1] ∧ H' = []) := by
  refine SpecS.enter Try.func9 rfl 92 rfl (Nat.le_of_ble_eq_true rfl) (fun o => ?_)
  refine SG.seq ?_
  refine SG.region ?_
  refine SL.val rfl rfl (fun w9 F9 S9 s => R.as rfl) ?_
  refine SL.val rfl rfl (fun w9 F9 S9 s => R.as rfl) ?_
  refine SL.nil ?_
  refine SN.seq ?_
  refine SG.seq ?_
  refine SG.seq ?_
  refine SG.region ?_
  refine SL.val rfl rfl (fun w9 F9 S9 s => R.mv rfl) ?_
  refine SL.val rfl rfl (fun w9 F9 S9 s => R.eqNilP rfl rfl) ?_
  refine SL.nil ?_
  refine SN.seq ?_
  refine SG.condT rfl ?_
  refine SG.seq ?_
  refine SG.region ?_
  refine SL.val rfl rfl (fun w9 F9 S9 s => R.as rfl) ?_
  refine SL.val rfl rfl (fun w9 F9 S9 s => R.as rfl) ?_
  refine SL.nil ?_
  refine SN.seq ?_
  exact SG.ret2 rfl rfl rfl ((Imp.sels (by repeat (first | exact Sels.nil | apply Sels.cons | exact Sel.keep | exact Sel.here | apply Sel.there)))) (⟨rfl, rfl⟩)

theorem ptells_long (a0 a1 a2 : Option Addr) (n0 n1 n2 c0 c1 c2 : Nat) (l0 l1 l2 : List UInt8) (w : World) (hb0 : Bs w a0 n0 l0) (hc0 : n0 ≤ c0) (hb1 : Bs w a1 n1 l1) (hc1 : n1 ≤ c1) (hm : n0 ≤ 140737488351232 ∧ n1 ≤ 140737488351232) (hb2 : Bs w a2 n2 l2) (hc2 : n2 ≤ c2) (hs : n2 > 3000) : Meets Try.prog 4 [.slice a0 n0 c0, .slice a1 n1 c1, .slice a2 n2 c2] w (fun v w' => v = .bool true ∧ Ext [] w w') := by
  refine Meets.law Try.func4 rfl 153 rfl (Nat.le_of_ble_eq_true rfl) (law_bs (hb0) (law_bs (hb1) (law_bs (hb2) (law_nil w)))) ?_
  refine SG.fact (fun w9 F9 S9 s => (s.bs (a := a0) (n := n0) (l := l0) (by repeat (first | exact Sel.keep | exact Sel.here | apply Sel.there))).len) (fun hf9 => ?_)
  have hl0 := hf9; clear hf9
  refine SG.fact (fun w9 F9 S9 s => (s.bs (a := a1) (n := n1) (l := l1) (by repeat (first | exact Sel.keep | exact Sel.here | apply Sel.there))).len) (fun hf9 => ?_)
  have hl1 := hf9; clear hf9
  refine SG.fact (fun w9 F9 S9 s => (s.bs (a := a2) (n := n2) (l := l2) (by repeat (first | exact Sel.keep | exact Sel.here | apply Sel.there))).len) (fun hf9 => ?_)
  have hl2 := hf9; clear hf9
  refine SG.seq ?_
  refine SG.region ?_
  refine SL.val rfl rfl (fun w9 F9 S9 s => R.as rfl) ?_
  refine SL.nil ?_
  refine SN.seq ?_
  refine SG.seq ?_
  refine SG.seq ?_
  refine SG.region ?_
  refine SL.step rfl rfl (CS.callR rfl go6 (fun w9 F9 S9 s => first46_law w9)) ?_
  rintro _ _ ⟨rfl, rfl⟩
  refine SL.val rfl rfl (fun w9 F9 S9 s => R.not rfl) ?_
  refine SL.nil ?_
  refine SN.seq ?_
  refine SG.condF rfl ?_
  refine SG.skip ?_
  refine SN.seq ?_
  refine SG.seq ?_
  refine SG.seq ?_
  refine SG.region ?_
  refine SL.val rfl rfl (fun w9 F9 S9 s => R.mv rfl) ?_
  refine SL.val rfl rfl (fun w9 F9 S9 s => R.lenS rfl) ?_
  refine SL.val rfl rfl (fun w9 F9 S9 s => R.gtr rfl rfl) ?_
  refine SL.nil ?_
  refine SN.seq ?_
  refine SG.condP rfl (fun h1 => ?_) (fun h1 => ?_)
  · refine SG.seq ?_
    refine SG.region ?_
    refine SL.val rfl rfl (fun w9 F9 S9 s => R.as rfl) ?_
    refine SL.nil ?_
    refine SN.seq ?_
    exact SG.ret1 rfl rfl ((Imp.sels (by repeat (first | exact Sels.nil | apply Sels.cons | exact Sel.keep | exact Sel.here | apply Sel.there)))) (rfl)
  · exfalso; omega

set_option maxHeartbeats 4000000 in
theorem ptells_none (a0 a1 a2 : Option Addr) (n0 n1 n2 c0 c1 c2 : Nat) (l0 l1 l2 : List UInt8) (w : World) (hb0 : Bs w a0 n0 l0) (hc0 : n0 ≤ c0) (hb1 : Bs w a1 n1 l1) (hc1 : n1 ≤ c1) (hm : n0 ≤ 140737488351232 ∧ n1 ≤ 140737488351232) (hb2 : Bs w a2 n2 l2) (hc2 : n2 ≤ c2) (hs : n2 ≤ 3000) (hpf : parseF l2 = none) : Meets Try.prog 4 [.slice a0 n0 c0, .slice a1 n1 c1, .slice a2 n2 c2] w (fun v w' => v = .bool true ∧ Ext [] w w') := by
  refine Meets.law Try.func4 rfl 153 rfl (Nat.le_of_ble_eq_true rfl) (law_bs (hb0) (law_bs (hb1) (law_bs (hb2) (law_nil w)))) ?_
  refine SG.fact (fun w9 F9 S9 s => (s.bs (a := a0) (n := n0) (l := l0) (by repeat (first | exact Sel.keep | exact Sel.here | apply Sel.there))).len) (fun hf9 => ?_)
  have hl0 := hf9; clear hf9
  refine SG.fact (fun w9 F9 S9 s => (s.bs (a := a1) (n := n1) (l := l1) (by repeat (first | exact Sel.keep | exact Sel.here | apply Sel.there))).len) (fun hf9 => ?_)
  have hl1 := hf9; clear hf9
  refine SG.fact (fun w9 F9 S9 s => (s.bs (a := a2) (n := n2) (l := l2) (by repeat (first | exact Sel.keep | exact Sel.here | apply Sel.there))).len) (fun hf9 => ?_)
  have hl2 := hf9; clear hf9
  refine SG.seq ?_
  refine SG.region ?_
  refine SL.val rfl rfl (fun w9 F9 S9 s => R.as rfl) ?_
  refine SL.nil ?_
  refine SN.seq ?_
  refine SG.seq ?_
  refine SG.seq ?_
  refine SG.region ?_
  refine SL.step rfl rfl (CS.callR rfl go6 (fun w9 F9 S9 s => first46_law w9)) ?_
  rintro _ _ ⟨rfl, rfl⟩
  refine SL.val rfl rfl (fun w9 F9 S9 s => R.not rfl) ?_
  refine SL.nil ?_
  refine SN.seq ?_
  refine SG.condF rfl ?_
  refine SG.skip ?_
  refine SN.seq ?_
  refine SG.seq ?_
  refine SG.seq ?_
  refine SG.region ?_
  refine SL.val rfl rfl (fun w9 F9 S9 s => R.mv rfl) ?_
  refine SL.val rfl rfl (fun w9 F9 S9 s => R.lenS rfl) ?_
  refine SL.val rfl rfl (fun w9 F9 S9 s => R.gtr rfl rfl) ?_
  refine SL.nil ?_
  refine SN.seq ?_
  refine SG.condP rfl (fun h1 => ?_) (fun h1 => ?_)
  · exfalso; omega
  · refine SG.skip ?_
    refine SN.seq ?_
    refine SG.seq ?_
    refine SG.region ?_
    refine SL.val rfl rfl (fun w9 F9 S9 s => R.mv rfl) ?_
    refine SL.step rfl rfl (CS.call rfl go10 (blocks_no a2 n2 c2 l2 hc2 (by omega) hpf) (by repeat (first | exact Sels.nil | apply Sels.cons | exact Sel.keep | exact Sel.here | apply Sel.there))) ?_
    rintro _ _ ⟨_, ⟨rfl, rfl⟩, rfl⟩
    refine SL.n0 ?_
    refine SL.val rfl rfl (fun w9 F9 S9 s => R.mv rfl) ?_
    refine SL.val rfl rfl (fun w9 F9 S9 s => R.ext rfl rfl) ?_
    refine SL.val rfl rfl (fun w9 F9 S9 s => R.ext rfl rfl) ?_
    refine SL.val rfl rfl (fun w9 F9 S9 s => R.as rfl) ?_
    refine SL.val rfl rfl (fun w9 F9 S9 s => R.as rfl) ?_
    refine SL.nil ?_
    refine SN.seq ?_
    refine SG.seq ?_
    refine SG.region ?_
    refine SL.val rfl rfl (fun w9 F9 S9 s => R.mv rfl) ?_
    refine SL.step rfl rfl (CS.call rfl go15 (refparse_no a2 n2 c2 l2 hc2 (by omega) hpf) (by repeat (first | exact Sels.nil | apply Sels.cons | exact Sel.keep | exact Sel.here | apply Sel.there))) ?_
    rintro _ _ ⟨_, ⟨vs, hvs5, hvs1, rfl, rfl, rfl⟩, rfl⟩
    refine SL.n0 ?_
    refine SL.val rfl rfl (fun w9 F9 S9 s => R.mv rfl) ?_
    refine SL.val rfl rfl (fun w9 F9 S9 s => R.ext rfl rfl) ?_
    refine SL.val rfl rfl (fun w9 F9 S9 s => R.ext rfl rfl) ?_
    refine SL.step rfl rfl (CS.alloc [.int .i64 0, .string ByteArray.empty, .string ByteArray.empty, .slice none 0 0, .slice none 0 0] rfl) ?_
    rintro _ _ ⟨b9, rfl, rfl⟩
    refine SL.step0 rfl (CS.stA (vs := vs) rfl rfl (show Sel _ (blk b9 _ _) _ from (by repeat (first | exact Sel.keep | exact Sel.here | apply Sel.there))) hvs5 (by rfl) hvs1) ?_
    rintro _ _ rfl
    refine SL.val rfl rfl (fun w9 F9 S9 s => R.as rfl) ?_
    refine SL.nil ?_
    refine SN.imp (Imp.sels (show Sels _ [bs a0 n0 l0, bs a1 n1 l1, bs a2 n2 l2] _ from (by repeat (first | exact Sels.nil | apply Sels.cons | exact Sel.keep | exact Sel.here | apply Sel.there)))) ?_
    refine SN.seq ?_
    refine SG.seq ?_
    refine SG.seq ?_
    refine SG.region ?_
    refine SL.val rfl rfl (fun w9 F9 S9 s => R.mv rfl) ?_
    refine SL.val rfl rfl (fun w9 F9 S9 s => R.eqI rfl rfl) ?_
    refine SL.val rfl rfl (fun w9 F9 S9 s => R.mv rfl) ?_
    refine SL.val rfl rfl (fun w9 F9 S9 s => R.neB rfl rfl) ?_
    refine SL.val rfl rfl (fun w9 F9 S9 s => R.mv rfl) ?_
    refine SL.isF 40 rfl (by decide) ?_
    refine SL.val rfl rfl (fun w9 F9 S9 s => R.mv rfl) ?_
    refine SL.val rfl rfl (fun w9 F9 S9 s => R.not rfl) ?_
    refine SL.val rfl rfl (fun w9 F9 S9 s => R.mv rfl) ?_
    refine SL.isT 43 rfl (rfl) ?_
    refine SL.val rfl rfl (fun w9 F9 S9 s => R.mv rfl) ?_
    refine SL.val rfl rfl (fun w9 F9 S9 s => R.neI rfl rfl) ?_
    refine SL.val rfl rfl (fun w9 F9 S9 s => R.mv rfl) ?_
    refine SL.isF 46 rfl (by decide) ?_
    refine SL.val rfl rfl (fun w9 F9 S9 s => R.mv rfl) ?_
    refine SL.val rfl rfl (fun w9 F9 S9 s => R.lenS rfl) ?_
    refine SL.val rfl rfl (fun w9 F9 S9 s => R.gtr rfl rfl) ?_
    first | refine SL.val rfl rfl (fun w9 F9 S9 s => R.pickT rfl rfl) ?_ | refine SL.val rfl rfl (fun w9 F9 S9 s => R.pickF rfl rfl) ?_
    first | refine SL.val rfl rfl (fun w9 F9 S9 s => R.pickT rfl rfl) ?_ | refine SL.val rfl rfl (fun w9 F9 S9 s => R.pickF rfl rfl) ?_
    first | refine SL.val rfl rfl (fun w9 F9 S9 s => R.pickT rfl rfl) ?_ | refine SL.val rfl rfl (fun w9 F9 S9 s => R.pickF rfl rfl) ?_
    refine SL.val rfl rfl (fun w9 F9 S9 s => R.mv rfl) ?_
    refine SL.isF 53 rfl (by decide) ?_
    refine SL.val rfl rfl (fun w9 F9 S9 s => R.mv rfl) ?_
    refine SL.val rfl rfl (fun w9 F9 S9 s => R.mv rfl) ?_
    refine SL.pass rfl rfl ?_
    refine SL.pass rfl rfl ?_
    refine SL.pass rfl rfl ?_
    refine SL.pass rfl rfl ?_
    refine SL.pass rfl rfl ?_
    refine SL.pass rfl rfl ?_
    first | refine SL.val rfl rfl (fun w9 F9 S9 s => R.pickT rfl rfl) ?_ | refine SL.val rfl rfl (fun w9 F9 S9 s => R.pickF rfl rfl) ?_
    first | refine SL.val rfl rfl (fun w9 F9 S9 s => R.pickT rfl rfl) ?_ | refine SL.val rfl rfl (fun w9 F9 S9 s => R.pickF rfl rfl) ?_
    refine SL.nil ?_
    refine SN.seq ?_
    refine SG.condF rfl ?_
    refine SG.skip ?_
    refine SN.seq ?_
    refine SG.seq ?_
    refine SG.seq ?_
    refine SG.region ?_
    refine SL.val rfl rfl (fun w9 F9 S9 s => R.mv rfl) ?_
    refine SL.val rfl rfl (fun w9 F9 S9 s => R.lenS rfl) ?_
    refine SL.val rfl rfl (fun w9 F9 S9 s => R.mv rfl) ?_
    refine SL.nil ?_
    refine SN.seq ?_
    refine SG.block ?_
    refine SG.loop (X := Nat) (fun i => [(0, .slice a0 n0 c0), (1, .slice a1 n1 c1), (2, .slice a2 n2 c2), (65, .int .i64 0), (66, .int .i64 (i : Int))]) (fun i => [bs a0 n0 l0, bs a1 n1 l1, bs a2 n2 l2]) (fun i => True) (fun i => 0) (0) (Sub.cons rfl (Sub.cons rfl (Sub.cons rfl (Sub.cons rfl (Sub.cons rfl (Sub.nil _)))))) ((Imp.sels (by repeat (first | exact Sels.nil | apply Sels.cons | exact Sel.keep | exact Sel.here | apply Sel.there)))) (trivial) ?_
    intro i _
    show SG _ _ _ _ _ [(0, .slice a0 n0 c0), (1, .slice a1 n1 c1), (2, .slice a2 n2 c2), (65, .int .i64 0), (66, .int .i64 (i : Int))] [bs a0 n0 l0, bs a1 n1 l1, bs a2 n2 l2] _
    refine SG.seq ?_
    refine SG.region ?_
    refine SL.val rfl rfl (fun w9 F9 S9 s => R.lss rfl rfl) ?_
    refine SL.nil ?_
    refine SN.seq ?_
    refine SG.seq ?_
    refine SG.condP rfl (fun h3 => ?_) (fun h3 => ?_)
    · exfalso; omega
    · refine SG.exit _ rfl ?_
      refine SN.seq ?_
      refine SG.seq ?_
      refine SG.region ?_
      refine SL.val rfl rfl (fun w9 F9 S9 s => R.mv rfl) ?_
      refine SL.step rfl rfl (CS.call rfl go9 (apply_nil _) (by repeat (first | exact Sels.nil | apply Sels.cons | exact Sel.keep | exact Sel.here | apply Sel.there))) ?_
      rintro _ _ ⟨_, ⟨rfl, rfl⟩, rfl⟩
      refine SL.n0 ?_
      refine SL.val rfl rfl (fun w9 F9 S9 s => R.mv rfl) ?_
      refine SL.val rfl rfl (fun w9 F9 S9 s => R.ext rfl rfl) ?_
      refine SL.val rfl rfl (fun w9 F9 S9 s => R.ext rfl rfl) ?_
      refine SL.val rfl rfl (fun w9 F9 S9 s => R.as rfl) ?_
      refine SL.val rfl rfl (fun w9 F9 S9 s => R.as rfl) ?_
      refine SL.nil ?_
      refine SN.seq ?_
      refine SG.seq ?_
      by_cases hv : (l0.length = 64 * Image.dn l0 ∧ 1 ≤ Image.dn l0 ∧ Image.dn l0 ≤ 64) ∧ (l1.length = 64 * Image.dn l1 ∧ 1 ≤ Image.dn l1 ∧ Image.dn l1 ≤ 64)
      · refine SG.region ?_
        refine SL.val rfl rfl (fun w9 F9 S9 s => R.mv rfl) ?_
        refine SL.val rfl rfl (fun w9 F9 S9 s => R.mv rfl) ?_
        refine SL.step rfl rfl (CS.callP rfl go7 (fun w9 F9 S9 s => disks_yy a0 a1 n0 n1 c0 c1 l0 l1 w9 (s.bs (l := l0) (by repeat (first | exact Sel.keep | exact Sel.here | apply Sel.there))) hc0 (s.bs (l := l1) (by repeat (first | exact Sel.keep | exact Sel.here | apply Sel.there))) hc1 hm hv.1 hv.2)) ?_
        rintro _ _ ⟨_, ⟨d0, g0, e0, cur0, ps0, d1, g1, e1, cur1, ps1, rfl, rfl⟩, rfl⟩
        refine SL.val rfl rfl (fun w9 F9 S9 s => R.mv rfl) ?_
        refine SL.val rfl rfl (fun w9 F9 S9 s => R.ext rfl rfl) ?_
        refine SL.val rfl rfl (fun w9 F9 S9 s => R.ext rfl rfl) ?_
        refine SL.val rfl rfl (fun w9 F9 S9 s => R.ext rfl rfl) ?_
        refine SL.val rfl rfl (fun w9 F9 S9 s => R.as rfl) ?_
        refine SL.val rfl rfl (fun w9 F9 S9 s => R.as rfl) ?_
        refine SL.val rfl rfl (fun w9 F9 S9 s => R.as rfl) ?_
        refine SL.nil ?_
        refine SN.seq ?_
        refine SG.seq ?_
        refine SG.seq ?_
        refine SG.region ?_
        refine SL.val rfl rfl (fun w9 F9 S9 s => R.mv rfl) ?_
        refine SL.val rfl rfl (fun w9 F9 S9 s => R.not rfl) ?_
        refine SL.nil ?_
        refine SN.seq ?_
        refine SG.condF rfl ?_
        refine SG.imp (Imp.weak (p := fun w => DiskL w d0 g0 e0 cur0 ps0 l0 ∧ DiskL w d1 g1 e1 cur1 ps1 l1) (q := fun w => DiskL w d0 g0 e0 cur0 ps0 l0) (by repeat (first | exact Sel.keep | exact Sel.here | apply Sel.there)) (fun w h => h.1)) ?_
        refine SG.imp (Imp.weak (p := fun w => DiskL w d0 g0 e0 cur0 ps0 l0 ∧ DiskL w d1 g1 e1 cur1 ps1 l1) (q := fun w => DiskL w d1 g1 e1 cur1 ps1 l1) (by repeat (first | exact Sel.keep | exact Sel.here | apply Sel.there)) (fun w h => h.2)) ?_
        obtain ⟨⟨hv01, hv02, hv03⟩, hv11, hv12, hv13⟩ := hv
        have hdn0 : Image.dn l0 = l0.length / 64 := rfl
        have hdn1 : Image.dn l1 = l1.length / 64 := rfl
        refine SG.skip ?_
        refine SN.seq ?_
        refine SG.seq ?_
        refine SG.region ?_
        refine SL.val rfl rfl (fun w9 F9 S9 s => R.as rfl) ?_
        refine SL.nil ?_
        refine SN.seq ?_
        refine SG.seq ?_
        refine SG.seq ?_
        refine SG.region ?_
        refine SL.val rfl rfl (fun w9 F9 S9 s => R.mv rfl) ?_
        refine SL.val rfl rfl (fun w9 F9 S9 s => R.lenS rfl) ?_
        refine SL.val rfl rfl (fun w9 F9 S9 s => R.mv rfl) ?_
        refine SL.val rfl rfl (fun w9 F9 S9 s => R.lenS rfl) ?_
        refine SL.val rfl rfl (fun w9 F9 S9 s => R.eqI rfl rfl) ?_
        refine SL.nil ?_
        refine SN.seq ?_
        refine SG.condP rfl (fun h6 => ?_) (fun h6 => ?_)
        · refine SG.region ?_
          refine SL.val rfl rfl (fun w9 F9 S9 s => R.mv rfl) ?_
          refine SL.val rfl rfl (fun w9 F9 S9 s => R.strB rfl (s.bs (l := l0) (by repeat (first | exact Sel.keep | exact Sel.here | apply Sel.there)))) ?_
          refine SL.val rfl rfl (fun w9 F9 S9 s => R.mv rfl) ?_
          refine SL.val rfl rfl (fun w9 F9 S9 s => R.strB rfl (s.bs (l := l1) (by repeat (first | exact Sel.keep | exact Sel.here | apply Sel.there)))) ?_
          refine SL.step rfl rfl (CS.callR rfl go16 (fun w9 F9 S9 s => refmake_ok l0 l1 w9 hv01 hv11 (by omega) hv02 hv03)) ?_
          rintro _ _ ⟨rfl, rfl⟩
          refine SL.val rfl rfl (fun w9 F9 S9 s => R.as rfl) ?_
          refine SL.nil ?_
          refine SN.seq ?_
          refine SG.seq ?_
          by_cases he : (applyF rootD l0 l2).2 = 0
          · refine SG.region ?_
            refine SL.val rfl rfl (fun w9 F9 S9 s => R.mv rfl) ?_
            refine SL.val rfl rfl (fun w9 F9 S9 s => R.mv rfl) ?_
            refine SL.step rfl rfl (CS.callP rfl go9 (fun w9 F9 S9 s => applyY d0 g0 e0 cur0 ps0 l0 a2 n2 c2 l2 w9 (s.sh (p := fun w => DiskL w d0 g0 e0 cur0 ps0 l0) (by repeat (first | exact Sel.keep | exact Sel.here | apply Sel.there))) (s.bs (a := a2) (l := l2) (by repeat (first | exact Sel.keep | exact Sel.here | apply Sel.there))) hc2 (by omega) he)) ?_
            rintro _ _ ⟨_, ⟨d2, g2, e2, cur2, ps2, rfl, rfl⟩, rfl⟩
            refine SL.val rfl rfl (fun w9 F9 S9 s => R.mv rfl) ?_
            refine SL.val rfl rfl (fun w9 F9 S9 s => R.ext rfl rfl) ?_
            refine SL.val rfl rfl (fun w9 F9 S9 s => R.ext rfl rfl) ?_
            refine SL.val rfl rfl (fun w9 F9 S9 s => R.as rfl) ?_
            refine SL.val rfl rfl (fun w9 F9 S9 s => R.as rfl) ?_
            refine SL.nil ?_
            refine SN.seq ?_
            refine SG.seq ?_
            refine SG.region ?_
            refine SL.val rfl rfl (fun w9 F9 S9 s => R.mv rfl) ?_
            refine SL.val rfl rfl (fun w9 F9 S9 s => R.strB rfl (s.bs (l := l0) (by repeat (first | exact Sel.keep | exact Sel.here | apply Sel.there)))) ?_
            refine SL.val rfl rfl (fun w9 F9 S9 s => R.mv rfl) ?_
            refine SL.step rfl rfl (CS.callR rfl go17 (fun w9 F9 S9 s => refapply_ok l0 a2 n2 c2 l2 w9 (s.bs (a := a2) (l := l2) (by repeat (first | exact Sel.keep | exact Sel.here | apply Sel.there))) hc2 (by omega) hv01 hv02 hv03)) ?_
            rintro _ _ ⟨rfl, rfl⟩
            rw [he]
            refine SL.val rfl rfl (fun w9 F9 S9 s => R.mv rfl) ?_
            refine SL.val rfl rfl (fun w9 F9 S9 s => R.ext rfl rfl) ?_
            refine SL.val rfl rfl (fun w9 F9 S9 s => R.ext rfl rfl) ?_
            refine SL.val rfl rfl (fun w9 F9 S9 s => R.as rfl) ?_
            refine SL.val rfl rfl (fun w9 F9 S9 s => R.as rfl) ?_
            refine SL.nil ?_
            refine SN.seq ?_
            refine SG.seq ?_
            refine SG.imp (Imp.weak (p := fun w => DiskL w d2 g2 e2 cur2 ps2 (applyF rootD l0 l2).1) (q := fun w => DiskO w (some ⟨d2, 0, none⟩) (applyF rootD l0 l2).1) (by repeat (first | exact Sel.keep | exact Sel.here | apply Sel.there)) (fun w h => disk_o h)) ?_
            refine SG.region ?_
            refine SL.val rfl rfl (fun w9 F9 S9 s => R.mv rfl) ?_
            refine SL.val rfl rfl (fun w9 F9 S9 s => R.eqI rfl rfl) ?_
            refine SL.val rfl rfl (fun w9 F9 S9 s => R.mv rfl) ?_
            refine SL.isT 133 rfl (by decide) ?_
            refine SL.val rfl rfl (fun w9 F9 S9 s => R.mv rfl) ?_
            refine SL.val rfl rfl (fun w9 F9 S9 s => R.mv rfl) ?_
            refine SL.step rfl rfl (CS.call rfl go8 (make_ok d0 g0 e0 cur0 ps0 l0 d1 g1 e1 cur1 ps1 l1 (by omega)) (by repeat (first | exact Sels.nil | apply Sels.cons | exact Sel.keep | exact Sel.here | apply Sel.there))) ?_
            rintro _ _ ⟨_, ⟨a136, c136, rfl, rfl, rfl⟩, rfl⟩
            refine SL.n1 ?_
            refine SL.val rfl rfl (fun w9 F9 S9 s => R.strB rfl (St.ownBs s (show Sel _ (own 5 1 a136 (makeF rootD l0 l1).length c136 (vbs (makeF rootD l0 l1))) _ from (by repeat (first | exact Sel.keep | exact Sel.here | apply Sel.there))))) ?_
            refine SL.val rfl rfl (fun w9 F9 S9 s => R.mv rfl) ?_
            refine SL.val rfl rfl (fun w9 F9 S9 s => R.eqStr rfl rfl) ?_
            first | refine SL.val rfl rfl (fun w9 F9 S9 s => R.pickT rfl rfl) ?_ | refine SL.val rfl rfl (fun w9 F9 S9 s => R.pickF rfl rfl) ?_
            refine SL.val rfl rfl (fun w9 F9 S9 s => R.mv rfl) ?_
            refine SL.isT 141 rfl (decide_eq_true rfl) ?_
            refine SL.val rfl rfl (fun w9 F9 S9 s => R.mv rfl) ?_
            refine SL.val rfl rfl (fun w9 F9 S9 s => R.mv rfl) ?_
            refine SL.val rfl rfl (fun w9 F9 S9 s => R.eqI rfl rfl) ?_
            first | refine SL.val rfl rfl (fun w9 F9 S9 s => R.pickT rfl rfl) ?_ | refine SL.val rfl rfl (fun w9 F9 S9 s => R.pickF rfl rfl) ?_
            refine SL.val rfl rfl (fun w9 F9 S9 s => R.mv rfl) ?_
            refine SL.isT 146 rfl (decide_eq_true rfl) ?_
            refine SL.val rfl rfl (fun w9 F9 S9 s => R.mv rfl) ?_
            refine SL.step rfl rfl (CS.call rfl go18 (ibytesS (some ⟨d2, 0, none⟩) (applyF rootD l0 l2).1) (by repeat (first | exact Sels.nil | apply Sels.cons | exact Sel.keep | exact Sel.here | apply Sel.there))) ?_
            rintro _ _ ⟨_, ⟨a148, c148, rfl, rfl, rfl⟩, rfl⟩
            refine SL.n2 ?_
            refine SL.val rfl rfl (fun w9 F9 S9 s => R.strB rfl (St.ownBs s (show Sel _ (own 5 1 a148 (applyF rootD l0 l2).1.length c148 (vbs ((applyF rootD l0 l2).1))) _ from (by repeat (first | exact Sel.keep | exact Sel.here | apply Sel.there))))) ?_
            refine SL.val rfl rfl (fun w9 F9 S9 s => R.mv rfl) ?_
            refine SL.val rfl rfl (fun w9 F9 S9 s => R.eqStr rfl rfl) ?_
            first | refine SL.val rfl rfl (fun w9 F9 S9 s => R.pickT rfl rfl) ?_ | refine SL.val rfl rfl (fun w9 F9 S9 s => R.pickF rfl rfl) ?_
            refine SL.val rfl rfl (fun w9 F9 S9 s => R.as rfl) ?_
            refine SL.nil ?_
            refine SN.seq ?_
            exact SG.ret1 rfl rfl ((Imp.sels (by repeat (first | exact Sels.nil | apply Sels.cons | exact Sel.keep | exact Sel.here | apply Sel.there)))) (congrArg Value.bool (decide_eq_true rfl))
          · refine SG.region ?_
            refine SL.val rfl rfl (fun w9 F9 S9 s => R.mv rfl) ?_
            refine SL.val rfl rfl (fun w9 F9 S9 s => R.mv rfl) ?_
            refine SL.step rfl rfl (CS.callR rfl go9 (fun w9 F9 S9 s => applyN d0 g0 e0 cur0 ps0 l0 a2 n2 c2 l2 w9 (s.sh (p := fun w => DiskL w d0 g0 e0 cur0 ps0 l0) (by repeat (first | exact Sel.keep | exact Sel.here | apply Sel.there))) (s.bs (a := a2) (l := l2) (by repeat (first | exact Sel.keep | exact Sel.here | apply Sel.there))) hc2 (by omega) he)) ?_
            rintro _ _ ⟨rfl, rfl⟩
            refine SL.val rfl rfl (fun w9 F9 S9 s => R.mv rfl) ?_
            refine SL.val rfl rfl (fun w9 F9 S9 s => R.ext rfl rfl) ?_
            refine SL.val rfl rfl (fun w9 F9 S9 s => R.ext rfl rfl) ?_
            refine SL.val rfl rfl (fun w9 F9 S9 s => R.as rfl) ?_
            refine SL.val rfl rfl (fun w9 F9 S9 s => R.as rfl) ?_
            refine SL.nil ?_
            refine SN.seq ?_
            refine SG.seq ?_
            refine SG.region ?_
            refine SL.val rfl rfl (fun w9 F9 S9 s => R.mv rfl) ?_
            refine SL.val rfl rfl (fun w9 F9 S9 s => R.strB rfl (s.bs (l := l0) (by repeat (first | exact Sel.keep | exact Sel.here | apply Sel.there)))) ?_
            refine SL.val rfl rfl (fun w9 F9 S9 s => R.mv rfl) ?_
            refine SL.step rfl rfl (CS.callR rfl go17 (fun w9 F9 S9 s => refapply_ok l0 a2 n2 c2 l2 w9 (s.bs (a := a2) (l := l2) (by repeat (first | exact Sel.keep | exact Sel.here | apply Sel.there))) hc2 (by omega) hv01 hv02 hv03)) ?_
            rintro _ _ ⟨rfl, rfl⟩
            rw [apply_errN he]
            refine SL.val rfl rfl (fun w9 F9 S9 s => R.mv rfl) ?_
            refine SL.val rfl rfl (fun w9 F9 S9 s => R.ext rfl rfl) ?_
            refine SL.val rfl rfl (fun w9 F9 S9 s => R.ext rfl rfl) ?_
            refine SL.val rfl rfl (fun w9 F9 S9 s => R.as rfl) ?_
            refine SL.val rfl rfl (fun w9 F9 S9 s => R.as rfl) ?_
            refine SL.nil ?_
            refine SN.seq ?_
            refine SG.seq ?_
            refine SG.imp (Imp.pure (p := fun w => DiskO w none []) (fun w => .inl ⟨rfl, rfl⟩)) ?_
            refine SG.region ?_
            refine SL.val rfl rfl (fun w9 F9 S9 s => R.mv rfl) ?_
            refine SL.val rfl rfl (fun w9 F9 S9 s => R.eqI rfl rfl) ?_
            refine SL.val rfl rfl (fun w9 F9 S9 s => R.mv rfl) ?_
            refine SL.isT 133 rfl (by decide) ?_
            refine SL.val rfl rfl (fun w9 F9 S9 s => R.mv rfl) ?_
            refine SL.val rfl rfl (fun w9 F9 S9 s => R.mv rfl) ?_
            refine SL.step rfl rfl (CS.call rfl go8 (make_ok d0 g0 e0 cur0 ps0 l0 d1 g1 e1 cur1 ps1 l1 (by omega)) (by repeat (first | exact Sels.nil | apply Sels.cons | exact Sel.keep | exact Sel.here | apply Sel.there))) ?_
            rintro _ _ ⟨_, ⟨a136, c136, rfl, rfl, rfl⟩, rfl⟩
            refine SL.n1 ?_
            refine SL.val rfl rfl (fun w9 F9 S9 s => R.strB rfl (St.ownBs s (show Sel _ (own 5 1 a136 (makeF rootD l0 l1).length c136 (vbs (makeF rootD l0 l1))) _ from (by repeat (first | exact Sel.keep | exact Sel.here | apply Sel.there))))) ?_
            refine SL.val rfl rfl (fun w9 F9 S9 s => R.mv rfl) ?_
            refine SL.val rfl rfl (fun w9 F9 S9 s => R.eqStr rfl rfl) ?_
            first | refine SL.val rfl rfl (fun w9 F9 S9 s => R.pickT rfl rfl) ?_ | refine SL.val rfl rfl (fun w9 F9 S9 s => R.pickF rfl rfl) ?_
            refine SL.val rfl rfl (fun w9 F9 S9 s => R.mv rfl) ?_
            refine SL.isT 141 rfl (decide_eq_true rfl) ?_
            refine SL.val rfl rfl (fun w9 F9 S9 s => R.mv rfl) ?_
            refine SL.val rfl rfl (fun w9 F9 S9 s => R.mv rfl) ?_
            refine SL.val rfl rfl (fun w9 F9 S9 s => R.eqI rfl rfl) ?_
            first | refine SL.val rfl rfl (fun w9 F9 S9 s => R.pickT rfl rfl) ?_ | refine SL.val rfl rfl (fun w9 F9 S9 s => R.pickF rfl rfl) ?_
            refine SL.val rfl rfl (fun w9 F9 S9 s => R.mv rfl) ?_
            refine SL.isT 146 rfl (decide_eq_true rfl) ?_
            refine SL.val rfl rfl (fun w9 F9 S9 s => R.mv rfl) ?_
            refine SL.step rfl rfl (CS.call rfl go18 (ibytesS none ([] : List UInt8)) (by repeat (first | exact Sels.nil | apply Sels.cons | exact Sel.keep | exact Sel.here | apply Sel.there))) ?_
            rintro _ _ ⟨_, ⟨a148, c148, rfl, rfl, rfl⟩, rfl⟩
            refine SL.n2 ?_
            refine SL.val rfl rfl (fun w9 F9 S9 s => R.strB rfl (St.ownBs s (show Sel _ (own 5 1 a148 ([] : List UInt8).length c148 (vbs (([] : List UInt8)))) _ from (by repeat (first | exact Sel.keep | exact Sel.here | apply Sel.there))))) ?_
            refine SL.val rfl rfl (fun w9 F9 S9 s => R.mv rfl) ?_
            refine SL.val rfl rfl (fun w9 F9 S9 s => R.eqStr rfl rfl) ?_
            first | refine SL.val rfl rfl (fun w9 F9 S9 s => R.pickT rfl rfl) ?_ | refine SL.val rfl rfl (fun w9 F9 S9 s => R.pickF rfl rfl) ?_
            refine SL.val rfl rfl (fun w9 F9 S9 s => R.as rfl) ?_
            refine SL.nil ?_
            refine SN.seq ?_
            exact SG.ret1 rfl rfl ((Imp.sels (by repeat (first | exact Sels.nil | apply Sels.cons | exact Sel.keep | exact Sel.here | apply Sel.there)))) (congrArg Value.bool (decide_eq_true rfl))
        · refine SG.skip ?_
          refine SN.seq ?_
          refine SG.seq ?_
          by_cases he : (applyF rootD l0 l2).2 = 0
          · refine SG.region ?_
            refine SL.val rfl rfl (fun w9 F9 S9 s => R.mv rfl) ?_
            refine SL.val rfl rfl (fun w9 F9 S9 s => R.mv rfl) ?_
            refine SL.step rfl rfl (CS.callP rfl go9 (fun w9 F9 S9 s => applyY d0 g0 e0 cur0 ps0 l0 a2 n2 c2 l2 w9 (s.sh (p := fun w => DiskL w d0 g0 e0 cur0 ps0 l0) (by repeat (first | exact Sel.keep | exact Sel.here | apply Sel.there))) (s.bs (a := a2) (l := l2) (by repeat (first | exact Sel.keep | exact Sel.here | apply Sel.there))) hc2 (by omega) he)) ?_
            rintro _ _ ⟨_, ⟨d2, g2, e2, cur2, ps2, rfl, rfl⟩, rfl⟩
            refine SL.val rfl rfl (fun w9 F9 S9 s => R.mv rfl) ?_
            refine SL.val rfl rfl (fun w9 F9 S9 s => R.ext rfl rfl) ?_
            refine SL.val rfl rfl (fun w9 F9 S9 s => R.ext rfl rfl) ?_
            refine SL.val rfl rfl (fun w9 F9 S9 s => R.as rfl) ?_
            refine SL.val rfl rfl (fun w9 F9 S9 s => R.as rfl) ?_
            refine SL.nil ?_
            refine SN.seq ?_
            refine SG.seq ?_
            refine SG.region ?_
            refine SL.val rfl rfl (fun w9 F9 S9 s => R.mv rfl) ?_
            refine SL.val rfl rfl (fun w9 F9 S9 s => R.strB rfl (s.bs (l := l0) (by repeat (first | exact Sel.keep | exact Sel.here | apply Sel.there)))) ?_
            refine SL.val rfl rfl (fun w9 F9 S9 s => R.mv rfl) ?_
            refine SL.step rfl rfl (CS.callR rfl go17 (fun w9 F9 S9 s => refapply_ok l0 a2 n2 c2 l2 w9 (s.bs (a := a2) (l := l2) (by repeat (first | exact Sel.keep | exact Sel.here | apply Sel.there))) hc2 (by omega) hv01 hv02 hv03)) ?_
            rintro _ _ ⟨rfl, rfl⟩
            rw [he]
            refine SL.val rfl rfl (fun w9 F9 S9 s => R.mv rfl) ?_
            refine SL.val rfl rfl (fun w9 F9 S9 s => R.ext rfl rfl) ?_
            refine SL.val rfl rfl (fun w9 F9 S9 s => R.ext rfl rfl) ?_
            refine SL.val rfl rfl (fun w9 F9 S9 s => R.as rfl) ?_
            refine SL.val rfl rfl (fun w9 F9 S9 s => R.as rfl) ?_
            refine SL.nil ?_
            refine SN.seq ?_
            refine SG.seq ?_
            refine SG.imp (Imp.weak (p := fun w => DiskL w d2 g2 e2 cur2 ps2 (applyF rootD l0 l2).1) (q := fun w => DiskO w (some ⟨d2, 0, none⟩) (applyF rootD l0 l2).1) (by repeat (first | exact Sel.keep | exact Sel.here | apply Sel.there)) (fun w h => disk_o h)) ?_
            refine SG.region ?_
            refine SL.val rfl rfl (fun w9 F9 S9 s => R.mv rfl) ?_
            refine SL.val rfl rfl (fun w9 F9 S9 s => R.eqI rfl rfl) ?_
            refine SL.val rfl rfl (fun w9 F9 S9 s => R.mv rfl) ?_
            refine SL.isT 133 rfl (by decide) ?_
            refine SL.val rfl rfl (fun w9 F9 S9 s => R.mv rfl) ?_
            refine SL.val rfl rfl (fun w9 F9 S9 s => R.mv rfl) ?_
            refine SL.step rfl rfl (CS.call rfl go8 (make_unlike d0 g0 e0 cur0 ps0 l0 d1 g1 e1 cur1 ps1 l1 (by omega)) (by repeat (first | exact Sels.nil | apply Sels.cons | exact Sel.keep | exact Sel.here | apply Sel.there))) ?_
            rintro _ _ ⟨_, ⟨rfl, rfl⟩, rfl⟩
            refine SL.n0 ?_
            refine SL.val rfl rfl (fun w9 F9 S9 s => R.strB rfl (Bs.nil _)) ?_
            refine SL.val rfl rfl (fun w9 F9 S9 s => R.mv rfl) ?_
            refine SL.val rfl rfl (fun w9 F9 S9 s => R.eqStr rfl rfl) ?_
            first | refine SL.val rfl rfl (fun w9 F9 S9 s => R.pickT rfl rfl) ?_ | refine SL.val rfl rfl (fun w9 F9 S9 s => R.pickF rfl rfl) ?_
            refine SL.val rfl rfl (fun w9 F9 S9 s => R.mv rfl) ?_
            refine SL.isT 141 rfl (decide_eq_true rfl) ?_
            refine SL.val rfl rfl (fun w9 F9 S9 s => R.mv rfl) ?_
            refine SL.val rfl rfl (fun w9 F9 S9 s => R.mv rfl) ?_
            refine SL.val rfl rfl (fun w9 F9 S9 s => R.eqI rfl rfl) ?_
            first | refine SL.val rfl rfl (fun w9 F9 S9 s => R.pickT rfl rfl) ?_ | refine SL.val rfl rfl (fun w9 F9 S9 s => R.pickF rfl rfl) ?_
            refine SL.val rfl rfl (fun w9 F9 S9 s => R.mv rfl) ?_
            refine SL.isT 146 rfl (decide_eq_true rfl) ?_
            refine SL.val rfl rfl (fun w9 F9 S9 s => R.mv rfl) ?_
            refine SL.step rfl rfl (CS.call rfl go18 (ibytesS (some ⟨d2, 0, none⟩) (applyF rootD l0 l2).1) (by repeat (first | exact Sels.nil | apply Sels.cons | exact Sel.keep | exact Sel.here | apply Sel.there))) ?_
            rintro _ _ ⟨_, ⟨a148, c148, rfl, rfl, rfl⟩, rfl⟩
            refine SL.n2 ?_
            refine SL.val rfl rfl (fun w9 F9 S9 s => R.strB rfl (St.ownBs s (show Sel _ (own 5 1 a148 (applyF rootD l0 l2).1.length c148 (vbs ((applyF rootD l0 l2).1))) _ from (by repeat (first | exact Sel.keep | exact Sel.here | apply Sel.there))))) ?_
            refine SL.val rfl rfl (fun w9 F9 S9 s => R.mv rfl) ?_
            refine SL.val rfl rfl (fun w9 F9 S9 s => R.eqStr rfl rfl) ?_
            first | refine SL.val rfl rfl (fun w9 F9 S9 s => R.pickT rfl rfl) ?_ | refine SL.val rfl rfl (fun w9 F9 S9 s => R.pickF rfl rfl) ?_
            refine SL.val rfl rfl (fun w9 F9 S9 s => R.as rfl) ?_
            refine SL.nil ?_
            refine SN.seq ?_
            exact SG.ret1 rfl rfl ((Imp.sels (by repeat (first | exact Sels.nil | apply Sels.cons | exact Sel.keep | exact Sel.here | apply Sel.there)))) (congrArg Value.bool (decide_eq_true rfl))
          · refine SG.region ?_
            refine SL.val rfl rfl (fun w9 F9 S9 s => R.mv rfl) ?_
            refine SL.val rfl rfl (fun w9 F9 S9 s => R.mv rfl) ?_
            refine SL.step rfl rfl (CS.callR rfl go9 (fun w9 F9 S9 s => applyN d0 g0 e0 cur0 ps0 l0 a2 n2 c2 l2 w9 (s.sh (p := fun w => DiskL w d0 g0 e0 cur0 ps0 l0) (by repeat (first | exact Sel.keep | exact Sel.here | apply Sel.there))) (s.bs (a := a2) (l := l2) (by repeat (first | exact Sel.keep | exact Sel.here | apply Sel.there))) hc2 (by omega) he)) ?_
            rintro _ _ ⟨rfl, rfl⟩
            refine SL.val rfl rfl (fun w9 F9 S9 s => R.mv rfl) ?_
            refine SL.val rfl rfl (fun w9 F9 S9 s => R.ext rfl rfl) ?_
            refine SL.val rfl rfl (fun w9 F9 S9 s => R.ext rfl rfl) ?_
            refine SL.val rfl rfl (fun w9 F9 S9 s => R.as rfl) ?_
            refine SL.val rfl rfl (fun w9 F9 S9 s => R.as rfl) ?_
            refine SL.nil ?_
            refine SN.seq ?_
            refine SG.seq ?_
            refine SG.region ?_
            refine SL.val rfl rfl (fun w9 F9 S9 s => R.mv rfl) ?_
            refine SL.val rfl rfl (fun w9 F9 S9 s => R.strB rfl (s.bs (l := l0) (by repeat (first | exact Sel.keep | exact Sel.here | apply Sel.there)))) ?_
            refine SL.val rfl rfl (fun w9 F9 S9 s => R.mv rfl) ?_
            refine SL.step rfl rfl (CS.callR rfl go17 (fun w9 F9 S9 s => refapply_ok l0 a2 n2 c2 l2 w9 (s.bs (a := a2) (l := l2) (by repeat (first | exact Sel.keep | exact Sel.here | apply Sel.there))) hc2 (by omega) hv01 hv02 hv03)) ?_
            rintro _ _ ⟨rfl, rfl⟩
            rw [apply_errN he]
            refine SL.val rfl rfl (fun w9 F9 S9 s => R.mv rfl) ?_
            refine SL.val rfl rfl (fun w9 F9 S9 s => R.ext rfl rfl) ?_
            refine SL.val rfl rfl (fun w9 F9 S9 s => R.ext rfl rfl) ?_
            refine SL.val rfl rfl (fun w9 F9 S9 s => R.as rfl) ?_
            refine SL.val rfl rfl (fun w9 F9 S9 s => R.as rfl) ?_
            refine SL.nil ?_
            refine SN.seq ?_
            refine SG.seq ?_
            refine SG.imp (Imp.pure (p := fun w => DiskO w none []) (fun w => .inl ⟨rfl, rfl⟩)) ?_
            refine SG.region ?_
            refine SL.val rfl rfl (fun w9 F9 S9 s => R.mv rfl) ?_
            refine SL.val rfl rfl (fun w9 F9 S9 s => R.eqI rfl rfl) ?_
            refine SL.val rfl rfl (fun w9 F9 S9 s => R.mv rfl) ?_
            refine SL.isT 133 rfl (by decide) ?_
            refine SL.val rfl rfl (fun w9 F9 S9 s => R.mv rfl) ?_
            refine SL.val rfl rfl (fun w9 F9 S9 s => R.mv rfl) ?_
            refine SL.step rfl rfl (CS.call rfl go8 (make_unlike d0 g0 e0 cur0 ps0 l0 d1 g1 e1 cur1 ps1 l1 (by omega)) (by repeat (first | exact Sels.nil | apply Sels.cons | exact Sel.keep | exact Sel.here | apply Sel.there))) ?_
            rintro _ _ ⟨_, ⟨rfl, rfl⟩, rfl⟩
            refine SL.n0 ?_
            refine SL.val rfl rfl (fun w9 F9 S9 s => R.strB rfl (Bs.nil _)) ?_
            refine SL.val rfl rfl (fun w9 F9 S9 s => R.mv rfl) ?_
            refine SL.val rfl rfl (fun w9 F9 S9 s => R.eqStr rfl rfl) ?_
            first | refine SL.val rfl rfl (fun w9 F9 S9 s => R.pickT rfl rfl) ?_ | refine SL.val rfl rfl (fun w9 F9 S9 s => R.pickF rfl rfl) ?_
            refine SL.val rfl rfl (fun w9 F9 S9 s => R.mv rfl) ?_
            refine SL.isT 141 rfl (decide_eq_true rfl) ?_
            refine SL.val rfl rfl (fun w9 F9 S9 s => R.mv rfl) ?_
            refine SL.val rfl rfl (fun w9 F9 S9 s => R.mv rfl) ?_
            refine SL.val rfl rfl (fun w9 F9 S9 s => R.eqI rfl rfl) ?_
            first | refine SL.val rfl rfl (fun w9 F9 S9 s => R.pickT rfl rfl) ?_ | refine SL.val rfl rfl (fun w9 F9 S9 s => R.pickF rfl rfl) ?_
            refine SL.val rfl rfl (fun w9 F9 S9 s => R.mv rfl) ?_
            refine SL.isT 146 rfl (decide_eq_true rfl) ?_
            refine SL.val rfl rfl (fun w9 F9 S9 s => R.mv rfl) ?_
            refine SL.step rfl rfl (CS.call rfl go18 (ibytesS none ([] : List UInt8)) (by repeat (first | exact Sels.nil | apply Sels.cons | exact Sel.keep | exact Sel.here | apply Sel.there))) ?_
            rintro _ _ ⟨_, ⟨a148, c148, rfl, rfl, rfl⟩, rfl⟩
            refine SL.n2 ?_
            refine SL.val rfl rfl (fun w9 F9 S9 s => R.strB rfl (St.ownBs s (show Sel _ (own 5 1 a148 ([] : List UInt8).length c148 (vbs (([] : List UInt8)))) _ from (by repeat (first | exact Sel.keep | exact Sel.here | apply Sel.there))))) ?_
            refine SL.val rfl rfl (fun w9 F9 S9 s => R.mv rfl) ?_
            refine SL.val rfl rfl (fun w9 F9 S9 s => R.eqStr rfl rfl) ?_
            first | refine SL.val rfl rfl (fun w9 F9 S9 s => R.pickT rfl rfl) ?_ | refine SL.val rfl rfl (fun w9 F9 S9 s => R.pickF rfl rfl) ?_
            refine SL.val rfl rfl (fun w9 F9 S9 s => R.as rfl) ?_
            refine SL.nil ?_
            refine SN.seq ?_
            exact SG.ret1 rfl rfl ((Imp.sels (by repeat (first | exact Sels.nil | apply Sels.cons | exact Sel.keep | exact Sel.here | apply Sel.there)))) (congrArg Value.bool (decide_eq_true rfl))
      · refine SG.region ?_
        refine SL.val rfl rfl (fun w9 F9 S9 s => R.mv rfl) ?_
        refine SL.val rfl rfl (fun w9 F9 S9 s => R.mv rfl) ?_
        refine SL.step rfl rfl (CS.callP rfl go7 (fun w9 F9 S9 s => disks_no a0 a1 n0 n1 c0 c1 l0 l1 w9 (s.bs (l := l0) (by repeat (first | exact Sel.keep | exact Sel.here | apply Sel.there))) hc0 (s.bs (l := l1) (by repeat (first | exact Sel.keep | exact Sel.here | apply Sel.there))) hc1 hm hv)) ?_
        rintro _ _ ⟨_, ⟨q0, q1, rfl, rfl⟩, rfl⟩
        refine SL.val rfl rfl (fun w9 F9 S9 s => R.mv rfl) ?_
        refine SL.val rfl rfl (fun w9 F9 S9 s => R.ext rfl rfl) ?_
        refine SL.val rfl rfl (fun w9 F9 S9 s => R.ext rfl rfl) ?_
        refine SL.val rfl rfl (fun w9 F9 S9 s => R.ext rfl rfl) ?_
        refine SL.val rfl rfl (fun w9 F9 S9 s => R.as rfl) ?_
        refine SL.val rfl rfl (fun w9 F9 S9 s => R.as rfl) ?_
        refine SL.val rfl rfl (fun w9 F9 S9 s => R.as rfl) ?_
        refine SL.nil ?_
        refine SN.seq ?_
        refine SG.seq ?_
        refine SG.seq ?_
        refine SG.region ?_
        refine SL.val rfl rfl (fun w9 F9 S9 s => R.mv rfl) ?_
        refine SL.val rfl rfl (fun w9 F9 S9 s => R.not rfl) ?_
        refine SL.nil ?_
        refine SN.seq ?_
        refine SG.condT rfl ?_
        refine SG.seq ?_
        refine SG.region ?_
        refine SL.val rfl rfl (fun w9 F9 S9 s => R.mv rfl) ?_
        refine SL.val rfl rfl (fun w9 F9 S9 s => R.eqI rfl rfl) ?_
        refine SL.val rfl rfl (fun w9 F9 S9 s => R.mv rfl) ?_
        refine SL.isT 96 rfl (by decide) ?_
        refine SL.val rfl rfl (fun w9 F9 S9 s => R.mv rfl) ?_
        refine SL.step rfl rfl (CS.call rfl go8 (make_nil1 q0) (by repeat (first | exact Sels.nil | apply Sels.cons | exact Sel.keep | exact Sel.here | apply Sel.there))) ?_
        rintro _ _ ⟨_, ⟨rfl, rfl⟩, rfl⟩
        refine SL.n0 ?_
        refine SL.val rfl rfl (fun w9 F9 S9 s => R.lenS rfl) ?_
        refine SL.val rfl rfl (fun w9 F9 S9 s => R.eqI rfl rfl) ?_
        first | refine SL.val rfl rfl (fun w9 F9 S9 s => R.pickT rfl rfl) ?_ | refine SL.val rfl rfl (fun w9 F9 S9 s => R.pickF rfl rfl) ?_
        refine SL.val rfl rfl (fun w9 F9 S9 s => R.mv rfl) ?_
        refine SL.isT 102 rfl (by decide) ?_
        refine SL.val rfl rfl (fun w9 F9 S9 s => R.mv rfl) ?_
        refine SL.step rfl rfl (CS.call rfl go8 (make_nil2 q1) (by repeat (first | exact Sels.nil | apply Sels.cons | exact Sel.keep | exact Sel.here | apply Sel.there))) ?_
        rintro _ _ ⟨_, ⟨rfl, rfl⟩, rfl⟩
        refine SL.n0 ?_
        refine SL.val rfl rfl (fun w9 F9 S9 s => R.lenS rfl) ?_
        refine SL.val rfl rfl (fun w9 F9 S9 s => R.eqI rfl rfl) ?_
        first | refine SL.val rfl rfl (fun w9 F9 S9 s => R.pickT rfl rfl) ?_ | refine SL.val rfl rfl (fun w9 F9 S9 s => R.pickF rfl rfl) ?_
        refine SL.val rfl rfl (fun w9 F9 S9 s => R.as rfl) ?_
        refine SL.nil ?_
        refine SN.seq ?_
        exact SG.ret1 rfl rfl ((Imp.sels (by repeat (first | exact Sels.nil | apply Sels.cons | exact Sel.keep | exact Sel.here | apply Sel.there)))) (congrArg Value.bool (decide_eq_true rfl))

set_option maxHeartbeats 4000000 in
theorem ptells_some (a0 a1 a2 : Option Addr) (n0 n1 n2 c0 c1 c2 : Nat) (l0 l1 l2 : List UInt8) (q : Pat) (w : World) (hb0 : Bs w a0 n0 l0) (hc0 : n0 ≤ c0) (hb1 : Bs w a1 n1 l1) (hc1 : n1 ≤ c1) (hm : n0 ≤ 140737488351232 ∧ n1 ≤ 140737488351232) (hb2 : Bs w a2 n2 l2) (hc2 : n2 ≤ c2) (hs : n2 ≤ 3000) (hpf : parseF l2 = some q) : Meets Try.prog 4 [.slice a0 n0 c0, .slice a1 n1 c1, .slice a2 n2 c2] w (fun v w' => v = .bool true ∧ Ext [] w w') := by
  refine Meets.law Try.func4 rfl 153 rfl (Nat.le_of_ble_eq_true rfl) (law_bs (hb0) (law_bs (hb1) (law_bs (hb2) (law_nil w)))) ?_
  refine SG.fact (fun w9 F9 S9 s => (s.bs (a := a0) (n := n0) (l := l0) (by repeat (first | exact Sel.keep | exact Sel.here | apply Sel.there))).len) (fun hf9 => ?_)
  have hl0 := hf9; clear hf9
  refine SG.fact (fun w9 F9 S9 s => (s.bs (a := a1) (n := n1) (l := l1) (by repeat (first | exact Sel.keep | exact Sel.here | apply Sel.there))).len) (fun hf9 => ?_)
  have hl1 := hf9; clear hf9
  refine SG.fact (fun w9 F9 S9 s => (s.bs (a := a2) (n := n2) (l := l2) (by repeat (first | exact Sel.keep | exact Sel.here | apply Sel.there))).len) (fun hf9 => ?_)
  have hl2 := hf9; clear hf9
  refine SG.seq ?_
  refine SG.region ?_
  refine SL.val rfl rfl (fun w9 F9 S9 s => R.as rfl) ?_
  refine SL.nil ?_
  refine SN.seq ?_
  refine SG.seq ?_
  refine SG.seq ?_
  refine SG.region ?_
  refine SL.step rfl rfl (CS.callR rfl go6 (fun w9 F9 S9 s => first46_law w9)) ?_
  rintro _ _ ⟨rfl, rfl⟩
  refine SL.val rfl rfl (fun w9 F9 S9 s => R.not rfl) ?_
  refine SL.nil ?_
  refine SN.seq ?_
  refine SG.condF rfl ?_
  refine SG.skip ?_
  refine SN.seq ?_
  refine SG.seq ?_
  refine SG.seq ?_
  refine SG.region ?_
  refine SL.val rfl rfl (fun w9 F9 S9 s => R.mv rfl) ?_
  refine SL.val rfl rfl (fun w9 F9 S9 s => R.lenS rfl) ?_
  refine SL.val rfl rfl (fun w9 F9 S9 s => R.gtr rfl rfl) ?_
  refine SL.nil ?_
  refine SN.seq ?_
  refine SG.condP rfl (fun h1 => ?_) (fun h1 => ?_)
  · exfalso; omega
  · refine SG.skip ?_
    refine SN.seq ?_
    refine SG.seq ?_
    refine SG.region ?_
    refine SL.val rfl rfl (fun w9 F9 S9 s => R.mv rfl) ?_
    refine SL.step rfl rfl (CS.call rfl go10 (blocks_yes a2 n2 c2 l2 q hc2 (by omega) hpf) (by repeat (first | exact Sels.nil | apply Sels.cons | exact Sel.keep | exact Sel.here | apply Sel.there))) ?_
    rintro _ _ ⟨_, ⟨a7, c7, rfl, rfl, rfl⟩, rfl⟩
    refine SL.n1 ?_
    refine SL.val rfl rfl (fun w9 F9 S9 s => R.mv rfl) ?_
    refine SL.val rfl rfl (fun w9 F9 S9 s => R.ext rfl rfl) ?_
    refine SL.val rfl rfl (fun w9 F9 S9 s => R.ext rfl rfl) ?_
    refine SL.val rfl rfl (fun w9 F9 S9 s => R.as rfl) ?_
    refine SL.val rfl rfl (fun w9 F9 S9 s => R.as rfl) ?_
    refine SL.nil ?_
    refine SN.seq ?_
    refine SG.seq ?_
    refine SG.region ?_
    refine SL.val rfl rfl (fun w9 F9 S9 s => R.mv rfl) ?_
    refine SL.step rfl rfl (CS.call rfl go15 (refparse_yes a2 n2 c2 l2 q hc2 (by omega) hpf) (by repeat (first | exact Sels.nil | apply Sels.cons | exact Sel.keep | exact Sel.here | apply Sel.there))) ?_
    rintro _ _ ⟨_, ⟨ka, kc, da, dc, rfl, rfl, rfl⟩, rfl⟩
    refine SL.n2 ?_
    refine SL.val rfl rfl (fun w9 F9 S9 s => R.mv rfl) ?_
    refine SL.val rfl rfl (fun w9 F9 S9 s => R.ext rfl rfl) ?_
    refine SL.val rfl rfl (fun w9 F9 S9 s => R.ext rfl rfl) ?_
    refine SL.step rfl rfl (CS.alloc [.int .i64 0, .string ByteArray.empty, .string ByteArray.empty, .slice none 0 0, .slice none 0 0] rfl) ?_
    rintro _ _ ⟨b9, rfl, rfl⟩
    refine SL.step0 rfl (CS.stA (vs := [.int .i64 (q.blocks : Int), .string (str (rootP q.old)), .string (str (rootP q.new)), .slice ka q.parts.length kc, .slice da q.parts.length dc]) rfl rfl (show Sel _ (blk b9 _ _) _ from (by repeat (first | exact Sel.keep | exact Sel.here | apply Sel.there))) (by rfl) (by rfl) (by intro u hu; simp only [List.mem_cons, List.not_mem_nil, or_false] at hu; rcases hu with rfl | rfl | rfl | rfl | rfl <;> rfl)) ?_
    rintro _ _ rfl
    refine SL.val rfl rfl (fun w9 F9 S9 s => R.as rfl) ?_
    refine SL.nil ?_
    have hfew := parts_few hpf
    refine SN.imp (Imp.fz (show Sel _ (blk b9 [.int .i64 (q.blocks : Int), .string (str (rootP q.old)), .string (str (rootP q.new)), .slice ka q.parts.length kc, .slice da q.parts.length dc] 41) _ from (by repeat (first | exact Sel.keep | exact Sel.here | apply Sel.there)))) ?_
    refine SN.imp (Imp.ownSh (show Sel _ (own 3 1 a7 (q.parts.length) c7 (nums (q.parts.map Prod.fst))) _ from (by repeat (first | exact Sel.keep | exact Sel.here | apply Sel.there))) (p := fun w => Cells w a7 (nums (q.parts.map Prod.fst))) (fun w h => h)) ?_
    refine SN.imp (Imp.ownSh (show Sel _ (own 3 1 ka (q.parts.length) kc (nums (q.parts.map Prod.fst))) _ from (by repeat (first | exact Sel.keep | exact Sel.here | apply Sel.there))) (p := fun w => Cells w ka (nums (q.parts.map Prod.fst))) (fun w h => h)) ?_
    refine SN.imp (Imp.sels (show Sels _ [sh (fun w => Cells w a7 (nums (q.parts.map Prod.fst))), sh (fun w => Cells w ka (nums (q.parts.map Prod.fst))), fz b9 [.int .i64 (q.blocks : Int), .string (str (rootP q.old)), .string (str (rootP q.new)), .slice ka q.parts.length kc, .slice da q.parts.length dc] 41, bs a0 n0 l0, bs a1 n1 l1, bs a2 n2 l2] _ from (by repeat (first | exact Sels.nil | apply Sels.cons | exact Sel.keep | exact Sel.here | apply Sel.there)))) ?_
    refine SN.seq ?_
    refine SG.seq ?_
    refine SG.seq ?_
    refine SG.region ?_
    refine SL.val rfl rfl (fun w9 F9 S9 s => R.mv rfl) ?_
    refine SL.val rfl rfl (fun w9 F9 S9 s => R.eqI rfl rfl) ?_
    refine SL.val rfl rfl (fun w9 F9 S9 s => R.mv rfl) ?_
    refine SL.val rfl rfl (fun w9 F9 S9 s => R.neB rfl rfl) ?_
    refine SL.val rfl rfl (fun w9 F9 S9 s => R.mv rfl) ?_
    refine SL.isF 40 rfl (by decide) ?_
    refine SL.val rfl rfl (fun w9 F9 S9 s => R.mv rfl) ?_
    refine SL.val rfl rfl (fun w9 F9 S9 s => R.not rfl) ?_
    refine SL.val rfl rfl (fun w9 F9 S9 s => R.mv rfl) ?_
    refine SL.isF 43 rfl (rfl) ?_
    refine SL.pass rfl rfl ?_
    refine SL.pass rfl rfl ?_
    refine SL.pass rfl rfl ?_
    refine SL.pass rfl rfl ?_
    refine SL.pass rfl rfl ?_
    refine SL.pass rfl rfl ?_
    refine SL.pass rfl rfl ?_
    first | refine SL.val rfl rfl (fun w9 F9 S9 s => R.pickT rfl rfl) ?_ | refine SL.val rfl rfl (fun w9 F9 S9 s => R.pickF rfl rfl) ?_
    first | refine SL.val rfl rfl (fun w9 F9 S9 s => R.pickT rfl rfl) ?_ | refine SL.val rfl rfl (fun w9 F9 S9 s => R.pickF rfl rfl) ?_
    refine SL.val rfl rfl (fun w9 F9 S9 s => R.mv rfl) ?_
    refine SL.val rfl rfl (fun w9 F9 S9 s => R.mv rfl) ?_
    refine SL.val rfl rfl (fun w9 F9 S9 s => R.mv rfl) ?_
    refine SL.val rfl rfl (fun w9 F9 S9 s => R.mv rfl) ?_
    refine SL.val rfl rfl (fun w9 F9 S9 s => R.lenS rfl) ?_
    refine SL.val rfl rfl (fun w9 F9 S9 s => R.fld rfl) ?_
    refine SL.val rfl rfl (fun w9 F9 S9 s => R.ldB (v := .slice ka q.parts.length kc) rfl (s.fz (show Sel _ (fz b9 [.int .i64 (q.blocks : Int), .string (str (rootP q.old)), .string (str (rootP q.new)), .slice ka q.parts.length kc, .slice da q.parts.length dc] 41) _ from (by repeat (first | exact Sel.keep | exact Sel.here | apply Sel.there)))) (by rfl)) ?_
    refine SL.val rfl rfl (fun w9 F9 S9 s => R.lenS rfl) ?_
    refine SL.val rfl rfl (fun w9 F9 S9 s => R.neI rfl rfl) ?_
    first | refine SL.val rfl rfl (fun w9 F9 S9 s => R.pickT rfl rfl) ?_ | refine SL.val rfl rfl (fun w9 F9 S9 s => R.pickF rfl rfl) ?_
    first | refine SL.val rfl rfl (fun w9 F9 S9 s => R.pickT rfl rfl) ?_ | refine SL.val rfl rfl (fun w9 F9 S9 s => R.pickF rfl rfl) ?_
    refine SL.nil ?_
    refine SN.seq ?_
    refine SG.condP rfl (fun h2 => ?_) (fun h2 => ?_)
    · exact absurd rfl h2
    · refine SG.skip ?_
      refine SN.seq ?_
      refine SG.seq ?_
      refine SG.seq ?_
      refine SG.region ?_
      refine SL.val rfl rfl (fun w9 F9 S9 s => R.mv rfl) ?_
      refine SL.val rfl rfl (fun w9 F9 S9 s => R.lenS rfl) ?_
      refine SL.val rfl rfl (fun w9 F9 S9 s => R.mv rfl) ?_
      refine SL.nil ?_
      refine SN.seq ?_
      refine SG.block ?_
      refine SG.loop (X := Nat) (fun i => [(0, .slice a0 n0 c0), (1, .slice a1 n1 c1), (2, .slice a2 n2 c2), (7, .slice a7 q.parts.length c7), (9, .pointer (some ⟨b9, 0, none⟩)), (65, .int .i64 (q.parts.length : Int)), (66, .int .i64 (i : Int))]) (fun i => [sh (fun w => Cells w a7 (nums (q.parts.map Prod.fst))), sh (fun w => Cells w ka (nums (q.parts.map Prod.fst))), fz b9 [.int .i64 (q.blocks : Int), .string (str (rootP q.old)), .string (str (rootP q.new)), .slice ka q.parts.length kc, .slice da q.parts.length dc] 41, bs a0 n0 l0, bs a1 n1 l1, bs a2 n2 l2]) (fun i => i ≤ q.parts.length) (fun i => q.parts.length - i) (0) (Sub.cons rfl (Sub.cons rfl (Sub.cons rfl (Sub.cons rfl (Sub.cons rfl (Sub.cons rfl (Sub.cons rfl (Sub.nil _)))))))) ((Imp.sels (by repeat (first | exact Sels.nil | apply Sels.cons | exact Sel.keep | exact Sel.here | apply Sel.there)))) (Nat.zero_le _) ?_
      intro i hi
      show SG _ _ _ _ _ [(0, .slice a0 n0 c0), (1, .slice a1 n1 c1), (2, .slice a2 n2 c2), (7, .slice a7 q.parts.length c7), (9, .pointer (some ⟨b9, 0, none⟩)), (65, .int .i64 (q.parts.length : Int)), (66, .int .i64 (i : Int))] [sh (fun w => Cells w a7 (nums (q.parts.map Prod.fst))), sh (fun w => Cells w ka (nums (q.parts.map Prod.fst))), fz b9 [.int .i64 (q.blocks : Int), .string (str (rootP q.old)), .string (str (rootP q.new)), .slice ka q.parts.length kc, .slice da q.parts.length dc] 41, bs a0 n0 l0, bs a1 n1 l1, bs a2 n2 l2] _
      refine SG.seq ?_
      refine SG.region ?_
      refine SL.val rfl rfl (fun w9 F9 S9 s => R.lss rfl rfl) ?_
      refine SL.nil ?_
      refine SN.seq ?_
      refine SG.seq ?_
      refine SG.condP rfl (fun h3 => ?_) (fun h3 => ?_)
      · obtain ⟨z, hz⟩ : ∃ z, (q.parts.map Prod.fst)[i]? = some z := ⟨_, List.getElem?_eq_getElem (by rw [List.length_map]; omega)⟩
        refine SG.fact (fun w9 F9 S9 s => numsP_pt (s.sh (p := fun w => Cells w a7 (nums (q.parts.map Prod.fst))) (by repeat (first | exact Sel.keep | exact Sel.here | apply Sel.there))) hz) (fun hf9 => ?_)
        obtain ⟨qa, hqa⟩ := hf9
        refine SG.fact (fun w9 F9 S9 s => numsP_pt (s.sh (p := fun w => Cells w ka (nums (q.parts.map Prod.fst))) (by repeat (first | exact Sel.keep | exact Sel.here | apply Sel.there))) hz) (fun hf9 => ?_)
        obtain ⟨qb, hqb⟩ := hf9
        refine SG.skip ?_
        refine SN.seq ?_
        refine SG.seq ?_
        refine SG.block ?_
        refine SG.seq ?_
        refine SG.region ?_
        refine SL.val rfl rfl (fun w9 F9 S9 s => R.mv rfl) ?_
        refine SL.val rfl rfl (fun w9 F9 S9 s => R.as rfl) ?_
        refine SL.nil ?_
        refine SN.seq ?_
        refine SG.seq ?_
        refine SG.draw [] [0, 1, 2, 3, 4, 5, 6, 7, 8, 9] (by decide +kernel) rfl ?_
        refine SW.pure rfl rfl rfl rfl (fun w9 => R.mv rfl) ?_
        refine SW.pure rfl rfl rfl rfl (fun w9 => R.mv rfl) ?_
        refine SW.pure rfl rfl rfl rfl (fun w9 => R.idx rfl rfl (by omega) (by omega) qa hqa) ?_
        refine SW.read rfl rfl rfl rfl (fun w9 F9 S9 s => R.ld (v := .int .i64 (z : Int)) rfl (numsP_ld (s.sh (p := fun w => Cells w a7 (nums (q.parts.map Prod.fst))) (by repeat (first | exact Sel.keep | exact Sel.here | apply Sel.there))) hqa hz)) ?_
        refine SW.pure rfl rfl rfl rfl (fun w9 => R.fld rfl) ?_
        refine SW.read rfl rfl rfl rfl (fun w9 F9 S9 s => R.ldB (v := .slice ka q.parts.length kc) rfl (s.fz (show Sel _ (fz b9 [.int .i64 (q.blocks : Int), .string (str (rootP q.old)), .string (str (rootP q.new)), .slice ka q.parts.length kc, .slice da q.parts.length dc] 41) _ from (by repeat (first | exact Sel.keep | exact Sel.here | apply Sel.there)))) (by rfl)) ?_
        refine SW.pure rfl rfl rfl rfl (fun w9 => R.mv rfl) ?_
        refine SW.pure rfl rfl rfl rfl (fun w9 => R.idx rfl rfl (by omega) (by omega) qb hqb) ?_
        refine SW.read rfl rfl rfl rfl (fun w9 F9 S9 s => R.ld (v := .int .i64 (z : Int)) rfl (numsP_ld (s.sh (p := fun w => Cells w ka (nums (q.parts.map Prod.fst))) (by repeat (first | exact Sel.keep | exact Sel.here | apply Sel.there))) hqb hz)) ?_
        refine SW.pure rfl rfl rfl rfl (fun w9 => R.neI rfl rfl) ?_
        refine SW.nil ?_
        refine SN.seq ?_
        refine SG.condP rfl (fun h4 => ?_) (fun h4 => ?_)
        · exact absurd rfl h4
        · refine SG.skip ?_
          refine SN.block ?_
          refine SN.seq ?_
          refine SG.region ?_
          refine SL.val rfl rfl (fun w9 F9 S9 s => R.add rfl rfl (by omega)) ?_
          refine SL.val rfl rfl (fun w9 F9 S9 s => R.mv rfl) ?_
          refine SL.nil ?_
          exact SN.again (i + 1) (by show q.parts.length - (i + 1) < q.parts.length - i; omega) (Sub.cons rfl (Sub.cons rfl (Sub.cons rfl (Sub.cons rfl (Sub.cons rfl (Sub.cons rfl (Sub.cons rfl (Sub.nil _)))))))) ((Imp.sels (by repeat (first | exact Sels.nil | apply Sels.cons | exact Sel.keep | exact Sel.here | apply Sel.there)))) (by show i + 1 ≤ q.parts.length; omega)
      · refine SG.exit _ rfl ?_
        refine SN.seq ?_
        refine SG.seq ?_
        refine SG.region ?_
        refine SL.val rfl rfl (fun w9 F9 S9 s => R.mv rfl) ?_
        refine SL.step rfl rfl (CS.call rfl go9 (apply_nil _) (by repeat (first | exact Sels.nil | apply Sels.cons | exact Sel.keep | exact Sel.here | apply Sel.there))) ?_
        rintro _ _ ⟨_, ⟨rfl, rfl⟩, rfl⟩
        refine SL.n0 ?_
        refine SL.val rfl rfl (fun w9 F9 S9 s => R.mv rfl) ?_
        refine SL.val rfl rfl (fun w9 F9 S9 s => R.ext rfl rfl) ?_
        refine SL.val rfl rfl (fun w9 F9 S9 s => R.ext rfl rfl) ?_
        refine SL.val rfl rfl (fun w9 F9 S9 s => R.as rfl) ?_
        refine SL.val rfl rfl (fun w9 F9 S9 s => R.as rfl) ?_
        refine SL.nil ?_
        refine SN.seq ?_
        refine SG.seq ?_
        by_cases hv : (l0.length = 64 * Image.dn l0 ∧ 1 ≤ Image.dn l0 ∧ Image.dn l0 ≤ 64) ∧ (l1.length = 64 * Image.dn l1 ∧ 1 ≤ Image.dn l1 ∧ Image.dn l1 ≤ 64)
        · refine SG.region ?_
          refine SL.val rfl rfl (fun w9 F9 S9 s => R.mv rfl) ?_
          refine SL.val rfl rfl (fun w9 F9 S9 s => R.mv rfl) ?_
          refine SL.step rfl rfl (CS.callP rfl go7 (fun w9 F9 S9 s => disks_yy a0 a1 n0 n1 c0 c1 l0 l1 w9 (s.bs (l := l0) (by repeat (first | exact Sel.keep | exact Sel.here | apply Sel.there))) hc0 (s.bs (l := l1) (by repeat (first | exact Sel.keep | exact Sel.here | apply Sel.there))) hc1 hm hv.1 hv.2)) ?_
          rintro _ _ ⟨_, ⟨d0, g0, e0, cur0, ps0, d1, g1, e1, cur1, ps1, rfl, rfl⟩, rfl⟩
          refine SL.val rfl rfl (fun w9 F9 S9 s => R.mv rfl) ?_
          refine SL.val rfl rfl (fun w9 F9 S9 s => R.ext rfl rfl) ?_
          refine SL.val rfl rfl (fun w9 F9 S9 s => R.ext rfl rfl) ?_
          refine SL.val rfl rfl (fun w9 F9 S9 s => R.ext rfl rfl) ?_
          refine SL.val rfl rfl (fun w9 F9 S9 s => R.as rfl) ?_
          refine SL.val rfl rfl (fun w9 F9 S9 s => R.as rfl) ?_
          refine SL.val rfl rfl (fun w9 F9 S9 s => R.as rfl) ?_
          refine SL.nil ?_
          refine SN.seq ?_
          refine SG.seq ?_
          refine SG.seq ?_
          refine SG.region ?_
          refine SL.val rfl rfl (fun w9 F9 S9 s => R.mv rfl) ?_
          refine SL.val rfl rfl (fun w9 F9 S9 s => R.not rfl) ?_
          refine SL.nil ?_
          refine SN.seq ?_
          refine SG.condF rfl ?_
          refine SG.imp (Imp.weak (p := fun w => DiskL w d0 g0 e0 cur0 ps0 l0 ∧ DiskL w d1 g1 e1 cur1 ps1 l1) (q := fun w => DiskL w d0 g0 e0 cur0 ps0 l0) (by repeat (first | exact Sel.keep | exact Sel.here | apply Sel.there)) (fun w h => h.1)) ?_
          refine SG.imp (Imp.weak (p := fun w => DiskL w d0 g0 e0 cur0 ps0 l0 ∧ DiskL w d1 g1 e1 cur1 ps1 l1) (q := fun w => DiskL w d1 g1 e1 cur1 ps1 l1) (by repeat (first | exact Sel.keep | exact Sel.here | apply Sel.there)) (fun w h => h.2)) ?_
          obtain ⟨⟨hv01, hv02, hv03⟩, hv11, hv12, hv13⟩ := hv
          have hdn0 : Image.dn l0 = l0.length / 64 := rfl
          have hdn1 : Image.dn l1 = l1.length / 64 := rfl
          refine SG.skip ?_
          refine SN.seq ?_
          refine SG.seq ?_
          refine SG.region ?_
          refine SL.val rfl rfl (fun w9 F9 S9 s => R.as rfl) ?_
          refine SL.nil ?_
          refine SN.seq ?_
          refine SG.seq ?_
          refine SG.seq ?_
          refine SG.region ?_
          refine SL.val rfl rfl (fun w9 F9 S9 s => R.mv rfl) ?_
          refine SL.val rfl rfl (fun w9 F9 S9 s => R.lenS rfl) ?_
          refine SL.val rfl rfl (fun w9 F9 S9 s => R.mv rfl) ?_
          refine SL.val rfl rfl (fun w9 F9 S9 s => R.lenS rfl) ?_
          refine SL.val rfl rfl (fun w9 F9 S9 s => R.eqI rfl rfl) ?_
          refine SL.nil ?_
          refine SN.seq ?_
          refine SG.condP rfl (fun h6 => ?_) (fun h6 => ?_)
          · refine SG.region ?_
            refine SL.val rfl rfl (fun w9 F9 S9 s => R.mv rfl) ?_
            refine SL.val rfl rfl (fun w9 F9 S9 s => R.strB rfl (s.bs (l := l0) (by repeat (first | exact Sel.keep | exact Sel.here | apply Sel.there)))) ?_
            refine SL.val rfl rfl (fun w9 F9 S9 s => R.mv rfl) ?_
            refine SL.val rfl rfl (fun w9 F9 S9 s => R.strB rfl (s.bs (l := l1) (by repeat (first | exact Sel.keep | exact Sel.here | apply Sel.there)))) ?_
            refine SL.step rfl rfl (CS.callR rfl go16 (fun w9 F9 S9 s => refmake_ok l0 l1 w9 hv01 hv11 (by omega) hv02 hv03)) ?_
            rintro _ _ ⟨rfl, rfl⟩
            refine SL.val rfl rfl (fun w9 F9 S9 s => R.as rfl) ?_
            refine SL.nil ?_
            refine SN.seq ?_
            refine SG.seq ?_
            by_cases he : (applyF rootD l0 l2).2 = 0
            · refine SG.region ?_
              refine SL.val rfl rfl (fun w9 F9 S9 s => R.mv rfl) ?_
              refine SL.val rfl rfl (fun w9 F9 S9 s => R.mv rfl) ?_
              refine SL.step rfl rfl (CS.callP rfl go9 (fun w9 F9 S9 s => applyY d0 g0 e0 cur0 ps0 l0 a2 n2 c2 l2 w9 (s.sh (p := fun w => DiskL w d0 g0 e0 cur0 ps0 l0) (by repeat (first | exact Sel.keep | exact Sel.here | apply Sel.there))) (s.bs (a := a2) (l := l2) (by repeat (first | exact Sel.keep | exact Sel.here | apply Sel.there))) hc2 (by omega) he)) ?_
              rintro _ _ ⟨_, ⟨d2, g2, e2, cur2, ps2, rfl, rfl⟩, rfl⟩
              refine SL.val rfl rfl (fun w9 F9 S9 s => R.mv rfl) ?_
              refine SL.val rfl rfl (fun w9 F9 S9 s => R.ext rfl rfl) ?_
              refine SL.val rfl rfl (fun w9 F9 S9 s => R.ext rfl rfl) ?_
              refine SL.val rfl rfl (fun w9 F9 S9 s => R.as rfl) ?_
              refine SL.val rfl rfl (fun w9 F9 S9 s => R.as rfl) ?_
              refine SL.nil ?_
              refine SN.seq ?_
              refine SG.seq ?_
              refine SG.region ?_
              refine SL.val rfl rfl (fun w9 F9 S9 s => R.mv rfl) ?_
              refine SL.val rfl rfl (fun w9 F9 S9 s => R.strB rfl (s.bs (l := l0) (by repeat (first | exact Sel.keep | exact Sel.here | apply Sel.there)))) ?_
              refine SL.val rfl rfl (fun w9 F9 S9 s => R.mv rfl) ?_
              refine SL.step rfl rfl (CS.callR rfl go17 (fun w9 F9 S9 s => refapply_ok l0 a2 n2 c2 l2 w9 (s.bs (a := a2) (l := l2) (by repeat (first | exact Sel.keep | exact Sel.here | apply Sel.there))) hc2 (by omega) hv01 hv02 hv03)) ?_
              rintro _ _ ⟨rfl, rfl⟩
              rw [he]
              refine SL.val rfl rfl (fun w9 F9 S9 s => R.mv rfl) ?_
              refine SL.val rfl rfl (fun w9 F9 S9 s => R.ext rfl rfl) ?_
              refine SL.val rfl rfl (fun w9 F9 S9 s => R.ext rfl rfl) ?_
              refine SL.val rfl rfl (fun w9 F9 S9 s => R.as rfl) ?_
              refine SL.val rfl rfl (fun w9 F9 S9 s => R.as rfl) ?_
              refine SL.nil ?_
              refine SN.seq ?_
              refine SG.seq ?_
              refine SG.imp (Imp.weak (p := fun w => DiskL w d2 g2 e2 cur2 ps2 (applyF rootD l0 l2).1) (q := fun w => DiskO w (some ⟨d2, 0, none⟩) (applyF rootD l0 l2).1) (by repeat (first | exact Sel.keep | exact Sel.here | apply Sel.there)) (fun w h => disk_o h)) ?_
              refine SG.region ?_
              refine SL.val rfl rfl (fun w9 F9 S9 s => R.mv rfl) ?_
              refine SL.val rfl rfl (fun w9 F9 S9 s => R.eqI rfl rfl) ?_
              refine SL.val rfl rfl (fun w9 F9 S9 s => R.mv rfl) ?_
              refine SL.isT 133 rfl (by decide) ?_
              refine SL.val rfl rfl (fun w9 F9 S9 s => R.mv rfl) ?_
              refine SL.val rfl rfl (fun w9 F9 S9 s => R.mv rfl) ?_
              refine SL.step rfl rfl (CS.call rfl go8 (make_ok d0 g0 e0 cur0 ps0 l0 d1 g1 e1 cur1 ps1 l1 (by omega)) (by repeat (first | exact Sels.nil | apply Sels.cons | exact Sel.keep | exact Sel.here | apply Sel.there))) ?_
              rintro _ _ ⟨_, ⟨a136, c136, rfl, rfl, rfl⟩, rfl⟩
              refine SL.n1 ?_
              refine SL.val rfl rfl (fun w9 F9 S9 s => R.strB rfl (St.ownBs s (show Sel _ (own 5 1 a136 (makeF rootD l0 l1).length c136 (vbs (makeF rootD l0 l1))) _ from (by repeat (first | exact Sel.keep | exact Sel.here | apply Sel.there))))) ?_
              refine SL.val rfl rfl (fun w9 F9 S9 s => R.mv rfl) ?_
              refine SL.val rfl rfl (fun w9 F9 S9 s => R.eqStr rfl rfl) ?_
              first | refine SL.val rfl rfl (fun w9 F9 S9 s => R.pickT rfl rfl) ?_ | refine SL.val rfl rfl (fun w9 F9 S9 s => R.pickF rfl rfl) ?_
              refine SL.val rfl rfl (fun w9 F9 S9 s => R.mv rfl) ?_
              refine SL.isT 141 rfl (decide_eq_true rfl) ?_
              refine SL.val rfl rfl (fun w9 F9 S9 s => R.mv rfl) ?_
              refine SL.val rfl rfl (fun w9 F9 S9 s => R.mv rfl) ?_
              refine SL.val rfl rfl (fun w9 F9 S9 s => R.eqI rfl rfl) ?_
              first | refine SL.val rfl rfl (fun w9 F9 S9 s => R.pickT rfl rfl) ?_ | refine SL.val rfl rfl (fun w9 F9 S9 s => R.pickF rfl rfl) ?_
              refine SL.val rfl rfl (fun w9 F9 S9 s => R.mv rfl) ?_
              refine SL.isT 146 rfl (decide_eq_true rfl) ?_
              refine SL.val rfl rfl (fun w9 F9 S9 s => R.mv rfl) ?_
              refine SL.step rfl rfl (CS.call rfl go18 (ibytesS (some ⟨d2, 0, none⟩) (applyF rootD l0 l2).1) (by repeat (first | exact Sels.nil | apply Sels.cons | exact Sel.keep | exact Sel.here | apply Sel.there))) ?_
              rintro _ _ ⟨_, ⟨a148, c148, rfl, rfl, rfl⟩, rfl⟩
              refine SL.n2 ?_
              refine SL.val rfl rfl (fun w9 F9 S9 s => R.strB rfl (St.ownBs s (show Sel _ (own 5 1 a148 (applyF rootD l0 l2).1.length c148 (vbs ((applyF rootD l0 l2).1))) _ from (by repeat (first | exact Sel.keep | exact Sel.here | apply Sel.there))))) ?_
              refine SL.val rfl rfl (fun w9 F9 S9 s => R.mv rfl) ?_
              refine SL.val rfl rfl (fun w9 F9 S9 s => R.eqStr rfl rfl) ?_
              first | refine SL.val rfl rfl (fun w9 F9 S9 s => R.pickT rfl rfl) ?_ | refine SL.val rfl rfl (fun w9 F9 S9 s => R.pickF rfl rfl) ?_
              refine SL.val rfl rfl (fun w9 F9 S9 s => R.as rfl) ?_
              refine SL.nil ?_
              refine SN.seq ?_
              exact SG.ret1 rfl rfl ((Imp.sels (by repeat (first | exact Sels.nil | apply Sels.cons | exact Sel.keep | exact Sel.here | apply Sel.there)))) (congrArg Value.bool (decide_eq_true rfl))
            · refine SG.region ?_
              refine SL.val rfl rfl (fun w9 F9 S9 s => R.mv rfl) ?_
              refine SL.val rfl rfl (fun w9 F9 S9 s => R.mv rfl) ?_
              refine SL.step rfl rfl (CS.callR rfl go9 (fun w9 F9 S9 s => applyN d0 g0 e0 cur0 ps0 l0 a2 n2 c2 l2 w9 (s.sh (p := fun w => DiskL w d0 g0 e0 cur0 ps0 l0) (by repeat (first | exact Sel.keep | exact Sel.here | apply Sel.there))) (s.bs (a := a2) (l := l2) (by repeat (first | exact Sel.keep | exact Sel.here | apply Sel.there))) hc2 (by omega) he)) ?_
              rintro _ _ ⟨rfl, rfl⟩
              refine SL.val rfl rfl (fun w9 F9 S9 s => R.mv rfl) ?_
              refine SL.val rfl rfl (fun w9 F9 S9 s => R.ext rfl rfl) ?_
              refine SL.val rfl rfl (fun w9 F9 S9 s => R.ext rfl rfl) ?_
              refine SL.val rfl rfl (fun w9 F9 S9 s => R.as rfl) ?_
              refine SL.val rfl rfl (fun w9 F9 S9 s => R.as rfl) ?_
              refine SL.nil ?_
              refine SN.seq ?_
              refine SG.seq ?_
              refine SG.region ?_
              refine SL.val rfl rfl (fun w9 F9 S9 s => R.mv rfl) ?_
              refine SL.val rfl rfl (fun w9 F9 S9 s => R.strB rfl (s.bs (l := l0) (by repeat (first | exact Sel.keep | exact Sel.here | apply Sel.there)))) ?_
              refine SL.val rfl rfl (fun w9 F9 S9 s => R.mv rfl) ?_
              refine SL.step rfl rfl (CS.callR rfl go17 (fun w9 F9 S9 s => refapply_ok l0 a2 n2 c2 l2 w9 (s.bs (a := a2) (l := l2) (by repeat (first | exact Sel.keep | exact Sel.here | apply Sel.there))) hc2 (by omega) hv01 hv02 hv03)) ?_
              rintro _ _ ⟨rfl, rfl⟩
              rw [apply_errN he]
              refine SL.val rfl rfl (fun w9 F9 S9 s => R.mv rfl) ?_
              refine SL.val rfl rfl (fun w9 F9 S9 s => R.ext rfl rfl) ?_
              refine SL.val rfl rfl (fun w9 F9 S9 s => R.ext rfl rfl) ?_
              refine SL.val rfl rfl (fun w9 F9 S9 s => R.as rfl) ?_
              refine SL.val rfl rfl (fun w9 F9 S9 s => R.as rfl) ?_
              refine SL.nil ?_
              refine SN.seq ?_
              refine SG.seq ?_
              refine SG.imp (Imp.pure (p := fun w => DiskO w none []) (fun w => .inl ⟨rfl, rfl⟩)) ?_
              refine SG.region ?_
              refine SL.val rfl rfl (fun w9 F9 S9 s => R.mv rfl) ?_
              refine SL.val rfl rfl (fun w9 F9 S9 s => R.eqI rfl rfl) ?_
              refine SL.val rfl rfl (fun w9 F9 S9 s => R.mv rfl) ?_
              refine SL.isT 133 rfl (by decide) ?_
              refine SL.val rfl rfl (fun w9 F9 S9 s => R.mv rfl) ?_
              refine SL.val rfl rfl (fun w9 F9 S9 s => R.mv rfl) ?_
              refine SL.step rfl rfl (CS.call rfl go8 (make_ok d0 g0 e0 cur0 ps0 l0 d1 g1 e1 cur1 ps1 l1 (by omega)) (by repeat (first | exact Sels.nil | apply Sels.cons | exact Sel.keep | exact Sel.here | apply Sel.there))) ?_
              rintro _ _ ⟨_, ⟨a136, c136, rfl, rfl, rfl⟩, rfl⟩
              refine SL.n1 ?_
              refine SL.val rfl rfl (fun w9 F9 S9 s => R.strB rfl (St.ownBs s (show Sel _ (own 5 1 a136 (makeF rootD l0 l1).length c136 (vbs (makeF rootD l0 l1))) _ from (by repeat (first | exact Sel.keep | exact Sel.here | apply Sel.there))))) ?_
              refine SL.val rfl rfl (fun w9 F9 S9 s => R.mv rfl) ?_
              refine SL.val rfl rfl (fun w9 F9 S9 s => R.eqStr rfl rfl) ?_
              first | refine SL.val rfl rfl (fun w9 F9 S9 s => R.pickT rfl rfl) ?_ | refine SL.val rfl rfl (fun w9 F9 S9 s => R.pickF rfl rfl) ?_
              refine SL.val rfl rfl (fun w9 F9 S9 s => R.mv rfl) ?_
              refine SL.isT 141 rfl (decide_eq_true rfl) ?_
              refine SL.val rfl rfl (fun w9 F9 S9 s => R.mv rfl) ?_
              refine SL.val rfl rfl (fun w9 F9 S9 s => R.mv rfl) ?_
              refine SL.val rfl rfl (fun w9 F9 S9 s => R.eqI rfl rfl) ?_
              first | refine SL.val rfl rfl (fun w9 F9 S9 s => R.pickT rfl rfl) ?_ | refine SL.val rfl rfl (fun w9 F9 S9 s => R.pickF rfl rfl) ?_
              refine SL.val rfl rfl (fun w9 F9 S9 s => R.mv rfl) ?_
              refine SL.isT 146 rfl (decide_eq_true rfl) ?_
              refine SL.val rfl rfl (fun w9 F9 S9 s => R.mv rfl) ?_
              refine SL.step rfl rfl (CS.call rfl go18 (ibytesS none ([] : List UInt8)) (by repeat (first | exact Sels.nil | apply Sels.cons | exact Sel.keep | exact Sel.here | apply Sel.there))) ?_
              rintro _ _ ⟨_, ⟨a148, c148, rfl, rfl, rfl⟩, rfl⟩
              refine SL.n2 ?_
              refine SL.val rfl rfl (fun w9 F9 S9 s => R.strB rfl (St.ownBs s (show Sel _ (own 5 1 a148 ([] : List UInt8).length c148 (vbs (([] : List UInt8)))) _ from (by repeat (first | exact Sel.keep | exact Sel.here | apply Sel.there))))) ?_
              refine SL.val rfl rfl (fun w9 F9 S9 s => R.mv rfl) ?_
              refine SL.val rfl rfl (fun w9 F9 S9 s => R.eqStr rfl rfl) ?_
              first | refine SL.val rfl rfl (fun w9 F9 S9 s => R.pickT rfl rfl) ?_ | refine SL.val rfl rfl (fun w9 F9 S9 s => R.pickF rfl rfl) ?_
              refine SL.val rfl rfl (fun w9 F9 S9 s => R.as rfl) ?_
              refine SL.nil ?_
              refine SN.seq ?_
              exact SG.ret1 rfl rfl ((Imp.sels (by repeat (first | exact Sels.nil | apply Sels.cons | exact Sel.keep | exact Sel.here | apply Sel.there)))) (congrArg Value.bool (decide_eq_true rfl))
          · refine SG.skip ?_
            refine SN.seq ?_
            refine SG.seq ?_
            by_cases he : (applyF rootD l0 l2).2 = 0
            · refine SG.region ?_
              refine SL.val rfl rfl (fun w9 F9 S9 s => R.mv rfl) ?_
              refine SL.val rfl rfl (fun w9 F9 S9 s => R.mv rfl) ?_
              refine SL.step rfl rfl (CS.callP rfl go9 (fun w9 F9 S9 s => applyY d0 g0 e0 cur0 ps0 l0 a2 n2 c2 l2 w9 (s.sh (p := fun w => DiskL w d0 g0 e0 cur0 ps0 l0) (by repeat (first | exact Sel.keep | exact Sel.here | apply Sel.there))) (s.bs (a := a2) (l := l2) (by repeat (first | exact Sel.keep | exact Sel.here | apply Sel.there))) hc2 (by omega) he)) ?_
              rintro _ _ ⟨_, ⟨d2, g2, e2, cur2, ps2, rfl, rfl⟩, rfl⟩
              refine SL.val rfl rfl (fun w9 F9 S9 s => R.mv rfl) ?_
              refine SL.val rfl rfl (fun w9 F9 S9 s => R.ext rfl rfl) ?_
              refine SL.val rfl rfl (fun w9 F9 S9 s => R.ext rfl rfl) ?_
              refine SL.val rfl rfl (fun w9 F9 S9 s => R.as rfl) ?_
              refine SL.val rfl rfl (fun w9 F9 S9 s => R.as rfl) ?_
              refine SL.nil ?_
              refine SN.seq ?_
              refine SG.seq ?_
              refine SG.region ?_
              refine SL.val rfl rfl (fun w9 F9 S9 s => R.mv rfl) ?_
              refine SL.val rfl rfl (fun w9 F9 S9 s => R.strB rfl (s.bs (l := l0) (by repeat (first | exact Sel.keep | exact Sel.here | apply Sel.there)))) ?_
              refine SL.val rfl rfl (fun w9 F9 S9 s => R.mv rfl) ?_
              refine SL.step rfl rfl (CS.callR rfl go17 (fun w9 F9 S9 s => refapply_ok l0 a2 n2 c2 l2 w9 (s.bs (a := a2) (l := l2) (by repeat (first | exact Sel.keep | exact Sel.here | apply Sel.there))) hc2 (by omega) hv01 hv02 hv03)) ?_
              rintro _ _ ⟨rfl, rfl⟩
              rw [he]
              refine SL.val rfl rfl (fun w9 F9 S9 s => R.mv rfl) ?_
              refine SL.val rfl rfl (fun w9 F9 S9 s => R.ext rfl rfl) ?_
              refine SL.val rfl rfl (fun w9 F9 S9 s => R.ext rfl rfl) ?_
              refine SL.val rfl rfl (fun w9 F9 S9 s => R.as rfl) ?_
              refine SL.val rfl rfl (fun w9 F9 S9 s => R.as rfl) ?_
              refine SL.nil ?_
              refine SN.seq ?_
              refine SG.seq ?_
              refine SG.imp (Imp.weak (p := fun w => DiskL w d2 g2 e2 cur2 ps2 (applyF rootD l0 l2).1) (q := fun w => DiskO w (some ⟨d2, 0, none⟩) (applyF rootD l0 l2).1) (by repeat (first | exact Sel.keep | exact Sel.here | apply Sel.there)) (fun w h => disk_o h)) ?_
              refine SG.region ?_
              refine SL.val rfl rfl (fun w9 F9 S9 s => R.mv rfl) ?_
              refine SL.val rfl rfl (fun w9 F9 S9 s => R.eqI rfl rfl) ?_
              refine SL.val rfl rfl (fun w9 F9 S9 s => R.mv rfl) ?_
              refine SL.isT 133 rfl (by decide) ?_
              refine SL.val rfl rfl (fun w9 F9 S9 s => R.mv rfl) ?_
              refine SL.val rfl rfl (fun w9 F9 S9 s => R.mv rfl) ?_
              refine SL.step rfl rfl (CS.call rfl go8 (make_unlike d0 g0 e0 cur0 ps0 l0 d1 g1 e1 cur1 ps1 l1 (by omega)) (by repeat (first | exact Sels.nil | apply Sels.cons | exact Sel.keep | exact Sel.here | apply Sel.there))) ?_
              rintro _ _ ⟨_, ⟨rfl, rfl⟩, rfl⟩
              refine SL.n0 ?_
              refine SL.val rfl rfl (fun w9 F9 S9 s => R.strB rfl (Bs.nil _)) ?_
              refine SL.val rfl rfl (fun w9 F9 S9 s => R.mv rfl) ?_
              refine SL.val rfl rfl (fun w9 F9 S9 s => R.eqStr rfl rfl) ?_
              first | refine SL.val rfl rfl (fun w9 F9 S9 s => R.pickT rfl rfl) ?_ | refine SL.val rfl rfl (fun w9 F9 S9 s => R.pickF rfl rfl) ?_
              refine SL.val rfl rfl (fun w9 F9 S9 s => R.mv rfl) ?_
              refine SL.isT 141 rfl (decide_eq_true rfl) ?_
              refine SL.val rfl rfl (fun w9 F9 S9 s => R.mv rfl) ?_
              refine SL.val rfl rfl (fun w9 F9 S9 s => R.mv rfl) ?_
              refine SL.val rfl rfl (fun w9 F9 S9 s => R.eqI rfl rfl) ?_
              first | refine SL.val rfl rfl (fun w9 F9 S9 s => R.pickT rfl rfl) ?_ | refine SL.val rfl rfl (fun w9 F9 S9 s => R.pickF rfl rfl) ?_
              refine SL.val rfl rfl (fun w9 F9 S9 s => R.mv rfl) ?_
              refine SL.isT 146 rfl (decide_eq_true rfl) ?_
              refine SL.val rfl rfl (fun w9 F9 S9 s => R.mv rfl) ?_
              refine SL.step rfl rfl (CS.call rfl go18 (ibytesS (some ⟨d2, 0, none⟩) (applyF rootD l0 l2).1) (by repeat (first | exact Sels.nil | apply Sels.cons | exact Sel.keep | exact Sel.here | apply Sel.there))) ?_
              rintro _ _ ⟨_, ⟨a148, c148, rfl, rfl, rfl⟩, rfl⟩
              refine SL.n2 ?_
              refine SL.val rfl rfl (fun w9 F9 S9 s => R.strB rfl (St.ownBs s (show Sel _ (own 5 1 a148 (applyF rootD l0 l2).1.length c148 (vbs ((applyF rootD l0 l2).1))) _ from (by repeat (first | exact Sel.keep | exact Sel.here | apply Sel.there))))) ?_
              refine SL.val rfl rfl (fun w9 F9 S9 s => R.mv rfl) ?_
              refine SL.val rfl rfl (fun w9 F9 S9 s => R.eqStr rfl rfl) ?_
              first | refine SL.val rfl rfl (fun w9 F9 S9 s => R.pickT rfl rfl) ?_ | refine SL.val rfl rfl (fun w9 F9 S9 s => R.pickF rfl rfl) ?_
              refine SL.val rfl rfl (fun w9 F9 S9 s => R.as rfl) ?_
              refine SL.nil ?_
              refine SN.seq ?_
              exact SG.ret1 rfl rfl ((Imp.sels (by repeat (first | exact Sels.nil | apply Sels.cons | exact Sel.keep | exact Sel.here | apply Sel.there)))) (congrArg Value.bool (decide_eq_true rfl))
            · refine SG.region ?_
              refine SL.val rfl rfl (fun w9 F9 S9 s => R.mv rfl) ?_
              refine SL.val rfl rfl (fun w9 F9 S9 s => R.mv rfl) ?_
              refine SL.step rfl rfl (CS.callR rfl go9 (fun w9 F9 S9 s => applyN d0 g0 e0 cur0 ps0 l0 a2 n2 c2 l2 w9 (s.sh (p := fun w => DiskL w d0 g0 e0 cur0 ps0 l0) (by repeat (first | exact Sel.keep | exact Sel.here | apply Sel.there))) (s.bs (a := a2) (l := l2) (by repeat (first | exact Sel.keep | exact Sel.here | apply Sel.there))) hc2 (by omega) he)) ?_
              rintro _ _ ⟨rfl, rfl⟩
              refine SL.val rfl rfl (fun w9 F9 S9 s => R.mv rfl) ?_
              refine SL.val rfl rfl (fun w9 F9 S9 s => R.ext rfl rfl) ?_
              refine SL.val rfl rfl (fun w9 F9 S9 s => R.ext rfl rfl) ?_
              refine SL.val rfl rfl (fun w9 F9 S9 s => R.as rfl) ?_
              refine SL.val rfl rfl (fun w9 F9 S9 s => R.as rfl) ?_
              refine SL.nil ?_
              refine SN.seq ?_
              refine SG.seq ?_
              refine SG.region ?_
              refine SL.val rfl rfl (fun w9 F9 S9 s => R.mv rfl) ?_
              refine SL.val rfl rfl (fun w9 F9 S9 s => R.strB rfl (s.bs (l := l0) (by repeat (first | exact Sel.keep | exact Sel.here | apply Sel.there)))) ?_
              refine SL.val rfl rfl (fun w9 F9 S9 s => R.mv rfl) ?_
              refine SL.step rfl rfl (CS.callR rfl go17 (fun w9 F9 S9 s => refapply_ok l0 a2 n2 c2 l2 w9 (s.bs (a := a2) (l := l2) (by repeat (first | exact Sel.keep | exact Sel.here | apply Sel.there))) hc2 (by omega) hv01 hv02 hv03)) ?_
              rintro _ _ ⟨rfl, rfl⟩
              rw [apply_errN he]
              refine SL.val rfl rfl (fun w9 F9 S9 s => R.mv rfl) ?_
              refine SL.val rfl rfl (fun w9 F9 S9 s => R.ext rfl rfl) ?_
              refine SL.val rfl rfl (fun w9 F9 S9 s => R.ext rfl rfl) ?_
              refine SL.val rfl rfl (fun w9 F9 S9 s => R.as rfl) ?_
              refine SL.val rfl rfl (fun w9 F9 S9 s => R.as rfl) ?_
              refine SL.nil ?_
              refine SN.seq ?_
              refine SG.seq ?_
              refine SG.imp (Imp.pure (p := fun w => DiskO w none []) (fun w => .inl ⟨rfl, rfl⟩)) ?_
              refine SG.region ?_
              refine SL.val rfl rfl (fun w9 F9 S9 s => R.mv rfl) ?_
              refine SL.val rfl rfl (fun w9 F9 S9 s => R.eqI rfl rfl) ?_
              refine SL.val rfl rfl (fun w9 F9 S9 s => R.mv rfl) ?_
              refine SL.isT 133 rfl (by decide) ?_
              refine SL.val rfl rfl (fun w9 F9 S9 s => R.mv rfl) ?_
              refine SL.val rfl rfl (fun w9 F9 S9 s => R.mv rfl) ?_
              refine SL.step rfl rfl (CS.call rfl go8 (make_unlike d0 g0 e0 cur0 ps0 l0 d1 g1 e1 cur1 ps1 l1 (by omega)) (by repeat (first | exact Sels.nil | apply Sels.cons | exact Sel.keep | exact Sel.here | apply Sel.there))) ?_
              rintro _ _ ⟨_, ⟨rfl, rfl⟩, rfl⟩
              refine SL.n0 ?_
              refine SL.val rfl rfl (fun w9 F9 S9 s => R.strB rfl (Bs.nil _)) ?_
              refine SL.val rfl rfl (fun w9 F9 S9 s => R.mv rfl) ?_
              refine SL.val rfl rfl (fun w9 F9 S9 s => R.eqStr rfl rfl) ?_
              first | refine SL.val rfl rfl (fun w9 F9 S9 s => R.pickT rfl rfl) ?_ | refine SL.val rfl rfl (fun w9 F9 S9 s => R.pickF rfl rfl) ?_
              refine SL.val rfl rfl (fun w9 F9 S9 s => R.mv rfl) ?_
              refine SL.isT 141 rfl (decide_eq_true rfl) ?_
              refine SL.val rfl rfl (fun w9 F9 S9 s => R.mv rfl) ?_
              refine SL.val rfl rfl (fun w9 F9 S9 s => R.mv rfl) ?_
              refine SL.val rfl rfl (fun w9 F9 S9 s => R.eqI rfl rfl) ?_
              first | refine SL.val rfl rfl (fun w9 F9 S9 s => R.pickT rfl rfl) ?_ | refine SL.val rfl rfl (fun w9 F9 S9 s => R.pickF rfl rfl) ?_
              refine SL.val rfl rfl (fun w9 F9 S9 s => R.mv rfl) ?_
              refine SL.isT 146 rfl (decide_eq_true rfl) ?_
              refine SL.val rfl rfl (fun w9 F9 S9 s => R.mv rfl) ?_
              refine SL.step rfl rfl (CS.call rfl go18 (ibytesS none ([] : List UInt8)) (by repeat (first | exact Sels.nil | apply Sels.cons | exact Sel.keep | exact Sel.here | apply Sel.there))) ?_
              rintro _ _ ⟨_, ⟨a148, c148, rfl, rfl, rfl⟩, rfl⟩
              refine SL.n2 ?_
              refine SL.val rfl rfl (fun w9 F9 S9 s => R.strB rfl (St.ownBs s (show Sel _ (own 5 1 a148 ([] : List UInt8).length c148 (vbs (([] : List UInt8)))) _ from (by repeat (first | exact Sel.keep | exact Sel.here | apply Sel.there))))) ?_
              refine SL.val rfl rfl (fun w9 F9 S9 s => R.mv rfl) ?_
              refine SL.val rfl rfl (fun w9 F9 S9 s => R.eqStr rfl rfl) ?_
              first | refine SL.val rfl rfl (fun w9 F9 S9 s => R.pickT rfl rfl) ?_ | refine SL.val rfl rfl (fun w9 F9 S9 s => R.pickF rfl rfl) ?_
              refine SL.val rfl rfl (fun w9 F9 S9 s => R.as rfl) ?_
              refine SL.nil ?_
              refine SN.seq ?_
              exact SG.ret1 rfl rfl ((Imp.sels (by repeat (first | exact Sels.nil | apply Sels.cons | exact Sel.keep | exact Sel.here | apply Sel.there)))) (congrArg Value.bool (decide_eq_true rfl))
        · refine SG.region ?_
          refine SL.val rfl rfl (fun w9 F9 S9 s => R.mv rfl) ?_
          refine SL.val rfl rfl (fun w9 F9 S9 s => R.mv rfl) ?_
          refine SL.step rfl rfl (CS.callP rfl go7 (fun w9 F9 S9 s => disks_no a0 a1 n0 n1 c0 c1 l0 l1 w9 (s.bs (l := l0) (by repeat (first | exact Sel.keep | exact Sel.here | apply Sel.there))) hc0 (s.bs (l := l1) (by repeat (first | exact Sel.keep | exact Sel.here | apply Sel.there))) hc1 hm hv)) ?_
          rintro _ _ ⟨_, ⟨q0, q1, rfl, rfl⟩, rfl⟩
          refine SL.val rfl rfl (fun w9 F9 S9 s => R.mv rfl) ?_
          refine SL.val rfl rfl (fun w9 F9 S9 s => R.ext rfl rfl) ?_
          refine SL.val rfl rfl (fun w9 F9 S9 s => R.ext rfl rfl) ?_
          refine SL.val rfl rfl (fun w9 F9 S9 s => R.ext rfl rfl) ?_
          refine SL.val rfl rfl (fun w9 F9 S9 s => R.as rfl) ?_
          refine SL.val rfl rfl (fun w9 F9 S9 s => R.as rfl) ?_
          refine SL.val rfl rfl (fun w9 F9 S9 s => R.as rfl) ?_
          refine SL.nil ?_
          refine SN.seq ?_
          refine SG.seq ?_
          refine SG.seq ?_
          refine SG.region ?_
          refine SL.val rfl rfl (fun w9 F9 S9 s => R.mv rfl) ?_
          refine SL.val rfl rfl (fun w9 F9 S9 s => R.not rfl) ?_
          refine SL.nil ?_
          refine SN.seq ?_
          refine SG.condT rfl ?_
          refine SG.seq ?_
          refine SG.region ?_
          refine SL.val rfl rfl (fun w9 F9 S9 s => R.mv rfl) ?_
          refine SL.val rfl rfl (fun w9 F9 S9 s => R.eqI rfl rfl) ?_
          refine SL.val rfl rfl (fun w9 F9 S9 s => R.mv rfl) ?_
          refine SL.isT 96 rfl (by decide) ?_
          refine SL.val rfl rfl (fun w9 F9 S9 s => R.mv rfl) ?_
          refine SL.step rfl rfl (CS.call rfl go8 (make_nil1 q0) (by repeat (first | exact Sels.nil | apply Sels.cons | exact Sel.keep | exact Sel.here | apply Sel.there))) ?_
          rintro _ _ ⟨_, ⟨rfl, rfl⟩, rfl⟩
          refine SL.n0 ?_
          refine SL.val rfl rfl (fun w9 F9 S9 s => R.lenS rfl) ?_
          refine SL.val rfl rfl (fun w9 F9 S9 s => R.eqI rfl rfl) ?_
          first | refine SL.val rfl rfl (fun w9 F9 S9 s => R.pickT rfl rfl) ?_ | refine SL.val rfl rfl (fun w9 F9 S9 s => R.pickF rfl rfl) ?_
          refine SL.val rfl rfl (fun w9 F9 S9 s => R.mv rfl) ?_
          refine SL.isT 102 rfl (by decide) ?_
          refine SL.val rfl rfl (fun w9 F9 S9 s => R.mv rfl) ?_
          refine SL.step rfl rfl (CS.call rfl go8 (make_nil2 q1) (by repeat (first | exact Sels.nil | apply Sels.cons | exact Sel.keep | exact Sel.here | apply Sel.there))) ?_
          rintro _ _ ⟨_, ⟨rfl, rfl⟩, rfl⟩
          refine SL.n0 ?_
          refine SL.val rfl rfl (fun w9 F9 S9 s => R.lenS rfl) ?_
          refine SL.val rfl rfl (fun w9 F9 S9 s => R.eqI rfl rfl) ?_
          first | refine SL.val rfl rfl (fun w9 F9 S9 s => R.pickT rfl rfl) ?_ | refine SL.val rfl rfl (fun w9 F9 S9 s => R.pickF rfl rfl) ?_
          refine SL.val rfl rfl (fun w9 F9 S9 s => R.as rfl) ?_
          refine SL.nil ?_
          refine SN.seq ?_
          exact SG.ret1 rfl rfl ((Imp.sels (by repeat (first | exact Sels.nil | apply Sels.cons | exact Sel.keep | exact Sel.here | apply Sel.there)))) (congrArg Value.bool (decide_eq_true rfl))

end Go.Proofs.Yteaihincmfbblaa
