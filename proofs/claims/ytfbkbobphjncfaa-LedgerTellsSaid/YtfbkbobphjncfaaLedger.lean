/-
  The walks of package ledger.
-/
import Derived.Test.YtfbkbobphjncfaaPack
import Derived.Test.YtfbkbobphjncfaaLedgerPure
import Derived.Test.YtfbkbobphjncfaaC9
set_option linter.unusedVariables false
namespace Go.Proofs.Ytfbkbobphjncfaa
open Go Brv Brv.Crc Brv.Pack Brv.Ledger
theorem go55 : ∀ (vs : Array Value) w, (callFunc 55 vs).run Try.prog w = .ok (.enter 55 vs) w := callFunc_run Try.func55 (by decide) rfl
theorem go21 : ∀ (vs : Array Value) w, (callFunc 21 vs).run Try.prog w = .ok (.enter 21 vs) w := callFunc_run Try.func21 (by decide) rfl
theorem go56 : ∀ (vs : Array Value) w, (callFunc 56 vs).run Try.prog w = .ok (.enter 56 vs) w := callFunc_run Try.func56 (by decide) rfl
theorem go59 : ∀ (vs : Array Value) w, (callFunc 59 vs).run Try.prog w = .ok (.enter 59 vs) w := callFunc_run Try.func59 (by decide) rfl
theorem go60 : ∀ (vs : Array Value) w, (callFunc 60 vs).run Try.prog w = .ok (.enter 60 vs) w := callFunc_run Try.func60 (by decide) rfl
theorem go19 : ∀ (vs : Array Value) w, (callFunc 19 vs).run Try.prog w = .ok (.enter 19 vs) w := callFunc_run Try.func19 (by decide) rfl
theorem go24 : ∀ (vs : Array Value) w, (callFunc 24 vs).run Try.prog w = .ok (.enter 24 vs) w := callFunc_run Try.func24 (by decide) rfl
theorem go25 : ∀ (vs : Array Value) w, (callFunc 25 vs).run Try.prog w = .ok (.enter 25 vs) w := callFunc_run Try.func25 (by decide) rfl
theorem go26 : ∀ (vs : Array Value) w, (callFunc 26 vs).run Try.prog w = .ok (.enter 26 vs) w := callFunc_run Try.func26 (by decide) rfl
theorem go27 : ∀ (vs : Array Value) w, (callFunc 27 vs).run Try.prog w = .ok (.enter 27 vs) w := callFunc_run Try.func27 (by decide) rfl
theorem go28 : ∀ (vs : Array Value) w, (callFunc 28 vs).run Try.prog w = .ok (.enter 28 vs) w := callFunc_run Try.func28 (by decide) rfl
theorem go53 : ∀ (vs : Array Value) w, (callFunc 53 vs).run Try.prog w = .ok (.enter 53 vs) w := callFunc_run Try.func53 (by decide) rfl

theorem between_ok (x y z : Int) (w : World) : Meets Try.prog 55 [.int .i64 x, .int .i64 y, .int .i64 z] w (fun v w' => v = .bool (decide (y ≤ x ∧ x ≤ z)) ∧ w' = w) := by
  refine Meets.enter Try.func55 rfl 15 rfl (Nat.le_of_ble_eq_true rfl) ?_
  refine G.seq ?_
  refine G.region ?_
  refine L.val rfl rfl (R.as rfl) ?_
  refine L.nil ?_
  refine N.seq ?_
  refine G.seq ?_
  refine G.region ?_
  refine L.val rfl rfl (R.mv rfl) ?_
  refine L.val rfl rfl (R.mv rfl) ?_
  refine L.val rfl rfl (R.geq rfl rfl) ?_
  refine L.val rfl rfl (R.mv rfl) ?_
  refine L.caseP 10 rfl (fun hg1_3 => ?_) (fun hg1_3 => ?_)
  · refine L.val rfl rfl (R.mv rfl) ?_
    refine L.val rfl rfl (R.mv rfl) ?_
    refine L.val rfl rfl (R.leq rfl rfl) ?_
    first | refine L.val rfl rfl (R.pickT rfl rfl) ?_ | refine L.val rfl rfl (R.pickF rfl rfl) ?_
    refine L.val rfl rfl (R.as rfl) ?_
    refine L.nil ?_
    refine N.seq ?_
    refine G.ret1 rfl rfl ?_
    exact ⟨congrArg Value.bool (by rw [decide_eq_decide]; exact ⟨fun h => ⟨hg1_3, h⟩, fun h => h.2⟩), rfl⟩
  · refine L.pass rfl rfl ?_
    refine L.pass rfl rfl ?_
    refine L.pass rfl rfl ?_
    first | refine L.val rfl rfl (R.pickT rfl rfl) ?_ | refine L.val rfl rfl (R.pickF rfl rfl) ?_
    refine L.val rfl rfl (R.as rfl) ?_
    refine L.nil ?_
    refine N.seq ?_
    refine G.ret1 rfl rfl ?_
    exact ⟨congrArg Value.bool (by rw [eq_comm, decide_eq_false_iff_not]; exact fun h => hg1_3 h.1), rfl⟩

theorem need_ok (p q r : Int) (w : World) (hp : -9223372036854775808 ≤ p ∧ p ≤ 9223372036854775807)(hq : -9223372036854775808 ≤ q ∧ q ≤ 9223372036854775807)(hr : -9223372036854775808 ≤ r ∧ r ≤ 9223372036854775807) : Meets Try.prog 21 [.agg #[.int .i64 p, .int .i64 q, .int .i64 r]] w (fun v w' => v = .int .i64 (needF p q r) ∧ Ext [] w w') := by
  refine Meets.enter Try.func21 rfl 29 rfl (Nat.le_of_ble_eq_true rfl) ?_
  have E := Ext.refl [] w
  refine G.seq ?_
  refine G.region ?_
  refine L.do rfl rfl (R.box rfl) ?_
  rintro _ w1 ⟨b1, rfl, hb1, hs1, e1, B1⟩
  replace E := E.trans0 e1
  refine L.val rfl rfl (R.as rfl) ?_
  refine L.nil ?_
  refine N.seq ?_
  refine G.seq ?_
  refine G.seq ?_
  refine G.region ?_
  refine L.val rfl rfl (R.fld rfl) ?_
  refine L.val rfl rfl (R.ldB rfl (by assumption) (by rfl)) ?_
  refine L.callF rfl rfl rfl go55 (between_ok _ _ _ _) ?_
  rintro _ _ ⟨rfl, hw⟩
  obtain rfl := hw.symm
  refine L.val rfl rfl (R.not rfl) ?_
  refine L.val rfl rfl (R.mv rfl) ?_
  refine L.caseB 7 rfl (fun hg1_4 => ?_) (fun hg1_4 => ?_)
  · have k1 := not_dec_t hg1_4
    refine L.pass rfl rfl ?_
    refine L.pass rfl rfl ?_
    refine L.pass rfl rfl ?_
    refine L.pass rfl rfl ?_
    first | refine L.val rfl rfl (R.pickT rfl rfl) ?_ | refine L.val rfl rfl (R.pickF rfl rfl) ?_
    refine L.val rfl rfl (R.mv rfl) ?_
    refine L.pass rfl rfl ?_
    refine L.pass rfl rfl ?_
    refine L.pass rfl rfl ?_
    refine L.pass rfl rfl ?_
    first | refine L.val rfl rfl (R.pickT rfl rfl) ?_ | refine L.val rfl rfl (R.pickF rfl rfl) ?_
    refine L.nil ?_
    refine N.seq ?_
    refine G.condT rfl ?_
    refine G.seq ?_
    refine G.region ?_
    refine L.val rfl rfl (R.as rfl) ?_
    refine L.nil ?_
    refine N.seq ?_
    refine G.ret1 rfl rfl ?_
    first
      | exact ⟨by rw [needF_yes hok], E⟩
      | exact ⟨by rw [needF_no (by rintro ⟨o1, o2, o3, o4, o5, o6⟩; first | omega | exact k1 ⟨o1, o2⟩ | exact k2 ⟨o3, o4⟩ | exact k3 ⟨o5, o6⟩)], E⟩
  · have k1 := not_dec_f hg1_4
    refine L.val rfl rfl (R.fld rfl) ?_
    refine L.val rfl rfl (R.ldB rfl (by assumption) (by rfl)) ?_
    refine L.callF rfl rfl rfl go55 (between_ok _ _ _ _) ?_
    rintro _ _ ⟨rfl, hw⟩
    obtain rfl := hw.symm
    refine L.val rfl rfl (R.not rfl) ?_
    first | refine L.val rfl rfl (R.pickT rfl rfl) ?_ | refine L.val rfl rfl (R.pickF rfl rfl) ?_
    refine L.val rfl rfl (R.mv rfl) ?_
    refine L.caseB 13 rfl (fun hg1_10 => ?_) (fun hg1_10 => ?_)
    · have k2 := not_dec_t hg1_10
      refine L.pass rfl rfl ?_
      refine L.pass rfl rfl ?_
      refine L.pass rfl rfl ?_
      refine L.pass rfl rfl ?_
      first | refine L.val rfl rfl (R.pickT rfl rfl) ?_ | refine L.val rfl rfl (R.pickF rfl rfl) ?_
      refine L.nil ?_
      refine N.seq ?_
      refine G.condT rfl ?_
      refine G.seq ?_
      refine G.region ?_
      refine L.val rfl rfl (R.as rfl) ?_
      refine L.nil ?_
      refine N.seq ?_
      refine G.ret1 rfl rfl ?_
      first
        | exact ⟨by rw [needF_yes hok], E⟩
        | exact ⟨by rw [needF_no (by rintro ⟨o1, o2, o3, o4, o5, o6⟩; first | omega | exact k1 ⟨o1, o2⟩ | exact k2 ⟨o3, o4⟩ | exact k3 ⟨o5, o6⟩)], E⟩
    · have k2 := not_dec_f hg1_10
      refine L.val rfl rfl (R.fld rfl) ?_
      refine L.val rfl rfl (R.ldB rfl (by assumption) (by rfl)) ?_
      refine L.callF rfl rfl rfl go55 (between_ok _ _ _ _) ?_
      rintro _ _ ⟨rfl, hw⟩
      obtain rfl := hw.symm
      refine L.val rfl rfl (R.not rfl) ?_
      first | refine L.val rfl rfl (R.pickT rfl rfl) ?_ | refine L.val rfl rfl (R.pickF rfl rfl) ?_
      refine L.nil ?_
      refine N.seq ?_
      refine G.condB rfl (fun h0 => ?_) (fun h0 => ?_)
      · have k3 := not_dec_t h0
        refine G.seq ?_
        refine G.region ?_
        refine L.val rfl rfl (R.as rfl) ?_
        refine L.nil ?_
        refine N.seq ?_
        refine G.ret1 rfl rfl ?_
        first
          | exact ⟨by rw [needF_yes hok], E⟩
          | exact ⟨by rw [needF_no (by rintro ⟨o1, o2, o3, o4, o5, o6⟩; first | omega | exact k1 ⟨o1, o2⟩ | exact k2 ⟨o3, o4⟩ | exact k3 ⟨o5, o6⟩)], E⟩
      · have k3 := not_dec_f h0
        have hok : okShape p q r := ⟨k1.1, k1.2, k2.1, k2.2, k3.1, k3.2⟩
        have hm := mul_bounds (q := q) (r := r) (by have := hok.2.2.1; have := hok.2.2.2.1; omega) (by have := hok.2.2.2.2.1; have := hok.2.2.2.2.2; omega)
        have hp2 := hok.1
        have hp3 := hok.2.1
        refine G.skip ?_
        refine N.seq ?_
        refine G.seq ?_
        refine G.region ?_
        refine L.val rfl rfl (R.fld rfl) ?_
        refine L.val rfl rfl (R.ldB rfl (by assumption) (by rfl)) ?_
        refine L.val rfl rfl (R.mul rfl rfl (by omega)) ?_
        refine L.val rfl rfl (R.add rfl rfl (by omega)) ?_
        refine L.val rfl rfl (R.fld rfl) ?_
        refine L.val rfl rfl (R.ldB rfl (by assumption) (by rfl)) ?_
        refine L.val rfl rfl (R.fld rfl) ?_
        refine L.val rfl rfl (R.ldB rfl (by assumption) (by rfl)) ?_
        refine L.val rfl rfl (R.mul rfl rfl (by omega)) ?_
        refine L.val rfl rfl (R.add rfl rfl (by omega)) ?_
        refine L.val rfl rfl (R.as rfl) ?_
        refine L.nil ?_
        refine N.seq ?_
        refine G.ret1 rfl rfl ?_
        first
          | exact ⟨by rw [needF_yes hok], E⟩
          | exact ⟨by rw [needF_no (by rintro ⟨o1, o2, o3, o4, o5, o6⟩; first | omega | exact k1 ⟨o1, o2⟩ | exact k2 ⟨o3, o4⟩ | exact k3 ⟨o5, o6⟩)], E⟩

theorem refneed_ok (p q r : Int) (w : World) (hp : -9223372036854775808 ≤ p ∧ p ≤ 9223372036854775807)(hq : -9223372036854775808 ≤ q ∧ q ≤ 9223372036854775807)(hr : -9223372036854775808 ≤ r ∧ r ≤ 9223372036854775807) : Meets Try.prog 56 [.agg #[.int .i64 p, .int .i64 q, .int .i64 r]] w (fun v w' => v = .int .i64 (needF p q r) ∧ Ext [] w w') := by
  refine Meets.enter Try.func56 rfl 41 rfl (Nat.le_of_ble_eq_true rfl) ?_
  have E := Ext.refl [] w
  refine G.seq ?_
  refine G.region ?_
  refine L.do rfl rfl (R.box rfl) ?_
  rintro _ w1 ⟨b1, rfl, hb1, hs1, e1, B1⟩
  replace E := E.trans0 e1
  refine L.val rfl rfl (R.as rfl) ?_
  refine L.nil ?_
  refine N.seq ?_
  refine G.seq ?_
  refine G.seq ?_
  refine G.region ?_
  refine L.val rfl rfl (R.fld rfl) ?_
  refine L.val rfl rfl (R.ldB rfl (by assumption) (by rfl)) ?_
  refine L.val rfl rfl (R.lss rfl rfl) ?_
  refine L.val rfl rfl (R.mv rfl) ?_
  refine L.caseP 6 rfl (fun hg1_3 => ?_) (fun hg1_3 => ?_)
  · refine L.pass rfl rfl ?_
    refine L.pass rfl rfl ?_
    refine L.pass rfl rfl ?_
    first | refine L.val rfl rfl (R.pickT rfl rfl) ?_ | refine L.val rfl rfl (R.pickF rfl rfl) ?_
    refine L.val rfl rfl (R.mv rfl) ?_
    refine L.pass rfl rfl ?_
    refine L.pass rfl rfl ?_
    refine L.pass rfl rfl ?_
    first | refine L.val rfl rfl (R.pickT rfl rfl) ?_ | refine L.val rfl rfl (R.pickF rfl rfl) ?_
    refine L.val rfl rfl (R.mv rfl) ?_
    refine L.pass rfl rfl ?_
    refine L.pass rfl rfl ?_
    refine L.pass rfl rfl ?_
    first | refine L.val rfl rfl (R.pickT rfl rfl) ?_ | refine L.val rfl rfl (R.pickF rfl rfl) ?_
    refine L.val rfl rfl (R.mv rfl) ?_
    refine L.pass rfl rfl ?_
    refine L.pass rfl rfl ?_
    refine L.pass rfl rfl ?_
    first | refine L.val rfl rfl (R.pickT rfl rfl) ?_ | refine L.val rfl rfl (R.pickF rfl rfl) ?_
    refine L.val rfl rfl (R.mv rfl) ?_
    refine L.pass rfl rfl ?_
    refine L.pass rfl rfl ?_
    refine L.pass rfl rfl ?_
    first | refine L.val rfl rfl (R.pickT rfl rfl) ?_ | refine L.val rfl rfl (R.pickF rfl rfl) ?_
    refine L.nil ?_
    refine N.seq ?_
    refine G.condT rfl ?_
    refine G.seq ?_
    refine G.region ?_
    refine L.val rfl rfl (R.as rfl) ?_
    refine L.nil ?_
    refine N.seq ?_
    refine G.ret1 rfl rfl ?_
    first
      | exact ⟨by rw [needF_yes hok], E⟩
      | exact ⟨by rw [needF_no (by rintro ⟨o1, o2, o3, o4, o5, o6⟩; first | omega | exact k1 ⟨o1, o2⟩ | exact k2 ⟨o3, o4⟩ | exact k3 ⟨o5, o6⟩)], E⟩
  · refine L.val rfl rfl (R.fld rfl) ?_
    refine L.val rfl rfl (R.ldB rfl (by assumption) (by rfl)) ?_
    refine L.val rfl rfl (R.gtr rfl rfl) ?_
    first | refine L.val rfl rfl (R.pickT rfl rfl) ?_ | refine L.val rfl rfl (R.pickF rfl rfl) ?_
    refine L.val rfl rfl (R.mv rfl) ?_
    refine L.caseP 11 rfl (fun hg1_8 => ?_) (fun hg1_8 => ?_)
    · refine L.pass rfl rfl ?_
      refine L.pass rfl rfl ?_
      refine L.pass rfl rfl ?_
      first | refine L.val rfl rfl (R.pickT rfl rfl) ?_ | refine L.val rfl rfl (R.pickF rfl rfl) ?_
      refine L.val rfl rfl (R.mv rfl) ?_
      refine L.pass rfl rfl ?_
      refine L.pass rfl rfl ?_
      refine L.pass rfl rfl ?_
      first | refine L.val rfl rfl (R.pickT rfl rfl) ?_ | refine L.val rfl rfl (R.pickF rfl rfl) ?_
      refine L.val rfl rfl (R.mv rfl) ?_
      refine L.pass rfl rfl ?_
      refine L.pass rfl rfl ?_
      refine L.pass rfl rfl ?_
      first | refine L.val rfl rfl (R.pickT rfl rfl) ?_ | refine L.val rfl rfl (R.pickF rfl rfl) ?_
      refine L.val rfl rfl (R.mv rfl) ?_
      refine L.pass rfl rfl ?_
      refine L.pass rfl rfl ?_
      refine L.pass rfl rfl ?_
      first | refine L.val rfl rfl (R.pickT rfl rfl) ?_ | refine L.val rfl rfl (R.pickF rfl rfl) ?_
      refine L.nil ?_
      refine N.seq ?_
      refine G.condT rfl ?_
      refine G.seq ?_
      refine G.region ?_
      refine L.val rfl rfl (R.as rfl) ?_
      refine L.nil ?_
      refine N.seq ?_
      refine G.ret1 rfl rfl ?_
      first
        | exact ⟨by rw [needF_yes hok], E⟩
        | exact ⟨by rw [needF_no (by rintro ⟨o1, o2, o3, o4, o5, o6⟩; first | omega | exact k1 ⟨o1, o2⟩ | exact k2 ⟨o3, o4⟩ | exact k3 ⟨o5, o6⟩)], E⟩
    · refine L.val rfl rfl (R.fld rfl) ?_
      refine L.val rfl rfl (R.ldB rfl (by assumption) (by rfl)) ?_
      refine L.val rfl rfl (R.lss rfl rfl) ?_
      first | refine L.val rfl rfl (R.pickT rfl rfl) ?_ | refine L.val rfl rfl (R.pickF rfl rfl) ?_
      refine L.val rfl rfl (R.mv rfl) ?_
      refine L.caseP 16 rfl (fun hg1_13 => ?_) (fun hg1_13 => ?_)
      · refine L.pass rfl rfl ?_
        refine L.pass rfl rfl ?_
        refine L.pass rfl rfl ?_
        first | refine L.val rfl rfl (R.pickT rfl rfl) ?_ | refine L.val rfl rfl (R.pickF rfl rfl) ?_
        refine L.val rfl rfl (R.mv rfl) ?_
        refine L.pass rfl rfl ?_
        refine L.pass rfl rfl ?_
        refine L.pass rfl rfl ?_
        first | refine L.val rfl rfl (R.pickT rfl rfl) ?_ | refine L.val rfl rfl (R.pickF rfl rfl) ?_
        refine L.val rfl rfl (R.mv rfl) ?_
        refine L.pass rfl rfl ?_
        refine L.pass rfl rfl ?_
        refine L.pass rfl rfl ?_
        first | refine L.val rfl rfl (R.pickT rfl rfl) ?_ | refine L.val rfl rfl (R.pickF rfl rfl) ?_
        refine L.nil ?_
        refine N.seq ?_
        refine G.condT rfl ?_
        refine G.seq ?_
        refine G.region ?_
        refine L.val rfl rfl (R.as rfl) ?_
        refine L.nil ?_
        refine N.seq ?_
        refine G.ret1 rfl rfl ?_
        first
          | exact ⟨by rw [needF_yes hok], E⟩
          | exact ⟨by rw [needF_no (by rintro ⟨o1, o2, o3, o4, o5, o6⟩; first | omega | exact k1 ⟨o1, o2⟩ | exact k2 ⟨o3, o4⟩ | exact k3 ⟨o5, o6⟩)], E⟩
      · refine L.val rfl rfl (R.fld rfl) ?_
        refine L.val rfl rfl (R.ldB rfl (by assumption) (by rfl)) ?_
        refine L.val rfl rfl (R.gtr rfl rfl) ?_
        first | refine L.val rfl rfl (R.pickT rfl rfl) ?_ | refine L.val rfl rfl (R.pickF rfl rfl) ?_
        refine L.val rfl rfl (R.mv rfl) ?_
        refine L.caseP 21 rfl (fun hg1_18 => ?_) (fun hg1_18 => ?_)
        · refine L.pass rfl rfl ?_
          refine L.pass rfl rfl ?_
          refine L.pass rfl rfl ?_
          first | refine L.val rfl rfl (R.pickT rfl rfl) ?_ | refine L.val rfl rfl (R.pickF rfl rfl) ?_
          refine L.val rfl rfl (R.mv rfl) ?_
          refine L.pass rfl rfl ?_
          refine L.pass rfl rfl ?_
          refine L.pass rfl rfl ?_
          first | refine L.val rfl rfl (R.pickT rfl rfl) ?_ | refine L.val rfl rfl (R.pickF rfl rfl) ?_
          refine L.nil ?_
          refine N.seq ?_
          refine G.condT rfl ?_
          refine G.seq ?_
          refine G.region ?_
          refine L.val rfl rfl (R.as rfl) ?_
          refine L.nil ?_
          refine N.seq ?_
          refine G.ret1 rfl rfl ?_
          first
            | exact ⟨by rw [needF_yes hok], E⟩
            | exact ⟨by rw [needF_no (by rintro ⟨o1, o2, o3, o4, o5, o6⟩; first | omega | exact k1 ⟨o1, o2⟩ | exact k2 ⟨o3, o4⟩ | exact k3 ⟨o5, o6⟩)], E⟩
        · refine L.val rfl rfl (R.fld rfl) ?_
          refine L.val rfl rfl (R.ldB rfl (by assumption) (by rfl)) ?_
          refine L.val rfl rfl (R.lss rfl rfl) ?_
          first | refine L.val rfl rfl (R.pickT rfl rfl) ?_ | refine L.val rfl rfl (R.pickF rfl rfl) ?_
          refine L.val rfl rfl (R.mv rfl) ?_
          refine L.caseP 26 rfl (fun hg1_23 => ?_) (fun hg1_23 => ?_)
          · refine L.pass rfl rfl ?_
            refine L.pass rfl rfl ?_
            refine L.pass rfl rfl ?_
            first | refine L.val rfl rfl (R.pickT rfl rfl) ?_ | refine L.val rfl rfl (R.pickF rfl rfl) ?_
            refine L.nil ?_
            refine N.seq ?_
            refine G.condT rfl ?_
            refine G.seq ?_
            refine G.region ?_
            refine L.val rfl rfl (R.as rfl) ?_
            refine L.nil ?_
            refine N.seq ?_
            refine G.ret1 rfl rfl ?_
            first
              | exact ⟨by rw [needF_yes hok], E⟩
              | exact ⟨by rw [needF_no (by rintro ⟨o1, o2, o3, o4, o5, o6⟩; first | omega | exact k1 ⟨o1, o2⟩ | exact k2 ⟨o3, o4⟩ | exact k3 ⟨o5, o6⟩)], E⟩
          · refine L.val rfl rfl (R.fld rfl) ?_
            refine L.val rfl rfl (R.ldB rfl (by assumption) (by rfl)) ?_
            refine L.val rfl rfl (R.gtr rfl rfl) ?_
            first | refine L.val rfl rfl (R.pickT rfl rfl) ?_ | refine L.val rfl rfl (R.pickF rfl rfl) ?_
            refine L.nil ?_
            refine N.seq ?_
            refine G.condP rfl (fun h0 => ?_) (fun h0 => ?_)
            · refine G.seq ?_
              refine G.region ?_
              refine L.val rfl rfl (R.as rfl) ?_
              refine L.nil ?_
              refine N.seq ?_
              refine G.ret1 rfl rfl ?_
              first
                | exact ⟨by rw [needF_yes hok], E⟩
                | exact ⟨by rw [needF_no (by rintro ⟨o1, o2, o3, o4, o5, o6⟩; first | omega | exact k1 ⟨o1, o2⟩ | exact k2 ⟨o3, o4⟩ | exact k3 ⟨o5, o6⟩)], E⟩
            · have hok : okShape p q r := ⟨by omega, by omega, by omega, by omega, by omega, by omega⟩
              have hm := mul_bounds (q := q) (r := r) (by have := hok.2.2.1; have := hok.2.2.2.1; omega) (by have := hok.2.2.2.2.1; have := hok.2.2.2.2.2; omega)
              have hp2 := hok.1
              have hp3 := hok.2.1
              refine G.skip ?_
              refine N.seq ?_
              refine G.seq ?_
              refine G.region ?_
              refine L.val rfl rfl (R.fld rfl) ?_
              refine L.val rfl rfl (R.ldB rfl (by assumption) (by rfl)) ?_
              refine L.val rfl rfl (R.mul rfl rfl (by omega)) ?_
              refine L.val rfl rfl (R.add rfl rfl (by omega)) ?_
              refine L.val rfl rfl (R.fld rfl) ?_
              refine L.val rfl rfl (R.ldB rfl (by assumption) (by rfl)) ?_
              refine L.val rfl rfl (R.fld rfl) ?_
              refine L.val rfl rfl (R.ldB rfl (by assumption) (by rfl)) ?_
              refine L.val rfl rfl (R.mul rfl rfl (by omega)) ?_
              refine L.val rfl rfl (R.add rfl rfl (by omega)) ?_
              refine L.val rfl rfl (R.as rfl) ?_
              refine L.nil ?_
              refine N.seq ?_
              refine G.ret1 rfl rfl ?_
              first
                | exact ⟨by rw [needF_yes hok], E⟩
                | exact ⟨by rw [needF_no (by rintro ⟨o1, o2, o3, o4, o5, o6⟩; first | omega | exact k1 ⟨o1, o2⟩ | exact k2 ⟨o3, o4⟩ | exact k3 ⟨o5, o6⟩)], E⟩

theorem blocks_ok (n : Int) (w : World) : Meets Try.prog 59 [.int .i64 n] w (fun v w' => v = .bool (decide (0 ≤ n ∧ n ≤ 64)) ∧ w' = w) := by
  refine Meets.enter Try.func59 rfl 9 rfl (Nat.le_of_ble_eq_true rfl) ?_
  refine G.seq ?_
  refine G.region ?_
  refine L.val rfl rfl (R.as rfl) ?_
  refine L.nil ?_
  refine N.seq ?_
  refine G.seq ?_
  refine G.region ?_
  refine L.val rfl rfl (R.mv rfl) ?_
  refine L.val rfl rfl (R.geq rfl rfl) ?_
  refine L.val rfl rfl (R.mv rfl) ?_
  refine L.caseP 5 rfl (fun hg1_2 => ?_) (fun hg1_2 => ?_)
  · refine L.val rfl rfl (R.mv rfl) ?_
    refine L.val rfl rfl (R.leq rfl rfl) ?_
    first | refine L.val rfl rfl (R.pickT rfl rfl) ?_ | refine L.val rfl rfl (R.pickF rfl rfl) ?_
    refine L.val rfl rfl (R.as rfl) ?_
    refine L.nil ?_
    refine N.seq ?_
    refine G.ret1 rfl rfl ?_
    exact ⟨congrArg Value.bool (by rw [decide_eq_decide]; exact ⟨fun h => ⟨hg1_2, h⟩, fun h => h.2⟩), rfl⟩
  · refine L.pass rfl rfl ?_
    refine L.pass rfl rfl ?_
    first | refine L.val rfl rfl (R.pickT rfl rfl) ?_ | refine L.val rfl rfl (R.pickF rfl rfl) ?_
    refine L.val rfl rfl (R.as rfl) ?_
    refine L.nil ?_
    refine N.seq ?_
    refine G.ret1 rfl rfl ?_
    exact ⟨congrArg Value.bool (by rw [eq_comm, decide_eq_false_iff_not]; exact fun h => hg1_2 h.1), rfl⟩

theorem fsec_ok (n : Int) (w : World) (hn : 0 ≤ n ∧ n ≤ 1000000000000) : Meets Try.prog 60 [.int .i64 n] w (fun v w' => v = .int .i64 (secF n) ∧ w' = w) := by
  refine Meets.enter Try.func60 rfl 20 rfl (Nat.le_of_ble_eq_true rfl) ?_
  refine G.seq ?_
  refine G.region ?_
  refine L.val rfl rfl (R.as rfl) ?_
  refine L.nil ?_
  refine N.seq ?_
  refine G.seq ?_
  refine G.region ?_
  refine L.val rfl rfl (R.mv rfl) ?_
  refine L.val rfl rfl (R.add rfl rfl (by omega)) ?_
  refine L.val rfl rfl (R.sub' rfl rfl (by omega)) ?_
  refine L.be 6 rfl (congrArg (Value.int .i64) (show n + 40 - 1 = n + 39 by omega)) ?_
  refine L.val rfl rfl (R.quo rfl rfl (by omega) (by omega)) ?_
  refine L.val rfl rfl (R.max rfl rfl (max ((n + 39) / 40) 1) (by split <;> omega)) ?_
  refine L.val rfl rfl (R.as rfl) ?_
  refine L.nil ?_
  refine N.seq ?_
  refine G.seq ?_
  refine G.seq ?_
  refine G.region ?_
  refine L.val rfl rfl (R.mv rfl) ?_
  refine L.val rfl rfl (R.lss rfl rfl) ?_
  refine L.val rfl rfl (R.mv rfl) ?_
  refine L.caseP 11 rfl (fun hg2_2 => ?_) (fun hg2_2 => ?_)
  · refine L.pass rfl rfl ?_
    refine L.pass rfl rfl ?_
    first | refine L.val rfl rfl (R.pickT rfl rfl) ?_ | refine L.val rfl rfl (R.pickF rfl rfl) ?_
    refine L.val rfl rfl (R.mv rfl) ?_
    refine L.pass rfl rfl ?_
    refine L.pass rfl rfl ?_
    first | refine L.val rfl rfl (R.pickT rfl rfl) ?_ | refine L.val rfl rfl (R.pickF rfl rfl) ?_
    refine L.nil ?_
    refine N.seq ?_
    refine G.condT rfl ?_
    refine G.seq ?_
    refine G.region ?_
    refine L.val rfl rfl (R.as rfl) ?_
    refine L.nil ?_
    refine N.seq ?_
    refine G.ret1 rfl rfl ?_
    first
      | exact ⟨by rw [secF_no (by omega)], rfl⟩
      | exact ⟨by rw [secF_yes (by omega)], rfl⟩
  · refine L.val rfl rfl (R.mv rfl) ?_
    refine L.val rfl rfl (R.gtr rfl rfl) ?_
    first | refine L.val rfl rfl (R.pickT rfl rfl) ?_ | refine L.val rfl rfl (R.pickF rfl rfl) ?_
    refine L.val rfl rfl (R.mv rfl) ?_
    refine L.caseP 15 rfl (fun hg2_6 => ?_) (fun hg2_6 => ?_)
    · refine L.pass rfl rfl ?_
      refine L.pass rfl rfl ?_
      first | refine L.val rfl rfl (R.pickT rfl rfl) ?_ | refine L.val rfl rfl (R.pickF rfl rfl) ?_
      refine L.nil ?_
      refine N.seq ?_
      refine G.condT rfl ?_
      refine G.seq ?_
      refine G.region ?_
      refine L.val rfl rfl (R.as rfl) ?_
      refine L.nil ?_
      refine N.seq ?_
      refine G.ret1 rfl rfl ?_
      first
        | exact ⟨by rw [secF_no (by omega)], rfl⟩
        | exact ⟨by rw [secF_yes (by omega)], rfl⟩
    · refine L.val rfl rfl (R.mv rfl) ?_
      refine L.val rfl rfl (R.gtr rfl rfl) ?_
      first | refine L.val rfl rfl (R.pickT rfl rfl) ?_ | refine L.val rfl rfl (R.pickF rfl rfl) ?_
      refine L.nil ?_
      refine N.seq ?_
      refine G.condP rfl (fun h0 => ?_) (fun h0 => ?_)
      · refine G.seq ?_
        refine G.region ?_
        refine L.val rfl rfl (R.as rfl) ?_
        refine L.nil ?_
        refine N.seq ?_
        refine G.ret1 rfl rfl ?_
        first
          | exact ⟨by rw [secF_no (by omega)], rfl⟩
          | exact ⟨by rw [secF_yes (by omega)], rfl⟩
      · refine G.skip ?_
        refine N.seq ?_
        refine G.seq ?_
        refine G.region ?_
        refine L.val rfl rfl (R.mv rfl) ?_
        refine L.val rfl rfl (R.as rfl) ?_
        refine L.nil ?_
        refine N.seq ?_
        refine G.ret1 rfl rfl ?_
        first
          | exact ⟨by rw [secF_no (by omega)], rfl⟩
          | exact ⟨by rw [secF_yes (by omega)], rfl⟩

theorem refsec_ok (n : Int) (w : World) (hn : -9223372036854775808 ≤ n ∧ n ≤ 9223372036854775807) : Meets Try.prog 19 [.int .i64 n] w (fun v w' => v = .int .i64 (secF n) ∧ w' = w) := by
  refine Meets.enter Try.func19 rfl 22 rfl (Nat.le_of_ble_eq_true rfl) ?_
  refine G.seq ?_
  refine G.region ?_
  refine L.val rfl rfl (R.as rfl) ?_
  refine L.nil ?_
  refine N.seq ?_
  refine G.seq ?_
  refine G.seq ?_
  refine G.region ?_
  refine L.val rfl rfl (R.mv rfl) ?_
  refine L.val rfl rfl (R.lss rfl rfl) ?_
  refine L.val rfl rfl (R.mv rfl) ?_
  refine L.caseP 6 rfl (fun hg1_2 => ?_) (fun hg1_2 => ?_)
  · refine L.pass rfl rfl ?_
    refine L.pass rfl rfl ?_
    first | refine L.val rfl rfl (R.pickT rfl rfl) ?_ | refine L.val rfl rfl (R.pickF rfl rfl) ?_
    refine L.nil ?_
    refine N.seq ?_
    refine G.condT rfl ?_
    refine G.seq ?_
    refine G.region ?_
    refine L.val rfl rfl (R.as rfl) ?_
    refine L.nil ?_
    refine N.seq ?_
    refine G.ret1 rfl rfl ?_
    first
      | exact ⟨by rw [secF_no (by omega)], rfl⟩
      | exact ⟨by rw [secF_up (by omega) (by omega)], rfl⟩
      | exact ⟨by rw [secF_even (by omega) (by omega)], rfl⟩
  · refine L.val rfl rfl (R.mv rfl) ?_
    refine L.val rfl rfl (R.gtr rfl rfl) ?_
    first | refine L.val rfl rfl (R.pickT rfl rfl) ?_ | refine L.val rfl rfl (R.pickF rfl rfl) ?_
    refine L.nil ?_
    refine N.seq ?_
    refine G.condP rfl (fun h0 => ?_) (fun h0 => ?_)
    · refine G.seq ?_
      refine G.region ?_
      refine L.val rfl rfl (R.as rfl) ?_
      refine L.nil ?_
      refine N.seq ?_
      refine G.ret1 rfl rfl ?_
      first
        | exact ⟨by rw [secF_no (by omega)], rfl⟩
        | exact ⟨by rw [secF_up (by omega) (by omega)], rfl⟩
        | exact ⟨by rw [secF_even (by omega) (by omega)], rfl⟩
    · refine G.skip ?_
      refine N.seq ?_
      refine G.seq ?_
      refine G.region ?_
      refine L.val rfl rfl (R.mv rfl) ?_
      refine L.val rfl rfl (R.quo rfl rfl (by omega) (by omega)) ?_
      refine L.val rfl rfl (R.as rfl) ?_
      refine L.nil ?_
      refine N.seq ?_
      refine G.seq ?_
      refine G.seq ?_
      refine G.region ?_
      refine L.val rfl rfl (R.mv rfl) ?_
      refine L.val rfl rfl (R.rem rfl rfl (by omega) (by omega)) ?_
      refine L.val rfl rfl (R.neI rfl rfl) ?_
      refine L.val rfl rfl (R.mv rfl) ?_
      refine L.caseP 15 rfl (fun hg4_3 => ?_) (fun hg4_3 => ?_)
      · refine L.pass rfl rfl ?_
        refine L.pass rfl rfl ?_
        first | refine L.val rfl rfl (R.pickT rfl rfl) ?_ | refine L.val rfl rfl (R.pickF rfl rfl) ?_
        refine L.nil ?_
        refine N.seq ?_
        refine G.condT rfl ?_
        refine G.region ?_
        refine L.val rfl rfl (R.mv rfl) ?_
        refine L.val rfl rfl (R.add rfl rfl (by omega)) ?_
        refine L.val rfl rfl (R.as rfl) ?_
        refine L.nil ?_
        refine N.seq ?_
        refine G.seq ?_
        refine G.region ?_
        refine L.val rfl rfl (R.mv rfl) ?_
        refine L.val rfl rfl (R.as rfl) ?_
        refine L.nil ?_
        refine N.seq ?_
        refine G.ret1 rfl rfl ?_
        first
          | exact ⟨by rw [secF_no (by omega)], rfl⟩
          | exact ⟨by rw [secF_up (by omega) (by omega)], rfl⟩
          | exact ⟨by rw [secF_even (by omega) (by omega)], rfl⟩
      · refine L.val rfl rfl (R.mv rfl) ?_
        refine L.val rfl rfl (R.eqI rfl rfl) ?_
        first | refine L.val rfl rfl (R.pickT rfl rfl) ?_ | refine L.val rfl rfl (R.pickF rfl rfl) ?_
        refine L.nil ?_
        refine N.seq ?_
        refine G.condP rfl (fun h1 => ?_) (fun h1 => ?_)
        · refine G.region ?_
          refine L.val rfl rfl (R.mv rfl) ?_
          refine L.val rfl rfl (R.add rfl rfl (by omega)) ?_
          refine L.val rfl rfl (R.as rfl) ?_
          refine L.nil ?_
          refine N.seq ?_
          refine G.seq ?_
          refine G.region ?_
          refine L.val rfl rfl (R.mv rfl) ?_
          refine L.val rfl rfl (R.as rfl) ?_
          refine L.nil ?_
          refine N.seq ?_
          refine G.ret1 rfl rfl ?_
          first
            | exact ⟨by rw [secF_no (by omega)], rfl⟩
            | exact ⟨by rw [secF_up (by omega) (by omega)], rfl⟩
            | exact ⟨by rw [secF_even (by omega) (by omega)], rfl⟩
        · refine G.skip ?_
          refine N.seq ?_
          refine G.seq ?_
          refine G.region ?_
          refine L.val rfl rfl (R.mv rfl) ?_
          refine L.val rfl rfl (R.as rfl) ?_
          refine L.nil ?_
          refine N.seq ?_
          refine G.ret1 rfl rfl ?_
          first
            | exact ⟨by rw [secF_no (by omega)], rfl⟩
            | exact ⟨by rw [secF_up (by omega) (by omega)], rfl⟩
            | exact ⟨by rw [secF_even (by omega) (by omega)], rfl⟩

theorem com_ok (n : Int) (w : World) (hn : -9223372036854775808 ≤ n ∧ n ≤ 9223372036854775807) : Meets Try.prog 24 [.int .i64 n] w (fun v w' => v = .int .i64 (comF n) ∧ w' = w) := by
  refine Meets.enter Try.func24 rfl 10 rfl (Nat.le_of_ble_eq_true rfl) ?_
  refine G.seq ?_
  refine G.region ?_
  refine L.val rfl rfl (R.as rfl) ?_
  refine L.nil ?_
  refine N.seq ?_
  refine G.seq ?_
  refine G.seq ?_
  refine G.region ?_
  refine L.val rfl rfl (R.mv rfl) ?_
  refine L.callF rfl rfl rfl go59 (blocks_ok _ _) ?_
  rintro _ _ ⟨rfl, hw⟩
  obtain rfl := hw.symm
  refine L.val rfl rfl (R.not rfl) ?_
  refine L.nil ?_
  refine N.seq ?_
  refine G.condB rfl (fun h0 => ?_) (fun h0 => ?_)
  · have hb := not_dec_t h0
    refine G.seq ?_
    refine G.region ?_
    refine L.val rfl rfl (R.as rfl) ?_
    refine L.nil ?_
    refine N.seq ?_
    refine G.ret1 rfl rfl ?_
    exact ⟨by rw [comF_no hb], rfl⟩
  · have hb := not_dec_f h0
    refine G.skip ?_
    refine N.seq ?_
    refine G.seq ?_
    refine G.region ?_
    refine L.val rfl rfl (R.mv rfl) ?_
    refine L.val rfl rfl (R.mul rfl rfl (by omega)) ?_
    refine L.val rfl rfl (R.add rfl rfl (by omega)) ?_
    refine L.callF rfl rfl rfl go60 (fsec_ok _ _ (by omega)) ?_
    rintro _ _ ⟨rfl, hw⟩
    obtain rfl := hw.symm
    refine L.val rfl rfl (R.as rfl) ?_
    refine L.nil ?_
    refine N.seq ?_
    refine G.ret1 rfl rfl ?_
    exact ⟨by rw [comF_yes hb, show 15 + n * 66 = 15 + 66 * n by omega], rfl⟩

theorem lfits_ok (p q r n : Int) (w : World) (hp : -9223372036854775808 ≤ p ∧ p ≤ 9223372036854775807)(hq : -9223372036854775808 ≤ q ∧ q ≤ 9223372036854775807)(hr : -9223372036854775808 ≤ r ∧ r ≤ 9223372036854775807)(hn : -9223372036854775808 ≤ n ∧ n ≤ 9223372036854775807) : Meets Try.prog 25 [.agg #[.int .i64 p, .int .i64 q, .int .i64 r], .int .i64 n] w (fun v w' => v = .bool (decide (okFits p q r n)) ∧ Ext [] w w') := by
  refine Meets.enter Try.func25 rfl 26 rfl (Nat.le_of_ble_eq_true rfl) ?_
  have E := Ext.refl [] w
  refine G.seq ?_
  refine G.region ?_
  refine L.do rfl rfl (R.box rfl) ?_
  rintro _ w1 ⟨b2, rfl, hb2, hs2, e1, B2⟩
  replace E := E.trans0 e1
  refine L.val rfl rfl (R.as rfl) ?_
  refine L.nil ?_
  refine N.seq ?_
  refine G.seq ?_
  refine G.quiet (by decide +kernel) rfl ?_
  refine Q.val rfl rfl rfl rfl (fun w2 hE => R.ldBN rfl (Blk.ext0 (by assumption) hE) (by rfl)) ?_
  refine Q.call (.int .i64 (needF p q r)) rfl rfl rfl go21 (fun w2 hE => ⟨_, rfl, (need_ok _ _ _ _ hp hq hr).mono (fun _ _ h => h)⟩) ?_
  refine Q.val rfl rfl rfl rfl (fun w2 hE => R.gtr rfl rfl) ?_
  refine Q.val rfl rfl rfl rfl (fun w2 hE => R.mv rfl) ?_
  refine Q.caseP 8 rfl (fun hg1_3 => ?_) (fun hg1_3 => ?_)
  · have hsh := needF_pos.1 hg1_3
    have hr4 := hsh.2.2.2.2.1
    refine Q.val rfl rfl rfl rfl (fun w2 hE => R.mv rfl) ?_
    refine Q.call (.bool (decide (0 ≤ n ∧ n ≤ 64))) rfl rfl rfl go59 (fun w2 hE => ⟨_, rfl, (blocks_ok _ _).mono (by rintro _ _ ⟨rfl, rfl⟩; exact ⟨rfl, Ext.refl _ _⟩)⟩) ?_
    first | refine Q.val rfl rfl rfl rfl (fun w2 hE => R.pickT rfl rfl) ?_ | refine Q.val rfl rfl rfl rfl (fun w2 hE => R.pickF rfl rfl) ?_
    refine Q.val rfl rfl rfl rfl (fun w2 hE => R.mv rfl) ?_
    refine Q.caseP 12 rfl (fun hg1_7 => ?_) (fun hg1_7 => ?_)
    · refine Q.val rfl rfl rfl rfl (fun w2 hE => R.mv rfl) ?_
      refine Q.val rfl rfl rfl rfl (fun w2 hE => R.fld rfl) ?_
      refine Q.val rfl rfl rfl rfl (fun w2 hE => R.ldB rfl (Blk.ext0 (by assumption) hE) (by rfl)) ?_
      refine Q.val rfl rfl rfl rfl (fun w2 hE => R.leq rfl rfl) ?_
      first | refine Q.val rfl rfl rfl rfl (fun w2 hE => R.pickT rfl rfl) ?_ | refine Q.val rfl rfl rfl rfl (fun w2 hE => R.pickF rfl rfl) ?_
      refine Q.val rfl rfl rfl rfl (fun w2 hE => R.mv rfl) ?_
      refine Q.caseP 18 rfl (fun hg1_13 => ?_) (fun hg1_13 => ?_)
      · refine Q.val rfl rfl rfl rfl (fun w2 hE => R.mv rfl) ?_
        refine Q.call (.int .i64 (comF n)) rfl rfl rfl go24 (fun w2 hE => ⟨_, rfl, (com_ok _ _ hn).mono (by rintro _ _ ⟨rfl, rfl⟩; exact ⟨rfl, Ext.refl _ _⟩)⟩) ?_
        refine Q.val rfl rfl rfl rfl (fun w2 hE => R.fld rfl) ?_
        refine Q.val rfl rfl rfl rfl (fun w2 hE => R.ldB rfl (Blk.ext0 (by assumption) hE) (by rfl)) ?_
        refine Q.val rfl rfl rfl rfl (fun w2 hE => R.sub' rfl rfl (by omega)) ?_
        refine Q.val rfl rfl rfl rfl (fun w2 hE => R.leq rfl rfl) ?_
        first | refine Q.val rfl rfl rfl rfl (fun w2 hE => R.pickT rfl rfl) ?_ | refine Q.val rfl rfl rfl rfl (fun w2 hE => R.pickF rfl rfl) ?_
        refine Q.val rfl rfl rfl rfl (fun w2 hE => R.as rfl) ?_
        refine Q.nil (fun w2 e2 => ?_)
        replace E := E.trans0 e2
        refine N.seq ?_
        refine G.ret1 rfl rfl ?_
        exact ⟨congrArg Value.bool (fits_t hg1_3 hg1_7 hg1_13), E⟩
      · refine Q.pass rfl rfl rfl ?_
        refine Q.pass rfl rfl rfl ?_
        refine Q.pass rfl rfl rfl ?_
        refine Q.pass rfl rfl rfl ?_
        refine Q.pass rfl rfl rfl ?_
        refine Q.pass rfl rfl rfl ?_
        first | refine Q.val rfl rfl rfl rfl (fun w2 hE => R.pickT rfl rfl) ?_ | refine Q.val rfl rfl rfl rfl (fun w2 hE => R.pickF rfl rfl) ?_
        refine Q.val rfl rfl rfl rfl (fun w2 hE => R.as rfl) ?_
        refine Q.nil (fun w2 e2 => ?_)
        replace E := E.trans0 e2
        refine N.seq ?_
        refine G.ret1 rfl rfl ?_
        exact ⟨congrArg Value.bool (fits_f (fun h => hg1_13 h.2.2)), E⟩
    · refine Q.pass rfl rfl rfl ?_
      refine Q.pass rfl rfl rfl ?_
      refine Q.pass rfl rfl rfl ?_
      refine Q.pass rfl rfl rfl ?_
      first | refine Q.val rfl rfl rfl rfl (fun w2 hE => R.pickT rfl rfl) ?_ | refine Q.val rfl rfl rfl rfl (fun w2 hE => R.pickF rfl rfl) ?_
      refine Q.val rfl rfl rfl rfl (fun w2 hE => R.mv rfl) ?_
      refine Q.pass rfl rfl rfl ?_
      refine Q.pass rfl rfl rfl ?_
      refine Q.pass rfl rfl rfl ?_
      refine Q.pass rfl rfl rfl ?_
      refine Q.pass rfl rfl rfl ?_
      refine Q.pass rfl rfl rfl ?_
      first | refine Q.val rfl rfl rfl rfl (fun w2 hE => R.pickT rfl rfl) ?_ | refine Q.val rfl rfl rfl rfl (fun w2 hE => R.pickF rfl rfl) ?_
      refine Q.val rfl rfl rfl rfl (fun w2 hE => R.as rfl) ?_
      refine Q.nil (fun w2 e2 => ?_)
      replace E := E.trans0 e2
      refine N.seq ?_
      refine G.ret1 rfl rfl ?_
      exact ⟨congrArg Value.bool (fits_f (fun h => hg1_7 h.2.1)), E⟩
  · refine Q.pass rfl rfl rfl ?_
    refine Q.pass rfl rfl rfl ?_
    first | refine Q.val rfl rfl rfl rfl (fun w2 hE => R.pickT rfl rfl) ?_ | refine Q.val rfl rfl rfl rfl (fun w2 hE => R.pickF rfl rfl) ?_
    refine Q.val rfl rfl rfl rfl (fun w2 hE => R.mv rfl) ?_
    refine Q.pass rfl rfl rfl ?_
    refine Q.pass rfl rfl rfl ?_
    refine Q.pass rfl rfl rfl ?_
    refine Q.pass rfl rfl rfl ?_
    first | refine Q.val rfl rfl rfl rfl (fun w2 hE => R.pickT rfl rfl) ?_ | refine Q.val rfl rfl rfl rfl (fun w2 hE => R.pickF rfl rfl) ?_
    refine Q.val rfl rfl rfl rfl (fun w2 hE => R.mv rfl) ?_
    refine Q.pass rfl rfl rfl ?_
    refine Q.pass rfl rfl rfl ?_
    refine Q.pass rfl rfl rfl ?_
    refine Q.pass rfl rfl rfl ?_
    refine Q.pass rfl rfl rfl ?_
    refine Q.pass rfl rfl rfl ?_
    first | refine Q.val rfl rfl rfl rfl (fun w2 hE => R.pickT rfl rfl) ?_ | refine Q.val rfl rfl rfl rfl (fun w2 hE => R.pickF rfl rfl) ?_
    refine Q.val rfl rfl rfl rfl (fun w2 hE => R.as rfl) ?_
    refine Q.nil (fun w2 e2 => ?_)
    replace E := E.trans0 e2
    refine N.seq ?_
    refine G.ret1 rfl rfl ?_
    exact ⟨congrArg Value.bool (fits_f (fun h => hg1_3 h.1)), E⟩

theorem perseg_ok (p q r n : Int) (w : World) (hp : -9223372036854775808 ≤ p ∧ p ≤ 9223372036854775807)(hq : -9223372036854775808 ≤ q ∧ q ≤ 9223372036854775807)(hr : -9223372036854775808 ≤ r ∧ r ≤ 9223372036854775807)(hn : -9223372036854775808 ≤ n ∧ n ≤ 9223372036854775807) : Meets Try.prog 26 [.agg #[.int .i64 p, .int .i64 q, .int .i64 r], .int .i64 n] w (fun v w' => v = .int .i64 (perF p q r n) ∧ Ext [] w w') := by
  refine Meets.enter Try.func26 rfl 15 rfl (Nat.le_of_ble_eq_true rfl) ?_
  have E := Ext.refl [] w
  refine G.seq ?_
  refine G.region ?_
  refine L.do rfl rfl (R.box rfl) ?_
  rintro _ w1 ⟨b2, rfl, hb2, hs2, e1, B2⟩
  replace E := E.trans0 e1
  refine L.val rfl rfl (R.as rfl) ?_
  refine L.nil ?_
  refine N.seq ?_
  refine G.seq ?_
  refine G.seq ?_
  refine G.region ?_
  refine L.val rfl rfl (R.ldBN rfl (by assumption) (by rfl)) ?_
  refine L.val rfl rfl (R.mv rfl) ?_
  refine L.callF rfl rfl rfl go25 (lfits_ok _ _ _ _ _ hp hq hr hn) ?_
  rintro _ w2 ⟨rfl, e2⟩
  replace E := E.trans0 e2
  replace B2 := B2.ext0 e2
  refine L.val rfl rfl (R.not rfl) ?_
  refine L.nil ?_
  refine N.seq ?_
  refine G.condB rfl (fun h0 => ?_) (fun h0 => ?_)
  · have hb := not_dec_t h0
    refine G.seq ?_
    refine G.region ?_
    refine L.val rfl rfl (R.as rfl) ?_
    refine L.nil ?_
    refine N.seq ?_
    refine G.ret1 rfl rfl ?_
    exact ⟨by rw [perF_no hb], E⟩
  · have hb := not_dec_f h0
    have hcp := comF_pos hb.2.1
    have hsh := hb.1
    have hr4 := hsh.2.2.2.2.1
    have hr5 := hsh.2.2.2.2.2
    refine G.skip ?_
    refine N.seq ?_
    refine G.seq ?_
    refine G.quiet (by decide +kernel) rfl ?_
    refine Q.val rfl rfl rfl rfl (fun w3 hE => R.fld rfl) ?_
    refine Q.val rfl rfl rfl rfl (fun w3 hE => R.ldB rfl (Blk.ext0 (by assumption) hE) (by rfl)) ?_
    refine Q.val rfl rfl rfl rfl (fun w3 hE => R.sub' rfl rfl (by omega)) ?_
    refine Q.val rfl rfl rfl rfl (fun w3 hE => R.mv rfl) ?_
    refine Q.call (.int .i64 (comF n)) rfl rfl rfl go24 (fun w3 hE => ⟨_, rfl, (com_ok _ _ hn).mono (by rintro _ _ ⟨rfl, rfl⟩; exact ⟨rfl, Ext.refl _ _⟩)⟩) ?_
    refine Q.val rfl rfl rfl rfl (fun w3 hE => R.quo rfl rfl (by omega) (by omega)) ?_
    refine Q.val rfl rfl rfl rfl (fun w3 hE => R.as rfl) ?_
    refine Q.nil (fun w3 e3 => ?_)
    replace E := E.trans0 e3
    refine N.seq ?_
    refine G.ret1 rfl rfl ?_
    exact ⟨by rw [perF_yes hb], E⟩

theorem backup_ok (n : Int) (w : World) (hn : -9223372036854775808 ≤ n ∧ n ≤ 9223372036854775807) : Meets Try.prog 27 [.int .i64 n] w (fun v w' => v = .int .i64 (backF n) ∧ w' = w) := by
  refine Meets.enter Try.func27 rfl 10 rfl (Nat.le_of_ble_eq_true rfl) ?_
  refine G.seq ?_
  refine G.region ?_
  refine L.val rfl rfl (R.as rfl) ?_
  refine L.nil ?_
  refine N.seq ?_
  refine G.seq ?_
  refine G.seq ?_
  refine G.region ?_
  refine L.val rfl rfl (R.mv rfl) ?_
  refine L.callF rfl rfl rfl go59 (blocks_ok _ _) ?_
  rintro _ _ ⟨rfl, hw⟩
  obtain rfl := hw.symm
  refine L.val rfl rfl (R.not rfl) ?_
  refine L.nil ?_
  refine N.seq ?_
  refine G.condB rfl (fun h0 => ?_) (fun h0 => ?_)
  · have hb := not_dec_t h0
    refine G.seq ?_
    refine G.region ?_
    refine L.val rfl rfl (R.as rfl) ?_
    refine L.nil ?_
    refine N.seq ?_
    refine G.ret1 rfl rfl ?_
    exact ⟨by unfold backF; rw [if_neg hb], rfl⟩
  · have hb := not_dec_f h0
    refine G.skip ?_
    refine N.seq ?_
    refine G.seq ?_
    refine G.region ?_
    refine L.val rfl rfl (R.mv rfl) ?_
    refine L.val rfl rfl (R.mul rfl rfl (by omega)) ?_
    refine L.val rfl rfl (R.add rfl rfl (by omega)) ?_
    refine L.callF rfl rfl rfl go60 (fsec_ok _ _ (by omega)) ?_
    rintro _ _ ⟨rfl, hw⟩
    obtain rfl := hw.symm
    refine L.val rfl rfl (R.as rfl) ?_
    refine L.nil ?_
    refine N.seq ?_
    refine G.ret1 rfl rfl ?_
    exact ⟨by unfold backF; rw [if_pos hb, show 2 + n * 66 = 2 + 66 * n by omega], rfl⟩

theorem segment_ok (p q r : Int) (w : World) (hp : -9223372036854775808 ≤ p ∧ p ≤ 9223372036854775807)(hq : -9223372036854775808 ≤ q ∧ q ≤ 9223372036854775807)(hr : -9223372036854775808 ≤ r ∧ r ≤ 9223372036854775807) : Meets Try.prog 28 [.agg #[.int .i64 p, .int .i64 q, .int .i64 r]] w (fun v w' => v = .int .i64 (segF p q r) ∧ Ext [] w w') := by
  refine Meets.enter Try.func28 rfl 10 rfl (Nat.le_of_ble_eq_true rfl) ?_
  have E := Ext.refl [] w
  refine G.seq ?_
  refine G.region ?_
  refine L.do rfl rfl (R.box rfl) ?_
  rintro _ w1 ⟨b1, rfl, hb1, hs1, e1, B1⟩
  replace E := E.trans0 e1
  refine L.val rfl rfl (R.as rfl) ?_
  refine L.nil ?_
  refine N.seq ?_
  refine G.seq ?_
  refine G.seq ?_
  refine G.region ?_
  refine L.val rfl rfl (R.ldBN rfl (by assumption) (by rfl)) ?_
  refine L.callF rfl rfl rfl go21 (need_ok _ _ _ _ hp hq hr) ?_
  rintro _ w2 ⟨rfl, e2⟩
  replace E := E.trans0 e2
  replace B1 := B1.ext0 e2
  refine L.val rfl rfl (R.eqI rfl rfl) ?_
  refine L.nil ?_
  refine N.seq ?_
  refine G.condP rfl (fun h0 => ?_) (fun h0 => ?_)
  · have hb := needF_zero.1 h0
    refine G.seq ?_
    refine G.region ?_
    refine L.val rfl rfl (R.as rfl) ?_
    refine L.nil ?_
    refine N.seq ?_
    refine G.ret1 rfl rfl ?_
    exact ⟨by unfold segF; rw [if_neg hb], E⟩
  · have hb : okShape p q r := by by_cases h : okShape p q r; exact h; exact absurd (needF_no h) h0
    have hr4 := hb.2.2.2.2.1
    have hr5 := hb.2.2.2.2.2
    refine G.skip ?_
    refine N.seq ?_
    refine G.seq ?_
    refine G.region ?_
    refine L.val rfl rfl (R.fld rfl) ?_
    refine L.val rfl rfl (R.ldB rfl (by assumption) (by rfl)) ?_
    refine L.val rfl rfl (R.mul rfl rfl (by omega)) ?_
    refine L.callF rfl rfl rfl go60 (fsec_ok _ _ (by omega)) ?_
    rintro _ _ ⟨rfl, hw⟩
    obtain rfl := hw.symm
    refine L.val rfl rfl (R.as rfl) ?_
    refine L.nil ?_
    refine N.seq ?_
    refine G.ret1 rfl rfl ?_
    exact ⟨by unfold segF; rw [if_pos hb, show 64 * r = r * 64 by omega], E⟩

end Go.Proofs.Ytfbkbobphjncfaa
