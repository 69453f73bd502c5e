/-
  The walks of package control.
-/
import Derived.Test.YthpolibakkmmeaaControlPure
import Derived.Test.YthpolibakkmmeaaFrame2
import Derived.Test.YthpolibakkmmeaaC18
set_option linter.unusedVariables false
set_option linter.unusedSimpArgs false
namespace Go.Proofs.Ythpolibakkmmeaa
open Go Brv Brv.Crc Brv.Pack Brv.Frame Brv.Image Brv.Dev Brv.Control
theorem cbetween_ok (x y z : Int) (w : World) : Meets Try.prog 139 [.int .i64 x, .int .i64 y, .int .i64 z] w (fun v w' => v = .bool (decide (y ≤ x ∧ x ≤ z)) ∧ w' = w) := by
  refine Meets.enter Try.func139 rfl 15 rfl (Nat.le_of_ble_eq_true rfl) ?_
  refine G.seq ?_
  refine G.region ?_
  refine L.val rfl rfl (R.as rfl) ?_
  refine L.nil ?_
  refine N.seq ?_
  refine G.seq ?_
  refine G.region ?_
  refine L.val rfl rfl (R.mv rfl) ?_
  refine L.val rfl rfl (R.mv rfl) ?_
  refine L.val rfl rfl (R.geq rfl rfl) ?_
  refine L.val rfl rfl (R.mv rfl) ?_
  refine L.caseP 10 rfl (fun hg1_3 => ?_) (fun hg1_3 => ?_)
  · refine L.val rfl rfl (R.mv rfl) ?_
    refine L.val rfl rfl (R.mv rfl) ?_
    refine L.val rfl rfl (R.leq rfl rfl) ?_
    first | refine L.val rfl rfl (R.pickT rfl rfl) ?_ | refine L.val rfl rfl (R.pickF rfl rfl) ?_
    refine L.val rfl rfl (R.as rfl) ?_
    refine L.nil ?_
    refine N.seq ?_
    refine G.ret1 rfl rfl ?_
    exact ⟨congrArg Value.bool (by rw [decide_eq_decide]; exact ⟨fun h => ⟨hg1_3, h⟩, fun h => h.2⟩), rfl⟩
  · refine L.pass rfl rfl ?_
    refine L.pass rfl rfl ?_
    refine L.pass rfl rfl ?_
    first | refine L.val rfl rfl (R.pickT rfl rfl) ?_ | refine L.val rfl rfl (R.pickF rfl rfl) ?_
    refine L.val rfl rfl (R.as rfl) ?_
    refine L.nil ?_
    refine N.seq ?_
    refine G.ret1 rfl rfl ?_
    exact ⟨congrArg Value.bool (by rw [eq_comm, decide_eq_false_iff_not]; exact fun h => hg1_3 h.1), rfl⟩

theorem cright_ok (c : Ctl) (w : World) : Meets Try.prog 76 [.agg (ctlC c)] w (fun v w' => v = .bool (decide (okC c)) ∧ Ext [] w w') := by
  refine Meets.enter Try.func76 rfl 36 rfl (Nat.le_of_ble_eq_true rfl) ?_
  have E := Ext.refl [] w
  refine G.seq ?_
  refine G.region ?_
  refine L.do rfl rfl (R.box rfl) ?_
  rintro _ w1 ⟨b1, rfl, hb1, hs1, e1, B1⟩
  replace B1 : Blk w1 b1 (ctlC c) 121 (0, 0) := B1
  replace E := E.trans0 e1
  refine L.val rfl rfl (R.as rfl) ?_
  refine L.nil ?_
  refine N.seq ?_
  refine G.seq ?_
  refine G.region ?_
  refine L.val rfl rfl (R.fld rfl) ?_
  refine L.val rfl rfl (R.ldB rfl (by assumption) (by rfl)) ?_
  refine L.callF rfl rfl rfl go139 (cbetween_ok _ _ _ _) ?_
  rintro _ _ ⟨rfl, hw⟩
  obtain rfl := hw.symm
  refine L.val rfl rfl (R.mv rfl) ?_
  refine L.caseP 6 rfl (fun hg1_3 => ?_) (fun hg1_3 => ?_)
  · refine L.val rfl rfl (R.fld rfl) ?_
    refine L.val rfl rfl (R.ldB rfl (by assumption) (by rfl)) ?_
    refine L.callF rfl rfl rfl go139 (cbetween_ok _ _ _ _) ?_
    rintro _ _ ⟨rfl, hw⟩
    obtain rfl := hw.symm
    first | refine L.val rfl rfl (R.pickT rfl rfl) ?_ | refine L.val rfl rfl (R.pickF rfl rfl) ?_
    refine L.val rfl rfl (R.mv rfl) ?_
    refine L.caseP 11 rfl (fun hg1_8 => ?_) (fun hg1_8 => ?_)
    · refine L.val rfl rfl (R.fld rfl) ?_
      refine L.val rfl rfl (R.ldB rfl (by assumption) (by rfl)) ?_
      refine L.callF rfl rfl rfl go139 (cbetween_ok _ _ _ _) ?_
      rintro _ _ ⟨rfl, hw⟩
      obtain rfl := hw.symm
      first | refine L.val rfl rfl (R.pickT rfl rfl) ?_ | refine L.val rfl rfl (R.pickF rfl rfl) ?_
      refine L.val rfl rfl (R.mv rfl) ?_
      refine L.caseP 16 rfl (fun hg1_13 => ?_) (fun hg1_13 => ?_)
      · refine L.val rfl rfl (R.fld rfl) ?_
        refine L.val rfl rfl (R.ldB rfl (by assumption) (by rfl)) ?_
        refine L.callF rfl rfl rfl go139 (cbetween_ok _ _ _ _) ?_
        rintro _ _ ⟨rfl, hw⟩
        obtain rfl := hw.symm
        first | refine L.val rfl rfl (R.pickT rfl rfl) ?_ | refine L.val rfl rfl (R.pickF rfl rfl) ?_
        refine L.val rfl rfl (R.mv rfl) ?_
        refine L.caseP 21 rfl (fun hg1_18 => ?_) (fun hg1_18 => ?_)
        · refine L.val rfl rfl (R.fld rfl) ?_
          refine L.val rfl rfl (R.ldB rfl (by assumption) (by rfl)) ?_
          refine L.callF rfl rfl rfl go139 (cbetween_ok _ _ _ _) ?_
          rintro _ _ ⟨rfl, hw⟩
          obtain rfl := hw.symm
          first | refine L.val rfl rfl (R.pickT rfl rfl) ?_ | refine L.val rfl rfl (R.pickF rfl rfl) ?_
          refine L.val rfl rfl (R.mv rfl) ?_
          refine L.caseP 26 rfl (fun hg1_23 => ?_) (fun hg1_23 => ?_)
          · refine L.val rfl rfl (R.fld rfl) ?_
            refine L.val rfl rfl (R.ldB rfl (by assumption) (by rfl)) ?_
            refine L.callF rfl rfl rfl go139 (cbetween_ok _ _ _ _) ?_
            rintro _ _ ⟨rfl, hw⟩
            obtain rfl := hw.symm
            first | refine L.val rfl rfl (R.pickT rfl rfl) ?_ | refine L.val rfl rfl (R.pickF rfl rfl) ?_
            refine L.val rfl rfl (R.mv rfl) ?_
            refine L.caseP 31 rfl (fun hg1_28 => ?_) (fun hg1_28 => ?_)
            · refine L.val rfl rfl (R.fld rfl) ?_
              refine L.val rfl rfl (R.ldB rfl (by assumption) (by rfl)) ?_
              refine L.callF rfl rfl rfl go139 (cbetween_ok _ _ _ _) ?_
              rintro _ _ ⟨rfl, hw⟩
              obtain rfl := hw.symm
              first | refine L.val rfl rfl (R.pickT rfl rfl) ?_ | refine L.val rfl rfl (R.pickF rfl rfl) ?_
              refine L.val rfl rfl (R.as rfl) ?_
              refine L.nil ?_
              refine N.seq ?_
              refine G.ret1 rfl rfl ?_
              first
                | exact ⟨congrArg Value.bool (by rw [decide_eq_decide]; unfold okC; omega), E⟩
                | exact ⟨congrArg Value.bool (by rw [eq_comm, decide_eq_false_iff_not]; unfold okC; omega), E⟩
            · refine L.pass rfl rfl ?_
              refine L.pass rfl rfl ?_
              refine L.pass rfl rfl ?_
              first | refine L.val rfl rfl (R.pickT rfl rfl) ?_ | refine L.val rfl rfl (R.pickF rfl rfl) ?_
              refine L.val rfl rfl (R.as rfl) ?_
              refine L.nil ?_
              refine N.seq ?_
              refine G.ret1 rfl rfl ?_
              first
                | exact ⟨congrArg Value.bool (by rw [decide_eq_decide]; unfold okC; omega), E⟩
                | exact ⟨congrArg Value.bool (by rw [eq_comm, decide_eq_false_iff_not]; unfold okC; omega), E⟩
          · refine L.pass rfl rfl ?_
            refine L.pass rfl rfl ?_
            refine L.pass rfl rfl ?_
            first | refine L.val rfl rfl (R.pickT rfl rfl) ?_ | refine L.val rfl rfl (R.pickF rfl rfl) ?_
            refine L.val rfl rfl (R.mv rfl) ?_
            refine L.pass rfl rfl ?_
            refine L.pass rfl rfl ?_
            refine L.pass rfl rfl ?_
            first | refine L.val rfl rfl (R.pickT rfl rfl) ?_ | refine L.val rfl rfl (R.pickF rfl rfl) ?_
            refine L.val rfl rfl (R.as rfl) ?_
            refine L.nil ?_
            refine N.seq ?_
            refine G.ret1 rfl rfl ?_
            first
              | exact ⟨congrArg Value.bool (by rw [decide_eq_decide]; unfold okC; omega), E⟩
              | exact ⟨congrArg Value.bool (by rw [eq_comm, decide_eq_false_iff_not]; unfold okC; omega), E⟩
        · refine L.pass rfl rfl ?_
          refine L.pass rfl rfl ?_
          refine L.pass rfl rfl ?_
          first | refine L.val rfl rfl (R.pickT rfl rfl) ?_ | refine L.val rfl rfl (R.pickF rfl rfl) ?_
          refine L.val rfl rfl (R.mv rfl) ?_
          refine L.pass rfl rfl ?_
          refine L.pass rfl rfl ?_
          refine L.pass rfl rfl ?_
          first | refine L.val rfl rfl (R.pickT rfl rfl) ?_ | refine L.val rfl rfl (R.pickF rfl rfl) ?_
          refine L.val rfl rfl (R.mv rfl) ?_
          refine L.pass rfl rfl ?_
          refine L.pass rfl rfl ?_
          refine L.pass rfl rfl ?_
          first | refine L.val rfl rfl (R.pickT rfl rfl) ?_ | refine L.val rfl rfl (R.pickF rfl rfl) ?_
          refine L.val rfl rfl (R.as rfl) ?_
          refine L.nil ?_
          refine N.seq ?_
          refine G.ret1 rfl rfl ?_
          first
            | exact ⟨congrArg Value.bool (by rw [decide_eq_decide]; unfold okC; omega), E⟩
            | exact ⟨congrArg Value.bool (by rw [eq_comm, decide_eq_false_iff_not]; unfold okC; omega), E⟩
      · refine L.pass rfl rfl ?_
        refine L.pass rfl rfl ?_
        refine L.pass rfl rfl ?_
        first | refine L.val rfl rfl (R.pickT rfl rfl) ?_ | refine L.val rfl rfl (R.pickF rfl rfl) ?_
        refine L.val rfl rfl (R.mv rfl) ?_
        refine L.pass rfl rfl ?_
        refine L.pass rfl rfl ?_
        refine L.pass rfl rfl ?_
        first | refine L.val rfl rfl (R.pickT rfl rfl) ?_ | refine L.val rfl rfl (R.pickF rfl rfl) ?_
        refine L.val rfl rfl (R.mv rfl) ?_
        refine L.pass rfl rfl ?_
        refine L.pass rfl rfl ?_
        refine L.pass rfl rfl ?_
        first | refine L.val rfl rfl (R.pickT rfl rfl) ?_ | refine L.val rfl rfl (R.pickF rfl rfl) ?_
        refine L.val rfl rfl (R.mv rfl) ?_
        refine L.pass rfl rfl ?_
        refine L.pass rfl rfl ?_
        refine L.pass rfl rfl ?_
        first | refine L.val rfl rfl (R.pickT rfl rfl) ?_ | refine L.val rfl rfl (R.pickF rfl rfl) ?_
        refine L.val rfl rfl (R.as rfl) ?_
        refine L.nil ?_
        refine N.seq ?_
        refine G.ret1 rfl rfl ?_
        first
          | exact ⟨congrArg Value.bool (by rw [decide_eq_decide]; unfold okC; omega), E⟩
          | exact ⟨congrArg Value.bool (by rw [eq_comm, decide_eq_false_iff_not]; unfold okC; omega), E⟩
    · refine L.pass rfl rfl ?_
      refine L.pass rfl rfl ?_
      refine L.pass rfl rfl ?_
      first | refine L.val rfl rfl (R.pickT rfl rfl) ?_ | refine L.val rfl rfl (R.pickF rfl rfl) ?_
      refine L.val rfl rfl (R.mv rfl) ?_
      refine L.pass rfl rfl ?_
      refine L.pass rfl rfl ?_
      refine L.pass rfl rfl ?_
      first | refine L.val rfl rfl (R.pickT rfl rfl) ?_ | refine L.val rfl rfl (R.pickF rfl rfl) ?_
      refine L.val rfl rfl (R.mv rfl) ?_
      refine L.pass rfl rfl ?_
      refine L.pass rfl rfl ?_
      refine L.pass rfl rfl ?_
      first | refine L.val rfl rfl (R.pickT rfl rfl) ?_ | refine L.val rfl rfl (R.pickF rfl rfl) ?_
      refine L.val rfl rfl (R.mv rfl) ?_
      refine L.pass rfl rfl ?_
      refine L.pass rfl rfl ?_
      refine L.pass rfl rfl ?_
      first | refine L.val rfl rfl (R.pickT rfl rfl) ?_ | refine L.val rfl rfl (R.pickF rfl rfl) ?_
      refine L.val rfl rfl (R.mv rfl) ?_
      refine L.pass rfl rfl ?_
      refine L.pass rfl rfl ?_
      refine L.pass rfl rfl ?_
      first | refine L.val rfl rfl (R.pickT rfl rfl) ?_ | refine L.val rfl rfl (R.pickF rfl rfl) ?_
      refine L.val rfl rfl (R.as rfl) ?_
      refine L.nil ?_
      refine N.seq ?_
      refine G.ret1 rfl rfl ?_
      first
        | exact ⟨congrArg Value.bool (by rw [decide_eq_decide]; unfold okC; omega), E⟩
        | exact ⟨congrArg Value.bool (by rw [eq_comm, decide_eq_false_iff_not]; unfold okC; omega), E⟩
  · refine L.pass rfl rfl ?_
    refine L.pass rfl rfl ?_
    refine L.pass rfl rfl ?_
    first | refine L.val rfl rfl (R.pickT rfl rfl) ?_ | refine L.val rfl rfl (R.pickF rfl rfl) ?_
    refine L.val rfl rfl (R.mv rfl) ?_
    refine L.pass rfl rfl ?_
    refine L.pass rfl rfl ?_
    refine L.pass rfl rfl ?_
    first | refine L.val rfl rfl (R.pickT rfl rfl) ?_ | refine L.val rfl rfl (R.pickF rfl rfl) ?_
    refine L.val rfl rfl (R.mv rfl) ?_
    refine L.pass rfl rfl ?_
    refine L.pass rfl rfl ?_
    refine L.pass rfl rfl ?_
    first | refine L.val rfl rfl (R.pickT rfl rfl) ?_ | refine L.val rfl rfl (R.pickF rfl rfl) ?_
    refine L.val rfl rfl (R.mv rfl) ?_
    refine L.pass rfl rfl ?_
    refine L.pass rfl rfl ?_
    refine L.pass rfl rfl ?_
    first | refine L.val rfl rfl (R.pickT rfl rfl) ?_ | refine L.val rfl rfl (R.pickF rfl rfl) ?_
    refine L.val rfl rfl (R.mv rfl) ?_
    refine L.pass rfl rfl ?_
    refine L.pass rfl rfl ?_
    refine L.pass rfl rfl ?_
    first | refine L.val rfl rfl (R.pickT rfl rfl) ?_ | refine L.val rfl rfl (R.pickF rfl rfl) ?_
    refine L.val rfl rfl (R.mv rfl) ?_
    refine L.pass rfl rfl ?_
    refine L.pass rfl rfl ?_
    refine L.pass rfl rfl ?_
    first | refine L.val rfl rfl (R.pickT rfl rfl) ?_ | refine L.val rfl rfl (R.pickF rfl rfl) ?_
    refine L.val rfl rfl (R.as rfl) ?_
    refine L.nil ?_
    refine N.seq ?_
    refine G.ret1 rfl rfl ?_
    first
      | exact ⟨congrArg Value.bool (by rw [decide_eq_decide]; unfold okC; omega), E⟩
      | exact ⟨congrArg Value.bool (by rw [eq_comm, decide_eq_false_iff_not]; unfold okC; omega), E⟩

theorem rcright_ok (c : Ctl) (w : World) : Meets Try.prog 72 [.agg (ctlC c)] w (fun v w' => v = .bool (decide (okC c)) ∧ Ext [] w w') := by
  refine Meets.enter Try.func72 rfl 75 rfl (Nat.le_of_ble_eq_true rfl) ?_
  have E := Ext.refl [] w
  refine G.seq ?_
  refine G.region ?_
  refine L.do rfl rfl (R.box rfl) ?_
  rintro _ w1 ⟨b1, rfl, hb1, hs1, e1, B1⟩
  replace B1 : Blk w1 b1 (ctlC c) 121 (0, 0) := B1
  replace E := E.trans0 e1
  refine L.val rfl rfl (R.as rfl) ?_
  refine L.nil ?_
  refine N.seq ?_
  refine G.seq ?_
  refine G.region ?_
  refine L.val rfl rfl (R.as rfl) ?_
  refine L.nil ?_
  refine N.seq ?_
  refine G.seq ?_
  refine G.region ?_
  refine L.val rfl rfl (R.fld rfl) ?_
  refine L.val rfl rfl (R.ldB rfl (by assumption) (by rfl)) ?_
  refine L.val rfl rfl (R.geq rfl rfl) ?_
  refine L.val rfl rfl (R.mv rfl) ?_
  refine L.caseP 7 rfl (fun hg2_3 => ?_) (fun hg2_3 => ?_)
  · refine L.val rfl rfl (R.fld rfl) ?_
    refine L.val rfl rfl (R.ldB rfl (by assumption) (by rfl)) ?_
    refine L.val rfl rfl (R.mv rfl) ?_
    refine L.val rfl rfl (R.leq rfl rfl) ?_
    first | refine L.val rfl rfl (R.pickT rfl rfl) ?_ | refine L.val rfl rfl (R.pickF rfl rfl) ?_
    refine L.val rfl rfl (R.mv rfl) ?_
    refine L.caseP 13 rfl (fun hg2_9 => ?_) (fun hg2_9 => ?_)
    · refine L.val rfl rfl (R.fld rfl) ?_
      refine L.val rfl rfl (R.ldB rfl (by assumption) (by rfl)) ?_
      refine L.val rfl rfl (R.geq rfl rfl) ?_
      first | refine L.val rfl rfl (R.pickT rfl rfl) ?_ | refine L.val rfl rfl (R.pickF rfl rfl) ?_
      refine L.val rfl rfl (R.mv rfl) ?_
      refine L.caseP 18 rfl (fun hg2_14 => ?_) (fun hg2_14 => ?_)
      · refine L.val rfl rfl (R.fld rfl) ?_
        refine L.val rfl rfl (R.ldB rfl (by assumption) (by rfl)) ?_
        refine L.val rfl rfl (R.leq rfl rfl) ?_
        first | refine L.val rfl rfl (R.pickT rfl rfl) ?_ | refine L.val rfl rfl (R.pickF rfl rfl) ?_
        refine L.val rfl rfl (R.mv rfl) ?_
        refine L.caseP 23 rfl (fun hg2_19 => ?_) (fun hg2_19 => ?_)
        · refine L.val rfl rfl (R.fld rfl) ?_
          refine L.val rfl rfl (R.ldB rfl (by assumption) (by rfl)) ?_
          refine L.val rfl rfl (R.eqI rfl rfl) ?_
          refine L.val rfl rfl (R.mv rfl) ?_
          refine L.caseP 27 rfl (fun hg2_23 => ?_) (fun hg2_23 => ?_)
          · refine L.pass rfl rfl ?_
            refine L.pass rfl rfl ?_
            refine L.pass rfl rfl ?_
            first | refine L.val rfl rfl (R.pickT rfl rfl) ?_ | refine L.val rfl rfl (R.pickF rfl rfl) ?_
            first | refine L.val rfl rfl (R.pickT rfl rfl) ?_ | refine L.val rfl rfl (R.pickF rfl rfl) ?_
            refine L.val rfl rfl (R.mv rfl) ?_
            refine L.val rfl rfl (R.fld rfl) ?_
            refine L.val rfl rfl (R.ldB rfl (by assumption) (by rfl)) ?_
            refine L.val rfl rfl (R.geq rfl rfl) ?_
            first | refine L.val rfl rfl (R.pickT rfl rfl) ?_ | refine L.val rfl rfl (R.pickF rfl rfl) ?_
            refine L.val rfl rfl (R.mv rfl) ?_
            refine L.caseP 38 rfl (fun hg2_34 => ?_) (fun hg2_34 => ?_)
            · refine L.val rfl rfl (R.fld rfl) ?_
              refine L.val rfl rfl (R.ldB rfl (by assumption) (by rfl)) ?_
              refine L.val rfl rfl (R.leq rfl rfl) ?_
              first | refine L.val rfl rfl (R.pickT rfl rfl) ?_ | refine L.val rfl rfl (R.pickF rfl rfl) ?_
              refine L.val rfl rfl (R.mv rfl) ?_
              refine L.caseP 43 rfl (fun hg2_39 => ?_) (fun hg2_39 => ?_)
              · refine L.val rfl rfl (R.fld rfl) ?_
                refine L.val rfl rfl (R.ldB rfl (by assumption) (by rfl)) ?_
                refine L.val rfl rfl (R.geq rfl rfl) ?_
                first | refine L.val rfl rfl (R.pickT rfl rfl) ?_ | refine L.val rfl rfl (R.pickF rfl rfl) ?_
                refine L.val rfl rfl (R.mv rfl) ?_
                refine L.caseP 48 rfl (fun hg2_44 => ?_) (fun hg2_44 => ?_)
                · refine L.val rfl rfl (R.fld rfl) ?_
                  refine L.val rfl rfl (R.ldB rfl (by assumption) (by rfl)) ?_
                  refine L.val rfl rfl (R.leq rfl rfl) ?_
                  first | refine L.val rfl rfl (R.pickT rfl rfl) ?_ | refine L.val rfl rfl (R.pickF rfl rfl) ?_
                  refine L.val rfl rfl (R.mv rfl) ?_
                  refine L.caseP 53 rfl (fun hg2_49 => ?_) (fun hg2_49 => ?_)
                  · refine L.val rfl rfl (R.fld rfl) ?_
                    refine L.val rfl rfl (R.ldB rfl (by assumption) (by rfl)) ?_
                    refine L.val rfl rfl (R.geq rfl rfl) ?_
                    first | refine L.val rfl rfl (R.pickT rfl rfl) ?_ | refine L.val rfl rfl (R.pickF rfl rfl) ?_
                    refine L.val rfl rfl (R.mv rfl) ?_
                    refine L.caseP 58 rfl (fun hg2_54 => ?_) (fun hg2_54 => ?_)
                    · refine L.val rfl rfl (R.fld rfl) ?_
                      refine L.val rfl rfl (R.ldB rfl (by assumption) (by rfl)) ?_
                      refine L.val rfl rfl (R.mv rfl) ?_
                      refine L.val rfl rfl (R.leq rfl rfl) ?_
                      first | refine L.val rfl rfl (R.pickT rfl rfl) ?_ | refine L.val rfl rfl (R.pickF rfl rfl) ?_
                      refine L.val rfl rfl (R.mv rfl) ?_
                      refine L.caseP 64 rfl (fun hg2_60 => ?_) (fun hg2_60 => ?_)
                      · refine L.val rfl rfl (R.fld rfl) ?_
                        refine L.val rfl rfl (R.ldB rfl (by assumption) (by rfl)) ?_
                        refine L.val rfl rfl (R.geq rfl rfl) ?_
                        first | refine L.val rfl rfl (R.pickT rfl rfl) ?_ | refine L.val rfl rfl (R.pickF rfl rfl) ?_
                        refine L.val rfl rfl (R.mv rfl) ?_
                        refine L.caseP 69 rfl (fun hg2_65 => ?_) (fun hg2_65 => ?_)
                        · refine L.val rfl rfl (R.fld rfl) ?_
                          refine L.val rfl rfl (R.ldB rfl (by assumption) (by rfl)) ?_
                          refine L.val rfl rfl (R.mv rfl) ?_
                          refine L.val rfl rfl (R.leq rfl rfl) ?_
                          first | refine L.val rfl rfl (R.pickT rfl rfl) ?_ | refine L.val rfl rfl (R.pickF rfl rfl) ?_
                          refine L.val rfl rfl (R.as rfl) ?_
                          refine L.nil ?_
                          refine N.seq ?_
                          refine G.ret1 rfl rfl ?_
                          first
                            | exact ⟨congrArg Value.bool (by rw [decide_eq_decide]; unfold okC; omega), E⟩
                            | exact ⟨congrArg Value.bool (by rw [eq_comm, decide_eq_false_iff_not]; unfold okC; omega), E⟩
                        · refine L.pass rfl rfl ?_
                          refine L.pass rfl rfl ?_
                          refine L.pass rfl rfl ?_
                          refine L.pass rfl rfl ?_
                          first | refine L.val rfl rfl (R.pickT rfl rfl) ?_ | refine L.val rfl rfl (R.pickF rfl rfl) ?_
                          refine L.val rfl rfl (R.as rfl) ?_
                          refine L.nil ?_
                          refine N.seq ?_
                          refine G.ret1 rfl rfl ?_
                          first
                            | exact ⟨congrArg Value.bool (by rw [decide_eq_decide]; unfold okC; omega), E⟩
                            | exact ⟨congrArg Value.bool (by rw [eq_comm, decide_eq_false_iff_not]; unfold okC; omega), E⟩
                      · refine L.pass rfl rfl ?_
                        refine L.pass rfl rfl ?_
                        refine L.pass rfl rfl ?_
                        first | refine L.val rfl rfl (R.pickT rfl rfl) ?_ | refine L.val rfl rfl (R.pickF rfl rfl) ?_
                        refine L.val rfl rfl (R.mv rfl) ?_
                        refine L.pass rfl rfl ?_
                        refine L.pass rfl rfl ?_
                        refine L.pass rfl rfl ?_
                        refine L.pass rfl rfl ?_
                        first | refine L.val rfl rfl (R.pickT rfl rfl) ?_ | refine L.val rfl rfl (R.pickF rfl rfl) ?_
                        refine L.val rfl rfl (R.as rfl) ?_
                        refine L.nil ?_
                        refine N.seq ?_
                        refine G.ret1 rfl rfl ?_
                        first
                          | exact ⟨congrArg Value.bool (by rw [decide_eq_decide]; unfold okC; omega), E⟩
                          | exact ⟨congrArg Value.bool (by rw [eq_comm, decide_eq_false_iff_not]; unfold okC; omega), E⟩
                    · refine L.pass rfl rfl ?_
                      refine L.pass rfl rfl ?_
                      refine L.pass rfl rfl ?_
                      refine L.pass rfl rfl ?_
                      first | refine L.val rfl rfl (R.pickT rfl rfl) ?_ | refine L.val rfl rfl (R.pickF rfl rfl) ?_
                      refine L.val rfl rfl (R.mv rfl) ?_
                      refine L.pass rfl rfl ?_
                      refine L.pass rfl rfl ?_
                      refine L.pass rfl rfl ?_
                      first | refine L.val rfl rfl (R.pickT rfl rfl) ?_ | refine L.val rfl rfl (R.pickF rfl rfl) ?_
                      refine L.val rfl rfl (R.mv rfl) ?_
                      refine L.pass rfl rfl ?_
                      refine L.pass rfl rfl ?_
                      refine L.pass rfl rfl ?_
                      refine L.pass rfl rfl ?_
                      first | refine L.val rfl rfl (R.pickT rfl rfl) ?_ | refine L.val rfl rfl (R.pickF rfl rfl) ?_
                      refine L.val rfl rfl (R.as rfl) ?_
                      refine L.nil ?_
                      refine N.seq ?_
                      refine G.ret1 rfl rfl ?_
                      first
                        | exact ⟨congrArg Value.bool (by rw [decide_eq_decide]; unfold okC; omega), E⟩
                        | exact ⟨congrArg Value.bool (by rw [eq_comm, decide_eq_false_iff_not]; unfold okC; omega), E⟩
                  · refine L.pass rfl rfl ?_
                    refine L.pass rfl rfl ?_
                    refine L.pass rfl rfl ?_
                    first | refine L.val rfl rfl (R.pickT rfl rfl) ?_ | refine L.val rfl rfl (R.pickF rfl rfl) ?_
                    refine L.val rfl rfl (R.mv rfl) ?_
                    refine L.pass rfl rfl ?_
                    refine L.pass rfl rfl ?_
                    refine L.pass rfl rfl ?_
                    refine L.pass rfl rfl ?_
                    first | refine L.val rfl rfl (R.pickT rfl rfl) ?_ | refine L.val rfl rfl (R.pickF rfl rfl) ?_
                    refine L.val rfl rfl (R.mv rfl) ?_
                    refine L.pass rfl rfl ?_
                    refine L.pass rfl rfl ?_
                    refine L.pass rfl rfl ?_
                    first | refine L.val rfl rfl (R.pickT rfl rfl) ?_ | refine L.val rfl rfl (R.pickF rfl rfl) ?_
                    refine L.val rfl rfl (R.mv rfl) ?_
                    refine L.pass rfl rfl ?_
                    refine L.pass rfl rfl ?_
                    refine L.pass rfl rfl ?_
                    refine L.pass rfl rfl ?_
                    first | refine L.val rfl rfl (R.pickT rfl rfl) ?_ | refine L.val rfl rfl (R.pickF rfl rfl) ?_
                    refine L.val rfl rfl (R.as rfl) ?_
                    refine L.nil ?_
                    refine N.seq ?_
                    refine G.ret1 rfl rfl ?_
                    first
                      | exact ⟨congrArg Value.bool (by rw [decide_eq_decide]; unfold okC; omega), E⟩
                      | exact ⟨congrArg Value.bool (by rw [eq_comm, decide_eq_false_iff_not]; unfold okC; omega), E⟩
                · refine L.pass rfl rfl ?_
                  refine L.pass rfl rfl ?_
                  refine L.pass rfl rfl ?_
                  first | refine L.val rfl rfl (R.pickT rfl rfl) ?_ | refine L.val rfl rfl (R.pickF rfl rfl) ?_
                  refine L.val rfl rfl (R.mv rfl) ?_
                  refine L.pass rfl rfl ?_
                  refine L.pass rfl rfl ?_
                  refine L.pass rfl rfl ?_
                  first | refine L.val rfl rfl (R.pickT rfl rfl) ?_ | refine L.val rfl rfl (R.pickF rfl rfl) ?_
                  refine L.val rfl rfl (R.mv rfl) ?_
                  refine L.pass rfl rfl ?_
                  refine L.pass rfl rfl ?_
                  refine L.pass rfl rfl ?_
                  refine L.pass rfl rfl ?_
                  first | refine L.val rfl rfl (R.pickT rfl rfl) ?_ | refine L.val rfl rfl (R.pickF rfl rfl) ?_
                  refine L.val rfl rfl (R.mv rfl) ?_
                  refine L.pass rfl rfl ?_
                  refine L.pass rfl rfl ?_
                  refine L.pass rfl rfl ?_
                  first | refine L.val rfl rfl (R.pickT rfl rfl) ?_ | refine L.val rfl rfl (R.pickF rfl rfl) ?_
                  refine L.val rfl rfl (R.mv rfl) ?_
                  refine L.pass rfl rfl ?_
                  refine L.pass rfl rfl ?_
                  refine L.pass rfl rfl ?_
                  refine L.pass rfl rfl ?_
                  first | refine L.val rfl rfl (R.pickT rfl rfl) ?_ | refine L.val rfl rfl (R.pickF rfl rfl) ?_
                  refine L.val rfl rfl (R.as rfl) ?_
                  refine L.nil ?_
                  refine N.seq ?_
                  refine G.ret1 rfl rfl ?_
                  first
                    | exact ⟨congrArg Value.bool (by rw [decide_eq_decide]; unfold okC; omega), E⟩
                    | exact ⟨congrArg Value.bool (by rw [eq_comm, decide_eq_false_iff_not]; unfold okC; omega), E⟩
              · refine L.pass rfl rfl ?_
                refine L.pass rfl rfl ?_
                refine L.pass rfl rfl ?_
                first | refine L.val rfl rfl (R.pickT rfl rfl) ?_ | refine L.val rfl rfl (R.pickF rfl rfl) ?_
                refine L.val rfl rfl (R.mv rfl) ?_
                refine L.pass rfl rfl ?_
                refine L.pass rfl rfl ?_
                refine L.pass rfl rfl ?_
                first | refine L.val rfl rfl (R.pickT rfl rfl) ?_ | refine L.val rfl rfl (R.pickF rfl rfl) ?_
                refine L.val rfl rfl (R.mv rfl) ?_
                refine L.pass rfl rfl ?_
                refine L.pass rfl rfl ?_
                refine L.pass rfl rfl ?_
                first | refine L.val rfl rfl (R.pickT rfl rfl) ?_ | refine L.val rfl rfl (R.pickF rfl rfl) ?_
                refine L.val rfl rfl (R.mv rfl) ?_
                refine L.pass rfl rfl ?_
                refine L.pass rfl rfl ?_
                refine L.pass rfl rfl ?_
                refine L.pass rfl rfl ?_
                first | refine L.val rfl rfl (R.pickT rfl rfl) ?_ | refine L.val rfl rfl (R.pickF rfl rfl) ?_
                refine L.val rfl rfl (R.mv rfl) ?_
                refine L.pass rfl rfl ?_
                refine L.pass rfl rfl ?_
                refine L.pass rfl rfl ?_
                first | refine L.val rfl rfl (R.pickT rfl rfl) ?_ | refine L.val rfl rfl (R.pickF rfl rfl) ?_
                refine L.val rfl rfl (R.mv rfl) ?_
                refine L.pass rfl rfl ?_
                refine L.pass rfl rfl ?_
                refine L.pass rfl rfl ?_
                refine L.pass rfl rfl ?_
                first | refine L.val rfl rfl (R.pickT rfl rfl) ?_ | refine L.val rfl rfl (R.pickF rfl rfl) ?_
                refine L.val rfl rfl (R.as rfl) ?_
                refine L.nil ?_
                refine N.seq ?_
                refine G.ret1 rfl rfl ?_
                first
                  | exact ⟨congrArg Value.bool (by rw [decide_eq_decide]; unfold okC; omega), E⟩
                  | exact ⟨congrArg Value.bool (by rw [eq_comm, decide_eq_false_iff_not]; unfold okC; omega), E⟩
            · refine L.pass rfl rfl ?_
              refine L.pass rfl rfl ?_
              refine L.pass rfl rfl ?_
              first | refine L.val rfl rfl (R.pickT rfl rfl) ?_ | refine L.val rfl rfl (R.pickF rfl rfl) ?_
              refine L.val rfl rfl (R.mv rfl) ?_
              refine L.pass rfl rfl ?_
              refine L.pass rfl rfl ?_
              refine L.pass rfl rfl ?_
              first | refine L.val rfl rfl (R.pickT rfl rfl) ?_ | refine L.val rfl rfl (R.pickF rfl rfl) ?_
              refine L.val rfl rfl (R.mv rfl) ?_
              refine L.pass rfl rfl ?_
              refine L.pass rfl rfl ?_
              refine L.pass rfl rfl ?_
              first | refine L.val rfl rfl (R.pickT rfl rfl) ?_ | refine L.val rfl rfl (R.pickF rfl rfl) ?_
              refine L.val rfl rfl (R.mv rfl) ?_
              refine L.pass rfl rfl ?_
              refine L.pass rfl rfl ?_
              refine L.pass rfl rfl ?_
              first | refine L.val rfl rfl (R.pickT rfl rfl) ?_ | refine L.val rfl rfl (R.pickF rfl rfl) ?_
              refine L.val rfl rfl (R.mv rfl) ?_
              refine L.pass rfl rfl ?_
              refine L.pass rfl rfl ?_
              refine L.pass rfl rfl ?_
              refine L.pass rfl rfl ?_
              first | refine L.val rfl rfl (R.pickT rfl rfl) ?_ | refine L.val rfl rfl (R.pickF rfl rfl) ?_
              refine L.val rfl rfl (R.mv rfl) ?_
              refine L.pass rfl rfl ?_
              refine L.pass rfl rfl ?_
              refine L.pass rfl rfl ?_
              first | refine L.val rfl rfl (R.pickT rfl rfl) ?_ | refine L.val rfl rfl (R.pickF rfl rfl) ?_
              refine L.val rfl rfl (R.mv rfl) ?_
              refine L.pass rfl rfl ?_
              refine L.pass rfl rfl ?_
              refine L.pass rfl rfl ?_
              refine L.pass rfl rfl ?_
              first | refine L.val rfl rfl (R.pickT rfl rfl) ?_ | refine L.val rfl rfl (R.pickF rfl rfl) ?_
              refine L.val rfl rfl (R.as rfl) ?_
              refine L.nil ?_
              refine N.seq ?_
              refine G.ret1 rfl rfl ?_
              first
                | exact ⟨congrArg Value.bool (by rw [decide_eq_decide]; unfold okC; omega), E⟩
                | exact ⟨congrArg Value.bool (by rw [eq_comm, decide_eq_false_iff_not]; unfold okC; omega), E⟩
          · refine L.val rfl rfl (R.fld rfl) ?_
            refine L.val rfl rfl (R.ldB rfl (by assumption) (by rfl)) ?_
            refine L.val rfl rfl (R.eqI rfl rfl) ?_
            first | refine L.val rfl rfl (R.pickT rfl rfl) ?_ | refine L.val rfl rfl (R.pickF rfl rfl) ?_
            first | refine L.val rfl rfl (R.pickT rfl rfl) ?_ | refine L.val rfl rfl (R.pickF rfl rfl) ?_
            refine L.val rfl rfl (R.mv rfl) ?_
            refine L.caseP 33 rfl (fun hg2_29 => ?_) (fun hg2_29 => ?_)
            · refine L.val rfl rfl (R.fld rfl) ?_
              refine L.val rfl rfl (R.ldB rfl (by assumption) (by rfl)) ?_
              refine L.val rfl rfl (R.geq rfl rfl) ?_
              first | refine L.val rfl rfl (R.pickT rfl rfl) ?_ | refine L.val rfl rfl (R.pickF rfl rfl) ?_
              refine L.val rfl rfl (R.mv rfl) ?_
              refine L.caseP 38 rfl (fun hg2_34 => ?_) (fun hg2_34 => ?_)
              · refine L.val rfl rfl (R.fld rfl) ?_
                refine L.val rfl rfl (R.ldB rfl (by assumption) (by rfl)) ?_
                refine L.val rfl rfl (R.leq rfl rfl) ?_
                first | refine L.val rfl rfl (R.pickT rfl rfl) ?_ | refine L.val rfl rfl (R.pickF rfl rfl) ?_
                refine L.val rfl rfl (R.mv rfl) ?_
                refine L.caseP 43 rfl (fun hg2_39 => ?_) (fun hg2_39 => ?_)
                · refine L.val rfl rfl (R.fld rfl) ?_
                  refine L.val rfl rfl (R.ldB rfl (by assumption) (by rfl)) ?_
                  refine L.val rfl rfl (R.geq rfl rfl) ?_
                  first | refine L.val rfl rfl (R.pickT rfl rfl) ?_ | refine L.val rfl rfl (R.pickF rfl rfl) ?_
                  refine L.val rfl rfl (R.mv rfl) ?_
                  refine L.caseP 48 rfl (fun hg2_44 => ?_) (fun hg2_44 => ?_)
                  · refine L.val rfl rfl (R.fld rfl) ?_
                    refine L.val rfl rfl (R.ldB rfl (by assumption) (by rfl)) ?_
                    refine L.val rfl rfl (R.leq rfl rfl) ?_
                    first | refine L.val rfl rfl (R.pickT rfl rfl) ?_ | refine L.val rfl rfl (R.pickF rfl rfl) ?_
                    refine L.val rfl rfl (R.mv rfl) ?_
                    refine L.caseP 53 rfl (fun hg2_49 => ?_) (fun hg2_49 => ?_)
                    · refine L.val rfl rfl (R.fld rfl) ?_
                      refine L.val rfl rfl (R.ldB rfl (by assumption) (by rfl)) ?_
                      refine L.val rfl rfl (R.geq rfl rfl) ?_
                      first | refine L.val rfl rfl (R.pickT rfl rfl) ?_ | refine L.val rfl rfl (R.pickF rfl rfl) ?_
                      refine L.val rfl rfl (R.mv rfl) ?_
                      refine L.caseP 58 rfl (fun hg2_54 => ?_) (fun hg2_54 => ?_)
                      · refine L.val rfl rfl (R.fld rfl) ?_
                        refine L.val rfl rfl (R.ldB rfl (by assumption) (by rfl)) ?_
                        refine L.val rfl rfl (R.mv rfl) ?_
                        refine L.val rfl rfl (R.leq rfl rfl) ?_
                        first | refine L.val rfl rfl (R.pickT rfl rfl) ?_ | refine L.val rfl rfl (R.pickF rfl rfl) ?_
                        refine L.val rfl rfl (R.mv rfl) ?_
                        refine L.caseP 64 rfl (fun hg2_60 => ?_) (fun hg2_60 => ?_)
                        · refine L.val rfl rfl (R.fld rfl) ?_
                          refine L.val rfl rfl (R.ldB rfl (by assumption) (by rfl)) ?_
                          refine L.val rfl rfl (R.geq rfl rfl) ?_
                          first | refine L.val rfl rfl (R.pickT rfl rfl) ?_ | refine L.val rfl rfl (R.pickF rfl rfl) ?_
                          refine L.val rfl rfl (R.mv rfl) ?_
                          refine L.caseP 69 rfl (fun hg2_65 => ?_) (fun hg2_65 => ?_)
                          · refine L.val rfl rfl (R.fld rfl) ?_
                            refine L.val rfl rfl (R.ldB rfl (by assumption) (by rfl)) ?_
                            refine L.val rfl rfl (R.mv rfl) ?_
                            refine L.val rfl rfl (R.leq rfl rfl) ?_
                            first | refine L.val rfl rfl (R.pickT rfl rfl) ?_ | refine L.val rfl rfl (R.pickF rfl rfl) ?_
                            refine L.val rfl rfl (R.as rfl) ?_
                            refine L.nil ?_
                            refine N.seq ?_
                            refine G.ret1 rfl rfl ?_
                            first
                              | exact ⟨congrArg Value.bool (by rw [decide_eq_decide]; unfold okC; omega), E⟩
                              | exact ⟨congrArg Value.bool (by rw [eq_comm, decide_eq_false_iff_not]; unfold okC; omega), E⟩
                          · refine L.pass rfl rfl ?_
                            refine L.pass rfl rfl ?_
                            refine L.pass rfl rfl ?_
                            refine L.pass rfl rfl ?_
                            first | refine L.val rfl rfl (R.pickT rfl rfl) ?_ | refine L.val rfl rfl (R.pickF rfl rfl) ?_
                            refine L.val rfl rfl (R.as rfl) ?_
                            refine L.nil ?_
                            refine N.seq ?_
                            refine G.ret1 rfl rfl ?_
                            first
                              | exact ⟨congrArg Value.bool (by rw [decide_eq_decide]; unfold okC; omega), E⟩
                              | exact ⟨congrArg Value.bool (by rw [eq_comm, decide_eq_false_iff_not]; unfold okC; omega), E⟩
                        · refine L.pass rfl rfl ?_
                          refine L.pass rfl rfl ?_
                          refine L.pass rfl rfl ?_
                          first | refine L.val rfl rfl (R.pickT rfl rfl) ?_ | refine L.val rfl rfl (R.pickF rfl rfl) ?_
                          refine L.val rfl rfl (R.mv rfl) ?_
                          refine L.pass rfl rfl ?_
                          refine L.pass rfl rfl ?_
                          refine L.pass rfl rfl ?_
                          refine L.pass rfl rfl ?_
                          first | refine L.val rfl rfl (R.pickT rfl rfl) ?_ | refine L.val rfl rfl (R.pickF rfl rfl) ?_
                          refine L.val rfl rfl (R.as rfl) ?_
                          refine L.nil ?_
                          refine N.seq ?_
                          refine G.ret1 rfl rfl ?_
                          first
                            | exact ⟨congrArg Value.bool (by rw [decide_eq_decide]; unfold okC; omega), E⟩
                            | exact ⟨congrArg Value.bool (by rw [eq_comm, decide_eq_false_iff_not]; unfold okC; omega), E⟩
                      · refine L.pass rfl rfl ?_
                        refine L.pass rfl rfl ?_
                        refine L.pass rfl rfl ?_
                        refine L.pass rfl rfl ?_
                        first | refine L.val rfl rfl (R.pickT rfl rfl) ?_ | refine L.val rfl rfl (R.pickF rfl rfl) ?_
                        refine L.val rfl rfl (R.mv rfl) ?_
                        refine L.pass rfl rfl ?_
                        refine L.pass rfl rfl ?_
                        refine L.pass rfl rfl ?_
                        first | refine L.val rfl rfl (R.pickT rfl rfl) ?_ | refine L.val rfl rfl (R.pickF rfl rfl) ?_
                        refine L.val rfl rfl (R.mv rfl) ?_
                        refine L.pass rfl rfl ?_
                        refine L.pass rfl rfl ?_
                        refine L.pass rfl rfl ?_
                        refine L.pass rfl rfl ?_
                        first | refine L.val rfl rfl (R.pickT rfl rfl) ?_ | refine L.val rfl rfl (R.pickF rfl rfl) ?_
                        refine L.val rfl rfl (R.as rfl) ?_
                        refine L.nil ?_
                        refine N.seq ?_
                        refine G.ret1 rfl rfl ?_
                        first
                          | exact ⟨congrArg Value.bool (by rw [decide_eq_decide]; unfold okC; omega), E⟩
                          | exact ⟨congrArg Value.bool (by rw [eq_comm, decide_eq_false_iff_not]; unfold okC; omega), E⟩
                    · refine L.pass rfl rfl ?_
                      refine L.pass rfl rfl ?_
                      refine L.pass rfl rfl ?_
                      first | refine L.val rfl rfl (R.pickT rfl rfl) ?_ | refine L.val rfl rfl (R.pickF rfl rfl) ?_
                      refine L.val rfl rfl (R.mv rfl) ?_
                      refine L.pass rfl rfl ?_
                      refine L.pass rfl rfl ?_
                      refine L.pass rfl rfl ?_
                      refine L.pass rfl rfl ?_
                      first | refine L.val rfl rfl (R.pickT rfl rfl) ?_ | refine L.val rfl rfl (R.pickF rfl rfl) ?_
                      refine L.val rfl rfl (R.mv rfl) ?_
                      refine L.pass rfl rfl ?_
                      refine L.pass rfl rfl ?_
                      refine L.pass rfl rfl ?_
                      first | refine L.val rfl rfl (R.pickT rfl rfl) ?_ | refine L.val rfl rfl (R.pickF rfl rfl) ?_
                      refine L.val rfl rfl (R.mv rfl) ?_
                      refine L.pass rfl rfl ?_
                      refine L.pass rfl rfl ?_
                      refine L.pass rfl rfl ?_
                      refine L.pass rfl rfl ?_
                      first | refine L.val rfl rfl (R.pickT rfl rfl) ?_ | refine L.val rfl rfl (R.pickF rfl rfl) ?_
                      refine L.val rfl rfl (R.as rfl) ?_
                      refine L.nil ?_
                      refine N.seq ?_
                      refine G.ret1 rfl rfl ?_
                      first
                        | exact ⟨congrArg Value.bool (by rw [decide_eq_decide]; unfold okC; omega), E⟩
                        | exact ⟨congrArg Value.bool (by rw [eq_comm, decide_eq_false_iff_not]; unfold okC; omega), E⟩
                  · refine L.pass rfl rfl ?_
                    refine L.pass rfl rfl ?_
                    refine L.pass rfl rfl ?_
                    first | refine L.val rfl rfl (R.pickT rfl rfl) ?_ | refine L.val rfl rfl (R.pickF rfl rfl) ?_
                    refine L.val rfl rfl (R.mv rfl) ?_
                    refine L.pass rfl rfl ?_
                    refine L.pass rfl rfl ?_
                    refine L.pass rfl rfl ?_
                    first | refine L.val rfl rfl (R.pickT rfl rfl) ?_ | refine L.val rfl rfl (R.pickF rfl rfl) ?_
                    refine L.val rfl rfl (R.mv rfl) ?_
                    refine L.pass rfl rfl ?_
                    refine L.pass rfl rfl ?_
                    refine L.pass rfl rfl ?_
                    refine L.pass rfl rfl ?_
                    first | refine L.val rfl rfl (R.pickT rfl rfl) ?_ | refine L.val rfl rfl (R.pickF rfl rfl) ?_
                    refine L.val rfl rfl (R.mv rfl) ?_
                    refine L.pass rfl rfl ?_
                    refine L.pass rfl rfl ?_
                    refine L.pass rfl rfl ?_
                    first | refine L.val rfl rfl (R.pickT rfl rfl) ?_ | refine L.val rfl rfl (R.pickF rfl rfl) ?_
                    refine L.val rfl rfl (R.mv rfl) ?_
                    refine L.pass rfl rfl ?_
                    refine L.pass rfl rfl ?_
                    refine L.pass rfl rfl ?_
                    refine L.pass rfl rfl ?_
                    first | refine L.val rfl rfl (R.pickT rfl rfl) ?_ | refine L.val rfl rfl (R.pickF rfl rfl) ?_
                    refine L.val rfl rfl (R.as rfl) ?_
                    refine L.nil ?_
                    refine N.seq ?_
                    refine G.ret1 rfl rfl ?_
                    first
                      | exact ⟨congrArg Value.bool (by rw [decide_eq_decide]; unfold okC; omega), E⟩
                      | exact ⟨congrArg Value.bool (by rw [eq_comm, decide_eq_false_iff_not]; unfold okC; omega), E⟩
                · refine L.pass rfl rfl ?_
                  refine L.pass rfl rfl ?_
                  refine L.pass rfl rfl ?_
                  first | refine L.val rfl rfl (R.pickT rfl rfl) ?_ | refine L.val rfl rfl (R.pickF rfl rfl) ?_
                  refine L.val rfl rfl (R.mv rfl) ?_
                  refine L.pass rfl rfl ?_
                  refine L.pass rfl rfl ?_
                  refine L.pass rfl rfl ?_
                  first | refine L.val rfl rfl (R.pickT rfl rfl) ?_ | refine L.val rfl rfl (R.pickF rfl rfl) ?_
                  refine L.val rfl rfl (R.mv rfl) ?_
                  refine L.pass rfl rfl ?_
                  refine L.pass rfl rfl ?_
                  refine L.pass rfl rfl ?_
                  first | refine L.val rfl rfl (R.pickT rfl rfl) ?_ | refine L.val rfl rfl (R.pickF rfl rfl) ?_
                  refine L.val rfl rfl (R.mv rfl) ?_
                  refine L.pass rfl rfl ?_
                  refine L.pass rfl rfl ?_
                  refine L.pass rfl rfl ?_
                  refine L.pass rfl rfl ?_
                  first | refine L.val rfl rfl (R.pickT rfl rfl) ?_ | refine L.val rfl rfl (R.pickF rfl rfl) ?_
                  refine L.val rfl rfl (R.mv rfl) ?_
                  refine L.pass rfl rfl ?_
                  refine L.pass rfl rfl ?_
                  refine L.pass rfl rfl ?_
                  first | refine L.val rfl rfl (R.pickT rfl rfl) ?_ | refine L.val rfl rfl (R.pickF rfl rfl) ?_
                  refine L.val rfl rfl (R.mv rfl) ?_
                  refine L.pass rfl rfl ?_
                  refine L.pass rfl rfl ?_
                  refine L.pass rfl rfl ?_
                  refine L.pass rfl rfl ?_
                  first | refine L.val rfl rfl (R.pickT rfl rfl) ?_ | refine L.val rfl rfl (R.pickF rfl rfl) ?_
                  refine L.val rfl rfl (R.as rfl) ?_
                  refine L.nil ?_
                  refine N.seq ?_
                  refine G.ret1 rfl rfl ?_
                  first
                    | exact ⟨congrArg Value.bool (by rw [decide_eq_decide]; unfold okC; omega), E⟩
                    | exact ⟨congrArg Value.bool (by rw [eq_comm, decide_eq_false_iff_not]; unfold okC; omega), E⟩
              · refine L.pass rfl rfl ?_
                refine L.pass rfl rfl ?_
                refine L.pass rfl rfl ?_
                first | refine L.val rfl rfl (R.pickT rfl rfl) ?_ | refine L.val rfl rfl (R.pickF rfl rfl) ?_
                refine L.val rfl rfl (R.mv rfl) ?_
                refine L.pass rfl rfl ?_
                refine L.pass rfl rfl ?_
                refine L.pass rfl rfl ?_
                first | refine L.val rfl rfl (R.pickT rfl rfl) ?_ | refine L.val rfl rfl (R.pickF rfl rfl) ?_
                refine L.val rfl rfl (R.mv rfl) ?_
                refine L.pass rfl rfl ?_
                refine L.pass rfl rfl ?_
                refine L.pass rfl rfl ?_
                first | refine L.val rfl rfl (R.pickT rfl rfl) ?_ | refine L.val rfl rfl (R.pickF rfl rfl) ?_
                refine L.val rfl rfl (R.mv rfl) ?_
                refine L.pass rfl rfl ?_
                refine L.pass rfl rfl ?_
                refine L.pass rfl rfl ?_
                first | refine L.val rfl rfl (R.pickT rfl rfl) ?_ | refine L.val rfl rfl (R.pickF rfl rfl) ?_
                refine L.val rfl rfl (R.mv rfl) ?_
                refine L.pass rfl rfl ?_
                refine L.pass rfl rfl ?_
                refine L.pass rfl rfl ?_
                refine L.pass rfl rfl ?_
                first | refine L.val rfl rfl (R.pickT rfl rfl) ?_ | refine L.val rfl rfl (R.pickF rfl rfl) ?_
                refine L.val rfl rfl (R.mv rfl) ?_
                refine L.pass rfl rfl ?_
                refine L.pass rfl rfl ?_
                refine L.pass rfl rfl ?_
                first | refine L.val rfl rfl (R.pickT rfl rfl) ?_ | refine L.val rfl rfl (R.pickF rfl rfl) ?_
                refine L.val rfl rfl (R.mv rfl) ?_
                refine L.pass rfl rfl ?_
                refine L.pass rfl rfl ?_
                refine L.pass rfl rfl ?_
                refine L.pass rfl rfl ?_
                first | refine L.val rfl rfl (R.pickT rfl rfl) ?_ | refine L.val rfl rfl (R.pickF rfl rfl) ?_
                refine L.val rfl rfl (R.as rfl) ?_
                refine L.nil ?_
                refine N.seq ?_
                refine G.ret1 rfl rfl ?_
                first
                  | exact ⟨congrArg Value.bool (by rw [decide_eq_decide]; unfold okC; omega), E⟩
                  | exact ⟨congrArg Value.bool (by rw [eq_comm, decide_eq_false_iff_not]; unfold okC; omega), E⟩
            · refine L.pass rfl rfl ?_
              refine L.pass rfl rfl ?_
              refine L.pass rfl rfl ?_
              first | refine L.val rfl rfl (R.pickT rfl rfl) ?_ | refine L.val rfl rfl (R.pickF rfl rfl) ?_
              refine L.val rfl rfl (R.mv rfl) ?_
              refine L.pass rfl rfl ?_
              refine L.pass rfl rfl ?_
              refine L.pass rfl rfl ?_
              first | refine L.val rfl rfl (R.pickT rfl rfl) ?_ | refine L.val rfl rfl (R.pickF rfl rfl) ?_
              refine L.val rfl rfl (R.mv rfl) ?_
              refine L.pass rfl rfl ?_
              refine L.pass rfl rfl ?_
              refine L.pass rfl rfl ?_
              first | refine L.val rfl rfl (R.pickT rfl rfl) ?_ | refine L.val rfl rfl (R.pickF rfl rfl) ?_
              refine L.val rfl rfl (R.mv rfl) ?_
              refine L.pass rfl rfl ?_
              refine L.pass rfl rfl ?_
              refine L.pass rfl rfl ?_
              first | refine L.val rfl rfl (R.pickT rfl rfl) ?_ | refine L.val rfl rfl (R.pickF rfl rfl) ?_
              refine L.val rfl rfl (R.mv rfl) ?_
              refine L.pass rfl rfl ?_
              refine L.pass rfl rfl ?_
              refine L.pass rfl rfl ?_
              first | refine L.val rfl rfl (R.pickT rfl rfl) ?_ | refine L.val rfl rfl (R.pickF rfl rfl) ?_
              refine L.val rfl rfl (R.mv rfl) ?_
              refine L.pass rfl rfl ?_
              refine L.pass rfl rfl ?_
              refine L.pass rfl rfl ?_
              refine L.pass rfl rfl ?_
              first | refine L.val rfl rfl (R.pickT rfl rfl) ?_ | refine L.val rfl rfl (R.pickF rfl rfl) ?_
              refine L.val rfl rfl (R.mv rfl) ?_
              refine L.pass rfl rfl ?_
              refine L.pass rfl rfl ?_
              refine L.pass rfl rfl ?_
              first | refine L.val rfl rfl (R.pickT rfl rfl) ?_ | refine L.val rfl rfl (R.pickF rfl rfl) ?_
              refine L.val rfl rfl (R.mv rfl) ?_
              refine L.pass rfl rfl ?_
              refine L.pass rfl rfl ?_
              refine L.pass rfl rfl ?_
              refine L.pass rfl rfl ?_
              first | refine L.val rfl rfl (R.pickT rfl rfl) ?_ | refine L.val rfl rfl (R.pickF rfl rfl) ?_
              refine L.val rfl rfl (R.as rfl) ?_
              refine L.nil ?_
              refine N.seq ?_
              refine G.ret1 rfl rfl ?_
              first
                | exact ⟨congrArg Value.bool (by rw [decide_eq_decide]; unfold okC; omega), E⟩
                | exact ⟨congrArg Value.bool (by rw [eq_comm, decide_eq_false_iff_not]; unfold okC; omega), E⟩
        · refine L.pass rfl rfl ?_
          refine L.pass rfl rfl ?_
          refine L.pass rfl rfl ?_
          refine L.pass rfl rfl ?_
          refine L.pass rfl rfl ?_
          refine L.pass rfl rfl ?_
          refine L.pass rfl rfl ?_
          refine L.pass rfl rfl ?_
          first | refine L.val rfl rfl (R.pickT rfl rfl) ?_ | refine L.val rfl rfl (R.pickF rfl rfl) ?_
          refine L.val rfl rfl (R.mv rfl) ?_
          refine L.pass rfl rfl ?_
          refine L.pass rfl rfl ?_
          refine L.pass rfl rfl ?_
          first | refine L.val rfl rfl (R.pickT rfl rfl) ?_ | refine L.val rfl rfl (R.pickF rfl rfl) ?_
          refine L.val rfl rfl (R.mv rfl) ?_
          refine L.pass rfl rfl ?_
          refine L.pass rfl rfl ?_
          refine L.pass rfl rfl ?_
          first | refine L.val rfl rfl (R.pickT rfl rfl) ?_ | refine L.val rfl rfl (R.pickF rfl rfl) ?_
          refine L.val rfl rfl (R.mv rfl) ?_
          refine L.pass rfl rfl ?_
          refine L.pass rfl rfl ?_
          refine L.pass rfl rfl ?_
          first | refine L.val rfl rfl (R.pickT rfl rfl) ?_ | refine L.val rfl rfl (R.pickF rfl rfl) ?_
          refine L.val rfl rfl (R.mv rfl) ?_
          refine L.pass rfl rfl ?_
          refine L.pass rfl rfl ?_
          refine L.pass rfl rfl ?_
          first | refine L.val rfl rfl (R.pickT rfl rfl) ?_ | refine L.val rfl rfl (R.pickF rfl rfl) ?_
          refine L.val rfl rfl (R.mv rfl) ?_
          refine L.pass rfl rfl ?_
          refine L.pass rfl rfl ?_
          refine L.pass rfl rfl ?_
          first | refine L.val rfl rfl (R.pickT rfl rfl) ?_ | refine L.val rfl rfl (R.pickF rfl rfl) ?_
          refine L.val rfl rfl (R.mv rfl) ?_
          refine L.pass rfl rfl ?_
          refine L.pass rfl rfl ?_
          refine L.pass rfl rfl ?_
          refine L.pass rfl rfl ?_
          first | refine L.val rfl rfl (R.pickT rfl rfl) ?_ | refine L.val rfl rfl (R.pickF rfl rfl) ?_
          refine L.val rfl rfl (R.mv rfl) ?_
          refine L.pass rfl rfl ?_
          refine L.pass rfl rfl ?_
          refine L.pass rfl rfl ?_
          first | refine L.val rfl rfl (R.pickT rfl rfl) ?_ | refine L.val rfl rfl (R.pickF rfl rfl) ?_
          refine L.val rfl rfl (R.mv rfl) ?_
          refine L.pass rfl rfl ?_
          refine L.pass rfl rfl ?_
          refine L.pass rfl rfl ?_
          refine L.pass rfl rfl ?_
          first | refine L.val rfl rfl (R.pickT rfl rfl) ?_ | refine L.val rfl rfl (R.pickF rfl rfl) ?_
          refine L.val rfl rfl (R.as rfl) ?_
          refine L.nil ?_
          refine N.seq ?_
          refine G.ret1 rfl rfl ?_
          first
            | exact ⟨congrArg Value.bool (by rw [decide_eq_decide]; unfold okC; omega), E⟩
            | exact ⟨congrArg Value.bool (by rw [eq_comm, decide_eq_false_iff_not]; unfold okC; omega), E⟩
      · refine L.pass rfl rfl ?_
        refine L.pass rfl rfl ?_
        refine L.pass rfl rfl ?_
        first | refine L.val rfl rfl (R.pickT rfl rfl) ?_ | refine L.val rfl rfl (R.pickF rfl rfl) ?_
        refine L.val rfl rfl (R.mv rfl) ?_
        refine L.pass rfl rfl ?_
        refine L.pass rfl rfl ?_
        refine L.pass rfl rfl ?_
        refine L.pass rfl rfl ?_
        refine L.pass rfl rfl ?_
        refine L.pass rfl rfl ?_
        refine L.pass rfl rfl ?_
        refine L.pass rfl rfl ?_
        first | refine L.val rfl rfl (R.pickT rfl rfl) ?_ | refine L.val rfl rfl (R.pickF rfl rfl) ?_
        refine L.val rfl rfl (R.mv rfl) ?_
        refine L.pass rfl rfl ?_
        refine L.pass rfl rfl ?_
        refine L.pass rfl rfl ?_
        first | refine L.val rfl rfl (R.pickT rfl rfl) ?_ | refine L.val rfl rfl (R.pickF rfl rfl) ?_
        refine L.val rfl rfl (R.mv rfl) ?_
        refine L.pass rfl rfl ?_
        refine L.pass rfl rfl ?_
        refine L.pass rfl rfl ?_
        first | refine L.val rfl rfl (R.pickT rfl rfl) ?_ | refine L.val rfl rfl (R.pickF rfl rfl) ?_
        refine L.val rfl rfl (R.mv rfl) ?_
        refine L.pass rfl rfl ?_
        refine L.pass rfl rfl ?_
        refine L.pass rfl rfl ?_
        first | refine L.val rfl rfl (R.pickT rfl rfl) ?_ | refine L.val rfl rfl (R.pickF rfl rfl) ?_
        refine L.val rfl rfl (R.mv rfl) ?_
        refine L.pass rfl rfl ?_
        refine L.pass rfl rfl ?_
        refine L.pass rfl rfl ?_
        first | refine L.val rfl rfl (R.pickT rfl rfl) ?_ | refine L.val rfl rfl (R.pickF rfl rfl) ?_
        refine L.val rfl rfl (R.mv rfl) ?_
        refine L.pass rfl rfl ?_
        refine L.pass rfl rfl ?_
        refine L.pass rfl rfl ?_
        first | refine L.val rfl rfl (R.pickT rfl rfl) ?_ | refine L.val rfl rfl (R.pickF rfl rfl) ?_
        refine L.val rfl rfl (R.mv rfl) ?_
        refine L.pass rfl rfl ?_
        refine L.pass rfl rfl ?_
        refine L.pass rfl rfl ?_
        refine L.pass rfl rfl ?_
        first | refine L.val rfl rfl (R.pickT rfl rfl) ?_ | refine L.val rfl rfl (R.pickF rfl rfl) ?_
        refine L.val rfl rfl (R.mv rfl) ?_
        refine L.pass rfl rfl ?_
        refine L.pass rfl rfl ?_
        refine L.pass rfl rfl ?_
        first | refine L.val rfl rfl (R.pickT rfl rfl) ?_ | refine L.val rfl rfl (R.pickF rfl rfl) ?_
        refine L.val rfl rfl (R.mv rfl) ?_
        refine L.pass rfl rfl ?_
        refine L.pass rfl rfl ?_
        refine L.pass rfl rfl ?_
        refine L.pass rfl rfl ?_
        first | refine L.val rfl rfl (R.pickT rfl rfl) ?_ | refine L.val rfl rfl (R.pickF rfl rfl) ?_
        refine L.val rfl rfl (R.as rfl) ?_
        refine L.nil ?_
        refine N.seq ?_
        refine G.ret1 rfl rfl ?_
        first
          | exact ⟨congrArg Value.bool (by rw [decide_eq_decide]; unfold okC; omega), E⟩
          | exact ⟨congrArg Value.bool (by rw [eq_comm, decide_eq_false_iff_not]; unfold okC; omega), E⟩
    · refine L.pass rfl rfl ?_
      refine L.pass rfl rfl ?_
      refine L.pass rfl rfl ?_
      first | refine L.val rfl rfl (R.pickT rfl rfl) ?_ | refine L.val rfl rfl (R.pickF rfl rfl) ?_
      refine L.val rfl rfl (R.mv rfl) ?_
      refine L.pass rfl rfl ?_
      refine L.pass rfl rfl ?_
      refine L.pass rfl rfl ?_
      first | refine L.val rfl rfl (R.pickT rfl rfl) ?_ | refine L.val rfl rfl (R.pickF rfl rfl) ?_
      refine L.val rfl rfl (R.mv rfl) ?_
      refine L.pass rfl rfl ?_
      refine L.pass rfl rfl ?_
      refine L.pass rfl rfl ?_
      refine L.pass rfl rfl ?_
      refine L.pass rfl rfl ?_
      refine L.pass rfl rfl ?_
      refine L.pass rfl rfl ?_
      refine L.pass rfl rfl ?_
      first | refine L.val rfl rfl (R.pickT rfl rfl) ?_ | refine L.val rfl rfl (R.pickF rfl rfl) ?_
      refine L.val rfl rfl (R.mv rfl) ?_
      refine L.pass rfl rfl ?_
      refine L.pass rfl rfl ?_
      refine L.pass rfl rfl ?_
      first | refine L.val rfl rfl (R.pickT rfl rfl) ?_ | refine L.val rfl rfl (R.pickF rfl rfl) ?_
      refine L.val rfl rfl (R.mv rfl) ?_
      refine L.pass rfl rfl ?_
      refine L.pass rfl rfl ?_
      refine L.pass rfl rfl ?_
      first | refine L.val rfl rfl (R.pickT rfl rfl) ?_ | refine L.val rfl rfl (R.pickF rfl rfl) ?_
      refine L.val rfl rfl (R.mv rfl) ?_
      refine L.pass rfl rfl ?_
      refine L.pass rfl rfl ?_
      refine L.pass rfl rfl ?_
      first | refine L.val rfl rfl (R.pickT rfl rfl) ?_ | refine L.val rfl rfl (R.pickF rfl rfl) ?_
      refine L.val rfl rfl (R.mv rfl) ?_
      refine L.pass rfl rfl ?_
      refine L.pass rfl rfl ?_
      refine L.pass rfl rfl ?_
      first | refine L.val rfl rfl (R.pickT rfl rfl) ?_ | refine L.val rfl rfl (R.pickF rfl rfl) ?_
      refine L.val rfl rfl (R.mv rfl) ?_
      refine L.pass rfl rfl ?_
      refine L.pass rfl rfl ?_
      refine L.pass rfl rfl ?_
      first | refine L.val rfl rfl (R.pickT rfl rfl) ?_ | refine L.val rfl rfl (R.pickF rfl rfl) ?_
      refine L.val rfl rfl (R.mv rfl) ?_
      refine L.pass rfl rfl ?_
      refine L.pass rfl rfl ?_
      refine L.pass rfl rfl ?_
      refine L.pass rfl rfl ?_
      first | refine L.val rfl rfl (R.pickT rfl rfl) ?_ | refine L.val rfl rfl (R.pickF rfl rfl) ?_
      refine L.val rfl rfl (R.mv rfl) ?_
      refine L.pass rfl rfl ?_
      refine L.pass rfl rfl ?_
      refine L.pass rfl rfl ?_
      first | refine L.val rfl rfl (R.pickT rfl rfl) ?_ | refine L.val rfl rfl (R.pickF rfl rfl) ?_
      refine L.val rfl rfl (R.mv rfl) ?_
      refine L.pass rfl rfl ?_
      refine L.pass rfl rfl ?_
      refine L.pass rfl rfl ?_
      refine L.pass rfl rfl ?_
      first | refine L.val rfl rfl (R.pickT rfl rfl) ?_ | refine L.val rfl rfl (R.pickF rfl rfl) ?_
      refine L.val rfl rfl (R.as rfl) ?_
      refine L.nil ?_
      refine N.seq ?_
      refine G.ret1 rfl rfl ?_
      first
        | exact ⟨congrArg Value.bool (by rw [decide_eq_decide]; unfold okC; omega), E⟩
        | exact ⟨congrArg Value.bool (by rw [eq_comm, decide_eq_false_iff_not]; unfold okC; omega), E⟩
  · refine L.pass rfl rfl ?_
    refine L.pass rfl rfl ?_
    refine L.pass rfl rfl ?_
    refine L.pass rfl rfl ?_
    first | refine L.val rfl rfl (R.pickT rfl rfl) ?_ | refine L.val rfl rfl (R.pickF rfl rfl) ?_
    refine L.val rfl rfl (R.mv rfl) ?_
    refine L.pass rfl rfl ?_
    refine L.pass rfl rfl ?_
    refine L.pass rfl rfl ?_
    first | refine L.val rfl rfl (R.pickT rfl rfl) ?_ | refine L.val rfl rfl (R.pickF rfl rfl) ?_
    refine L.val rfl rfl (R.mv rfl) ?_
    refine L.pass rfl rfl ?_
    refine L.pass rfl rfl ?_
    refine L.pass rfl rfl ?_
    first | refine L.val rfl rfl (R.pickT rfl rfl) ?_ | refine L.val rfl rfl (R.pickF rfl rfl) ?_
    refine L.val rfl rfl (R.mv rfl) ?_
    refine L.pass rfl rfl ?_
    refine L.pass rfl rfl ?_
    refine L.pass rfl rfl ?_
    refine L.pass rfl rfl ?_
    refine L.pass rfl rfl ?_
    refine L.pass rfl rfl ?_
    refine L.pass rfl rfl ?_
    refine L.pass rfl rfl ?_
    first | refine L.val rfl rfl (R.pickT rfl rfl) ?_ | refine L.val rfl rfl (R.pickF rfl rfl) ?_
    refine L.val rfl rfl (R.mv rfl) ?_
    refine L.pass rfl rfl ?_
    refine L.pass rfl rfl ?_
    refine L.pass rfl rfl ?_
    first | refine L.val rfl rfl (R.pickT rfl rfl) ?_ | refine L.val rfl rfl (R.pickF rfl rfl) ?_
    refine L.val rfl rfl (R.mv rfl) ?_
    refine L.pass rfl rfl ?_
    refine L.pass rfl rfl ?_
    refine L.pass rfl rfl ?_
    first | refine L.val rfl rfl (R.pickT rfl rfl) ?_ | refine L.val rfl rfl (R.pickF rfl rfl) ?_
    refine L.val rfl rfl (R.mv rfl) ?_
    refine L.pass rfl rfl ?_
    refine L.pass rfl rfl ?_
    refine L.pass rfl rfl ?_
    first | refine L.val rfl rfl (R.pickT rfl rfl) ?_ | refine L.val rfl rfl (R.pickF rfl rfl) ?_
    refine L.val rfl rfl (R.mv rfl) ?_
    refine L.pass rfl rfl ?_
    refine L.pass rfl rfl ?_
    refine L.pass rfl rfl ?_
    first | refine L.val rfl rfl (R.pickT rfl rfl) ?_ | refine L.val rfl rfl (R.pickF rfl rfl) ?_
    refine L.val rfl rfl (R.mv rfl) ?_
    refine L.pass rfl rfl ?_
    refine L.pass rfl rfl ?_
    refine L.pass rfl rfl ?_
    first | refine L.val rfl rfl (R.pickT rfl rfl) ?_ | refine L.val rfl rfl (R.pickF rfl rfl) ?_
    refine L.val rfl rfl (R.mv rfl) ?_
    refine L.pass rfl rfl ?_
    refine L.pass rfl rfl ?_
    refine L.pass rfl rfl ?_
    refine L.pass rfl rfl ?_
    first | refine L.val rfl rfl (R.pickT rfl rfl) ?_ | refine L.val rfl rfl (R.pickF rfl rfl) ?_
    refine L.val rfl rfl (R.mv rfl) ?_
    refine L.pass rfl rfl ?_
    refine L.pass rfl rfl ?_
    refine L.pass rfl rfl ?_
    first | refine L.val rfl rfl (R.pickT rfl rfl) ?_ | refine L.val rfl rfl (R.pickF rfl rfl) ?_
    refine L.val rfl rfl (R.mv rfl) ?_
    refine L.pass rfl rfl ?_
    refine L.pass rfl rfl ?_
    refine L.pass rfl rfl ?_
    refine L.pass rfl rfl ?_
    first | refine L.val rfl rfl (R.pickT rfl rfl) ?_ | refine L.val rfl rfl (R.pickF rfl rfl) ?_
    refine L.val rfl rfl (R.as rfl) ?_
    refine L.nil ?_
    refine N.seq ?_
    refine G.ret1 rfl rfl ?_
    first
      | exact ⟨congrArg Value.bool (by rw [decide_eq_decide]; unfold okC; omega), E⟩
      | exact ⟨congrArg Value.bool (by rw [eq_comm, decide_eq_false_iff_not]; unfold okC; omega), E⟩

def ctlN (c : Ctl) : List Int := [c.2.2.2.2.1, c.2.2.2.2.2.1, c.2.2.2.2.2.2]
def ctlP (c : Ctl) (k : Nat) : List UInt8 := be 1 c.2.2.1.toNat ++ be 4 c.2.2.2.1.toNat ++ (((ctlN c).take k).map fun x => be 8 x.toNat).flatten
theorem ctlP_succ {c : Ctl} {k : Nat} {x : Int} (h : (ctlN c)[k]? = some x) : ctlP c (k + 1) = ctlP c k ++ be 8 x.toNat := by
  unfold ctlP
  rw [List.take_add_one, h, List.map_append, List.flatten_append]
  simp
theorem ctlP_three (c : Ctl) : ctlP c 3 = ctlB c := by simp [ctlP, ctlN, ctlB]
theorem ctlP_len {c : Ctl} {k : Nat} (h : k ≤ 3) : (ctlP c k).length ≤ 29 := by
  rcases k with _ | _ | _ | _ | k <;> simp [ctlP, ctlN, be_length] <;> omega
theorem ctlN_get {c : Ctl} {k : Nat} (h : k < 3) (hc : okC c) : ∃ x, (ctlN c)[k]? = some x ∧ fitsF x 8 = true ∧ -9223372036854775808 ≤ x ∧ x ≤ 9223372036854775807 := by
  obtain ⟨_, _, _, _, ⟨n1, n2⟩, ⟨r1, r2⟩, ⟨l1, l2⟩⟩ := hc
  rcases k with _ | _ | _ | k
  · exact ⟨_, rfl, by rw [fitsF_spec]; exact ⟨by decide, by decide, n1, Int.lt_of_le_of_lt n2 (by decide)⟩, by omega, by omega⟩
  · exact ⟨_, rfl, by rw [fitsF_spec]; exact ⟨by decide, by decide, r1, Int.lt_of_le_of_lt r2 (by decide)⟩, by omega, by omega⟩
  · exact ⟨_, rfl, by rw [fitsF_spec]; exact ⟨by decide, by decide, l1, Int.lt_of_le_of_lt l2 (by decide)⟩, by omega, by omega⟩
  · omega
def IsFr (f : FrV) (v : Value) (w : World) : Prop := ∃ a k, v = .agg (frC f a k) ∧ Bs w a f.2.2.2.2.length f.2.2.2.2 ∧ f.2.2.2.2.length ≤ k
theorem IsFr.keep (f : FrV) : ∀ v w w', Ext [] w w' → IsFr f v w → IsFr f v w' := fun _ _ _ he ⟨a, k, h1, h2, h3⟩ => ⟨a, k, h1, h2.ext0 he, h3⟩
def IsPut (s : Nat) (l : List UInt8) (v : Value) (w : World) : Prop := ∃ a k, v = .slice a l.length k ∧ Bs w a l.length l ∧ l.length ≤ k ∧ ∀ p, a = some p → s ≤ p.block ∧ p.block < w.heap.size
theorem IsPut.keep (s : Nat) (l : List UInt8) : ∀ v w w', Ext [] w w' → IsPut s l v w → IsPut s l v w' := fun _ _ _ he ⟨a, k, h1, h2, h3, h4⟩ => ⟨a, k, h1, h2.ext0 he, h3, fun p hp => ⟨(h4 p hp).1, Nat.lt_of_lt_of_le (h4 p hp).2 he.size⟩⟩
theorem fputN_ok (f : FrV) (a : Option Addr) (c : Nat) (w : World) (hb : Bs w a f.2.2.2.2.length f.2.2.2.2) (hi : okV f) : Meets Try.prog 141 [.agg (frC f a c)] w (fun v w' => IsPut w.heap.size (secV f) v w' ∧ Ext [] w w') := by
  obtain ⟨p, q, i, k, l⟩ := f
  have hv := InV.of hi
  refine (fput_ok p q i k a l.length c l w hb hv.l hv.p hv.q hv.i hv.k).mono ?_
  rintro v w' ⟨h1, h2⟩
  obtain ⟨a1, c1, M1, rfl, e, o, hM⟩ := h1 hi
  have e2 : (frameF p q i k l).length = 64 := secV_length (f := (p, q, i, k, l)) hi
  refine ⟨⟨a1, c1, by show _ = Value.slice a1 (frameF p q i k l).length c1; rw [e2], ?_, ?_, fun p hp => ⟨hM _ (o.mem p hp).1, (o.mem p hp).2⟩⟩, e⟩
  · show Bs w' a1 (frameF p q i k l).length (frameF p q i k l); rw [e2]; exact Bs.of_own o
  · show (frameF p q i k l).length ≤ c1; rw [e2]; exact o.le
theorem cput_ok (c : Ctl) (w : World) : Meets Try.prog 77 [.agg (ctlC c)] w (fun v w' => IsPut w.heap.size (putC c) v w' ∧ Ext [] w w') := by
  refine Meets.enter Try.func77 rfl 41 rfl (Nat.le_of_ble_eq_true rfl) ?_
  have E := Ext.refl [] w
  refine G.seq ?_
  refine G.region ?_
  refine L.do rfl rfl (R.box rfl) ?_
  rintro _ w1 ⟨b1, rfl, hb1, hs1, e1, B1⟩
  replace B1 : Blk w1 b1 (ctlC c) 121 (0, 0) := B1
  replace E := E.trans0 e1
  refine L.val rfl rfl (R.as rfl) ?_
  refine L.nil ?_
  refine N.seq ?_
  refine G.seq ?_
  refine G.seq ?_
  refine G.region ?_
  refine L.val rfl rfl (R.ldBN rfl B1 rfl) ?_
  refine L.callF rfl rfl rfl go76 (cright_ok c _) ?_
  rintro _ w2 ⟨rfl, e2⟩
  replace E := E.trans0 e2
  replace B1 := B1.ext0 e2
  refine L.val rfl rfl (R.not rfl) ?_
  refine L.nil ?_
  refine N.seq ?_
  refine G.condB rfl (fun h0 => ?_) (fun h0 => ?_)
  · have hno : ¬ okC c := by simpa using h0
    refine G.seq ?_
    refine G.region ?_
    refine L.val rfl rfl (R.as rfl) ?_
    refine L.nil ?_
    refine N.seq ?_
    refine G.ret1 rfl rfl ?_
    first
      | (have e0 : putC c = [] := if_neg hno; rw [e0]; exact ⟨⟨none, 0, rfl, Bs.nil _, Nat.le_refl _, (fun p hp => by cases hp)⟩, E⟩)
      | (have e0 : putC c = ctlS c := if_pos hok; rw [e0]; exact ⟨⟨a2, k2, rfl, h2, h3, fun p hp => ⟨Nat.le_trans hEs (h4 p hp).1, (h4 p hp).2⟩⟩, E⟩)
  · have hok : okC c := by simpa using h0
    obtain ⟨⟨o1, o2⟩, ⟨o3, o4⟩, ⟨o5, o6⟩, ⟨o7, o8⟩, ⟨o9, o10⟩, ⟨o11, o12⟩, ⟨o13, o14⟩⟩ := id hok
    have q1 : fitsF c.2.2.1 1 = true := by rw [fitsF_spec]; exact ⟨by decide, by decide, by omega, Int.lt_of_le_of_lt (show c.2.2.1 ≤ 255 by omega) (by decide)⟩
    have q2 : fitsF c.2.2.2.1 4 = true := by rw [fitsF_spec]; exact ⟨by decide, by decide, by omega, Int.lt_of_le_of_lt (show c.2.2.2.1 ≤ 4294967295 by omega) (by decide)⟩
    refine G.skip ?_
    refine N.seq ?_
    refine G.seq ?_
    refine G.region ?_
    refine L.val rfl rfl (R.build rfl rfl) ?_
    refine L.do rfl rfl (R.box rfl) ?_
    rintro _ w3 ⟨b10, rfl, hb10, hs10, e3, B10⟩
    have hb1l := B1.lt
    replace E := E.trans0 e3
    replace B1 := B1.ext0 e3
    have P0 := PenAt.new (E := 5) B10
    have f0 : ∀ g ∈ [b10], b1 < g := by intro g hg; rw [List.mem_singleton.1 hg]; omega
    have hb1w : w.heap.size ≤ b1 := by omega
    refine L.val rfl rfl (R.as rfl) ?_
    refine L.nil ?_
    refine N.seq ?_
    refine G.seq ?_
    refine G.region ?_
    refine L.val rfl rfl (R.mv rfl) ?_
    refine L.val rfl rfl (R.fld rfl) ?_
    refine L.val rfl rfl (R.ldB rfl B1 rfl) ?_
    refine L.callF rfl rfl rfl go140 (number_ok _ _ _ _ 1 _ P0 (by simp [be_length]) (by omega) (by decide)) ?_
    rintro _ w4 ⟨rfl, S1, P1, G1⟩
    rw [q1, if_pos rfl] at P1
    have hbl4 := B1.lt
    replace B1 := B1.ext G1.1 (fun h => by have := f0 _ h; omega)
    replace E := E.fresh G1.1 (fun g hg => by have := f0 _ hg; omega)
    have f1 : ∀ g ∈ S1, b1 < g := G1.freshLt f0 hbl4
    refine L.nil ?_
    refine N.seq ?_
    refine G.seq ?_
    refine G.region ?_
    refine L.val rfl rfl (R.mv rfl) ?_
    refine L.val rfl rfl (R.fld rfl) ?_
    refine L.val rfl rfl (R.ldB rfl B1 rfl) ?_
    refine L.callF rfl rfl rfl go140 (number_ok _ _ _ _ 4 _ P1 (by simp [be_length]) (by omega) (by decide)) ?_
    rintro _ w5 ⟨rfl, S2, P2, G2⟩
    rw [q2, if_pos rfl] at P2
    have hbl5 := B1.lt
    replace B1 := B1.ext G2.1 (fun h => by have := f1 _ h; omega)
    replace E := E.fresh G2.1 (fun g hg => by have := f1 _ hg; omega)
    have f2 : ∀ g ∈ S2, b1 < g := G2.freshLt f1 hbl5
    refine L.nil ?_
    refine N.seq ?_
    refine G.seq ?_
    refine G.seq ?_
    refine G.region ?_
    refine L.val rfl rfl (R.fld rfl) ?_
    refine L.val rfl rfl (R.ldB rfl B1 rfl) ?_
    refine L.val rfl rfl (R.fld rfl) ?_
    refine L.val rfl rfl (R.ldB rfl B1 rfl) ?_
    refine L.val rfl rfl (R.fld rfl) ?_
    refine L.val rfl rfl (R.ldB rfl B1 rfl) ?_
    refine L.val rfl rfl (R.build (cs := #[.int .i64 c.2.2.2.2.1, .int .i64 c.2.2.2.2.2.1, .int .i64 c.2.2.2.2.2.2]) rfl rfl) ?_
    refine L.val rfl rfl (R.mv rfl) ?_
    refine L.nil ?_
    refine N.seq ?_
    refine G.block ?_
    refine G.loop (X := Nat × List Nat) (fun s => [(1, .pointer (some ⟨b1, 0, none⟩)), (3, .pointer (some ⟨b10, 0, none⟩)), (25, .agg #[.int .i64 c.2.2.2.2.1, .int .i64 c.2.2.2.2.2.1, .int .i64 c.2.2.2.2.2.2]), (26, .int .i64 (s.1 : Int))]) (fun s w' => s.1 ≤ 3 ∧ PenAt 228 5 w' b10 (ctlP c s.1) s.2 ∧ (∀ g ∈ s.2, b1 < g) ∧ Blk w' b1 (ctlC c) 121 (0, 0) ∧ Ext [] w w') (fun s => 3 - s.1) ((0, S2)) (Sub.cons rfl (Sub.cons rfl (Sub.cons rfl (Sub.cons rfl (Sub.nil _))))) ⟨by show 0 ≤ 3; decide, by simpa [ctlP] using P2, f2, B1, E⟩ ?_
    rintro ⟨k, Sk⟩ w6 ⟨hk, P2, f2, B1, E⟩
    dsimp only at hk P2 f2
    refine G.sub [(1, .pointer (some ⟨b1, 0, none⟩)), (3, .pointer (some ⟨b10, 0, none⟩)), (25, .agg #[.int .i64 c.2.2.2.2.1, .int .i64 c.2.2.2.2.2.1, .int .i64 c.2.2.2.2.2.2]), (26, .int .i64 (k : Int))] (Sub.cons rfl (Sub.cons rfl (Sub.cons rfl (Sub.cons rfl (Sub.nil _))))) ?_
    refine G.seq ?_
    refine G.region ?_
    refine L.val rfl rfl (R.lss rfl rfl) ?_
    refine L.nil ?_
    refine N.seq ?_
    refine G.seq ?_
    refine G.condP rfl (fun h1 => ?_) (fun h1 => ?_)
    · have hk3 : k < 3 := by omega
      obtain ⟨x, hx, q3, x1, x2⟩ := ctlN_get hk3 hok
      have hpl := ctlP_len (c := c) hk
      refine G.skip ?_
      refine N.seq ?_
      refine G.seq ?_
      refine G.block ?_
      refine G.seq ?_
      refine G.region ?_
      have h9 : ((ctlN c).map (Value.int .i64))[k]? = some (.int .i64 x) := by rw [List.getElem?_map, hx]; rfl
      have hix : (#[.int .i64 c.2.2.2.2.1, .int .i64 c.2.2.2.2.2.1, .int .i64 c.2.2.2.2.2.2] : Array Value)[((k : Nat) : Int).toNat]? = some (.int .i64 x) := by rw [Int.toNat_natCast, List.getElem?_toArray]; exact h9
      refine L.val rfl rfl (R.idxV (v := .int .i64 x) rfl rfl (by omega) (by omega) hix) ?_
      refine L.val rfl rfl (R.as rfl) ?_
      refine L.nil ?_
      refine N.seq ?_
      refine G.region ?_
      refine L.val rfl rfl (R.mv rfl) ?_
      refine L.val rfl rfl (R.mv rfl) ?_
      refine L.callF rfl rfl rfl go140 (number_ok _ _ _ _ 8 _ P2 (by omega) ⟨x1, x2⟩ (by decide)) ?_
      rintro _ w7 ⟨rfl, S3, P3, G3⟩
      rw [q3, if_pos rfl] at P3
      have hbl7 := B1.lt
      replace B1 := B1.ext G3.1 (fun h => by have := f2 _ h; omega)
      replace E := E.fresh G3.1 (fun g hg => by have := f2 _ hg; omega)
      have f3 : ∀ g ∈ S3, b1 < g := G3.freshLt f2 hbl7
      refine L.nil ?_
      refine N.block ?_
      refine N.seq ?_
      refine G.region ?_
      refine L.val rfl rfl (R.add rfl rfl (by omega)) ?_
      refine L.val rfl rfl (R.mv rfl) ?_
      refine L.nil ?_
      exact N.again (k + 1, S3) (by show 3 - (k + 1) < 3 - k; omega) (Sub.cons rfl (Sub.cons rfl (Sub.cons rfl (Sub.cons rfl (Sub.nil _))))) ⟨by show k + 1 ≤ 3; omega, by rw [ctlP_succ hx]; exact P3, f3, B1, E⟩
    · obtain rfl : k = 3 := by omega
      rw [ctlP_three] at P2
      have hfo := ctlFr_ok hok
      have hb29 := ctlB_length c
      have hEs := E.size
      refine G.exit _ rfl ?_
      refine N.seq ?_
      refine G.seq ?_
      refine G.quiet (by decide +kernel) rfl ?_
      refine Q.val rfl rfl rfl rfl (fun w7 hE => R.fld rfl) ?_
      refine Q.val rfl rfl rfl rfl (fun w7 hE => R.ldB rfl (B1.ext0 hE) rfl) ?_
      refine Q.val rfl rfl rfl rfl (fun w7 hE => R.fld rfl) ?_
      refine Q.val rfl rfl rfl rfl (fun w7 hE => R.ldB rfl (B1.ext0 hE) rfl) ?_
      refine Q.val rfl rfl rfl rfl (fun w7 hE => R.mv rfl) ?_
      refine Q.callR (A := IsBs (ctlB c).length (ctlB c)) (IsBs.keep _ _) rfl rfl go142 (fun w7 hE => ⟨_, rfl, (bytes_ok _ _ _ _ (P2.ext0 hE) (by omega)).mono (fun _ _ h => by obtain ⟨x9, y9, M9, rfl, e9, ho9, _⟩ := h; exact ⟨⟨x9, y9, rfl, ho9.le, Bs.of_own ho9⟩, e9⟩)⟩) ?_
      refine Q.valR (A := IsFr (ctlFr c)) (IsFr.keep _) rfl rfl rfl (fun w7 hE => fun v hv => by obtain ⟨x1, y1, rfl, hxy, hv⟩ := hv; exact ⟨_, R.build (cs := frC (ctlFr c) x1 y1) rfl rfl, x1, y1, rfl, hv, hxy⟩) ?_
      refine Q.callR (A := IsPut w6.heap.size (ctlS c)) (IsPut.keep _ _) rfl rfl go141 (fun w7 hE => fun v hv => by obtain ⟨x1, y1, rfl, hv, hxy⟩ := hv; exact ⟨_, rfl, (fputN_ok _ _ _ _ hv hfo).mono (fun _ _ h => by obtain ⟨⟨x2, y2, rfl, h2, h3, h4⟩, e⟩ := h; exact ⟨⟨x2, y2, rfl, h2, h3, fun p hp => ⟨Nat.le_trans hE.size (h4 p hp).1, (h4 p hp).2⟩⟩, e⟩)⟩) ?_
      refine Q.valR (A := IsPut w6.heap.size (ctlS c)) (IsPut.keep _ _) rfl rfl rfl (fun w7 hE => fun v hv => ⟨v, R.as rfl, hv⟩) ?_
      refine Q.nil (fun w7 e7 => ?_)
      intro v2 hv2 v40 _ v39 _ v38 _
      obtain ⟨a2, k2, rfl, h2, h3, h4⟩ := hv2
      replace E := E.trans0 e7
      refine N.seq ?_
      refine G.ret1 rfl rfl ?_
      first
        | (have e0 : putC c = [] := if_neg hno; rw [e0]; exact ⟨⟨none, 0, rfl, Bs.nil _, Nat.le_refl _, (fun p hp => by cases hp)⟩, E⟩)
        | (have e0 : putC c = ctlS c := if_pos hok; rw [e0]; exact ⟨⟨a2, k2, rfl, h2, h3, fun p hp => ⟨Nat.le_trans hEs (h4 p hp).1, (h4 p hp).2⟩⟩, E⟩)

theorem rcput_ok (c : Ctl) (w : World) (hok : okC c) : Meets Try.prog 73 [.agg (ctlC c)] w (fun v w' => v = .string (str (ctlS c)) ∧ Ext [] w w') := by
  refine Meets.enter Try.func73 rfl 31 rfl (Nat.le_of_ble_eq_true rfl) ?_
  have E := Ext.refl [] w
  obtain ⟨⟨o1, o2⟩, ⟨o3, o4⟩, ⟨o5, o6⟩, ⟨o7, o8⟩, ⟨o9, o10⟩, ⟨o11, o12⟩, ⟨o13, o14⟩⟩ := id hok
  refine G.seq ?_
  refine G.region ?_
  refine L.do rfl rfl (R.box rfl) ?_
  rintro _ w1 ⟨b1, rfl, hb1, hs1, e1, B1⟩
  replace B1 : Blk w1 b1 (ctlC c) 121 (0, 0) := B1
  replace E := E.trans0 e1
  refine L.val rfl rfl (R.as rfl) ?_
  refine L.nil ?_
  refine N.seq ?_
  refine G.seq ?_
  refine G.quiet (by decide +kernel) rfl ?_
  refine Q.val rfl rfl rfl rfl (fun w2 hE => R.fld rfl) ?_
  refine Q.val rfl rfl rfl rfl (fun w2 hE => R.ldB rfl (B1.ext0 hE) rfl) ?_
  refine Q.be 5 rfl (congrArg (Value.int .i64) (show c.2.2.1 = ((c.2.2.1.toNat : Nat) : Int) by omega)) ?_
  refine Q.call (.string (str (be 1 c.2.2.1.toNat))) rfl rfl rfl go130 (fun w2 hE => ⟨_, rfl, (refnumber_ok 1 _ _ (by decide) (by omega)).mono (fun _ _ h => h)⟩) ?_
  refine Q.val rfl rfl rfl rfl (fun w2 hE => R.fld rfl) ?_
  refine Q.val rfl rfl rfl rfl (fun w2 hE => R.ldB rfl (B1.ext0 hE) rfl) ?_
  refine Q.be 8 rfl (congrArg (Value.int .i64) (show c.2.2.2.1 = ((c.2.2.2.1.toNat : Nat) : Int) by omega)) ?_
  refine Q.call (.string (str (be 4 c.2.2.2.1.toNat))) rfl rfl rfl go130 (fun w2 hE => ⟨_, rfl, (refnumber_ok 4 _ _ (by decide) (by omega)).mono (fun _ _ h => h)⟩) ?_
  refine Q.val rfl rfl rfl rfl (fun w2 hE => R.addStr rfl rfl (by simp [be_length])) ?_
  refine Q.val rfl rfl rfl rfl (fun w2 hE => R.fld rfl) ?_
  refine Q.val rfl rfl rfl rfl (fun w2 hE => R.ldB rfl (B1.ext0 hE) rfl) ?_
  refine Q.be 12 rfl (congrArg (Value.int .i64) (show c.2.2.2.2.1 = ((c.2.2.2.2.1.toNat : Nat) : Int) by omega)) ?_
  refine Q.call (.string (str (be 8 c.2.2.2.2.1.toNat))) rfl rfl rfl go130 (fun w2 hE => ⟨_, rfl, (refnumber_ok 8 _ _ (by decide) (by omega)).mono (fun _ _ h => h)⟩) ?_
  refine Q.val rfl rfl rfl rfl (fun w2 hE => R.addStr rfl rfl (by simp [be_length])) ?_
  refine Q.val rfl rfl rfl rfl (fun w2 hE => R.fld rfl) ?_
  refine Q.val rfl rfl rfl rfl (fun w2 hE => R.ldB rfl (B1.ext0 hE) rfl) ?_
  refine Q.be 16 rfl (congrArg (Value.int .i64) (show c.2.2.2.2.2.1 = ((c.2.2.2.2.2.1.toNat : Nat) : Int) by omega)) ?_
  refine Q.call (.string (str (be 8 c.2.2.2.2.2.1.toNat))) rfl rfl rfl go130 (fun w2 hE => ⟨_, rfl, (refnumber_ok 8 _ _ (by decide) (by omega)).mono (fun _ _ h => h)⟩) ?_
  refine Q.val rfl rfl rfl rfl (fun w2 hE => R.addStr rfl rfl (by simp [be_length])) ?_
  refine Q.val rfl rfl rfl rfl (fun w2 hE => R.fld rfl) ?_
  refine Q.val rfl rfl rfl rfl (fun w2 hE => R.ldB rfl (B1.ext0 hE) rfl) ?_
  refine Q.be 20 rfl (congrArg (Value.int .i64) (show c.2.2.2.2.2.2 = ((c.2.2.2.2.2.2.toNat : Nat) : Int) by omega)) ?_
  refine Q.call (.string (str (be 8 c.2.2.2.2.2.2.toNat))) rfl rfl rfl go130 (fun w2 hE => ⟨_, rfl, (refnumber_ok 8 _ _ (by decide) (by omega)).mono (fun _ _ h => h)⟩) ?_
  refine Q.val rfl rfl rfl rfl (fun w2 hE => R.addStr rfl rfl (by simp [be_length])) ?_
  refine Q.be 22 rfl (show _ = Value.string (str (ctlB c)) by simp [ctlB]) ?_
  refine Q.val rfl rfl rfl rfl (fun w2 hE => R.as rfl) ?_
  refine Q.nil (fun w2 e2 => ?_)
  replace E := E.trans0 e2
  replace B1 := B1.ext0 e2
  refine N.seq ?_
  refine G.seq ?_
  refine G.region ?_
  refine L.val rfl rfl (R.fld rfl) ?_
  refine L.val rfl rfl (R.ldB rfl B1 rfl) ?_
  refine L.val rfl rfl (R.fld rfl) ?_
  refine L.val rfl rfl (R.ldB rfl B1 rfl) ?_
  refine L.val rfl rfl (R.mv rfl) ?_
  refine L.do rfl rfl (R.strBytes rfl) ?_
  rintro _ w4 ⟨b28, k28, rfl, hb28, hs28, hk28, e4, C28⟩
  replace E := E.trans0 e4
  refine L.val rfl rfl (R.build (cs := frC (ctlFr c) (some ⟨b28, 0, none⟩) k28) rfl rfl) ?_
  refine L.callF rfl rfl rfl go131 (rputV_ok (ctlFr c) _ _ _ (ctlFr_ok hok) (Bs.of_cells C28 rfl) hk28) ?_
  rintro _ w5 ⟨rfl, e5⟩
  replace E := E.trans0 e5
  refine L.val rfl rfl (R.as rfl) ?_
  refine L.nil ?_
  refine N.seq ?_
  refine G.ret1 rfl rfl ?_
  exact ⟨rfl, E⟩

end Go.Proofs.Ythpolibakkmmeaa
