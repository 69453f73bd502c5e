/-
  Texts of this claim, put together.
-/
import Derived.Test.YthpolibakkmmeaaCtlCLz2
/-
  The walks of package control.
-/
set_option linter.unusedVariables false
set_option linter.unusedSimpArgs false
namespace Go.Proofs.Ythpolibakkmmeaa
open Go Brv Brv.Crc Brv.Pack Brv.Frame Brv.Image Brv.Dev Brv.Control
theorem cbetween_ok (x y z : Int) (w : World) : Meets Try.prog 139 [.int .i64 x, .int .i64 y, .int .i64 z] w (fun v w' => v = .bool (decide (y ≤ x ∧ x ≤ z)) ∧ w' = w) := by
  refine Meets.enter Try.func139 rfl 15 rfl (Nat.le_of_ble_eq_true rfl) ?_
  refine G.seq ?_
  refine G.region ?_
  refine L.val rfl rfl (R.as rfl) ?_
  refine L.nil ?_
  refine N.seq ?_
  refine G.seq ?_
  refine G.region ?_
  refine L.val rfl rfl (R.mv rfl) ?_
  refine L.val rfl rfl (R.mv rfl) ?_
  refine L.val rfl rfl (R.geq rfl rfl) ?_
  refine L.val rfl rfl (R.mv rfl) ?_
  refine L.caseP 10 rfl (fun hg1_3 => ?_) (fun hg1_3 => ?_)
  · refine L.val rfl rfl (R.mv rfl) ?_
    refine L.val rfl rfl (R.mv rfl) ?_
    refine L.val rfl rfl (R.leq rfl rfl) ?_
    first | refine L.val rfl rfl (R.pickT rfl rfl) ?_ | refine L.val rfl rfl (R.pickF rfl rfl) ?_
    refine L.val rfl rfl (R.as rfl) ?_
    refine L.nil ?_
    refine N.seq ?_
    refine G.ret1 rfl rfl ?_
    exact ⟨congrArg Value.bool (by rw [decide_eq_decide]; exact ⟨fun h => ⟨hg1_3, h⟩, fun h => h.2⟩), rfl⟩
  · refine L.pass rfl rfl ?_
    refine L.pass rfl rfl ?_
    refine L.pass rfl rfl ?_
    first | refine L.val rfl rfl (R.pickT rfl rfl) ?_ | refine L.val rfl rfl (R.pickF rfl rfl) ?_
    refine L.val rfl rfl (R.as rfl) ?_
    refine L.nil ?_
    refine N.seq ?_
    refine G.ret1 rfl rfl ?_
    exact ⟨congrArg Value.bool (by rw [eq_comm, decide_eq_false_iff_not]; exact fun h => hg1_3 h.1), rfl⟩

theorem cright_ok (c : Ctl) (w : World) : Meets Try.prog 76 [.agg (ctlC c)] w (fun v w' => v = .bool (decide (okC c)) ∧ Ext [] w w') := by
  refine Meets.enter Try.func76 rfl 36 rfl (Nat.le_of_ble_eq_true rfl) ?_
  have E := Ext.refl [] w
  refine G.seq ?_
  refine G.region ?_
  refine L.do rfl rfl (R.box rfl) ?_
  rintro _ w1 ⟨b1, rfl, hb1, hs1, e1, B1⟩
  replace B1 : Blk w1 b1 (ctlC c) 121 (0, 0) := B1
  replace E := E.trans0 e1
  refine L.val rfl rfl (R.as rfl) ?_
  refine L.nil ?_
  refine N.seq ?_
  refine G.seq ?_
  refine G.region ?_
  refine L.val rfl rfl (R.fld rfl) ?_
  refine L.val rfl rfl (R.ldB rfl (by assumption) (by rfl)) ?_
  refine L.callF rfl rfl rfl go139 (cbetween_ok _ _ _ _) ?_
  rintro _ _ ⟨rfl, hw⟩
  obtain rfl := hw.symm
  refine L.val rfl rfl (R.mv rfl) ?_
  refine L.caseP 6 rfl (fun hg1_3 => ?_) (fun hg1_3 => ?_)
  · refine L.val rfl rfl (R.fld rfl) ?_
    refine L.val rfl rfl (R.ldB rfl (by assumption) (by rfl)) ?_
    refine L.callF rfl rfl rfl go139 (cbetween_ok _ _ _ _) ?_
    rintro _ _ ⟨rfl, hw⟩
    obtain rfl := hw.symm
    first | refine L.val rfl rfl (R.pickT rfl rfl) ?_ | refine L.val rfl rfl (R.pickF rfl rfl) ?_
    refine L.val rfl rfl (R.mv rfl) ?_
    refine L.caseP 11 rfl (fun hg1_8 => ?_) (fun hg1_8 => ?_)
    · refine L.val rfl rfl (R.fld rfl) ?_
      refine L.val rfl rfl (R.ldB rfl (by assumption) (by rfl)) ?_
      refine L.callF rfl rfl rfl go139 (cbetween_ok _ _ _ _) ?_
      rintro _ _ ⟨rfl, hw⟩
      obtain rfl := hw.symm
      first | refine L.val rfl rfl (R.pickT rfl rfl) ?_ | refine L.val rfl rfl (R.pickF rfl rfl) ?_
      refine L.val rfl rfl (R.mv rfl) ?_
      refine L.caseP 16 rfl (fun hg1_13 => ?_) (fun hg1_13 => ?_)
      · refine L.val rfl rfl (R.fld rfl) ?_
        refine L.val rfl rfl (R.ldB rfl (by assumption) (by rfl)) ?_
        refine L.callF rfl rfl rfl go139 (cbetween_ok _ _ _ _) ?_
        rintro _ _ ⟨rfl, hw⟩
        obtain rfl := hw.symm
        first | refine L.val rfl rfl (R.pickT rfl rfl) ?_ | refine L.val rfl rfl (R.pickF rfl rfl) ?_
        refine L.val rfl rfl (R.mv rfl) ?_
        refine L.caseP 21 rfl (fun hg1_18 => ?_) (fun hg1_18 => ?_)
        · refine L.val rfl rfl (R.fld rfl) ?_
          refine L.val rfl rfl (R.ldB rfl (by assumption) (by rfl)) ?_
          refine L.callF rfl rfl rfl go139 (cbetween_ok _ _ _ _) ?_
          rintro _ _ ⟨rfl, hw⟩
          obtain rfl := hw.symm
          first | refine L.val rfl rfl (R.pickT rfl rfl) ?_ | refine L.val rfl rfl (R.pickF rfl rfl) ?_
          refine L.val rfl rfl (R.mv rfl) ?_
          refine L.caseP 26 rfl (fun hg1_23 => ?_) (fun hg1_23 => ?_)
          · refine L.val rfl rfl (R.fld rfl) ?_
            refine L.val rfl rfl (R.ldB rfl (by assumption) (by rfl)) ?_
            refine L.callF rfl rfl rfl go139 (cbetween_ok _ _ _ _) ?_
            rintro _ _ ⟨rfl, hw⟩
            obtain rfl := hw.symm
            first | refine L.val rfl rfl (R.pickT rfl rfl) ?_ | refine L.val rfl rfl (R.pickF rfl rfl) ?_
            refine L.val rfl rfl (R.mv rfl) ?_
            refine L.caseP 31 rfl (fun hg1_28 => ?_) (fun hg1_28 => ?_)
            · refine L.val rfl rfl (R.fld rfl) ?_
              refine L.val rfl rfl (R.ldB rfl (by assumption) (by rfl)) ?_
              refine L.callF rfl rfl rfl go139 (cbetween_ok _ _ _ _) ?_
              rintro _ _ ⟨rfl, hw⟩
              obtain rfl := hw.symm
              first | refine L.val rfl rfl (R.pickT rfl rfl) ?_ | refine L.val rfl rfl (R.pickF rfl rfl) ?_
              refine L.val rfl rfl (R.as rfl) ?_
              refine L.nil ?_
              refine N.seq ?_
              refine G.ret1 rfl rfl ?_
              first
                | exact ⟨congrArg Value.bool (by rw [decide_eq_decide]; unfold okC; omega), E⟩
                | exact ⟨congrArg Value.bool (by rw [eq_comm, decide_eq_false_iff_not]; unfold okC; omega), E⟩
            · refine L.pass rfl rfl ?_
              refine L.pass rfl rfl ?_
              refine L.pass rfl rfl ?_
              first | refine L.val rfl rfl (R.pickT rfl rfl) ?_ | refine L.val rfl rfl (R.pickF rfl rfl) ?_
              refine L.val rfl rfl (R.as rfl) ?_
              refine L.nil ?_
              refine N.seq ?_
              refine G.ret1 rfl rfl ?_
              first
                | exact ⟨congrArg Value.bool (by rw [decide_eq_decide]; unfold okC; omega), E⟩
                | exact ⟨congrArg Value.bool (by rw [eq_comm, decide_eq_false_iff_not]; unfold okC; omega), E⟩
          · refine L.pass rfl rfl ?_
            refine L.pass rfl rfl ?_
            refine L.pass rfl rfl ?_
            first | refine L.val rfl rfl (R.pickT rfl rfl) ?_ | refine L.val rfl rfl (R.pickF rfl rfl) ?_
            refine L.val rfl rfl (R.mv rfl) ?_
            refine L.pass rfl rfl ?_
            refine L.pass rfl rfl ?_
            refine L.pass rfl rfl ?_
            first | refine L.val rfl rfl (R.pickT rfl rfl) ?_ | refine L.val rfl rfl (R.pickF rfl rfl) ?_
            refine L.val rfl rfl (R.as rfl) ?_
            refine L.nil ?_
            refine N.seq ?_
            refine G.ret1 rfl rfl ?_
            first
              | exact ⟨congrArg Value.bool (by rw [decide_eq_decide]; unfold okC; omega), E⟩
              | exact ⟨congrArg Value.bool (by rw [eq_comm, decide_eq_false_iff_not]; unfold okC; omega), E⟩
        · refine L.pass rfl rfl ?_
          refine L.pass rfl rfl ?_
          refine L.pass rfl rfl ?_
          first | refine L.val rfl rfl (R.pickT rfl rfl) ?_ | refine L.val rfl rfl (R.pickF rfl rfl) ?_
          refine L.val rfl rfl (R.mv rfl) ?_
          refine L.pass rfl rfl ?_
          refine L.pass rfl rfl ?_
          refine L.pass rfl rfl ?_
          first | refine L.val rfl rfl (R.pickT rfl rfl) ?_ | refine L.val rfl rfl (R.pickF rfl rfl) ?_
          refine L.val rfl rfl (R.mv rfl) ?_
          refine L.pass rfl rfl ?_
          refine L.pass rfl rfl ?_
          refine L.pass rfl rfl ?_
          first | refine L.val rfl rfl (R.pickT rfl rfl) ?_ | refine L.val rfl rfl (R.pickF rfl rfl) ?_
          refine L.val rfl rfl (R.as rfl) ?_
          refine L.nil ?_
          refine N.seq ?_
          refine G.ret1 rfl rfl ?_
          first
            | exact ⟨congrArg Value.bool (by rw [decide_eq_decide]; unfold okC; omega), E⟩
            | exact ⟨congrArg Value.bool (by rw [eq_comm, decide_eq_false_iff_not]; unfold okC; omega), E⟩
      · refine L.pass rfl rfl ?_
        refine L.pass rfl rfl ?_
        refine L.pass rfl rfl ?_
        first | refine L.val rfl rfl (R.pickT rfl rfl) ?_ | refine L.val rfl rfl (R.pickF rfl rfl) ?_
        refine L.val rfl rfl (R.mv rfl) ?_
        refine L.pass rfl rfl ?_
        refine L.pass rfl rfl ?_
        refine L.pass rfl rfl ?_
        first | refine L.val rfl rfl (R.pickT rfl rfl) ?_ | refine L.val rfl rfl (R.pickF rfl rfl) ?_
        refine L.val rfl rfl (R.mv rfl) ?_
        refine L.pass rfl rfl ?_
        refine L.pass rfl rfl ?_
        refine L.pass rfl rfl ?_
        first | refine L.val rfl rfl (R.pickT rfl rfl) ?_ | refine L.val rfl rfl (R.pickF rfl rfl) ?_
        refine L.val rfl rfl (R.mv rfl) ?_
        refine L.pass rfl rfl ?_
        refine L.pass rfl rfl ?_
        refine L.pass rfl rfl ?_
        first | refine L.val rfl rfl (R.pickT rfl rfl) ?_ | refine L.val rfl rfl (R.pickF rfl rfl) ?_
        refine L.val rfl rfl (R.as rfl) ?_
        refine L.nil ?_
        refine N.seq ?_
        refine G.ret1 rfl rfl ?_
        first
          | exact ⟨congrArg Value.bool (by rw [decide_eq_decide]; unfold okC; omega), E⟩
          | exact ⟨congrArg Value.bool (by rw [eq_comm, decide_eq_false_iff_not]; unfold okC; omega), E⟩
    · refine L.pass rfl rfl ?_
      refine L.pass rfl rfl ?_
      refine L.pass rfl rfl ?_
      first | refine L.val rfl rfl (R.pickT rfl rfl) ?_ | refine L.val rfl rfl (R.pickF rfl rfl) ?_
      refine L.val rfl rfl (R.mv rfl) ?_
      refine L.pass rfl rfl ?_
      refine L.pass rfl rfl ?_
      refine L.pass rfl rfl ?_
      first | refine L.val rfl rfl (R.pickT rfl rfl) ?_ | refine L.val rfl rfl (R.pickF rfl rfl) ?_
      refine L.val rfl rfl (R.mv rfl) ?_
      refine L.pass rfl rfl ?_
      refine L.pass rfl rfl ?_
      refine L.pass rfl rfl ?_
      first | refine L.val rfl rfl (R.pickT rfl rfl) ?_ | refine L.val rfl rfl (R.pickF rfl rfl) ?_
      refine L.val rfl rfl (R.mv rfl) ?_
      refine L.pass rfl rfl ?_
      refine L.pass rfl rfl ?_
      refine L.pass rfl rfl ?_
      first | refine L.val rfl rfl (R.pickT rfl rfl) ?_ | refine L.val rfl rfl (R.pickF rfl rfl) ?_
      refine L.val rfl rfl (R.mv rfl) ?_
      refine L.pass rfl rfl ?_
      refine L.pass rfl rfl ?_
      refine L.pass rfl rfl ?_
      first | refine L.val rfl rfl (R.pickT rfl rfl) ?_ | refine L.val rfl rfl (R.pickF rfl rfl) ?_
      refine L.val rfl rfl (R.as rfl) ?_
      refine L.nil ?_
      refine N.seq ?_
      refine G.ret1 rfl rfl ?_
      first
        | exact ⟨congrArg Value.bool (by rw [decide_eq_decide]; unfold okC; omega), E⟩
        | exact ⟨congrArg Value.bool (by rw [eq_comm, decide_eq_false_iff_not]; unfold okC; omega), E⟩
  · refine L.pass rfl rfl ?_
    refine L.pass rfl rfl ?_
    refine L.pass rfl rfl ?_
    first | refine L.val rfl rfl (R.pickT rfl rfl) ?_ | refine L.val rfl rfl (R.pickF rfl rfl) ?_
    refine L.val rfl rfl (R.mv rfl) ?_
    refine L.pass rfl rfl ?_
    refine L.pass rfl rfl ?_
    refine L.pass rfl rfl ?_
    first | refine L.val rfl rfl (R.pickT rfl rfl) ?_ | refine L.val rfl rfl (R.pickF rfl rfl) ?_
    refine L.val rfl rfl (R.mv rfl) ?_
    refine L.pass rfl rfl ?_
    refine L.pass rfl rfl ?_
    refine L.pass rfl rfl ?_
    first | refine L.val rfl rfl (R.pickT rfl rfl) ?_ | refine L.val rfl rfl (R.pickF rfl rfl) ?_
    refine L.val rfl rfl (R.mv rfl) ?_
    refine L.pass rfl rfl ?_
    refine L.pass rfl rfl ?_
    refine L.pass rfl rfl ?_
    first | refine L.val rfl rfl (R.pickT rfl rfl) ?_ | refine L.val rfl rfl (R.pickF rfl rfl) ?_
    refine L.val rfl rfl (R.mv rfl) ?_
    refine L.pass rfl rfl ?_
    refine L.pass rfl rfl ?_
    refine L.pass rfl rfl ?_
    first | refine L.val rfl rfl (R.pickT rfl rfl) ?_ | refine L.val rfl rfl (R.pickF rfl rfl) ?_
    refine L.val rfl rfl (R.mv rfl) ?_
    refine L.pass rfl rfl ?_
    refine L.pass rfl rfl ?_
    refine L.pass rfl rfl ?_
    first | refine L.val rfl rfl (R.pickT rfl rfl) ?_ | refine L.val rfl rfl (R.pickF rfl rfl) ?_
    refine L.val rfl rfl (R.as rfl) ?_
    refine L.nil ?_
    refine N.seq ?_
    refine G.ret1 rfl rfl ?_
    first
      | exact ⟨congrArg Value.bool (by rw [decide_eq_decide]; unfold okC; omega), E⟩
      | exact ⟨congrArg Value.bool (by rw [eq_comm, decide_eq_false_iff_not]; unfold okC; omega), E⟩

theorem rcright_ok (c : Ctl) (w : World) : Meets Try.prog 72 [.agg (ctlC c)] w (fun v w' => v = .bool (decide (okC c)) ∧ Ext [] w w') := by
  refine Meets.enter Try.func72 rfl 75 rfl (Nat.le_of_ble_eq_true rfl) ?_
  have E := Ext.refl [] w
  refine G.seq ?_
  refine G.region ?_
  refine L.do rfl rfl (R.box rfl) ?_
  rintro _ w1 ⟨b1, rfl, hb1, hs1, e1, B1⟩
  replace B1 : Blk w1 b1 (ctlC c) 121 (0, 0) := B1
  replace E := E.trans0 e1
  refine L.val rfl rfl (R.as rfl) ?_
  refine L.nil ?_
  refine N.seq ?_
  refine G.seq ?_
  refine G.region ?_
  refine L.val rfl rfl (R.as rfl) ?_
  refine L.nil ?_
  refine N.seq ?_
  refine G.seq ?_
  refine G.region ?_
  refine L.val rfl rfl (R.fld rfl) ?_
  refine L.val rfl rfl (R.ldB rfl (by assumption) (by rfl)) ?_
  refine L.val rfl rfl (R.geq rfl rfl) ?_
  refine L.val rfl rfl (R.mv rfl) ?_
  refine L.caseP 7 rfl (fun hg2_3 => ?_) (fun hg2_3 => ?_)
  · refine L.val rfl rfl (R.fld rfl) ?_
    refine L.val rfl rfl (R.ldB rfl (by assumption) (by rfl)) ?_
    refine L.val rfl rfl (R.mv rfl) ?_
    refine L.val rfl rfl (R.leq rfl rfl) ?_
    first | refine L.val rfl rfl (R.pickT rfl rfl) ?_ | refine L.val rfl rfl (R.pickF rfl rfl) ?_
    refine L.val rfl rfl (R.mv rfl) ?_
    refine L.caseP 13 rfl (fun hg2_9 => ?_) (fun hg2_9 => ?_)
    · refine L.val rfl rfl (R.fld rfl) ?_
      refine L.val rfl rfl (R.ldB rfl (by assumption) (by rfl)) ?_
      refine L.val rfl rfl (R.geq rfl rfl) ?_
      first | refine L.val rfl rfl (R.pickT rfl rfl) ?_ | refine L.val rfl rfl (R.pickF rfl rfl) ?_
      refine L.val rfl rfl (R.mv rfl) ?_
      refine L.caseP 18 rfl (fun hg2_14 => ?_) (fun hg2_14 => ?_)
      · refine L.val rfl rfl (R.fld rfl) ?_
        refine L.val rfl rfl (R.ldB rfl (by assumption) (by rfl)) ?_
        refine L.val rfl rfl (R.leq rfl rfl) ?_
        first | refine L.val rfl rfl (R.pickT rfl rfl) ?_ | refine L.val rfl rfl (R.pickF rfl rfl) ?_
        refine L.val rfl rfl (R.mv rfl) ?_
        refine L.caseP 23 rfl (fun hg2_19 => ?_) (fun hg2_19 => ?_)
        · refine L.val rfl rfl (R.fld rfl) ?_
          refine L.val rfl rfl (R.ldB rfl (by assumption) (by rfl)) ?_
          refine L.val rfl rfl (R.eqI rfl rfl) ?_
          refine L.val rfl rfl (R.mv rfl) ?_
          refine L.caseP 27 rfl (fun hg2_23 => ?_) (fun hg2_23 => ?_)
          · refine L.pass rfl rfl ?_
            refine L.pass rfl rfl ?_
            refine L.pass rfl rfl ?_
            first | refine L.val rfl rfl (R.pickT rfl rfl) ?_ | refine L.val rfl rfl (R.pickF rfl rfl) ?_
            first | refine L.val rfl rfl (R.pickT rfl rfl) ?_ | refine L.val rfl rfl (R.pickF rfl rfl) ?_
            refine L.val rfl rfl (R.mv rfl) ?_
            refine L.val rfl rfl (R.fld rfl) ?_
            refine L.val rfl rfl (R.ldB rfl (by assumption) (by rfl)) ?_
            refine L.val rfl rfl (R.geq rfl rfl) ?_
            first | refine L.val rfl rfl (R.pickT rfl rfl) ?_ | refine L.val rfl rfl (R.pickF rfl rfl) ?_
            refine L.val rfl rfl (R.mv rfl) ?_
            refine L.caseP 38 rfl (fun hg2_34 => ?_) (fun hg2_34 => ?_)
            · refine L.val rfl rfl (R.fld rfl) ?_
              refine L.val rfl rfl (R.ldB rfl (by assumption) (by rfl)) ?_
              refine L.val rfl rfl (R.leq rfl rfl) ?_
              first | refine L.val rfl rfl (R.pickT rfl rfl) ?_ | refine L.val rfl rfl (R.pickF rfl rfl) ?_
              refine L.val rfl rfl (R.mv rfl) ?_
              refine L.caseP 43 rfl (fun hg2_39 => ?_) (fun hg2_39 => ?_)
              · refine L.val rfl rfl (R.fld rfl) ?_
                refine L.val rfl rfl (R.ldB rfl (by assumption) (by rfl)) ?_
                refine L.val rfl rfl (R.geq rfl rfl) ?_
                first | refine L.val rfl rfl (R.pickT rfl rfl) ?_ | refine L.val rfl rfl (R.pickF rfl rfl) ?_
                refine L.val rfl rfl (R.mv rfl) ?_
                refine L.caseP 48 rfl (fun hg2_44 => ?_) (fun hg2_44 => ?_)
                · refine L.val rfl rfl (R.fld rfl) ?_
                  refine L.val rfl rfl (R.ldB rfl (by assumption) (by rfl)) ?_
                  refine L.val rfl rfl (R.leq rfl rfl) ?_
                  first | refine L.val rfl rfl (R.pickT rfl rfl) ?_ | refine L.val rfl rfl (R.pickF rfl rfl) ?_
                  refine L.val rfl rfl (R.mv rfl) ?_
                  refine L.caseP 53 rfl (fun hg2_49 => ?_) (fun hg2_49 => ?_)
                  · refine L.val rfl rfl (R.fld rfl) ?_
                    refine L.val rfl rfl (R.ldB rfl (by assumption) (by rfl)) ?_
                    refine L.val rfl rfl (R.geq rfl rfl) ?_
                    first | refine L.val rfl rfl (R.pickT rfl rfl) ?_ | refine L.val rfl rfl (R.pickF rfl rfl) ?_
                    refine L.val rfl rfl (R.mv rfl) ?_
                    refine L.caseP 58 rfl (fun hg2_54 => ?_) (fun hg2_54 => ?_)
                    · refine L.val rfl rfl (R.fld rfl) ?_
                      refine L.val rfl rfl (R.ldB rfl (by assumption) (by rfl)) ?_
                      refine L.val rfl rfl (R.mv rfl) ?_
                      refine L.val rfl rfl (R.leq rfl rfl) ?_
                      first | refine L.val rfl rfl (R.pickT rfl rfl) ?_ | refine L.val rfl rfl (R.pickF rfl rfl) ?_
                      refine L.val rfl rfl (R.mv rfl) ?_
                      refine L.caseP 64 rfl (fun hg2_60 => ?_) (fun hg2_60 => ?_)
                      · refine L.val rfl rfl (R.fld rfl) ?_
                        refine L.val rfl rfl (R.ldB rfl (by assumption) (by rfl)) ?_
                        refine L.val rfl rfl (R.geq rfl rfl) ?_
                        first | refine L.val rfl rfl (R.pickT rfl rfl) ?_ | refine L.val rfl rfl (R.pickF rfl rfl) ?_
                        refine L.val rfl rfl (R.mv rfl) ?_
                        refine L.caseP 69 rfl (fun hg2_65 => ?_) (fun hg2_65 => ?_)
                        · refine L.val rfl rfl (R.fld rfl) ?_
                          refine L.val rfl rfl (R.ldB rfl (by assumption) (by rfl)) ?_
                          refine L.val rfl rfl (R.mv rfl) ?_
                          refine L.val rfl rfl (R.leq rfl rfl) ?_
                          first | refine L.val rfl rfl (R.pickT rfl rfl) ?_ | refine L.val rfl rfl (R.pickF rfl rfl) ?_
                          refine L.val rfl rfl (R.as rfl) ?_
                          refine L.nil ?_
                          refine N.seq ?_
                          refine G.ret1 rfl rfl ?_
                          first
                            | exact ⟨congrArg Value.bool (by rw [decide_eq_decide]; unfold okC; omega), E⟩
                            | exact ⟨congrArg Value.bool (by rw [eq_comm, decide_eq_false_iff_not]; unfold okC; omega), E⟩
                        · refine L.pass rfl rfl ?_
                          refine L.pass rfl rfl ?_
                          refine L.pass rfl rfl ?_
                          refine L.pass rfl rfl ?_
                          first | refine L.val rfl rfl (R.pickT rfl rfl) ?_ | refine L.val rfl rfl (R.pickF rfl rfl) ?_
                          refine L.val rfl rfl (R.as rfl) ?_
                          refine L.nil ?_
                          refine N.seq ?_
                          refine G.ret1 rfl rfl ?_
                          first
                            | exact ⟨congrArg Value.bool (by rw [decide_eq_decide]; unfold okC; omega), E⟩
                            | exact ⟨congrArg Value.bool (by rw [eq_comm, decide_eq_false_iff_not]; unfold okC; omega), E⟩
                      · refine L.pass rfl rfl ?_
                        refine L.pass rfl rfl ?_
                        refine L.pass rfl rfl ?_
                        first | refine L.val rfl rfl (R.pickT rfl rfl) ?_ | refine L.val rfl rfl (R.pickF rfl rfl) ?_
                        refine L.val rfl rfl (R.mv rfl) ?_
                        refine L.pass rfl rfl ?_
                        refine L.pass rfl rfl ?_
                        refine L.pass rfl rfl ?_
                        refine L.pass rfl rfl ?_
                        first | refine L.val rfl rfl (R.pickT rfl rfl) ?_ | refine L.val rfl rfl (R.pickF rfl rfl) ?_
                        refine L.val rfl rfl (R.as rfl) ?_
                        refine L.nil ?_
                        refine N.seq ?_
                        refine G.ret1 rfl rfl ?_
                        first
                          | exact ⟨congrArg Value.bool (by rw [decide_eq_decide]; unfold okC; omega), E⟩
                          | exact ⟨congrArg Value.bool (by rw [eq_comm, decide_eq_false_iff_not]; unfold okC; omega), E⟩
                    · refine L.pass rfl rfl ?_
                      refine L.pass rfl rfl ?_
                      refine L.pass rfl rfl ?_
                      refine L.pass rfl rfl ?_
                      first | refine L.val rfl rfl (R.pickT rfl rfl) ?_ | refine L.val rfl rfl (R.pickF rfl rfl) ?_
                      refine L.val rfl rfl (R.mv rfl) ?_
                      refine L.pass rfl rfl ?_
                      refine L.pass rfl rfl ?_
                      refine L.pass rfl rfl ?_
                      first | refine L.val rfl rfl (R.pickT rfl rfl) ?_ | refine L.val rfl rfl (R.pickF rfl rfl) ?_
                      refine L.val rfl rfl (R.mv rfl) ?_
                      refine L.pass rfl rfl ?_
                      refine L.pass rfl rfl ?_
                      refine L.pass rfl rfl ?_
                      refine L.pass rfl rfl ?_
                      first | refine L.val rfl rfl (R.pickT rfl rfl) ?_ | refine L.val rfl rfl (R.pickF rfl rfl) ?_
                      refine L.val rfl rfl (R.as rfl) ?_
                      refine L.nil ?_
                      refine N.seq ?_
                      refine G.ret1 rfl rfl ?_
                      first
                        | exact ⟨congrArg Value.bool (by rw [decide_eq_decide]; unfold okC; omega), E⟩
                        | exact ⟨congrArg Value.bool (by rw [eq_comm, decide_eq_false_iff_not]; unfold okC; omega), E⟩
                  · refine L.pass rfl rfl ?_
                    refine L.pass rfl rfl ?_
                    refine L.pass rfl rfl ?_
                    first | refine L.val rfl rfl (R.pickT rfl rfl) ?_ | refine L.val rfl rfl (R.pickF rfl rfl) ?_
                    refine L.val rfl rfl (R.mv rfl) ?_
                    refine L.pass rfl rfl ?_
                    refine L.pass rfl rfl ?_
                    refine L.pass rfl rfl ?_
                    refine L.pass rfl rfl ?_
                    first | refine L.val rfl rfl (R.pickT rfl rfl) ?_ | refine L.val rfl rfl (R.pickF rfl rfl) ?_
                    refine L.val rfl rfl (R.mv rfl) ?_
                    refine L.pass rfl rfl ?_
                    refine L.pass rfl rfl ?_
                    refine L.pass rfl rfl ?_
                    first | refine L.val rfl rfl (R.pickT rfl rfl) ?_ | refine L.val rfl rfl (R.pickF rfl rfl) ?_
                    refine L.val rfl rfl (R.mv rfl) ?_
                    refine L.pass rfl rfl ?_
                    refine L.pass rfl rfl ?_
                    refine L.pass rfl rfl ?_
                    refine L.pass rfl rfl ?_
                    first | refine L.val rfl rfl (R.pickT rfl rfl) ?_ | refine L.val rfl rfl (R.pickF rfl rfl) ?_
                    refine L.val rfl rfl (R.as rfl) ?_
                    refine L.nil ?_
                    refine N.seq ?_
                    refine G.ret1 rfl rfl ?_
                    first
                      | exact ⟨congrArg Value.bool (by rw [decide_eq_decide]; unfold okC; omega), E⟩
                      | exact ⟨congrArg Value.bool (by rw [eq_comm, decide_eq_false_iff_not]; unfold okC; omega), E⟩
                · refine L.pass rfl rfl ?_
                  refine L.pass rfl rfl ?_
                  refine L.pass rfl rfl ?_
                  first | refine L.val rfl rfl (R.pickT rfl rfl) ?_ | refine L.val rfl rfl (R.pickF rfl rfl) ?_
                  refine L.val rfl rfl (R.mv rfl) ?_
                  refine L.pass rfl rfl ?_
                  refine L.pass rfl rfl ?_
                  refine L.pass rfl rfl ?_
                  first | refine L.val rfl rfl (R.pickT rfl rfl) ?_ | refine L.val rfl rfl (R.pickF rfl rfl) ?_
                  refine L.val rfl rfl (R.mv rfl) ?_
                  refine L.pass rfl rfl ?_
                  refine L.pass rfl rfl ?_
                  refine L.pass rfl rfl ?_
                  refine L.pass rfl rfl ?_
                  first | refine L.val rfl rfl (R.pickT rfl rfl) ?_ | refine L.val rfl rfl (R.pickF rfl rfl) ?_
                  refine L.val rfl rfl (R.mv rfl) ?_
                  refine L.pass rfl rfl ?_
                  refine L.pass rfl rfl ?_
                  refine L.pass rfl rfl ?_
                  first | refine L.val rfl rfl (R.pickT rfl rfl) ?_ | refine L.val rfl rfl (R.pickF rfl rfl) ?_
                  refine L.val rfl rfl (R.mv rfl) ?_
                  refine L.pass rfl rfl ?_
                  refine L.pass rfl rfl ?_
                  refine L.pass rfl rfl ?_
                  refine L.pass rfl rfl ?_
                  first | refine L.val rfl rfl (R.pickT rfl rfl) ?_ | refine L.val rfl rfl (R.pickF rfl rfl) ?_
                  refine L.val rfl rfl (R.as rfl) ?_
                  refine L.nil ?_
                  refine N.seq ?_
                  refine G.ret1 rfl rfl ?_
                  first
                    | exact ⟨congrArg Value.bool (by rw [decide_eq_decide]; unfold okC; omega), E⟩
                    | exact ⟨congrArg Value.bool (by rw [eq_comm, decide_eq_false_iff_not]; unfold okC; omega), E⟩
              · refine L.pass rfl rfl ?_
                refine L.pass rfl rfl ?_
                refine L.pass rfl rfl ?_
                first | refine L.val rfl rfl (R.pickT rfl rfl) ?_ | refine L.val rfl rfl (R.pickF rfl rfl) ?_
                refine L.val rfl rfl (R.mv rfl) ?_
                refine L.pass rfl rfl ?_
                refine L.pass rfl rfl ?_
                refine L.pass rfl rfl ?_
                first | refine L.val rfl rfl (R.pickT rfl rfl) ?_ | refine L.val rfl rfl (R.pickF rfl rfl) ?_
                refine L.val rfl rfl (R.mv rfl) ?_
                refine L.pass rfl rfl ?_
                refine L.pass rfl rfl ?_
                refine L.pass rfl rfl ?_
                first | refine L.val rfl rfl (R.pickT rfl rfl) ?_ | refine L.val rfl rfl (R.pickF rfl rfl) ?_
                refine L.val rfl rfl (R.mv rfl) ?_
                refine L.pass rfl rfl ?_
                refine L.pass rfl rfl ?_
                refine L.pass rfl rfl ?_
                refine L.pass rfl rfl ?_
                first | refine L.val rfl rfl (R.pickT rfl rfl) ?_ | refine L.val rfl rfl (R.pickF rfl rfl) ?_
                refine L.val rfl rfl (R.mv rfl) ?_
                refine L.pass rfl rfl ?_
                refine L.pass rfl rfl ?_
                refine L.pass rfl rfl ?_
                first | refine L.val rfl rfl (R.pickT rfl rfl) ?_ | refine L.val rfl rfl (R.pickF rfl rfl) ?_
                refine L.val rfl rfl (R.mv rfl) ?_
                refine L.pass rfl rfl ?_
                refine L.pass rfl rfl ?_
                refine L.pass rfl rfl ?_
                refine L.pass rfl rfl ?_
                first | refine L.val rfl rfl (R.pickT rfl rfl) ?_ | refine L.val rfl rfl (R.pickF rfl rfl) ?_
                refine L.val rfl rfl (R.as rfl) ?_
                refine L.nil ?_
                refine N.seq ?_
                refine G.ret1 rfl rfl ?_
                first
                  | exact ⟨congrArg Value.bool (by rw [decide_eq_decide]; unfold okC; omega), E⟩
                  | exact ⟨congrArg Value.bool (by rw [eq_comm, decide_eq_false_iff_not]; unfold okC; omega), E⟩
            · refine L.pass rfl rfl ?_
              refine L.pass rfl rfl ?_
              refine L.pass rfl rfl ?_
              first | refine L.val rfl rfl (R.pickT rfl rfl) ?_ | refine L.val rfl rfl (R.pickF rfl rfl) ?_
              refine L.val rfl rfl (R.mv rfl) ?_
              refine L.pass rfl rfl ?_
              refine L.pass rfl rfl ?_
              refine L.pass rfl rfl ?_
              first | refine L.val rfl rfl (R.pickT rfl rfl) ?_ | refine L.val rfl rfl (R.pickF rfl rfl) ?_
              refine L.val rfl rfl (R.mv rfl) ?_
              refine L.pass rfl rfl ?_
              refine L.pass rfl rfl ?_
              refine L.pass rfl rfl ?_
              first | refine L.val rfl rfl (R.pickT rfl rfl) ?_ | refine L.val rfl rfl (R.pickF rfl rfl) ?_
              refine L.val rfl rfl (R.mv rfl) ?_
              refine L.pass rfl rfl ?_
              refine L.pass rfl rfl ?_
              refine L.pass rfl rfl ?_
              first | refine L.val rfl rfl (R.pickT rfl rfl) ?_ | refine L.val rfl rfl (R.pickF rfl rfl) ?_
              refine L.val rfl rfl (R.mv rfl) ?_
              refine L.pass rfl rfl ?_
              refine L.pass rfl rfl ?_
              refine L.pass rfl rfl ?_
              refine L.pass rfl rfl ?_
              first | refine L.val rfl rfl (R.pickT rfl rfl) ?_ | refine L.val rfl rfl (R.pickF rfl rfl) ?_
              refine L.val rfl rfl (R.mv rfl) ?_
              refine L.pass rfl rfl ?_
              refine L.pass rfl rfl ?_
              refine L.pass rfl rfl ?_
              first | refine L.val rfl rfl (R.pickT rfl rfl) ?_ | refine L.val rfl rfl (R.pickF rfl rfl) ?_
              refine L.val rfl rfl (R.mv rfl) ?_
              refine L.pass rfl rfl ?_
              refine L.pass rfl rfl ?_
              refine L.pass rfl rfl ?_
              refine L.pass rfl rfl ?_
              first | refine L.val rfl rfl (R.pickT rfl rfl) ?_ | refine L.val rfl rfl (R.pickF rfl rfl) ?_
              refine L.val rfl rfl (R.as rfl) ?_
              refine L.nil ?_
              refine N.seq ?_
              refine G.ret1 rfl rfl ?_
              first
                | exact ⟨congrArg Value.bool (by rw [decide_eq_decide]; unfold okC; omega), E⟩
                | exact ⟨congrArg Value.bool (by rw [eq_comm, decide_eq_false_iff_not]; unfold okC; omega), E⟩
          · refine L.val rfl rfl (R.fld rfl) ?_
            refine L.val rfl rfl (R.ldB rfl (by assumption) (by rfl)) ?_
            refine L.val rfl rfl (R.eqI rfl rfl) ?_
            first | refine L.val rfl rfl (R.pickT rfl rfl) ?_ | refine L.val rfl rfl (R.pickF rfl rfl) ?_
            first | refine L.val rfl rfl (R.pickT rfl rfl) ?_ | refine L.val rfl rfl (R.pickF rfl rfl) ?_
            refine L.val rfl rfl (R.mv rfl) ?_
            refine L.caseP 33 rfl (fun hg2_29 => ?_) (fun hg2_29 => ?_)
            · refine L.val rfl rfl (R.fld rfl) ?_
              refine L.val rfl rfl (R.ldB rfl (by assumption) (by rfl)) ?_
              refine L.val rfl rfl (R.geq rfl rfl) ?_
              first | refine L.val rfl rfl (R.pickT rfl rfl) ?_ | refine L.val rfl rfl (R.pickF rfl rfl) ?_
              refine L.val rfl rfl (R.mv rfl) ?_
              refine L.caseP 38 rfl (fun hg2_34 => ?_) (fun hg2_34 => ?_)
              · refine L.val rfl rfl (R.fld rfl) ?_
                refine L.val rfl rfl (R.ldB rfl (by assumption) (by rfl)) ?_
                refine L.val rfl rfl (R.leq rfl rfl) ?_
                first | refine L.val rfl rfl (R.pickT rfl rfl) ?_ | refine L.val rfl rfl (R.pickF rfl rfl) ?_
                refine L.val rfl rfl (R.mv rfl) ?_
                refine L.caseP 43 rfl (fun hg2_39 => ?_) (fun hg2_39 => ?_)
                · refine L.val rfl rfl (R.fld rfl) ?_
                  refine L.val rfl rfl (R.ldB rfl (by assumption) (by rfl)) ?_
                  refine L.val rfl rfl (R.geq rfl rfl) ?_
                  first | refine L.val rfl rfl (R.pickT rfl rfl) ?_ | refine L.val rfl rfl (R.pickF rfl rfl) ?_
                  refine L.val rfl rfl (R.mv rfl) ?_
                  refine L.caseP 48 rfl (fun hg2_44 => ?_) (fun hg2_44 => ?_)
                  · refine L.val rfl rfl (R.fld rfl) ?_
                    refine L.val rfl rfl (R.ldB rfl (by assumption) (by rfl)) ?_
                    refine L.val rfl rfl (R.leq rfl rfl) ?_
                    first | refine L.val rfl rfl (R.pickT rfl rfl) ?_ | refine L.val rfl rfl (R.pickF rfl rfl) ?_
                    refine L.val rfl rfl (R.mv rfl) ?_
                    refine L.caseP 53 rfl (fun hg2_49 => ?_) (fun hg2_49 => ?_)
                    · refine L.val rfl rfl (R.fld rfl) ?_
                      refine L.val rfl rfl (R.ldB rfl (by assumption) (by rfl)) ?_
                      refine L.val rfl rfl (R.geq rfl rfl) ?_
                      first | refine L.val rfl rfl (R.pickT rfl rfl) ?_ | refine L.val rfl rfl (R.pickF rfl rfl) ?_
                      refine L.val rfl rfl (R.mv rfl) ?_
                      refine L.caseP 58 rfl (fun hg2_54 => ?_) (fun hg2_54 => ?_)
                      · refine L.val rfl rfl (R.fld rfl) ?_
                        refine L.val rfl rfl (R.ldB rfl (by assumption) (by rfl)) ?_
                        refine L.val rfl rfl (R.mv rfl) ?_
                        refine L.val rfl rfl (R.leq rfl rfl) ?_
                        first | refine L.val rfl rfl (R.pickT rfl rfl) ?_ | refine L.val rfl rfl (R.pickF rfl rfl) ?_
                        refine L.val rfl rfl (R.mv rfl) ?_
                        refine L.caseP 64 rfl (fun hg2_60 => ?_) (fun hg2_60 => ?_)
                        · refine L.val rfl rfl (R.fld rfl) ?_
                          refine L.val rfl rfl (R.ldB rfl (by assumption) (by rfl)) ?_
                          refine L.val rfl rfl (R.geq rfl rfl) ?_
                          first | refine L.val rfl rfl (R.pickT rfl rfl) ?_ | refine L.val rfl rfl (R.pickF rfl rfl) ?_
                          refine L.val rfl rfl (R.mv rfl) ?_
                          refine L.caseP 69 rfl (fun hg2_65 => ?_) (fun hg2_65 => ?_)
                          · refine L.val rfl rfl (R.fld rfl) ?_
                            refine L.val rfl rfl (R.ldB rfl (by assumption) (by rfl)) ?_
                            refine L.val rfl rfl (R.mv rfl) ?_
                            refine L.val rfl rfl (R.leq rfl rfl) ?_
                            first | refine L.val rfl rfl (R.pickT rfl rfl) ?_ | refine L.val rfl rfl (R.pickF rfl rfl) ?_
                            refine L.val rfl rfl (R.as rfl) ?_
                            refine L.nil ?_
                            refine N.seq ?_
                            refine G.ret1 rfl rfl ?_
                            first
                              | exact ⟨congrArg Value.bool (by rw [decide_eq_decide]; unfold okC; omega), E⟩
                              | exact ⟨congrArg Value.bool (by rw [eq_comm, decide_eq_false_iff_not]; unfold okC; omega), E⟩
                          · refine L.pass rfl rfl ?_
                            refine L.pass rfl rfl ?_
                            refine L.pass rfl rfl ?_
                            refine L.pass rfl rfl ?_
                            first | refine L.val rfl rfl (R.pickT rfl rfl) ?_ | refine L.val rfl rfl (R.pickF rfl rfl) ?_
                            refine L.val rfl rfl (R.as rfl) ?_
                            refine L.nil ?_
                            refine N.seq ?_
                            refine G.ret1 rfl rfl ?_
                            first
                              | exact ⟨congrArg Value.bool (by rw [decide_eq_decide]; unfold okC; omega), E⟩
                              | exact ⟨congrArg Value.bool (by rw [eq_comm, decide_eq_false_iff_not]; unfold okC; omega), E⟩
                        · refine L.pass rfl rfl ?_
                          refine L.pass rfl rfl ?_
                          refine L.pass rfl rfl ?_
                          first | refine L.val rfl rfl (R.pickT rfl rfl) ?_ | refine L.val rfl rfl (R.pickF rfl rfl) ?_
                          refine L.val rfl rfl (R.mv rfl) ?_
                          refine L.pass rfl rfl ?_
                          refine L.pass rfl rfl ?_
                          refine L.pass rfl rfl ?_
                          refine L.pass rfl rfl ?_
                          first | refine L.val rfl rfl (R.pickT rfl rfl) ?_ | refine L.val rfl rfl (R.pickF rfl rfl) ?_
                          refine L.val rfl rfl (R.as rfl) ?_
                          refine L.nil ?_
                          refine N.seq ?_
                          refine G.ret1 rfl rfl ?_
                          first
                            | exact ⟨congrArg Value.bool (by rw [decide_eq_decide]; unfold okC; omega), E⟩
                            | exact ⟨congrArg Value.bool (by rw [eq_comm, decide_eq_false_iff_not]; unfold okC; omega), E⟩
                      · refine L.pass rfl rfl ?_
                        refine L.pass rfl rfl ?_
                        refine L.pass rfl rfl ?_
                        refine L.pass rfl rfl ?_
                        first | refine L.val rfl rfl (R.pickT rfl rfl) ?_ | refine L.val rfl rfl (R.pickF rfl rfl) ?_
                        refine L.val rfl rfl (R.mv rfl) ?_
                        refine L.pass rfl rfl ?_
                        refine L.pass rfl rfl ?_
                        refine L.pass rfl rfl ?_
                        first | refine L.val rfl rfl (R.pickT rfl rfl) ?_ | refine L.val rfl rfl (R.pickF rfl rfl) ?_
                        refine L.val rfl rfl (R.mv rfl) ?_
                        refine L.pass rfl rfl ?_
                        refine L.pass rfl rfl ?_
                        refine L.pass rfl rfl ?_
                        refine L.pass rfl rfl ?_
                        first | refine L.val rfl rfl (R.pickT rfl rfl) ?_ | refine L.val rfl rfl (R.pickF rfl rfl) ?_
                        refine L.val rfl rfl (R.as rfl) ?_
                        refine L.nil ?_
                        refine N.seq ?_
                        refine G.ret1 rfl rfl ?_
                        first
                          | exact ⟨congrArg Value.bool (by rw [decide_eq_decide]; unfold okC; omega), E⟩
                          | exact ⟨congrArg Value.bool (by rw [eq_comm, decide_eq_false_iff_not]; unfold okC; omega), E⟩
                    · refine L.pass rfl rfl ?_
                      refine L.pass rfl rfl ?_
                      refine L.pass rfl rfl ?_
                      first | refine L.val rfl rfl (R.pickT rfl rfl) ?_ | refine L.val rfl rfl (R.pickF rfl rfl) ?_
                      refine L.val rfl rfl (R.mv rfl) ?_
                      refine L.pass rfl rfl ?_
                      refine L.pass rfl rfl ?_
                      refine L.pass rfl rfl ?_
                      refine L.pass rfl rfl ?_
                      first | refine L.val rfl rfl (R.pickT rfl rfl) ?_ | refine L.val rfl rfl (R.pickF rfl rfl) ?_
                      refine L.val rfl rfl (R.mv rfl) ?_
                      refine L.pass rfl rfl ?_
                      refine L.pass rfl rfl ?_
                      refine L.pass rfl rfl ?_
                      first | refine L.val rfl rfl (R.pickT rfl rfl) ?_ | refine L.val rfl rfl (R.pickF rfl rfl) ?_
                      refine L.val rfl rfl (R.mv rfl) ?_
                      refine L.pass rfl rfl ?_
                      refine L.pass rfl rfl ?_
                      refine L.pass rfl rfl ?_
                      refine L.pass rfl rfl ?_
                      first | refine L.val rfl rfl (R.pickT rfl rfl) ?_ | refine L.val rfl rfl (R.pickF rfl rfl) ?_
                      refine L.val rfl rfl (R.as rfl) ?_
                      refine L.nil ?_
                      refine N.seq ?_
                      refine G.ret1 rfl rfl ?_
                      first
                        | exact ⟨congrArg Value.bool (by rw [decide_eq_decide]; unfold okC; omega), E⟩
                        | exact ⟨congrArg Value.bool (by rw [eq_comm, decide_eq_false_iff_not]; unfold okC; omega), E⟩
                  · refine L.pass rfl rfl ?_
                    refine L.pass rfl rfl ?_
                    refine L.pass rfl rfl ?_
                    first | refine L.val rfl rfl (R.pickT rfl rfl) ?_ | refine L.val rfl rfl (R.pickF rfl rfl) ?_
                    refine L.val rfl rfl (R.mv rfl) ?_
                    refine L.pass rfl rfl ?_
                    refine L.pass rfl rfl ?_
                    refine L.pass rfl rfl ?_
                    first | refine L.val rfl rfl (R.pickT rfl rfl) ?_ | refine L.val rfl rfl (R.pickF rfl rfl) ?_
                    refine L.val rfl rfl (R.mv rfl) ?_
                    refine L.pass rfl rfl ?_
                    refine L.pass rfl rfl ?_
                    refine L.pass rfl rfl ?_
                    refine L.pass rfl rfl ?_
                    first | refine L.val rfl rfl (R.pickT rfl rfl) ?_ | refine L.val rfl rfl (R.pickF rfl rfl) ?_
                    refine L.val rfl rfl (R.mv rfl) ?_
                    refine L.pass rfl rfl ?_
                    refine L.pass rfl rfl ?_
                    refine L.pass rfl rfl ?_
                    first | refine L.val rfl rfl (R.pickT rfl rfl) ?_ | refine L.val rfl rfl (R.pickF rfl rfl) ?_
                    refine L.val rfl rfl (R.mv rfl) ?_
                    refine L.pass rfl rfl ?_
                    refine L.pass rfl rfl ?_
                    refine L.pass rfl rfl ?_
                    refine L.pass rfl rfl ?_
                    first | refine L.val rfl rfl (R.pickT rfl rfl) ?_ | refine L.val rfl rfl (R.pickF rfl rfl) ?_
                    refine L.val rfl rfl (R.as rfl) ?_
                    refine L.nil ?_
                    refine N.seq ?_
                    refine G.ret1 rfl rfl ?_
                    first
                      | exact ⟨congrArg Value.bool (by rw [decide_eq_decide]; unfold okC; omega), E⟩
                      | exact ⟨congrArg Value.bool (by rw [eq_comm, decide_eq_false_iff_not]; unfold okC; omega), E⟩
                · refine L.pass rfl rfl ?_
                  refine L.pass rfl rfl ?_
                  refine L.pass rfl rfl ?_
                  first | refine L.val rfl rfl (R.pickT rfl rfl) ?_ | refine L.val rfl rfl (R.pickF rfl rfl) ?_
                  refine L.val rfl rfl (R.mv rfl) ?_
                  refine L.pass rfl rfl ?_
                  refine L.pass rfl rfl ?_
                  refine L.pass rfl rfl ?_
                  first | refine L.val rfl rfl (R.pickT rfl rfl) ?_ | refine L.val rfl rfl (R.pickF rfl rfl) ?_
                  refine L.val rfl rfl (R.mv rfl) ?_
                  refine L.pass rfl rfl ?_
                  refine L.pass rfl rfl ?_
                  refine L.pass rfl rfl ?_
                  first | refine L.val rfl rfl (R.pickT rfl rfl) ?_ | refine L.val rfl rfl (R.pickF rfl rfl) ?_
                  refine L.val rfl rfl (R.mv rfl) ?_
                  refine L.pass rfl rfl ?_
                  refine L.pass rfl rfl ?_
                  refine L.pass rfl rfl ?_
                  refine L.pass rfl rfl ?_
                  first | refine L.val rfl rfl (R.pickT rfl rfl) ?_ | refine L.val rfl rfl (R.pickF rfl rfl) ?_
                  refine L.val rfl rfl (R.mv rfl) ?_
                  refine L.pass rfl rfl ?_
                  refine L.pass rfl rfl ?_
                  refine L.pass rfl rfl ?_
                  first | refine L.val rfl rfl (R.pickT rfl rfl) ?_ | refine L.val rfl rfl (R.pickF rfl rfl) ?_
                  refine L.val rfl rfl (R.mv rfl) ?_
                  refine L.pass rfl rfl ?_
                  refine L.pass rfl rfl ?_
                  refine L.pass rfl rfl ?_
                  refine L.pass rfl rfl ?_
                  first | refine L.val rfl rfl (R.pickT rfl rfl) ?_ | refine L.val rfl rfl (R.pickF rfl rfl) ?_
                  refine L.val rfl rfl (R.as rfl) ?_
                  refine L.nil ?_
                  refine N.seq ?_
                  refine G.ret1 rfl rfl ?_
                  first
                    | exact ⟨congrArg Value.bool (by rw [decide_eq_decide]; unfold okC; omega), E⟩
                    | exact ⟨congrArg Value.bool (by rw [eq_comm, decide_eq_false_iff_not]; unfold okC; omega), E⟩
              · refine L.pass rfl rfl ?_
                refine L.pass rfl rfl ?_
                refine L.pass rfl rfl ?_
                first | refine L.val rfl rfl (R.pickT rfl rfl) ?_ | refine L.val rfl rfl (R.pickF rfl rfl) ?_
                refine L.val rfl rfl (R.mv rfl) ?_
                refine L.pass rfl rfl ?_
                refine L.pass rfl rfl ?_
                refine L.pass rfl rfl ?_
                first | refine L.val rfl rfl (R.pickT rfl rfl) ?_ | refine L.val rfl rfl (R.pickF rfl rfl) ?_
                refine L.val rfl rfl (R.mv rfl) ?_
                refine L.pass rfl rfl ?_
                refine L.pass rfl rfl ?_
                refine L.pass rfl rfl ?_
                first | refine L.val rfl rfl (R.pickT rfl rfl) ?_ | refine L.val rfl rfl (R.pickF rfl rfl) ?_
                refine L.val rfl rfl (R.mv rfl) ?_
                refine L.pass rfl rfl ?_
                refine L.pass rfl rfl ?_
                refine L.pass rfl rfl ?_
                first | refine L.val rfl rfl (R.pickT rfl rfl) ?_ | refine L.val rfl rfl (R.pickF rfl rfl) ?_
                refine L.val rfl rfl (R.mv rfl) ?_
                refine L.pass rfl rfl ?_
                refine L.pass rfl rfl ?_
                refine L.pass rfl rfl ?_
                refine L.pass rfl rfl ?_
                first | refine L.val rfl rfl (R.pickT rfl rfl) ?_ | refine L.val rfl rfl (R.pickF rfl rfl) ?_
                refine L.val rfl rfl (R.mv rfl) ?_
                refine L.pass rfl rfl ?_
                refine L.pass rfl rfl ?_
                refine L.pass rfl rfl ?_
                first | refine L.val rfl rfl (R.pickT rfl rfl) ?_ | refine L.val rfl rfl (R.pickF rfl rfl) ?_
                refine L.val rfl rfl (R.mv rfl) ?_
                refine L.pass rfl rfl ?_
                refine L.pass rfl rfl ?_
                refine L.pass rfl rfl ?_
                refine L.pass rfl rfl ?_
                first | refine L.val rfl rfl (R.pickT rfl rfl) ?_ | refine L.val rfl rfl (R.pickF rfl rfl) ?_
                refine L.val rfl rfl (R.as rfl) ?_
                refine L.nil ?_
                refine N.seq ?_
                refine G.ret1 rfl rfl ?_
                first
                  | exact ⟨congrArg Value.bool (by rw [decide_eq_decide]; unfold okC; omega), E⟩
                  | exact ⟨congrArg Value.bool (by rw [eq_comm, decide_eq_false_iff_not]; unfold okC; omega), E⟩
            · refine L.pass rfl rfl ?_
              refine L.pass rfl rfl ?_
              refine L.pass rfl rfl ?_
              first | refine L.val rfl rfl (R.pickT rfl rfl) ?_ | refine L.val rfl rfl (R.pickF rfl rfl) ?_
              refine L.val rfl rfl (R.mv rfl) ?_
              refine L.pass rfl rfl ?_
              refine L.pass rfl rfl ?_
              refine L.pass rfl rfl ?_
              first | refine L.val rfl rfl (R.pickT rfl rfl) ?_ | refine L.val rfl rfl (R.pickF rfl rfl) ?_
              refine L.val rfl rfl (R.mv rfl) ?_
              refine L.pass rfl rfl ?_
              refine L.pass rfl rfl ?_
              refine L.pass rfl rfl ?_
              first | refine L.val rfl rfl (R.pickT rfl rfl) ?_ | refine L.val rfl rfl (R.pickF rfl rfl) ?_
              refine L.val rfl rfl (R.mv rfl) ?_
              refine L.pass rfl rfl ?_
              refine L.pass rfl rfl ?_
              refine L.pass rfl rfl ?_
              first | refine L.val rfl rfl (R.pickT rfl rfl) ?_ | refine L.val rfl rfl (R.pickF rfl rfl) ?_
              refine L.val rfl rfl (R.mv rfl) ?_
              refine L.pass rfl rfl ?_
              refine L.pass rfl rfl ?_
              refine L.pass rfl rfl ?_
              first | refine L.val rfl rfl (R.pickT rfl rfl) ?_ | refine L.val rfl rfl (R.pickF rfl rfl) ?_
              refine L.val rfl rfl (R.mv rfl) ?_
              refine L.pass rfl rfl ?_
              refine L.pass rfl rfl ?_
              refine L.pass rfl rfl ?_
              refine L.pass rfl rfl ?_
              first | refine L.val rfl rfl (R.pickT rfl rfl) ?_ | refine L.val rfl rfl (R.pickF rfl rfl) ?_
              refine L.val rfl rfl (R.mv rfl) ?_
              refine L.pass rfl rfl ?_
              refine L.pass rfl rfl ?_
              refine L.pass rfl rfl ?_
              first | refine L.val rfl rfl (R.pickT rfl rfl) ?_ | refine L.val rfl rfl (R.pickF rfl rfl) ?_
              refine L.val rfl rfl (R.mv rfl) ?_
              refine L.pass rfl rfl ?_
              refine L.pass rfl rfl ?_
              refine L.pass rfl rfl ?_
              refine L.pass rfl rfl ?_
              first | refine L.val rfl rfl (R.pickT rfl rfl) ?_ | refine L.val rfl rfl (R.pickF rfl rfl) ?_
              refine L.val rfl rfl (R.as rfl) ?_
              refine L.nil ?_
              refine N.seq ?_
              refine G.ret1 rfl rfl ?_
              first
                | exact ⟨congrArg Value.bool (by rw [decide_eq_decide]; unfold okC; omega), E⟩
                | exact ⟨congrArg Value.bool (by rw [eq_comm, decide_eq_false_iff_not]; unfold okC; omega), E⟩
        · refine L.pass rfl rfl ?_
          refine L.pass rfl rfl ?_
          refine L.pass rfl rfl ?_
          refine L.pass rfl rfl ?_
          refine L.pass rfl rfl ?_
          refine L.pass rfl rfl ?_
          refine L.pass rfl rfl ?_
          refine L.pass rfl rfl ?_
          first | refine L.val rfl rfl (R.pickT rfl rfl) ?_ | refine L.val rfl rfl (R.pickF rfl rfl) ?_
          refine L.val rfl rfl (R.mv rfl) ?_
          refine L.pass rfl rfl ?_
          refine L.pass rfl rfl ?_
          refine L.pass rfl rfl ?_
          first | refine L.val rfl rfl (R.pickT rfl rfl) ?_ | refine L.val rfl rfl (R.pickF rfl rfl) ?_
          refine L.val rfl rfl (R.mv rfl) ?_
          refine L.pass rfl rfl ?_
          refine L.pass rfl rfl ?_
          refine L.pass rfl rfl ?_
          first | refine L.val rfl rfl (R.pickT rfl rfl) ?_ | refine L.val rfl rfl (R.pickF rfl rfl) ?_
          refine L.val rfl rfl (R.mv rfl) ?_
          refine L.pass rfl rfl ?_
          refine L.pass rfl rfl ?_
          refine L.pass rfl rfl ?_
          first | refine L.val rfl rfl (R.pickT rfl rfl) ?_ | refine L.val rfl rfl (R.pickF rfl rfl) ?_
          refine L.val rfl rfl (R.mv rfl) ?_
          refine L.pass rfl rfl ?_
          refine L.pass rfl rfl ?_
          refine L.pass rfl rfl ?_
          first | refine L.val rfl rfl (R.pickT rfl rfl) ?_ | refine L.val rfl rfl (R.pickF rfl rfl) ?_
          refine L.val rfl rfl (R.mv rfl) ?_
          refine L.pass rfl rfl ?_
          refine L.pass rfl rfl ?_
          refine L.pass rfl rfl ?_
          first | refine L.val rfl rfl (R.pickT rfl rfl) ?_ | refine L.val rfl rfl (R.pickF rfl rfl) ?_
          refine L.val rfl rfl (R.mv rfl) ?_
          refine L.pass rfl rfl ?_
          refine L.pass rfl rfl ?_
          refine L.pass rfl rfl ?_
          refine L.pass rfl rfl ?_
          first | refine L.val rfl rfl (R.pickT rfl rfl) ?_ | refine L.val rfl rfl (R.pickF rfl rfl) ?_
          refine L.val rfl rfl (R.mv rfl) ?_
          refine L.pass rfl rfl ?_
          refine L.pass rfl rfl ?_
          refine L.pass rfl rfl ?_
          first | refine L.val rfl rfl (R.pickT rfl rfl) ?_ | refine L.val rfl rfl (R.pickF rfl rfl) ?_
          refine L.val rfl rfl (R.mv rfl) ?_
          refine L.pass rfl rfl ?_
          refine L.pass rfl rfl ?_
          refine L.pass rfl rfl ?_
          refine L.pass rfl rfl ?_
          first | refine L.val rfl rfl (R.pickT rfl rfl) ?_ | refine L.val rfl rfl (R.pickF rfl rfl) ?_
          refine L.val rfl rfl (R.as rfl) ?_
          refine L.nil ?_
          refine N.seq ?_
          refine G.ret1 rfl rfl ?_
          first
            | exact ⟨congrArg Value.bool (by rw [decide_eq_decide]; unfold okC; omega), E⟩
            | exact ⟨congrArg Value.bool (by rw [eq_comm, decide_eq_false_iff_not]; unfold okC; omega), E⟩
      · refine L.pass rfl rfl ?_
        refine L.pass rfl rfl ?_
        refine L.pass rfl rfl ?_
        first | refine L.val rfl rfl (R.pickT rfl rfl) ?_ | refine L.val rfl rfl (R.pickF rfl rfl) ?_
        refine L.val rfl rfl (R.mv rfl) ?_
        refine L.pass rfl rfl ?_
        refine L.pass rfl rfl ?_
        refine L.pass rfl rfl ?_
        refine L.pass rfl rfl ?_
        refine L.pass rfl rfl ?_
        refine L.pass rfl rfl ?_
        refine L.pass rfl rfl ?_
        refine L.pass rfl rfl ?_
        first | refine L.val rfl rfl (R.pickT rfl rfl) ?_ | refine L.val rfl rfl (R.pickF rfl rfl) ?_
        refine L.val rfl rfl (R.mv rfl) ?_
        refine L.pass rfl rfl ?_
        refine L.pass rfl rfl ?_
        refine L.pass rfl rfl ?_
        first | refine L.val rfl rfl (R.pickT rfl rfl) ?_ | refine L.val rfl rfl (R.pickF rfl rfl) ?_
        refine L.val rfl rfl (R.mv rfl) ?_
        refine L.pass rfl rfl ?_
        refine L.pass rfl rfl ?_
        refine L.pass rfl rfl ?_
        first | refine L.val rfl rfl (R.pickT rfl rfl) ?_ | refine L.val rfl rfl (R.pickF rfl rfl) ?_
        refine L.val rfl rfl (R.mv rfl) ?_
        refine L.pass rfl rfl ?_
        refine L.pass rfl rfl ?_
        refine L.pass rfl rfl ?_
        first | refine L.val rfl rfl (R.pickT rfl rfl) ?_ | refine L.val rfl rfl (R.pickF rfl rfl) ?_
        refine L.val rfl rfl (R.mv rfl) ?_
        refine L.pass rfl rfl ?_
        refine L.pass rfl rfl ?_
        refine L.pass rfl rfl ?_
        first | refine L.val rfl rfl (R.pickT rfl rfl) ?_ | refine L.val rfl rfl (R.pickF rfl rfl) ?_
        refine L.val rfl rfl (R.mv rfl) ?_
        refine L.pass rfl rfl ?_
        refine L.pass rfl rfl ?_
        refine L.pass rfl rfl ?_
        first | refine L.val rfl rfl (R.pickT rfl rfl) ?_ | refine L.val rfl rfl (R.pickF rfl rfl) ?_
        refine L.val rfl rfl (R.mv rfl) ?_
        refine L.pass rfl rfl ?_
        refine L.pass rfl rfl ?_
        refine L.pass rfl rfl ?_
        refine L.pass rfl rfl ?_
        first | refine L.val rfl rfl (R.pickT rfl rfl) ?_ | refine L.val rfl rfl (R.pickF rfl rfl) ?_
        refine L.val rfl rfl (R.mv rfl) ?_
        refine L.pass rfl rfl ?_
        refine L.pass rfl rfl ?_
        refine L.pass rfl rfl ?_
        first | refine L.val rfl rfl (R.pickT rfl rfl) ?_ | refine L.val rfl rfl (R.pickF rfl rfl) ?_
        refine L.val rfl rfl (R.mv rfl) ?_
        refine L.pass rfl rfl ?_
        refine L.pass rfl rfl ?_
        refine L.pass rfl rfl ?_
        refine L.pass rfl rfl ?_
        first | refine L.val rfl rfl (R.pickT rfl rfl) ?_ | refine L.val rfl rfl (R.pickF rfl rfl) ?_
        refine L.val rfl rfl (R.as rfl) ?_
        refine L.nil ?_
        refine N.seq ?_
        refine G.ret1 rfl rfl ?_
        first
          | exact ⟨congrArg Value.bool (by rw [decide_eq_decide]; unfold okC; omega), E⟩
          | exact ⟨congrArg Value.bool (by rw [eq_comm, decide_eq_false_iff_not]; unfold okC; omega), E⟩
    · refine L.pass rfl rfl ?_
      refine L.pass rfl rfl ?_
      refine L.pass rfl rfl ?_
      first | refine L.val rfl rfl (R.pickT rfl rfl) ?_ | refine L.val rfl rfl (R.pickF rfl rfl) ?_
      refine L.val rfl rfl (R.mv rfl) ?_
      refine L.pass rfl rfl ?_
      refine L.pass rfl rfl ?_
      refine L.pass rfl rfl ?_
      first | refine L.val rfl rfl (R.pickT rfl rfl) ?_ | refine L.val rfl rfl (R.pickF rfl rfl) ?_
      refine L.val rfl rfl (R.mv rfl) ?_
      refine L.pass rfl rfl ?_
      refine L.pass rfl rfl ?_
      refine L.pass rfl rfl ?_
      refine L.pass rfl rfl ?_
      refine L.pass rfl rfl ?_
      refine L.pass rfl rfl ?_
      refine L.pass rfl rfl ?_
      refine L.pass rfl rfl ?_
      first | refine L.val rfl rfl (R.pickT rfl rfl) ?_ | refine L.val rfl rfl (R.pickF rfl rfl) ?_
      refine L.val rfl rfl (R.mv rfl) ?_
      refine L.pass rfl rfl ?_
      refine L.pass rfl rfl ?_
      refine L.pass rfl rfl ?_
      first | refine L.val rfl rfl (R.pickT rfl rfl) ?_ | refine L.val rfl rfl (R.pickF rfl rfl) ?_
      refine L.val rfl rfl (R.mv rfl) ?_
      refine L.pass rfl rfl ?_
      refine L.pass rfl rfl ?_
      refine L.pass rfl rfl ?_
      first | refine L.val rfl rfl (R.pickT rfl rfl) ?_ | refine L.val rfl rfl (R.pickF rfl rfl) ?_
      refine L.val rfl rfl (R.mv rfl) ?_
      refine L.pass rfl rfl ?_
      refine L.pass rfl rfl ?_
      refine L.pass rfl rfl ?_
      first | refine L.val rfl rfl (R.pickT rfl rfl) ?_ | refine L.val rfl rfl (R.pickF rfl rfl) ?_
      refine L.val rfl rfl (R.mv rfl) ?_
      refine L.pass rfl rfl ?_
      refine L.pass rfl rfl ?_
      refine L.pass rfl rfl ?_
      first | refine L.val rfl rfl (R.pickT rfl rfl) ?_ | refine L.val rfl rfl (R.pickF rfl rfl) ?_
      refine L.val rfl rfl (R.mv rfl) ?_
      refine L.pass rfl rfl ?_
      refine L.pass rfl rfl ?_
      refine L.pass rfl rfl ?_
      first | refine L.val rfl rfl (R.pickT rfl rfl) ?_ | refine L.val rfl rfl (R.pickF rfl rfl) ?_
      refine L.val rfl rfl (R.mv rfl) ?_
      refine L.pass rfl rfl ?_
      refine L.pass rfl rfl ?_
      refine L.pass rfl rfl ?_
      refine L.pass rfl rfl ?_
      first | refine L.val rfl rfl (R.pickT rfl rfl) ?_ | refine L.val rfl rfl (R.pickF rfl rfl) ?_
      refine L.val rfl rfl (R.mv rfl) ?_
      refine L.pass rfl rfl ?_
      refine L.pass rfl rfl ?_
      refine L.pass rfl rfl ?_
      first | refine L.val rfl rfl (R.pickT rfl rfl) ?_ | refine L.val rfl rfl (R.pickF rfl rfl) ?_
      refine L.val rfl rfl (R.mv rfl) ?_
      refine L.pass rfl rfl ?_
      refine L.pass rfl rfl ?_
      refine L.pass rfl rfl ?_
      refine L.pass rfl rfl ?_
      first | refine L.val rfl rfl (R.pickT rfl rfl) ?_ | refine L.val rfl rfl (R.pickF rfl rfl) ?_
      refine L.val rfl rfl (R.as rfl) ?_
      refine L.nil ?_
      refine N.seq ?_
      refine G.ret1 rfl rfl ?_
      first
        | exact ⟨congrArg Value.bool (by rw [decide_eq_decide]; unfold okC; omega), E⟩
        | exact ⟨congrArg Value.bool (by rw [eq_comm, decide_eq_false_iff_not]; unfold okC; omega), E⟩
  · refine L.pass rfl rfl ?_
    refine L.pass rfl rfl ?_
    refine L.pass rfl rfl ?_
    refine L.pass rfl rfl ?_
    first | refine L.val rfl rfl (R.pickT rfl rfl) ?_ | refine L.val rfl rfl (R.pickF rfl rfl) ?_
    refine L.val rfl rfl (R.mv rfl) ?_
    refine L.pass rfl rfl ?_
    refine L.pass rfl rfl ?_
    refine L.pass rfl rfl ?_
    first | refine L.val rfl rfl (R.pickT rfl rfl) ?_ | refine L.val rfl rfl (R.pickF rfl rfl) ?_
    refine L.val rfl rfl (R.mv rfl) ?_
    refine L.pass rfl rfl ?_
    refine L.pass rfl rfl ?_
    refine L.pass rfl rfl ?_
    first | refine L.val rfl rfl (R.pickT rfl rfl) ?_ | refine L.val rfl rfl (R.pickF rfl rfl) ?_
    refine L.val rfl rfl (R.mv rfl) ?_
    refine L.pass rfl rfl ?_
    refine L.pass rfl rfl ?_
    refine L.pass rfl rfl ?_
    refine L.pass rfl rfl ?_
    refine L.pass rfl rfl ?_
    refine L.pass rfl rfl ?_
    refine L.pass rfl rfl ?_
    refine L.pass rfl rfl ?_
    first | refine L.val rfl rfl (R.pickT rfl rfl) ?_ | refine L.val rfl rfl (R.pickF rfl rfl) ?_
    refine L.val rfl rfl (R.mv rfl) ?_
    refine L.pass rfl rfl ?_
    refine L.pass rfl rfl ?_
    refine L.pass rfl rfl ?_
    first | refine L.val rfl rfl (R.pickT rfl rfl) ?_ | refine L.val rfl rfl (R.pickF rfl rfl) ?_
    refine L.val rfl rfl (R.mv rfl) ?_
    refine L.pass rfl rfl ?_
    refine L.pass rfl rfl ?_
    refine L.pass rfl rfl ?_
    first | refine L.val rfl rfl (R.pickT rfl rfl) ?_ | refine L.val rfl rfl (R.pickF rfl rfl) ?_
    refine L.val rfl rfl (R.mv rfl) ?_
    refine L.pass rfl rfl ?_
    refine L.pass rfl rfl ?_
    refine L.pass rfl rfl ?_
    first | refine L.val rfl rfl (R.pickT rfl rfl) ?_ | refine L.val rfl rfl (R.pickF rfl rfl) ?_
    refine L.val rfl rfl (R.mv rfl) ?_
    refine L.pass rfl rfl ?_
    refine L.pass rfl rfl ?_
    refine L.pass rfl rfl ?_
    first | refine L.val rfl rfl (R.pickT rfl rfl) ?_ | refine L.val rfl rfl (R.pickF rfl rfl) ?_
    refine L.val rfl rfl (R.mv rfl) ?_
    refine L.pass rfl rfl ?_
    refine L.pass rfl rfl ?_
    refine L.pass rfl rfl ?_
    first | refine L.val rfl rfl (R.pickT rfl rfl) ?_ | refine L.val rfl rfl (R.pickF rfl rfl) ?_
    refine L.val rfl rfl (R.mv rfl) ?_
    refine L.pass rfl rfl ?_
    refine L.pass rfl rfl ?_
    refine L.pass rfl rfl ?_
    refine L.pass rfl rfl ?_
    first | refine L.val rfl rfl (R.pickT rfl rfl) ?_ | refine L.val rfl rfl (R.pickF rfl rfl) ?_
    refine L.val rfl rfl (R.mv rfl) ?_
    refine L.pass rfl rfl ?_
    refine L.pass rfl rfl ?_
    refine L.pass rfl rfl ?_
    first | refine L.val rfl rfl (R.pickT rfl rfl) ?_ | refine L.val rfl rfl (R.pickF rfl rfl) ?_
    refine L.val rfl rfl (R.mv rfl) ?_
    refine L.pass rfl rfl ?_
    refine L.pass rfl rfl ?_
    refine L.pass rfl rfl ?_
    refine L.pass rfl rfl ?_
    first | refine L.val rfl rfl (R.pickT rfl rfl) ?_ | refine L.val rfl rfl (R.pickF rfl rfl) ?_
    refine L.val rfl rfl (R.as rfl) ?_
    refine L.nil ?_
    refine N.seq ?_
    refine G.ret1 rfl rfl ?_
    first
      | exact ⟨congrArg Value.bool (by rw [decide_eq_decide]; unfold okC; omega), E⟩
      | exact ⟨congrArg Value.bool (by rw [eq_comm, decide_eq_false_iff_not]; unfold okC; omega), E⟩

def ctlN (c : Ctl) : List Int := [c.2.2.2.2.1, c.2.2.2.2.2.1, c.2.2.2.2.2.2]
def ctlP (c : Ctl) (k : Nat) : List UInt8 := be 1 c.2.2.1.toNat ++ be 4 c.2.2.2.1.toNat ++ (((ctlN c).take k).map fun x => be 8 x.toNat).flatten
theorem ctlP_succ {c : Ctl} {k : Nat} {x : Int} (h : (ctlN c)[k]? = some x) : ctlP c (k + 1) = ctlP c k ++ be 8 x.toNat := by
  unfold ctlP
  rw [List.take_add_one, h, List.map_append, List.flatten_append]
  simp
theorem ctlP_three (c : Ctl) : ctlP c 3 = ctlB c := by simp [ctlP, ctlN, ctlB]
theorem ctlP_len {c : Ctl} {k : Nat} (h : k ≤ 3) : (ctlP c k).length ≤ 29 := by
  rcases k with _ | _ | _ | _ | k <;> simp [ctlP, ctlN, be_length] <;> omega
theorem ctlN_get {c : Ctl} {k : Nat} (h : k < 3) (hc : okC c) : ∃ x, (ctlN c)[k]? = some x ∧ fitsF x 8 = true ∧ -9223372036854775808 ≤ x ∧ x ≤ 9223372036854775807 := by
  obtain ⟨_, _, _, _, ⟨n1, n2⟩, ⟨r1, r2⟩, ⟨l1, l2⟩⟩ := hc
  rcases k with _ | _ | _ | k
  · exact ⟨_, rfl, by rw [fitsF_spec]; exact ⟨by decide, by decide, n1, Int.lt_of_le_of_lt n2 (by decide)⟩, by omega, by omega⟩
  · exact ⟨_, rfl, by rw [fitsF_spec]; exact ⟨by decide, by decide, r1, Int.lt_of_le_of_lt r2 (by decide)⟩, by omega, by omega⟩
  · exact ⟨_, rfl, by rw [fitsF_spec]; exact ⟨by decide, by decide, l1, Int.lt_of_le_of_lt l2 (by decide)⟩, by omega, by omega⟩
  · omega
def IsFr (f : FrV) (v : Value) (w : World) : Prop := ∃ a k, v = .agg (frC f a k) ∧ Bs w a f.2.2.2.2.length f.2.2.2.2 ∧ f.2.2.2.2.length ≤ k
theorem IsFr.keep (f : FrV) : ∀ v w w', Ext [] w w' → IsFr f v w → IsFr f v w' := fun _ _ _ he ⟨a, k, h1, h2, h3⟩ => ⟨a, k, h1, h2.ext0 he, h3⟩
def IsPut (s : Nat) (l : List UInt8) (v : Value) (w : World) : Prop := ∃ a k, v = .slice a l.length k ∧ Bs w a l.length l ∧ l.length ≤ k ∧ ∀ p, a = some p → s ≤ p.block ∧ p.block < w.heap.size
theorem IsPut.keep (s : Nat) (l : List UInt8) : ∀ v w w', Ext [] w w' → IsPut s l v w → IsPut s l v w' := fun _ _ _ he ⟨a, k, h1, h2, h3, h4⟩ => ⟨a, k, h1, h2.ext0 he, h3, fun p hp => ⟨(h4 p hp).1, Nat.lt_of_lt_of_le (h4 p hp).2 he.size⟩⟩
theorem fputN_ok (f : FrV) (a : Option Addr) (c : Nat) (w : World) (hb : Bs w a f.2.2.2.2.length f.2.2.2.2) (hi : okV f) : Meets Try.prog 141 [.agg (frC f a c)] w (fun v w' => IsPut w.heap.size (secV f) v w' ∧ Ext [] w w') := by
  obtain ⟨p, q, i, k, l⟩ := f
  have hv := InV.of hi
  refine (fput_ok p q i k a l.length c l w hb hv.l hv.p hv.q hv.i hv.k).mono ?_
  rintro v w' ⟨h1, h2⟩
  obtain ⟨a1, c1, M1, rfl, e, o, hM⟩ := h1 hi
  have e2 : (frameF p q i k l).length = 64 := secV_length (f := (p, q, i, k, l)) hi
  refine ⟨⟨a1, c1, by show _ = Value.slice a1 (frameF p q i k l).length c1; rw [e2], ?_, ?_, fun p hp => ⟨hM _ (o.mem p hp).1, (o.mem p hp).2⟩⟩, e⟩
  · show Bs w' a1 (frameF p q i k l).length (frameF p q i k l); rw [e2]; exact Bs.of_own o
  · show (frameF p q i k l).length ≤ c1; rw [e2]; exact o.le
theorem cput_ok (c : Ctl) (w : World) : Meets Try.prog 77 [.agg (ctlC c)] w (fun v w' => IsPut w.heap.size (putC c) v w' ∧ Ext [] w w') := by
  refine Meets.enter Try.func77 rfl 41 rfl (Nat.le_of_ble_eq_true rfl) ?_
  have E := Ext.refl [] w
  refine G.seq ?_
  refine G.region ?_
  refine L.do rfl rfl (R.box rfl) ?_
  rintro _ w1 ⟨b1, rfl, hb1, hs1, e1, B1⟩
  replace B1 : Blk w1 b1 (ctlC c) 121 (0, 0) := B1
  replace E := E.trans0 e1
  refine L.val rfl rfl (R.as rfl) ?_
  refine L.nil ?_
  refine N.seq ?_
  refine G.seq ?_
  refine G.seq ?_
  refine G.region ?_
  refine L.val rfl rfl (R.ldBN rfl B1 rfl) ?_
  refine L.callF rfl rfl rfl go76 (cright_ok c _) ?_
  rintro _ w2 ⟨rfl, e2⟩
  replace E := E.trans0 e2
  replace B1 := B1.ext0 e2
  refine L.val rfl rfl (R.not rfl) ?_
  refine L.nil ?_
  refine N.seq ?_
  refine G.condB rfl (fun h0 => ?_) (fun h0 => ?_)
  · have hno : ¬ okC c := by simpa using h0
    refine G.seq ?_
    refine G.region ?_
    refine L.val rfl rfl (R.as rfl) ?_
    refine L.nil ?_
    refine N.seq ?_
    refine G.ret1 rfl rfl ?_
    first
      | (have e0 : putC c = [] := if_neg hno; rw [e0]; exact ⟨⟨none, 0, rfl, Bs.nil _, Nat.le_refl _, (fun p hp => by cases hp)⟩, E⟩)
      | (have e0 : putC c = ctlS c := if_pos hok; rw [e0]; exact ⟨⟨a2, k2, rfl, h2, h3, fun p hp => ⟨Nat.le_trans hEs (h4 p hp).1, (h4 p hp).2⟩⟩, E⟩)
  · have hok : okC c := by simpa using h0
    obtain ⟨⟨o1, o2⟩, ⟨o3, o4⟩, ⟨o5, o6⟩, ⟨o7, o8⟩, ⟨o9, o10⟩, ⟨o11, o12⟩, ⟨o13, o14⟩⟩ := id hok
    have q1 : fitsF c.2.2.1 1 = true := by rw [fitsF_spec]; exact ⟨by decide, by decide, by omega, Int.lt_of_le_of_lt (show c.2.2.1 ≤ 255 by omega) (by decide)⟩
    have q2 : fitsF c.2.2.2.1 4 = true := by rw [fitsF_spec]; exact ⟨by decide, by decide, by omega, Int.lt_of_le_of_lt (show c.2.2.2.1 ≤ 4294967295 by omega) (by decide)⟩
    refine G.skip ?_
    refine N.seq ?_
    refine G.seq ?_
    refine G.region ?_
    refine L.val rfl rfl (R.build rfl rfl) ?_
    refine L.do rfl rfl (R.box rfl) ?_
    rintro _ w3 ⟨b10, rfl, hb10, hs10, e3, B10⟩
    have hb1l := B1.lt
    replace E := E.trans0 e3
    replace B1 := B1.ext0 e3
    have P0 := PenAt.new (E := 5) B10
    have f0 : ∀ g ∈ [b10], b1 < g := by intro g hg; rw [List.mem_singleton.1 hg]; omega
    have hb1w : w.heap.size ≤ b1 := by omega
    refine L.val rfl rfl (R.as rfl) ?_
    refine L.nil ?_
    refine N.seq ?_
    refine G.seq ?_
    refine G.region ?_
    refine L.val rfl rfl (R.mv rfl) ?_
    refine L.val rfl rfl (R.fld rfl) ?_
    refine L.val rfl rfl (R.ldB rfl B1 rfl) ?_
    refine L.callF rfl rfl rfl go140 (number_ok _ _ _ _ 1 _ P0 (by simp [be_length]) (by omega) (by decide)) ?_
    rintro _ w4 ⟨rfl, S1, P1, G1⟩
    rw [q1, if_pos rfl] at P1
    have hbl4 := B1.lt
    replace B1 := B1.ext G1.1 (fun h => by have := f0 _ h; omega)
    replace E := E.fresh G1.1 (fun g hg => by have := f0 _ hg; omega)
    have f1 : ∀ g ∈ S1, b1 < g := G1.freshLt f0 hbl4
    refine L.nil ?_
    refine N.seq ?_
    refine G.seq ?_
    refine G.region ?_
    refine L.val rfl rfl (R.mv rfl) ?_
    refine L.val rfl rfl (R.fld rfl) ?_
    refine L.val rfl rfl (R.ldB rfl B1 rfl) ?_
    refine L.callF rfl rfl rfl go140 (number_ok _ _ _ _ 4 _ P1 (by simp [be_length]) (by omega) (by decide)) ?_
    rintro _ w5 ⟨rfl, S2, P2, G2⟩
    rw [q2, if_pos rfl] at P2
    have hbl5 := B1.lt
    replace B1 := B1.ext G2.1 (fun h => by have := f1 _ h; omega)
    replace E := E.fresh G2.1 (fun g hg => by have := f1 _ hg; omega)
    have f2 : ∀ g ∈ S2, b1 < g := G2.freshLt f1 hbl5
    refine L.nil ?_
    refine N.seq ?_
    refine G.seq ?_
    refine G.seq ?_
    refine G.region ?_
    refine L.val rfl rfl (R.fld rfl) ?_
    refine L.val rfl rfl (R.ldB rfl B1 rfl) ?_
    refine L.val rfl rfl (R.fld rfl) ?_
    refine L.val rfl rfl (R.ldB rfl B1 rfl) ?_
    refine L.val rfl rfl (R.fld rfl) ?_
    refine L.val rfl rfl (R.ldB rfl B1 rfl) ?_
    refine L.val rfl rfl (R.build (cs := #[.int .i64 c.2.2.2.2.1, .int .i64 c.2.2.2.2.2.1, .int .i64 c.2.2.2.2.2.2]) rfl rfl) ?_
    refine L.val rfl rfl (R.mv rfl) ?_
    refine L.nil ?_
    refine N.seq ?_
    refine G.block ?_
    refine G.loop (X := Nat × List Nat) (fun s => [(1, .pointer (some ⟨b1, 0, none⟩)), (3, .pointer (some ⟨b10, 0, none⟩)), (25, .agg #[.int .i64 c.2.2.2.2.1, .int .i64 c.2.2.2.2.2.1, .int .i64 c.2.2.2.2.2.2]), (26, .int .i64 (s.1 : Int))]) (fun s w' => s.1 ≤ 3 ∧ PenAt 228 5 w' b10 (ctlP c s.1) s.2 ∧ (∀ g ∈ s.2, b1 < g) ∧ Blk w' b1 (ctlC c) 121 (0, 0) ∧ Ext [] w w') (fun s => 3 - s.1) ((0, S2)) (Sub.cons rfl (Sub.cons rfl (Sub.cons rfl (Sub.cons rfl (Sub.nil _))))) ⟨by show 0 ≤ 3; decide, by simpa [ctlP] using P2, f2, B1, E⟩ ?_
    rintro ⟨k, Sk⟩ w6 ⟨hk, P2, f2, B1, E⟩
    dsimp only at hk P2 f2
    refine G.sub [(1, .pointer (some ⟨b1, 0, none⟩)), (3, .pointer (some ⟨b10, 0, none⟩)), (25, .agg #[.int .i64 c.2.2.2.2.1, .int .i64 c.2.2.2.2.2.1, .int .i64 c.2.2.2.2.2.2]), (26, .int .i64 (k : Int))] (Sub.cons rfl (Sub.cons rfl (Sub.cons rfl (Sub.cons rfl (Sub.nil _))))) ?_
    refine G.seq ?_
    refine G.region ?_
    refine L.val rfl rfl (R.lss rfl rfl) ?_
    refine L.nil ?_
    refine N.seq ?_
    refine G.seq ?_
    refine G.condP rfl (fun h1 => ?_) (fun h1 => ?_)
    · have hk3 : k < 3 := by omega
      obtain ⟨x, hx, q3, x1, x2⟩ := ctlN_get hk3 hok
      have hpl := ctlP_len (c := c) hk
      refine G.skip ?_
      refine N.seq ?_
      refine G.seq ?_
      refine G.block ?_
      refine G.seq ?_
      refine G.region ?_
      have h9 : ((ctlN c).map (Value.int .i64))[k]? = some (.int .i64 x) := by rw [List.getElem?_map, hx]; rfl
      have hix : (#[.int .i64 c.2.2.2.2.1, .int .i64 c.2.2.2.2.2.1, .int .i64 c.2.2.2.2.2.2] : Array Value)[((k : Nat) : Int).toNat]? = some (.int .i64 x) := by rw [Int.toNat_natCast, List.getElem?_toArray]; exact h9
      refine L.val rfl rfl (R.idxV (v := .int .i64 x) rfl rfl (by omega) (by omega) hix) ?_
      refine L.val rfl rfl (R.as rfl) ?_
      refine L.nil ?_
      refine N.seq ?_
      refine G.region ?_
      refine L.val rfl rfl (R.mv rfl) ?_
      refine L.val rfl rfl (R.mv rfl) ?_
      refine L.callF rfl rfl rfl go140 (number_ok _ _ _ _ 8 _ P2 (by omega) ⟨x1, x2⟩ (by decide)) ?_
      rintro _ w7 ⟨rfl, S3, P3, G3⟩
      rw [q3, if_pos rfl] at P3
      have hbl7 := B1.lt
      replace B1 := B1.ext G3.1 (fun h => by have := f2 _ h; omega)
      replace E := E.fresh G3.1 (fun g hg => by have := f2 _ hg; omega)
      have f3 : ∀ g ∈ S3, b1 < g := G3.freshLt f2 hbl7
      refine L.nil ?_
      refine N.block ?_
      refine N.seq ?_
      refine G.region ?_
      refine L.val rfl rfl (R.add rfl rfl (by omega)) ?_
      refine L.val rfl rfl (R.mv rfl) ?_
      refine L.nil ?_
      exact N.again (k + 1, S3) (by show 3 - (k + 1) < 3 - k; omega) (Sub.cons rfl (Sub.cons rfl (Sub.cons rfl (Sub.cons rfl (Sub.nil _))))) ⟨by show k + 1 ≤ 3; omega, by rw [ctlP_succ hx]; exact P3, f3, B1, E⟩
    · obtain rfl : k = 3 := by omega
      rw [ctlP_three] at P2
      have hfo := ctlFr_ok hok
      have hb29 := ctlB_length c
      have hEs := E.size
      refine G.exit _ rfl ?_
      refine N.seq ?_
      refine G.seq ?_
      refine G.quiet (by decide +kernel) rfl ?_
      refine Q.val rfl rfl rfl rfl (fun w7 hE => R.fld rfl) ?_
      refine Q.val rfl rfl rfl rfl (fun w7 hE => R.ldB rfl (B1.ext0 hE) rfl) ?_
      refine Q.val rfl rfl rfl rfl (fun w7 hE => R.fld rfl) ?_
      refine Q.val rfl rfl rfl rfl (fun w7 hE => R.ldB rfl (B1.ext0 hE) rfl) ?_
      refine Q.val rfl rfl rfl rfl (fun w7 hE => R.mv rfl) ?_
      refine Q.callR (A := IsBs (ctlB c).length (ctlB c)) (IsBs.keep _ _) rfl rfl go142 (fun w7 hE => ⟨_, rfl, (bytes_ok _ _ _ _ (P2.ext0 hE) (by omega)).mono (fun _ _ h => by obtain ⟨x9, y9, M9, rfl, e9, ho9, _⟩ := h; exact ⟨⟨x9, y9, rfl, ho9.le, Bs.of_own ho9⟩, e9⟩)⟩) ?_
      refine Q.valR (A := IsFr (ctlFr c)) (IsFr.keep _) rfl rfl rfl (fun w7 hE => fun v hv => by obtain ⟨x1, y1, rfl, hxy, hv⟩ := hv; exact ⟨_, R.build (cs := frC (ctlFr c) x1 y1) rfl rfl, x1, y1, rfl, hv, hxy⟩) ?_
      refine Q.callR (A := IsPut w6.heap.size (ctlS c)) (IsPut.keep _ _) rfl rfl go141 (fun w7 hE => fun v hv => by obtain ⟨x1, y1, rfl, hv, hxy⟩ := hv; exact ⟨_, rfl, (fputN_ok _ _ _ _ hv hfo).mono (fun _ _ h => by obtain ⟨⟨x2, y2, rfl, h2, h3, h4⟩, e⟩ := h; exact ⟨⟨x2, y2, rfl, h2, h3, fun p hp => ⟨Nat.le_trans hE.size (h4 p hp).1, (h4 p hp).2⟩⟩, e⟩)⟩) ?_
      refine Q.valR (A := IsPut w6.heap.size (ctlS c)) (IsPut.keep _ _) rfl rfl rfl (fun w7 hE => fun v hv => ⟨v, R.as rfl, hv⟩) ?_
      refine Q.nil (fun w7 e7 => ?_)
      intro v2 hv2 v40 _ v39 _ v38 _
      obtain ⟨a2, k2, rfl, h2, h3, h4⟩ := hv2
      replace E := E.trans0 e7
      refine N.seq ?_
      refine G.ret1 rfl rfl ?_
      first
        | (have e0 : putC c = [] := if_neg hno; rw [e0]; exact ⟨⟨none, 0, rfl, Bs.nil _, Nat.le_refl _, (fun p hp => by cases hp)⟩, E⟩)
        | (have e0 : putC c = ctlS c := if_pos hok; rw [e0]; exact ⟨⟨a2, k2, rfl, h2, h3, fun p hp => ⟨Nat.le_trans hEs (h4 p hp).1, (h4 p hp).2⟩⟩, E⟩)

theorem rcput_ok (c : Ctl) (w : World) (hok : okC c) : Meets Try.prog 73 [.agg (ctlC c)] w (fun v w' => v = .string (str (ctlS c)) ∧ Ext [] w w') := by
  refine Meets.enter Try.func73 rfl 31 rfl (Nat.le_of_ble_eq_true rfl) ?_
  have E := Ext.refl [] w
  obtain ⟨⟨o1, o2⟩, ⟨o3, o4⟩, ⟨o5, o6⟩, ⟨o7, o8⟩, ⟨o9, o10⟩, ⟨o11, o12⟩, ⟨o13, o14⟩⟩ := id hok
  refine G.seq ?_
  refine G.region ?_
  refine L.do rfl rfl (R.box rfl) ?_
  rintro _ w1 ⟨b1, rfl, hb1, hs1, e1, B1⟩
  replace B1 : Blk w1 b1 (ctlC c) 121 (0, 0) := B1
  replace E := E.trans0 e1
  refine L.val rfl rfl (R.as rfl) ?_
  refine L.nil ?_
  refine N.seq ?_
  refine G.seq ?_
  refine G.quiet (by decide +kernel) rfl ?_
  refine Q.val rfl rfl rfl rfl (fun w2 hE => R.fld rfl) ?_
  refine Q.val rfl rfl rfl rfl (fun w2 hE => R.ldB rfl (B1.ext0 hE) rfl) ?_
  refine Q.be 5 rfl (congrArg (Value.int .i64) (show c.2.2.1 = ((c.2.2.1.toNat : Nat) : Int) by omega)) ?_
  refine Q.call (.string (str (be 1 c.2.2.1.toNat))) rfl rfl rfl go130 (fun w2 hE => ⟨_, rfl, (refnumber_ok 1 _ _ (by decide) (by omega)).mono (fun _ _ h => h)⟩) ?_
  refine Q.val rfl rfl rfl rfl (fun w2 hE => R.fld rfl) ?_
  refine Q.val rfl rfl rfl rfl (fun w2 hE => R.ldB rfl (B1.ext0 hE) rfl) ?_
  refine Q.be 8 rfl (congrArg (Value.int .i64) (show c.2.2.2.1 = ((c.2.2.2.1.toNat : Nat) : Int) by omega)) ?_
  refine Q.call (.string (str (be 4 c.2.2.2.1.toNat))) rfl rfl rfl go130 (fun w2 hE => ⟨_, rfl, (refnumber_ok 4 _ _ (by decide) (by omega)).mono (fun _ _ h => h)⟩) ?_
  refine Q.val rfl rfl rfl rfl (fun w2 hE => R.addStr rfl rfl (by simp [be_length])) ?_
  refine Q.val rfl rfl rfl rfl (fun w2 hE => R.fld rfl) ?_
  refine Q.val rfl rfl rfl rfl (fun w2 hE => R.ldB rfl (B1.ext0 hE) rfl) ?_
  refine Q.be 12 rfl (congrArg (Value.int .i64) (show c.2.2.2.2.1 = ((c.2.2.2.2.1.toNat : Nat) : Int) by omega)) ?_
  refine Q.call (.string (str (be 8 c.2.2.2.2.1.toNat))) rfl rfl rfl go130 (fun w2 hE => ⟨_, rfl, (refnumber_ok 8 _ _ (by decide) (by omega)).mono (fun _ _ h => h)⟩) ?_
  refine Q.val rfl rfl rfl rfl (fun w2 hE => R.addStr rfl rfl (by simp [be_length])) ?_
  refine Q.val rfl rfl rfl rfl (fun w2 hE => R.fld rfl) ?_
  refine Q.val rfl rfl rfl rfl (fun w2 hE => R.ldB rfl (B1.ext0 hE) rfl) ?_
  refine Q.be 16 rfl (congrArg (Value.int .i64) (show c.2.2.2.2.2.1 = ((c.2.2.2.2.2.1.toNat : Nat) : Int) by omega)) ?_
  refine Q.call (.string (str (be 8 c.2.2.2.2.2.1.toNat))) rfl rfl rfl go130 (fun w2 hE => ⟨_, rfl, (refnumber_ok 8 _ _ (by decide) (by omega)).mono (fun _ _ h => h)⟩) ?_
  refine Q.val rfl rfl rfl rfl (fun w2 hE => R.addStr rfl rfl (by simp [be_length])) ?_
  refine Q.val rfl rfl rfl rfl (fun w2 hE => R.fld rfl) ?_
  refine Q.val rfl rfl rfl rfl (fun w2 hE => R.ldB rfl (B1.ext0 hE) rfl) ?_
  refine Q.be 20 rfl (congrArg (Value.int .i64) (show c.2.2.2.2.2.2 = ((c.2.2.2.2.2.2.toNat : Nat) : Int) by omega)) ?_
  refine Q.call (.string (str (be 8 c.2.2.2.2.2.2.toNat))) rfl rfl rfl go130 (fun w2 hE => ⟨_, rfl, (refnumber_ok 8 _ _ (by decide) (by omega)).mono (fun _ _ h => h)⟩) ?_
  refine Q.val rfl rfl rfl rfl (fun w2 hE => R.addStr rfl rfl (by simp [be_length])) ?_
  refine Q.be 22 rfl (show _ = Value.string (str (ctlB c)) by simp [ctlB]) ?_
  refine Q.val rfl rfl rfl rfl (fun w2 hE => R.as rfl) ?_
  refine Q.nil (fun w2 e2 => ?_)
  replace E := E.trans0 e2
  replace B1 := B1.ext0 e2
  refine N.seq ?_
  refine G.seq ?_
  refine G.region ?_
  refine L.val rfl rfl (R.fld rfl) ?_
  refine L.val rfl rfl (R.ldB rfl B1 rfl) ?_
  refine L.val rfl rfl (R.fld rfl) ?_
  refine L.val rfl rfl (R.ldB rfl B1 rfl) ?_
  refine L.val rfl rfl (R.mv rfl) ?_
  refine L.do rfl rfl (R.strBytes rfl) ?_
  rintro _ w4 ⟨b28, k28, rfl, hb28, hs28, hk28, e4, C28⟩
  replace E := E.trans0 e4
  refine L.val rfl rfl (R.build (cs := frC (ctlFr c) (some ⟨b28, 0, none⟩) k28) rfl rfl) ?_
  refine L.callF rfl rfl rfl go131 (rputV_ok (ctlFr c) _ _ _ (ctlFr_ok hok) (Bs.of_cells C28 rfl) hk28) ?_
  rintro _ w5 ⟨rfl, e5⟩
  replace E := E.trans0 e5
  refine L.val rfl rfl (R.as rfl) ?_
  refine L.nil ?_
  refine N.seq ?_
  refine G.ret1 rfl rfl ?_
  exact ⟨rfl, E⟩

end Go.Proofs.Ythpolibakkmmeaa
/-
  The walks of package control.
-/
set_option linter.unusedVariables false
set_option linter.unusedSimpArgs false
namespace Go.Proofs.Ythpolibakkmmeaa
open Go Brv Brv.Crc Brv.Pack Brv.Frame Brv.Image Brv.Dev Brv.Control
theorem cget_ok (a : Option Addr) (n k : Nat) (l : List UInt8) (w : World) (hb : Bs w a n l) (hk : n ≤ k) (hn : n ≤ 70368744177664) : Meets Try.prog 74 [.slice a n k] w (fun v w' => v = .tuple #[.agg (ctlC (getC l).1), .int .i64 (getC l).2] ∧ Ext [] w w') := by
  refine Meets.enter Try.func74 rfl 55 rfl (Nat.le_of_ble_eq_true rfl) ?_
  have E := Ext.refl [] w
  have hl := hb.len
  refine G.seq ?_
  refine G.region ?_
  refine L.do rfl rfl (R.alloc) ?_
  rintro _ w1 ⟨b2, rfl, hb2, hs2, e1, B2⟩
  replace B2 : Blk w1 b2 (ctlC zeroC) 121 (0, 0) := B2
  replace E := E.trans0 e1
  refine L.val rfl rfl (R.as rfl) ?_
  refine L.nil ?_
  refine N.seq ?_
  refine G.seq ?_
  refine G.region ?_
  refine L.val rfl rfl (R.mv rfl) ?_
  refine L.callF rfl rfl rfl go132 (fget_ok a n k l _ (hb.ext0 E) hk hn) ?_
  rintro _ w2 ⟨a1, c1, rfl, e2, hb1, hc1, hfr⟩
  replace E := E.trans0 e2
  replace B2 := B2.ext0 e2
  have hw12 := e2.size
  refine L.val rfl rfl (R.mv rfl) ?_
  refine L.val rfl rfl (R.ext rfl rfl) ?_
  refine L.val rfl rfl (R.ext rfl rfl) ?_
  refine L.do rfl rfl (R.alloc) ?_
  rintro _ w3 ⟨b4, rfl, hb4, hs4, e3, B4⟩
  have hE2 := E.size
  replace E := E.trans0 e3
  have hlt2 := B2.lt
  replace B2 := B2.ext0 e3
  replace hb1 := hb1.ext0 e3
  refine L.set rfl (R.stN rfl rfl B4 rfl (Nat.le_refl 5) (frC_one _ _ _)) ?_
  rintro w4 ⟨e4, hs4, B4x⟩
  replace B4 : Blk w4 b4 (frC (getF l).1 a1 c1) 214 (0, 0) := by rw [all_stored (by rfl)] at B4x; exact B4x
  replace E := E.trans e4 (M := []) (by simp) (by intro x hx; rw [List.mem_singleton.1 hx]; exact .inr (by omega))
  have n4 := e3.news2 e4 (by omega)
  replace B2 := B2.ext e4 (by simp; omega)
  replace hb1 := hb1.ext e4 (by intro p hp hh; have h1 := (hfr p hp).2; rw [List.mem_singleton.1 hh] at h1; omega)
  have hw4 := e4.size
  refine L.val rfl rfl (R.as rfl) ?_
  refine L.nil ?_
  refine N.seq ?_
  refine G.seq ?_
  refine G.seq ?_
  refine G.region ?_
  refine L.val rfl rfl (R.mv rfl) ?_
  refine L.val rfl rfl (R.neI rfl rfl) ?_
  refine L.nil ?_
  refine N.seq ?_
  refine G.condP rfl (fun h0 => ?_) (fun h0 => ?_)
  · have hne : (getF l).2 ≠ 0 := h0
    refine G.seq ?_
    refine G.region ?_
    refine L.val rfl rfl (R.build (cs := (ctlC zeroC)) rfl rfl) ?_
    refine L.val rfl rfl (R.mv rfl) ?_
    refine L.set rfl (R.stN rfl rfl B2 rfl (Nat.le_refl 7) (ctlC_one _)) ?_
    rintro w20 ⟨e20, hs20, B2x⟩
    replace B2 : Blk w20 b2 (ctlC zeroC) 121 (0, 0) := by rw [all_stored (by rfl)] at B2x; exact B2x
    replace E := E.trans e20 (M := []) (by simp) (by intro x hx; rw [List.mem_singleton.1 hx]; exact .inr (by omega))
    refine L.val rfl rfl (R.as rfl) ?_
    refine L.nil ?_
    refine N.seq ?_
    refine G.retCT rfl rfl rfl (B2) rfl ?_
    first
      | (rw [getC_err hne]; exact ⟨rfl, E⟩)
      | (rw [getC_no he0 (by rw [← hf]; exact hno)]; exact ⟨rfl, E⟩)
      | (rw [getC_no he0 (by rw [← hf]; exact fun h => by have h9 := (hok.1 h).2.2.2; simp [h9] at h1)]; exact ⟨rfl, E⟩)
      | (rw [getC_yes he0 (by rw [← hf]; exact hok.2 ⟨Classical.not_not.1 hg6_3, by omega, Classical.not_not.1 hg6_13, by simpa using h1⟩), ← hf, hmk]; exact ⟨rfl, E⟩)
  · have he0 : (getF l).2 = 0 := Classical.not_not.1 h0
    obtain ⟨f, hf⟩ : ∃ f, f = (getF l).1 := ⟨_, rfl⟩
    obtain ⟨q, hq⟩ : ∃ q, q = f.2.2.2.2 := ⟨_, rfl⟩
    rw [← hf] at hb1 hc1 B4
    have hfo := (getF_ok he0).1
    rw [← hf] at hfo
    have hq40 : q.length ≤ 40 := by rw [hq]; exact hfo.2.2.2.2
    obtain ⟨x1, hx1⟩ : ∃ x, x = numF q 0 1 := ⟨_, rfl⟩
    obtain ⟨x2, hx2⟩ : ∃ x, x = numF x1.2.1 x1.2.2 4 := ⟨_, rfl⟩
    obtain ⟨x3, hx3⟩ : ∃ x, x = numF x2.2.1 x2.2.2 8 := ⟨_, rfl⟩
    obtain ⟨x4, hx4⟩ : ∃ x, x = numF x3.2.1 x3.2.2 8 := ⟨_, rfl⟩
    obtain ⟨x5, hx5⟩ : ∃ x, x = numF x4.2.1 x4.2.2 8 := ⟨_, rfl⟩
    have h5 : five q = ((x1.1, x2.1, x3.1, x4.1, x5.1), x5.2.1, x5.2.2) := five_eq hx1.symm hx2.symm hx3.symm hx4.symm hx5.symm
    have z1 : x1.2.1.length ≤ 40 := by rw [hx1]; exact Nat.le_trans (numF_length _ _ _) hq40
    have z2 : x2.2.1.length ≤ 40 := by rw [hx2]; exact Nat.le_trans (numF_length _ _ _) z1
    have z3 : x3.2.1.length ≤ 40 := by rw [hx3]; exact Nat.le_trans (numF_length _ _ _) z2
    have z4 : x4.2.1.length ≤ 40 := by rw [hx4]; exact Nat.le_trans (numF_length _ _ _) z3
    have z5 : x5.2.1.length ≤ 40 := by rw [hx5]; exact Nat.le_trans (numF_length _ _ _) z4
    obtain ⟨c, hcc⟩ : ∃ c : Ctl, c = (f.1, f.2.1, (x1.1 : Int), (x2.1 : Int), (x3.1 : Int), (x4.1 : Int), (x5.1 : Int)) := ⟨_, rfl⟩
    have hmk : mkC f = c := by rw [hcc]; simp only [mkC, ← hq, h5]
    have hInc : InC c := by
      have n1 := numF_lt q 0 1
      have n2 := numF_lt x1.2.1 x1.2.2 4
      have n3 := numF_lt x2.2.1 x2.2.2 8
      have n4 := numF_lt x3.2.1 x3.2.2 8
      have n5 := numF_lt x4.2.1 x4.2.2 8
      rw [← hx1] at n1
      rw [← hx2] at n2
      rw [← hx3] at n3
      rw [← hx4] at n4
      rw [← hx5] at n5
      obtain ⟨⟨v1, v2⟩, ⟨v3, v4⟩, _⟩ := hfo
      rw [hcc]
      exact ⟨⟨by show (-9223372036854775808 : Int) ≤ f.1; omega, by show f.1 ≤ _; omega⟩, ⟨by show (-9223372036854775808 : Int) ≤ f.2.1; omega, by show f.2.1 ≤ _; omega⟩, ⟨by show (-9223372036854775808 : Int) ≤ (x1.1 : Int); omega, by show (x1.1 : Int) ≤ _; omega⟩, ⟨by show (-9223372036854775808 : Int) ≤ (x2.1 : Int); omega, by show (x2.1 : Int) ≤ _; omega⟩, ⟨by show (-9223372036854775808 : Int) ≤ (x3.1 : Int); omega, by show (x3.1 : Int) ≤ _; omega⟩, ⟨by show (-9223372036854775808 : Int) ≤ (x4.1 : Int); omega, by show (x4.1 : Int) ≤ _; omega⟩, ⟨by show (-9223372036854775808 : Int) ≤ (x5.1 : Int); omega, by show (x5.1 : Int) ≤ _; omega⟩⟩
    have hok : okG f ↔ (x5.2.2 = 0 ∧ x5.2.1.length = 0 ∧ f.2.2.2.1 = 1 ∧ okC c) := by unfold okG; rw [hmk, ← hq, h5]
    refine G.skip ?_
    refine N.seq ?_
    refine G.seq ?_
    refine G.region ?_
    refine L.val rfl rfl (R.fld rfl) ?_
    refine L.val rfl rfl (R.ldB rfl B4 rfl) ?_
    refine L.be 18 rfl (show _ = Value.slice a1 q.length c1 by rw [hq, hf]; rfl) ?_
    refine L.callF rfl rfl rfl go133 (new_ok _ _ _ q _ (by rw [hq]; exact hb1) (by omega)) ?_
    rintro _ w5 ⟨s, D, rfl, S0, e5, hss, hD2, _, hDc⟩
    have hDl : ∀ d ∈ D, d < w5.heap.size := fun d hd => (hDc d hd).elim fun _ h => h.lt
    have hsl := S0.lt
    have hl4 := B4.lt
    have hl2 := B2.lt
    have hE4 := E.size
    replace E := E.trans0 e5
    replace B2 := B2.ext0 e5
    replace B4 := B4.ext0 e5
    have hE5 := E.size
    refine L.val rfl rfl (R.as rfl) ?_
    refine L.nil ?_
    refine N.seq ?_
    refine G.seq ?_
    have hI : ∀ kq w', stage [fun w' => (Ext [s] w5 w' ∧ Blk w' b4 (frC f a1 c1) 214 (0, 0) ∧ Blk w' b2 (ctlC zeroC) 121 (0, 0)) ∧ ScanAt 287 w' s D q 0, fun w' => (Ext [s] w5 w' ∧ Blk w' b4 (frC f a1 c1) 214 (0, 0) ∧ Blk w' b2 (ctlC zeroC) 121 (0, 0)) ∧ ScanAt 287 w' s D x1.2.1 x1.2.2, fun w' => (Ext [s] w5 w' ∧ Blk w' b4 (frC f a1 c1) 214 (0, 0) ∧ Blk w' b2 (ctlC zeroC) 121 (0, 0)) ∧ ScanAt 287 w' s D x2.2.1 x2.2.2, fun w' => (Ext [s] w5 w' ∧ Blk w' b4 (frC f a1 c1) 214 (0, 0) ∧ Blk w' b2 (ctlC zeroC) 121 (0, 0)) ∧ ScanAt 287 w' s D x3.2.1 x3.2.2, fun w' => (Ext [s] w5 w' ∧ Blk w' b4 (frC f a1 c1) 214 (0, 0) ∧ Blk w' b2 (ctlC zeroC) 121 (0, 0)) ∧ ScanAt 287 w' s D x4.2.1 x4.2.2, fun w' => (Ext [s] w5 w' ∧ Blk w' b4 (frC f a1 c1) 214 (0, 0) ∧ Blk w' b2 (ctlC zeroC) 121 (0, 0)) ∧ ScanAt 287 w' s D x5.2.1 x5.2.2] kq w' → (fun w' => Ext [s] w5 w' ∧ Blk w' b4 (frC f a1 c1) 214 (0, 0) ∧ Blk w' b2 (ctlC zeroC) 121 (0, 0)) w' := fun kq w' hs => stage_all (I := fun w' => Ext [s] w5 w' ∧ Blk w' b4 (frC f a1 c1) 214 (0, 0) ∧ Blk w' b2 (ctlC zeroC) 121 (0, 0)) (by
      intro Ψ hΨ w' hJ
      simp only [List.mem_cons, List.not_mem_nil, or_false] at hΨ
      rcases hΨ with rfl | rfl | rfl | rfl | rfl | rfl
      · exact hJ.1
      · exact hJ.1
      · exact hJ.1
      · exact hJ.1
      · exact hJ.1
      · exact hJ.1) hs
    refine G.stagedL rfl (by decide +kernel) [5, 7, 9, 11, 13] [.blocks ([s]), .blocks ([s]), .blocks ([s]), .blocks ([s]), .blocks ([s])] [fun w' => (Ext [s] w5 w' ∧ Blk w' b4 (frC f a1 c1) 214 (0, 0) ∧ Blk w' b2 (ctlC zeroC) 121 (0, 0)) ∧ ScanAt 287 w' s D q 0, fun w' => (Ext [s] w5 w' ∧ Blk w' b4 (frC f a1 c1) 214 (0, 0) ∧ Blk w' b2 (ctlC zeroC) 121 (0, 0)) ∧ ScanAt 287 w' s D x1.2.1 x1.2.2, fun w' => (Ext [s] w5 w' ∧ Blk w' b4 (frC f a1 c1) 214 (0, 0) ∧ Blk w' b2 (ctlC zeroC) 121 (0, 0)) ∧ ScanAt 287 w' s D x2.2.1 x2.2.2, fun w' => (Ext [s] w5 w' ∧ Blk w' b4 (frC f a1 c1) 214 (0, 0) ∧ Blk w' b2 (ctlC zeroC) 121 (0, 0)) ∧ ScanAt 287 w' s D x3.2.1 x3.2.2, fun w' => (Ext [s] w5 w' ∧ Blk w' b4 (frC f a1 c1) 214 (0, 0) ∧ Blk w' b2 (ctlC zeroC) 121 (0, 0)) ∧ ScanAt 287 w' s D x4.2.1 x4.2.2, fun w' => (Ext [s] w5 w' ∧ Blk w' b4 (frC f a1 c1) 214 (0, 0) ∧ Blk w' b2 (ctlC zeroC) 121 (0, 0)) ∧ ScanAt 287 w' s D x5.2.1 x5.2.2] [] (by decide +kernel) (by decide +kernel) rfl rfl rfl (fun _ e => ⟨⟨e.mono (by simp), B4.ext0 e, B2.ext0 e⟩, S0.ext0 e⟩) ?_
    refine Z.val rfl rfl rfl rfl rfl (fun w6 => R.fld rfl) ?_
    refine Z.readI (I := fun w' => Ext [s] w5 w' ∧ Blk w' b4 (frC f a1 c1) 214 (0, 0) ∧ Blk w' b2 (ctlC zeroC) 121 (0, 0)) hI rfl rfl rfl rfl rfl (fun w6 hJ => R.ldB (v := .int .i64 f.1) rfl hJ.2.1 rfl) ?_
    refine Z.val rfl rfl rfl rfl rfl (fun w6 => R.fld rfl) ?_
    refine Z.readI (I := fun w' => Ext [s] w5 w' ∧ Blk w' b4 (frC f a1 c1) 214 (0, 0) ∧ Blk w' b2 (ctlC zeroC) 121 (0, 0)) hI rfl rfl rfl rfl rfl (fun w6 hJ => R.ldB (v := .int .i64 f.2.1) rfl hJ.2.1 rfl) ?_
    refine Z.val rfl rfl rfl rfl rfl (fun w6 => R.mv rfl) ?_
    refine Z.callEqPut (.int .i64 (x1.1 : Int)) 0 (by decide +kernel) rfl rfl rfl rfl rfl rfl rfl go134 (fun w6 hJ => ⟨_, rfl, (scannum_ok _ _ _ _ 1 _ hJ.2 (by omega)).mono (fun _ _ h => by have h1 := h.1; have h2 := h.2.1; have h3 := h.2.2; rw [← hx1] at h1 h2; exact ⟨h1, h3, ⟨hJ.1.1.transN h3 (fun _ hx => .inl hx), hJ.1.2.1.ext h3 (by simp; omega), hJ.1.2.2.ext h3 (by simp; omega)⟩, h2⟩)⟩) ?_
    refine Z.val rfl rfl rfl rfl rfl (fun w6 => R.mv rfl) ?_
    refine Z.callEqPut (.int .i64 (x2.1 : Int)) 1 (by decide +kernel) rfl rfl rfl rfl rfl rfl rfl go134 (fun w6 hJ => ⟨_, rfl, (scannum_ok _ _ _ _ 4 _ hJ.2 (by omega)).mono (fun _ _ h => by have h1 := h.1; have h2 := h.2.1; have h3 := h.2.2; rw [← hx2] at h1 h2; exact ⟨h1, h3, ⟨hJ.1.1.transN h3 (fun _ hx => .inl hx), hJ.1.2.1.ext h3 (by simp; omega), hJ.1.2.2.ext h3 (by simp; omega)⟩, h2⟩)⟩) ?_
    refine Z.val rfl rfl rfl rfl rfl (fun w6 => R.mv rfl) ?_
    refine Z.callEqPut (.int .i64 (x3.1 : Int)) 2 (by decide +kernel) rfl rfl rfl rfl rfl rfl rfl go134 (fun w6 hJ => ⟨_, rfl, (scannum_ok _ _ _ _ 8 _ hJ.2 (by omega)).mono (fun _ _ h => by have h1 := h.1; have h2 := h.2.1; have h3 := h.2.2; rw [← hx3] at h1 h2; exact ⟨h1, h3, ⟨hJ.1.1.transN h3 (fun _ hx => .inl hx), hJ.1.2.1.ext h3 (by simp; omega), hJ.1.2.2.ext h3 (by simp; omega)⟩, h2⟩)⟩) ?_
    refine Z.val rfl rfl rfl rfl rfl (fun w6 => R.mv rfl) ?_
    refine Z.callEqPut (.int .i64 (x4.1 : Int)) 3 (by decide +kernel) rfl rfl rfl rfl rfl rfl rfl go134 (fun w6 hJ => ⟨_, rfl, (scannum_ok _ _ _ _ 8 _ hJ.2 (by omega)).mono (fun _ _ h => by have h1 := h.1; have h2 := h.2.1; have h3 := h.2.2; rw [← hx4] at h1 h2; exact ⟨h1, h3, ⟨hJ.1.1.transN h3 (fun _ hx => .inl hx), hJ.1.2.1.ext h3 (by simp; omega), hJ.1.2.2.ext h3 (by simp; omega)⟩, h2⟩)⟩) ?_
    refine Z.val rfl rfl rfl rfl rfl (fun w6 => R.mv rfl) ?_
    refine Z.callEqPut (.int .i64 (x5.1 : Int)) 4 (by decide +kernel) rfl rfl rfl rfl rfl rfl rfl go134 (fun w6 hJ => ⟨_, rfl, (scannum_ok _ _ _ _ 8 _ hJ.2 (by omega)).mono (fun _ _ h => by have h1 := h.1; have h2 := h.2.1; have h3 := h.2.2; rw [← hx5] at h1 h2; exact ⟨h1, h3, ⟨hJ.1.1.transN h3 (fun _ hx => .inl hx), hJ.1.2.1.ext h3 (by simp; omega), hJ.1.2.2.ext h3 (by simp; omega)⟩, h2⟩)⟩) ?_
    refine Z.val rfl rfl rfl rfl rfl (fun w6 => R.build1 (cs := ctlC (f.1, f.2.1, (x1.1 : Int), (x2.1 : Int), (x3.1 : Int), (x4.1 : Int), (x5.1 : Int))) rfl rfl rfl) ?_
    refine Z.newI (A := fun v w' => ∃ b, v = .pointer (some ⟨b, 0, none⟩) ∧ w5.heap.size ≤ b ∧ Blk w' b (ctlC zeroC) 121 (0, 0)) (Lasts.apart (by intro M hM v w9 w10 hok9 hA; obtain ⟨b, rfl, hbb, hB⟩ := hA; simp only [List.mem_cons, List.not_mem_nil, or_false] at hM; rcases hM with rfl | rfl | rfl | rfl | rfl | rfl <;> exact ⟨b, rfl, hbb, hB.ext hok9 (by simp <;> omega)⟩)) hI (by intro Ψ hΨ; simp only [List.mem_cons, List.not_mem_nil, or_false] at hΨ; rcases hΨ with rfl | rfl | rfl | rfl | rfl | rfl <;> exact fun _ _ he h => ⟨⟨h.1.1.trans0 he, h.1.2.1.ext0 he, h.1.2.2.ext0 he⟩, h.2.ext0 he⟩) rfl rfl rfl rfl (fun w6 hJ => (R.alloc).mono (fun v w9 h => by obtain ⟨b, rfl, hb, hs, e, B⟩ := h; exact ⟨⟨b, rfl, by have := hJ.1.size; omega, B⟩, e⟩)) ?_
    refine Z.nil rfl rfl (fun w6 hJ => ?_)
    obtain ⟨⟨e6, B4n, B2n⟩, S5⟩ := hJ
    rintro _ ⟨b7, rfl, hb7, B7⟩
    replace B4 := B4n
    replace B2 := B2n
    replace E := E.trans e6 (M := []) (by simp) (by intro x hx; rw [List.mem_singleton.1 hx]; exact .inr (by omega))
    refine N.last ?_
    rw [← hcc]
    refine L.set rfl (R.stN rfl rfl B7 rfl (Nat.le_refl 7) (ctlC_one _)) ?_
    rintro w7 ⟨e7, hs7, B7x⟩
    replace B7 : Blk w7 b7 (ctlC c) 121 (0, 0) := by rw [all_stored (by rfl)] at B7x; exact B7x
    replace E := E.trans e7 (M := []) (by simp) (by intro x hx; rw [List.mem_singleton.1 hx]; exact .inr (by omega))
    have hl7 := S5.lt
    replace B4 := B4.ext e7 (by simp; omega)
    replace B2 := B2.ext e7 (by simp; omega)
    replace S5 := S5.ext e7 (by simp; omega) (by intro x hx hh; have h1 := hDl _ hx; rw [List.mem_singleton.1 hh] at h1; omega)
    refine L.nil ?_
    refine N.seq ?_
    refine G.seq ?_
    refine G.seq ?_
    refine G.region ?_
    refine L.val rfl rfl (R.mv rfl) ?_
    refine L.callF rfl rfl rfl go135 (scanerr_ok _ _ _ _ _ S5 (by omega)) ?_
    rintro _ _ ⟨rfl, hw⟩
    obtain rfl := hw.symm
    refine L.val rfl rfl (R.neI rfl rfl) ?_
    refine L.val rfl rfl (R.mv rfl) ?_
    refine L.caseP 38 rfl (fun hg6_3 => ?_) (fun hg6_3 => ?_)
    · have hno : ¬ okG f := fun h => hg6_3 (hok.1 h).1
      refine L.pass rfl rfl ?_
      refine L.pass rfl rfl ?_
      refine L.pass rfl rfl ?_
      first | refine L.val rfl rfl (R.pickT rfl rfl) ?_ | refine L.val rfl rfl (R.pickF rfl rfl) ?_
      refine L.val rfl rfl (R.mv rfl) ?_
      refine L.pass rfl rfl ?_
      refine L.pass rfl rfl ?_
      refine L.pass rfl rfl ?_
      first | refine L.val rfl rfl (R.pickT rfl rfl) ?_ | refine L.val rfl rfl (R.pickF rfl rfl) ?_
      refine L.val rfl rfl (R.mv rfl) ?_
      refine L.pass rfl rfl ?_
      refine L.pass rfl rfl ?_
      refine L.pass rfl rfl ?_
      first | refine L.val rfl rfl (R.pickT rfl rfl) ?_ | refine L.val rfl rfl (R.pickF rfl rfl) ?_
      refine L.nil ?_
      refine N.seq ?_
      refine G.condT rfl ?_
      refine G.seq ?_
      refine G.region ?_
      refine L.val rfl rfl (R.build (cs := (ctlC zeroC)) rfl rfl) ?_
      refine L.set rfl (R.stN rfl rfl B2 rfl (Nat.le_refl 7) (ctlC_one _)) ?_
      rintro w21 ⟨e21, hs21, B2x⟩
      replace B2 : Blk w21 b2 (ctlC zeroC) 121 (0, 0) := by rw [all_stored (by rfl)] at B2x; exact B2x
      replace E := E.trans e21 (M := []) (by simp) (by intro x hx; rw [List.mem_singleton.1 hx]; exact .inr (by omega))
      refine L.val rfl rfl (R.as rfl) ?_
      refine L.nil ?_
      refine N.seq ?_
      refine G.retCT rfl rfl rfl (B2) rfl ?_
      first
        | (rw [getC_err hne]; exact ⟨rfl, E⟩)
        | (rw [getC_no he0 (by rw [← hf]; exact hno)]; exact ⟨rfl, E⟩)
        | (rw [getC_no he0 (by rw [← hf]; exact fun h => by have h9 := (hok.1 h).2.2.2; simp [h9] at h1)]; exact ⟨rfl, E⟩)
        | (rw [getC_yes he0 (by rw [← hf]; exact hok.2 ⟨Classical.not_not.1 hg6_3, by omega, Classical.not_not.1 hg6_13, by simpa using h1⟩), ← hf, hmk]; exact ⟨rfl, E⟩)
    · refine L.val rfl rfl (R.mv rfl) ?_
      refine L.callF rfl rfl rfl go136 (scanleft_ok _ _ _ _ _ S5 (by omega)) ?_
      rintro _ _ ⟨rfl, hw⟩
      obtain rfl := hw.symm
      refine L.val rfl rfl (R.gtr rfl rfl) ?_
      first | refine L.val rfl rfl (R.pickT rfl rfl) ?_ | refine L.val rfl rfl (R.pickF rfl rfl) ?_
      refine L.val rfl rfl (R.mv rfl) ?_
      refine L.caseP 43 rfl (fun hg6_8 => ?_) (fun hg6_8 => ?_)
      · have hno : ¬ okG f := fun h => by have := (hok.1 h).2.1; omega
        refine L.pass rfl rfl ?_
        refine L.pass rfl rfl ?_
        refine L.pass rfl rfl ?_
        first | refine L.val rfl rfl (R.pickT rfl rfl) ?_ | refine L.val rfl rfl (R.pickF rfl rfl) ?_
        refine L.val rfl rfl (R.mv rfl) ?_
        refine L.pass rfl rfl ?_
        refine L.pass rfl rfl ?_
        refine L.pass rfl rfl ?_
        first | refine L.val rfl rfl (R.pickT rfl rfl) ?_ | refine L.val rfl rfl (R.pickF rfl rfl) ?_
        refine L.nil ?_
        refine N.seq ?_
        refine G.condT rfl ?_
        refine G.seq ?_
        refine G.region ?_
        refine L.val rfl rfl (R.build (cs := (ctlC zeroC)) rfl rfl) ?_
        refine L.set rfl (R.stN rfl rfl B2 rfl (Nat.le_refl 7) (ctlC_one _)) ?_
        rintro w21 ⟨e21, hs21, B2x⟩
        replace B2 : Blk w21 b2 (ctlC zeroC) 121 (0, 0) := by rw [all_stored (by rfl)] at B2x; exact B2x
        replace E := E.trans e21 (M := []) (by simp) (by intro x hx; rw [List.mem_singleton.1 hx]; exact .inr (by omega))
        refine L.val rfl rfl (R.as rfl) ?_
        refine L.nil ?_
        refine N.seq ?_
        refine G.retCT rfl rfl rfl (B2) rfl ?_
        first
          | (rw [getC_err hne]; exact ⟨rfl, E⟩)
          | (rw [getC_no he0 (by rw [← hf]; exact hno)]; exact ⟨rfl, E⟩)
          | (rw [getC_no he0 (by rw [← hf]; exact fun h => by have h9 := (hok.1 h).2.2.2; simp [h9] at h1)]; exact ⟨rfl, E⟩)
          | (rw [getC_yes he0 (by rw [← hf]; exact hok.2 ⟨Classical.not_not.1 hg6_3, by omega, Classical.not_not.1 hg6_13, by simpa using h1⟩), ← hf, hmk]; exact ⟨rfl, E⟩)
      · refine L.val rfl rfl (R.fld rfl) ?_
        refine L.val rfl rfl (R.ldB rfl B4 rfl) ?_
        refine L.val rfl rfl (R.neI rfl rfl) ?_
        first | refine L.val rfl rfl (R.pickT rfl rfl) ?_ | refine L.val rfl rfl (R.pickF rfl rfl) ?_
        refine L.val rfl rfl (R.mv rfl) ?_
        refine L.caseP 48 rfl (fun hg6_13 => ?_) (fun hg6_13 => ?_)
        · have hno : ¬ okG f := fun h => hg6_13 (hok.1 h).2.2.1
          refine L.pass rfl rfl ?_
          refine L.pass rfl rfl ?_
          refine L.pass rfl rfl ?_
          first | refine L.val rfl rfl (R.pickT rfl rfl) ?_ | refine L.val rfl rfl (R.pickF rfl rfl) ?_
          refine L.nil ?_
          refine N.seq ?_
          refine G.condT rfl ?_
          refine G.seq ?_
          refine G.region ?_
          refine L.val rfl rfl (R.build (cs := (ctlC zeroC)) rfl rfl) ?_
          refine L.set rfl (R.stN rfl rfl B2 rfl (Nat.le_refl 7) (ctlC_one _)) ?_
          rintro w21 ⟨e21, hs21, B2x⟩
          replace B2 : Blk w21 b2 (ctlC zeroC) 121 (0, 0) := by rw [all_stored (by rfl)] at B2x; exact B2x
          replace E := E.trans e21 (M := []) (by simp) (by intro x hx; rw [List.mem_singleton.1 hx]; exact .inr (by omega))
          refine L.val rfl rfl (R.as rfl) ?_
          refine L.nil ?_
          refine N.seq ?_
          refine G.retCT rfl rfl rfl (B2) rfl ?_
          first
            | (rw [getC_err hne]; exact ⟨rfl, E⟩)
            | (rw [getC_no he0 (by rw [← hf]; exact hno)]; exact ⟨rfl, E⟩)
            | (rw [getC_no he0 (by rw [← hf]; exact fun h => by have h9 := (hok.1 h).2.2.2; simp [h9] at h1)]; exact ⟨rfl, E⟩)
            | (rw [getC_yes he0 (by rw [← hf]; exact hok.2 ⟨Classical.not_not.1 hg6_3, by omega, Classical.not_not.1 hg6_13, by simpa using h1⟩), ← hf, hmk]; exact ⟨rfl, E⟩)
        · refine L.val rfl rfl (R.ldBN rfl B7 rfl) ?_
          refine L.callF rfl rfl rfl go76 (cright_ok c _) ?_
          rintro _ w8 ⟨rfl, e8⟩
          replace E := E.trans0 e8
          replace B2 := B2.ext0 e8
          replace B7 := B7.ext0 e8
          refine L.val rfl rfl (R.not rfl) ?_
          first | refine L.val rfl rfl (R.pickT rfl rfl) ?_ | refine L.val rfl rfl (R.pickF rfl rfl) ?_
          refine L.nil ?_
          refine N.seq ?_
          refine G.condB rfl (fun h1 => ?_) (fun h1 => ?_)
          · refine G.seq ?_
            refine G.region ?_
            refine L.val rfl rfl (R.build (cs := (ctlC zeroC)) rfl rfl) ?_
            refine L.set rfl (R.stN rfl rfl B2 rfl (Nat.le_refl 7) (ctlC_one _)) ?_
            rintro w21 ⟨e21, hs21, B2x⟩
            replace B2 : Blk w21 b2 (ctlC zeroC) 121 (0, 0) := by rw [all_stored (by rfl)] at B2x; exact B2x
            replace E := E.trans e21 (M := []) (by simp) (by intro x hx; rw [List.mem_singleton.1 hx]; exact .inr (by omega))
            refine L.val rfl rfl (R.as rfl) ?_
            refine L.nil ?_
            refine N.seq ?_
            refine G.retCT rfl rfl rfl (B2) rfl ?_
            first
              | (rw [getC_err hne]; exact ⟨rfl, E⟩)
              | (rw [getC_no he0 (by rw [← hf]; exact hno)]; exact ⟨rfl, E⟩)
              | (rw [getC_no he0 (by rw [← hf]; exact fun h => by have h9 := (hok.1 h).2.2.2; simp [h9] at h1)]; exact ⟨rfl, E⟩)
              | (rw [getC_yes he0 (by rw [← hf]; exact hok.2 ⟨Classical.not_not.1 hg6_3, by omega, Classical.not_not.1 hg6_13, by simpa using h1⟩), ← hf, hmk]; exact ⟨rfl, E⟩)
          · refine G.skip ?_
            refine N.seq ?_
            refine G.seq ?_
            refine G.region ?_
            refine L.val rfl rfl (R.ldBN rfl B7 rfl) ?_
            refine L.set rfl (R.stN rfl rfl B2 rfl (Nat.le_refl 7) (ctlC_one _)) ?_
            rintro w22 ⟨e22, hs22, B2x⟩
            replace B2 : Blk w22 b2 (ctlC c) 121 (0, 0) := by rw [all_stored (by rfl)] at B2x; exact B2x
            replace E := E.trans e22 (M := []) (by simp) (by intro x hx; rw [List.mem_singleton.1 hx]; exact .inr (by omega))
            refine L.val rfl rfl (R.as rfl) ?_
            refine L.nil ?_
            refine N.seq ?_
            refine G.retCT rfl rfl rfl (B2) rfl ?_
            first
              | (rw [getC_err hne]; exact ⟨rfl, E⟩)
              | (rw [getC_no he0 (by rw [← hf]; exact hno)]; exact ⟨rfl, E⟩)
              | (rw [getC_no he0 (by rw [← hf]; exact fun h => by have h9 := (hok.1 h).2.2.2; simp [h9] at h1)]; exact ⟨rfl, E⟩)
              | (rw [getC_yes he0 (by rw [← hf]; exact hok.2 ⟨Classical.not_not.1 hg6_3, by omega, Classical.not_not.1 hg6_13, by simpa using h1⟩), ← hf, hmk]; exact ⟨rfl, E⟩)

end Go.Proofs.Ythpolibakkmmeaa
/-
  The arrays of bytes, to be compared.
-/
set_option linter.unusedVariables false
namespace Go.Proofs.Ythpolibakkmmeaa
open Go Brv
instance : TyBArr Try.prog 165 64 := ⟨⟨_, Try.underlying165, Try.underlying5, by kernel_rfl⟩, by kernel_rfl⟩
instance : TyBArr Try.prog 166 64 := ⟨⟨_, Try.underlying166, Try.underlying5, by kernel_rfl⟩, by kernel_rfl⟩
end Go.Proofs.Ythpolibakkmmeaa
/-
  Functions of the library.
-/
set_option linter.unusedVariables false
set_option linter.unusedSimpArgs false
namespace Go.Proofs.Ythpolibakkmmeaa
open Go Brv
theorem go209 : ∀ (vs : Array Value) w, (callFunc 209 vs).run Try.prog w = .ok (.enter 209 vs) w := callFunc_run Try.func209 (by decide) rfl
theorem go238 : ∀ (vs : Array Value) w, (callFunc 238 vs).run Try.prog w = .ok (.enter 238 vs) w := callFunc_run Try.func238 (by decide) rfl
theorem go239 : ∀ (vs : Array Value) w, (callFunc 239 vs).run Try.prog w = .ok (.enter 239 vs) w := callFunc_run Try.func239 (by decide) rfl

theorem bclone_ok (a : Option Addr) (n c : Nat) (l : List UInt8) (w : World) (hb : Bs w a n l) (hn : n ≤ 140737488355328) : Meets Try.prog 104 [.slice a n c] w (Cloned w 5 1 n (vbs l)) := by
  refine Meets.enter Try.func104 rfl 8 rfl (Nat.le_of_ble_eq_true rfl) ?_
  refine G.seq ?_
  refine G.region ?_
  refine L.val rfl rfl (R.as rfl) ?_
  refine L.nil ?_
  refine N.seq ?_
  refine G.seq ?_
  refine G.seq ?_
  refine G.region ?_
  refine L.val rfl rfl (R.mv rfl) ?_
  refine L.val rfl rfl (R.eqNilS rfl rfl) ?_
  refine L.nil ?_
  refine N.seq ?_
  refine G.condB rfl (fun h0 => ?_) (fun h0 => ?_)
  · obtain rfl : a = none := by simpa using h0
    obtain ⟨rfl, rfl⟩ := hb.none
    refine G.seq ?_
    refine G.region ?_
    refine L.val rfl rfl (R.as rfl) ?_
    refine L.nil ?_
    refine N.seq ?_
    refine G.ret1 rfl rfl ?_
    exact ⟨none, 0, [], rfl, Ext.refl _ _, Own.nil _ _ _, by simp⟩
  · refine G.skip ?_
    refine N.seq ?_
    refine G.seq ?_
    refine G.region ?_
    refine L.do rfl rfl (R.buildS rfl (by decide) rfl) ?_
    rintro _ w1 ⟨b5, rfl, hb5, hs5, e1, B5⟩
    have hb := hb.ext0 e1
    have o0 := Own.blk (n := 0) (size := 1) B5 (by simp) (by simp [maxLen])
    refine L.val rfl rfl (R.mv rfl) ?_
    refine L.do rfl rfl (R.app rfl rfl o0 hb.cells (by rw [vbs_length, Nat.mul_one]; exact hb.len.symm) (vbs_one _) (by simp [maxLen]; omega) (by omega)) ?_
    rintro _ w2 ⟨a1, c1, M1, rfl, e2, hM1, o1⟩
    refine L.val rfl rfl (R.as rfl) ?_
    refine L.nil ?_
    refine N.seq ?_
    refine G.ret1 rfl rfl ?_
    exact ⟨a1, c1, M1, by rw [Nat.zero_add] , e1.trans e2 (by simp) (by simp; omega), by simpa using o1, by intro g hg; have := hM1 g hg; have := e1.size; simp at *; omega⟩

theorem mul64_ok (x y : Int) (w : World) (hx0 : 0 ≤ x) (hx1 : x ≤ 2147483647) (hy0 : 0 ≤ y) (hy1 : y ≤ 2147483647) : Meets Try.prog 239 [.int .u64 x, .int .u64 y] w (fun v w' => v = .tuple #[.int .u64 0, .int .u64 (x * y)] ∧ w' = w) := by
  refine Meets.enter Try.func239 rfl 51 rfl (Nat.le_of_ble_eq_true rfl) ?_
  have p0 : 0 ≤ x * y := Int.mul_nonneg hx0 hy0
  have p1 : x * y ≤ 4611686014132420609 := Int.le_trans (Int.mul_le_mul hx1 hy1 hy0 (by decide)) (by decide)
  refine G.seq ?_
  refine G.region ?_
  refine L.val rfl rfl (R.as rfl) ?_
  refine L.val rfl rfl (R.as rfl) ?_
  refine L.nil ?_
  refine N.seq ?_
  refine G.seq ?_
  refine G.region ?_
  refine L.val rfl rfl (R.mv rfl) ?_
  refine L.val rfl rfl (R.andW rfl rfl x (and32 hx0 (by omega))) ?_
  refine L.val rfl rfl (R.as rfl) ?_
  refine L.nil ?_
  refine N.seq ?_
  refine G.seq ?_
  refine G.region ?_
  refine L.val rfl rfl (R.mv rfl) ?_
  refine L.val rfl rfl (R.shrW rfl rfl (by decide) 0 ((shr32 x).trans (by omega))) ?_
  refine L.val rfl rfl (R.as rfl) ?_
  refine L.nil ?_
  refine N.seq ?_
  refine G.seq ?_
  refine G.region ?_
  refine L.val rfl rfl (R.mv rfl) ?_
  refine L.val rfl rfl (R.andW rfl rfl y (and32 hy0 (by omega))) ?_
  refine L.val rfl rfl (R.as rfl) ?_
  refine L.nil ?_
  refine N.seq ?_
  refine G.seq ?_
  refine G.region ?_
  refine L.val rfl rfl (R.mv rfl) ?_
  refine L.val rfl rfl (R.shrW rfl rfl (by decide) 0 ((shr32 y).trans (by omega))) ?_
  refine L.val rfl rfl (R.as rfl) ?_
  refine L.nil ?_
  refine N.seq ?_
  refine G.seq ?_
  refine G.region ?_
  refine L.val rfl rfl (R.mv rfl) ?_
  refine L.val rfl rfl (R.mv rfl) ?_
  refine L.val rfl rfl (R.mulW rfl rfl (x * y) (wrap_u64 (by omega))) ?_
  refine L.val rfl rfl (R.as rfl) ?_
  refine L.nil ?_
  refine N.seq ?_
  refine G.seq ?_
  refine G.region ?_
  refine L.val rfl rfl (R.mv rfl) ?_
  refine L.val rfl rfl (R.mv rfl) ?_
  refine L.val rfl rfl (R.mulW rfl rfl 0 (by rw [Int.zero_mul]; rfl)) ?_
  refine L.val rfl rfl (R.mv rfl) ?_
  refine L.val rfl rfl (R.shrW rfl rfl (by decide) (x * y / 4294967296) (shr32 _)) ?_
  refine L.val rfl rfl (R.addW rfl rfl (x * y / 4294967296) (by rw [Int.zero_add]; exact wrap_u64 (by omega))) ?_
  refine L.val rfl rfl (R.as rfl) ?_
  refine L.nil ?_
  refine N.seq ?_
  refine G.seq ?_
  refine G.region ?_
  refine L.val rfl rfl (R.mv rfl) ?_
  refine L.val rfl rfl (R.andW rfl rfl (x * y / 4294967296) (and32 (by omega) (by omega))) ?_
  refine L.val rfl rfl (R.as rfl) ?_
  refine L.nil ?_
  refine N.seq ?_
  refine G.seq ?_
  refine G.region ?_
  refine L.val rfl rfl (R.mv rfl) ?_
  refine L.val rfl rfl (R.shrW rfl rfl (by decide) 0 ((shr32 _).trans (by omega))) ?_
  refine L.val rfl rfl (R.as rfl) ?_
  refine L.nil ?_
  refine N.seq ?_
  refine G.seq ?_
  refine G.region ?_
  refine L.val rfl rfl (R.mv rfl) ?_
  refine L.val rfl rfl (R.mv rfl) ?_
  refine L.val rfl rfl (R.mv rfl) ?_
  refine L.val rfl rfl (R.mulW rfl rfl 0 (by rw [Int.mul_zero]; rfl)) ?_
  refine L.val rfl rfl (R.addW rfl rfl (x * y / 4294967296) (by rw [Int.add_zero]; exact wrap_u64 (by omega))) ?_
  refine L.val rfl rfl (R.as rfl) ?_
  refine L.nil ?_
  refine N.seq ?_
  refine G.seq ?_
  refine G.region ?_
  refine L.val rfl rfl (R.mv rfl) ?_
  refine L.val rfl rfl (R.mv rfl) ?_
  refine L.val rfl rfl (R.mulW rfl rfl 0 rfl) ?_
  refine L.val rfl rfl (R.mv rfl) ?_
  refine L.val rfl rfl (R.addW rfl rfl 0 rfl) ?_
  refine L.val rfl rfl (R.mv rfl) ?_
  refine L.val rfl rfl (R.shrW rfl rfl (by decide) 0 ((shr32 _).trans (by omega))) ?_
  refine L.val rfl rfl (R.addW rfl rfl 0 rfl) ?_
  refine L.val rfl rfl (R.as rfl) ?_
  refine L.nil ?_
  refine N.seq ?_
  refine G.seq ?_
  refine G.region ?_
  refine L.val rfl rfl (R.mv rfl) ?_
  refine L.val rfl rfl (R.mv rfl) ?_
  refine L.val rfl rfl (R.mulW rfl rfl (x * y) (wrap_u64 (by omega))) ?_
  refine L.val rfl rfl (R.as rfl) ?_
  refine L.nil ?_
  refine N.seq ?_
  refine G.ret2 rfl rfl rfl ?_
  exact ⟨rfl, rfl⟩
theorem mul_ok (x y : Int) (w : World) (hx0 : 0 ≤ x) (hx1 : x ≤ 2147483647) (hy0 : 0 ≤ y) (hy1 : y ≤ 2147483647) : Meets Try.prog 209 [.int .u64 x, .int .u64 y] w (fun v w' => v = .tuple #[.int .u64 0, .int .u64 (x * y)] ∧ w' = w) := by
  refine Meets.enter Try.func209 rfl 30 rfl (Nat.le_of_ble_eq_true rfl) ?_
  refine G.seq ?_
  refine G.region ?_
  refine L.val rfl rfl (R.as rfl) ?_
  refine L.val rfl rfl (R.as rfl) ?_
  refine L.nil ?_
  refine N.seq ?_
  refine G.seq ?_
  refine G.condF rfl ?_
  refine G.skip ?_
  refine N.seq ?_
  refine G.seq ?_
  refine G.region ?_
  refine L.val rfl rfl (R.mv rfl) ?_
  refine L.val rfl rfl (R.mv rfl) ?_
  refine L.callF rfl rfl rfl go239 (mul64_ok _ _ _ hx0 hx1 hy0 hy1) ?_
  rintro _ _ ⟨rfl, hw⟩
  obtain rfl := hw.symm
  refine L.val rfl rfl (R.mv rfl) ?_
  refine L.val rfl rfl (R.ext rfl rfl) ?_
  refine L.val rfl rfl (R.ext rfl rfl) ?_
  refine L.val rfl rfl (R.as rfl) ?_
  refine L.val rfl rfl (R.as rfl) ?_
  refine L.nil ?_
  refine N.seq ?_
  refine G.seq ?_
  refine G.region ?_
  refine L.val rfl rfl (R.mv rfl) ?_
  refine L.val rfl rfl (R.mv rfl) ?_
  refine L.val rfl rfl (R.as rfl) ?_
  refine L.val rfl rfl (R.as rfl) ?_
  refine L.nil ?_
  refine N.seq ?_
  refine G.ret2 rfl rfl rfl ?_
  exact ⟨rfl, rfl⟩

end Go.Proofs.Ythpolibakkmmeaa
/-
  Functions of the library, at slices of pointers.
-/
set_option linter.unusedVariables false
namespace Go.Proofs.Ythpolibakkmmeaa
open Go Brv
theorem prepeat_ok (a : Option Addr) (c : Nat) (x : Value) (k : Nat) (w : World) (hb : Cells w a [x]) (hone : x.oneCell' = true) (hk0 : 1 ≤ k) (hk : k ≤ 8192) : Meets Try.prog 159 [.slice a 1 c, .int .i64 k] w (Cloned w 167 1 k (List.replicate k x)) := by
  refine Meets.enter Try.func159 rfl 48 rfl (Nat.le_of_ble_eq_true rfl) ?_
  refine G.seq ?_
  refine G.region ?_
  refine L.val rfl rfl (R.as rfl) ?_
  refine L.nil ?_
  refine N.seq ?_
  refine G.seq ?_
  refine G.seq ?_
  refine G.region ?_
  refine L.val rfl rfl (R.mv rfl) ?_
  refine L.val rfl rfl (R.lss rfl rfl) ?_
  refine L.nil ?_
  refine N.seq ?_
  refine G.condP rfl (fun h0 => ?_) (fun h0 => ?_)
  · exfalso; omega
  · refine G.skip ?_
    refine N.seq ?_
    refine G.seq ?_
    refine G.region ?_
    refine L.val rfl rfl (R.mv rfl) ?_
    refine L.val rfl rfl (R.lenS rfl) ?_
    refine L.val rfl rfl (R.conv rfl 1 rfl) ?_
    refine L.val rfl rfl (R.mv rfl) ?_
    refine L.val rfl rfl (R.conv rfl (k : Int) (wrap_u64 (by omega))) ?_
    refine L.callF rfl rfl rfl go209 (mul_ok 1 (k : Int) _ (by decide) (by decide) (by omega) (by omega)) ?_
    rintro _ w1 ⟨rfl, hw⟩
    obtain rfl := hw.symm
    refine L.val rfl rfl (R.mv rfl) ?_
    refine L.val rfl rfl (R.ext rfl rfl) ?_
    refine L.val rfl rfl (R.ext rfl rfl) ?_
    refine L.val rfl rfl (R.as rfl) ?_
    refine L.val rfl rfl (R.as rfl) ?_
    refine L.nil ?_
    refine N.seq ?_
    refine G.seq ?_
    refine G.seq ?_
    refine G.region ?_
    refine L.val rfl rfl (R.mv rfl) ?_
    refine L.val rfl rfl (R.gtr rfl rfl) ?_
    refine L.val rfl rfl (R.mv rfl) ?_
    refine L.caseP 23 rfl (fun hg4_2 => ?_) (fun hg4_2 => ?_)
    · omega
    · refine L.val rfl rfl (R.mv rfl) ?_
      refine L.val rfl rfl (R.gtr rfl rfl) ?_
      first | refine L.val rfl rfl (R.pickT rfl rfl) ?_ | refine L.val rfl rfl (R.pickF rfl rfl) ?_
      refine L.nil ?_
      refine N.seq ?_
      refine G.condP rfl (fun h1 => ?_) (fun h1 => ?_)
      · omega
      · refine G.skip ?_
        refine N.seq ?_
        refine G.seq ?_
        refine G.region ?_
        refine L.val rfl rfl (R.mv rfl) ?_
        refine L.val rfl rfl (R.conv rfl (k : Int) (by rw [Int.one_mul]; exact wrap_i64 (by omega))) ?_
        refine L.do rfl rfl (R.make rfl rfl (by omega) (by omega) (by omega) (by omega)) ?_
        rintro _ w2 ⟨b30, rfl, hb30, hs30, e2, B30⟩
        obtain ⟨cs, hcs⟩ : ∃ cs, cs = madeCells (Value.pointer none).cells ((k : Int).toNat * 1) := ⟨_, rfl⟩
        have hsz : cs.size = k := by rw [hcs]; simp [madeCells, Value.cells]
        replace B30 : Blk w2 b30 cs 167 (0, 0) := by rw [hcs]; exact B30
        refine L.be 30 rfl (show _ = Value.slice (some ⟨b30, 0, none⟩) k k by rfl) ?_
        refine L.val rfl rfl (R.as rfl) ?_
        refine L.nil ?_
        refine N.seq ?_
        refine G.seq ?_
        refine G.region ?_
        obtain ⟨pa, rfl, _⟩ := hb 0 x rfl
        have hc1 : Cells w2 (some pa) [x] := hb.ext0 e2
        refine L.val rfl rfl (R.mv rfl) ?_
        refine L.val rfl rfl (R.mv rfl) ?_
        refine L.do rfl rfl (R.copyB rfl rfl B30 hc1 (show [x].length = Nat.min 1 k from (Nat.min_eq_left hk0).symm) (by simp; omega) (by simpa using hone)) ?_
        rintro _ w3 ⟨rfl, P3⟩
        obtain ⟨e3, hs3, B3⟩ := P3
        have hsz3 := Over.size (cur := cs) (o := 0) (cs := [x]) (by simp; omega)
        have ht3 := Over.take (cur := cs) (o := 0) (cs := [x]) (Nat.zero_le _)
        refine L.val rfl rfl (R.as rfl) ?_
        refine L.nil ?_
        refine N.seq ?_
        refine G.seq ?_
        refine G.block ?_
        obtain ⟨y, hyx⟩ : ∃ y, y = x := ⟨x, rfl⟩
        subst hyx
        refine G.loop (X := Nat × Array Value) (fun x => [(7, .slice (some ⟨b30, 0, none⟩) k k), (8, .int .i64 (x.1 : Int))]) (fun x w' => 1 ≤ x.1 ∧ x.1 ≤ k ∧ x.2.size = k ∧ Blk w' b30 x.2 167 (0, 0) ∧ x.2.toList.take x.1 = List.replicate x.1 y ∧ Ext [] w w') (fun x => k - x.1) ((1, Over cs 0 [y])) (Sub.cons rfl (Sub.cons rfl (Sub.nil _))) ⟨Nat.le_refl 1, by omega, by rw [hsz3]; exact hsz, B3, by simpa using ht3, e2.trans e3 (by simp) (by simp; omega)⟩ ?_
        rintro ⟨p, cur⟩ w4 ⟨hp1, hp2, hz1, B4, ht4, e4⟩
        dsimp only at hp1 hp2 hz1 B4 ht4
        refine G.seq ?_
        refine G.seq ?_
        refine G.region ?_
        refine L.val rfl rfl (R.mv rfl) ?_
        refine L.val rfl rfl (R.mv rfl) ?_
        refine L.val rfl rfl (R.lenS rfl) ?_
        refine L.val rfl rfl (R.lss rfl rfl) ?_
        refine L.nil ?_
        refine N.seq ?_
        refine G.condP rfl (fun h2 => ?_) (fun h2 => ?_)
        · have hpk : p < k := by omega
          have hmn : (List.replicate (min p (k - p)) y).length = min p (k - p) := by simp
          have hov : p + (List.replicate (min p (k - p)) y).length ≤ cur.size := by rw [hmn]; omega
          refine G.skip ?_
          refine N.seq ?_
          refine G.block ?_
          refine G.staged [7] [.blocks ([b30])] [fun w' => Ext [] w4 w', fun w' => Ext [b30] w4 w' ∧ Blk w' b30 (Over cur p (List.replicate (min p (k - p)) y)) 167 (0, 0)] [] (by decide +kernel) (by decide +kernel) rfl rfl rfl (fun _ h => h) ?_
          refine Z.val rfl rfl rfl rfl rfl (fun w5 => R.mv rfl) ?_
          refine Z.val rfl rfl rfl rfl rfl (fun w5 => R.mv rfl) ?_
          refine Z.val rfl rfl rfl rfl rfl (fun w5 => R.mv rfl) ?_
          refine Z.val rfl rfl rfl rfl rfl (fun w5 => R.slL rfl rfl (by omega) (by omega)) ?_
          refine Z.be 41 rfl (show Value.slice (subA (some ⟨b30, 0, none⟩) (p : Int).toNat k 1) (k - (p : Int).toNat) (k - (p : Int).toNat) = .slice (some ⟨b30, p, none⟩) (k - p) (k - p) by rw [Int.toNat_natCast, subA_lit (by omega), Nat.zero_add, Nat.mul_one]) ?_
          refine Z.val rfl rfl rfl rfl rfl (fun w5 => R.mv rfl) ?_
          refine Z.val rfl rfl rfl rfl rfl (fun w5 => R.mv rfl) ?_
          refine Z.val rfl rfl rfl rfl rfl (fun w5 => R.slH rfl rfl (by omega) (by omega)) ?_
          refine Z.be 44 rfl (show Value.slice (subA (some ⟨b30, 0, none⟩) 0 k 1) (p : Int).toNat k = .slice (some ⟨b30, 0, none⟩) p k by rw [subA_zero, Int.toNat_natCast]) ?_
          refine Z.put (A := fun v _ => v = .int .i64 ((min p (k - p) : Nat) : Int)) (Lasts.kill (fun _ _ _ _ h => h) (by decide +kernel)) 0 (by decide +kernel) rfl rfl rfl rfl rfl rfl rfl (fun w5 hJ => (R.copyB rfl rfl (B4.ext0 hJ) (Cells.of_blk (B4.ext0 hJ) 0 _ (fun j v hj => cells_repV ht4 (Nat.min_le_left _ _) j v hj)) (by rw [hmn]) hov (fun u hu => by rw [(List.mem_replicate.1 hu).2]; exact hone)).mono (fun v w' h => by obtain ⟨rfl, h1, h2, h3⟩ := h; rw [hmn]; exact ⟨rfl, h1, h1.after hJ, h3⟩)) ?_
          refine Z.valR (A := fun v _ => v = .int .i64 ((p : Int) + ((min p (k - p) : Nat) : Int))) (Lasts.kill (fun _ _ _ _ h => h) (by decide +kernel)) rfl rfl rfl rfl (fun w5 => by rintro _ rfl; exact ⟨_, R.add rfl rfl (by omega), rfl⟩) ?_
          refine Z.valR (A := fun v _ => v = .int .i64 ((p + min p (k - p) : Nat) : Int)) (Lasts.kill (fun _ _ _ _ h => h) (by decide +kernel)) rfl rfl rfl rfl (fun w5 => by rintro _ rfl; exact ⟨_, R.as rfl, by simp⟩) ?_
          refine Z.nil rfl rfl (fun w5 hJ => ?_)
          obtain ⟨e6, B6⟩ := hJ
          rintro _ rfl _ _ _ _
          have hE6 : Ext [] w w5 := e4.trans e6 (by simp) (by simp; omega)
          have hto := Over.take (cur := cur) (o := p) (cs := (List.replicate (min p (k - p)) y)) (by omega)
          rw [hmn, ht4, List.replicate_append_replicate] at hto
          refine N.block ?_
          exact N.again (p + min p (k - p), Over cur p (List.replicate (min p (k - p)) y)) (by show k - (p + min p (k - p)) < k - p; omega) (Sub.cons rfl (Sub.cons rfl (Sub.nil _))) ⟨by show 1 ≤ p + min p (k - p); omega, by show p + min p (k - p) ≤ k; omega, by show (Over cur p _).size = k; rw [Over.size hov]; exact hz1, B6, hto, hE6⟩
        · have hpk : p = k := by omega
          subst hpk
          refine G.exit _ rfl ?_
          refine N.seq ?_
          refine G.seq ?_
          refine G.region ?_
          refine L.val rfl rfl (R.mv rfl) ?_
          refine L.val rfl rfl (R.as rfl) ?_
          refine L.nil ?_
          refine N.seq ?_
          refine G.ret1 rfl rfl ?_
          exact ⟨_, _, [b30], rfl, e4, ⟨by simp, .inr ⟨b30, cur, rfl, rfl, B4, Nat.le_refl _, by simp [maxLen]; omega, by omega, by simpa using ht4⟩⟩, by intro g hg; rw [List.mem_singleton.1 hg]; omega⟩

end Go.Proofs.Ythpolibakkmmeaa
/-
  The walks of package dev.
-/
set_option linter.unusedVariables false
set_option linter.unusedSimpArgs false
namespace Go.Proofs.Ythpolibakkmmeaa
open Go Brv Brv.Image Brv.Dev
def waitC (x : Nat × List UInt8) : List Value := .int .i64 (x.1 : Int) :: vbs x.2
theorem waitC_length {x : Nat × List UInt8} (h : x.2.length = 64) : (waitC x).length = 65 := by simp [waitC, vbs_length, h]
theorem waitC_one (x : Nat × List UInt8) : ∀ u ∈ waitC x, u.oneCell' = true := by
  intro u hu
  rcases List.mem_cons.1 hu with rfl | hu
  · rfl
  · exact vbs_one _ u hu
def waitsC (wt : List (Nat × List UInt8)) : List Value := (wt.map waitC).flatten
theorem waitsC_append (a b : List (Nat × List UInt8)) : waitsC (a ++ b) = waitsC a ++ waitsC b := by simp [waitsC]
theorem waitsC_one (wt : List (Nat × List UInt8)) : waitsC [] = [] := rfl
structure DevL (w : World) (d : Nat) (v : DevV) (sz : Nat) (sa : Option Addr) (sc : Nat) (wa : Option Addr) (wc : Nat) (Ms Mw : List Nat) : Prop where
  hd : Blk w d #[.slice sa v.stay.length sc, .slice wa v.wt.length wc, .int .i64 v.calls, .int .i64 v.left, .bool v.off] 234 (0, 0)
  wf : v.Wf sz
  hN : 1 ≤ sz ∧ sz ≤ 4096
  st : Own w 5 1 sa v.stay.length sc (vbs v.stay) Ms
  wt : Own w 238 65 wa v.wt.length wc (waitsC v.wt) Mw
theorem DevL.ext {w w' : World} {d : Nat} {v : DevV} {sz : Nat} {sa : Option Addr} {sc : Nat} {wa : Option Addr} {wc : Nat} {Ms Mw M : List Nat} (h : DevL w d v sz sa sc wa wc Ms Mw) (he : Ext M w w') (hM : ∀ y ∈ d :: (Ms ++ Mw), y ∉ M) : DevL w' d v sz sa sc wa wc Ms Mw :=
  ⟨h.hd.ext he (hM d (by simp)), h.wf, h.hN, h.st.ext he (fun g hg => hM g (by simp [hg])), h.wt.ext he (fun g hg => hM g (by simp [hg]))⟩
theorem DevL.ext0 {w w' : World} {d : Nat} {v : DevV} {sz : Nat} {sa : Option Addr} {sc : Nat} {wa : Option Addr} {wc : Nat} {Ms Mw : List Nat} (h : DevL w d v sz sa sc wa wc Ms Mw) (he : Ext [] w w') : DevL w' d v sz sa sc wa wc Ms Mw := h.ext he (by simp)
theorem DevL.tab {w : World} {d : Nat} {v : DevV} {sz : Nat} {sa : Option Addr} {sc : Nat} {wa : Option Addr} {wc : Nat} {Ms Mw : List Nat} (h : DevL w d v sz sa sc wa wc Ms Mw) : Tab w wa v.wt.length 65 (v.wt.map waitC) :=
  ⟨h.wt.cells, by rw [List.length_map], fun vs hv => by obtain ⟨x, hx, rfl⟩ := List.mem_map.1 hv; exact waitC_length (h.wf.wt x hx).2⟩
theorem DevL.lt {w : World} {d : Nat} {v : DevV} {sz : Nat} {sa : Option Addr} {sc : Nat} {wa : Option Addr} {wc : Nat} {Ms Mw : List Nat} (h : DevL w d v sz sa sc wa wc Ms Mw) : ∀ y ∈ d :: (Ms ++ Mw), y < w.heap.size := by
  intro y hy
  rcases List.mem_cons.1 hy with rfl | hy
  · exact h.hd.lt
  · exact (List.mem_append.1 hy).elim (h.st.lt y) (h.wt.lt y)
theorem DevL.apart {w : World} {d : Nat} {v : DevV} {sz : Nat} {sa : Option Addr} {sc : Nat} {wa : Option Addr} {wc : Nat} {Ms Mw : List Nat} (h : DevL w d v sz sa sc wa wc Ms Mw) : d ∉ Ms ∧ d ∉ Mw ∧ (∀ g ∈ Ms, g ∉ Mw) :=
  ⟨fun hm => by obtain ⟨_, hb⟩ := h.st.typ d hm; exact h.hd.ne hb (by decide) rfl, fun hm => by obtain ⟨_, hb⟩ := h.wt.typ d hm; exact h.hd.ne hb (by decide) rfl,
    fun g hg hm => by obtain ⟨_, hb⟩ := h.st.typ g hg; obtain ⟨_, hb2⟩ := h.wt.typ g hm; exact hb.ne hb2 (by decide) rfl⟩
/-- A device at d; its blocks. -/
def DevAt (w : World) (d : Nat) (v : DevV) (sz : Nat) (S : List Nat) : Prop := ∃ sa sc wa wc Ms Mw, DevL w d v sz sa sc wa wc Ms Mw ∧ S = d :: (Ms ++ Mw)
theorem DevAt.ext {w w' : World} {d : Nat} {v : DevV} {sz : Nat} {S M : List Nat} (h : DevAt w d v sz S) (he : Ext M w w') (hM : ∀ y ∈ S, y ∉ M) : DevAt w' d v sz S := by
  obtain ⟨sa, sc, wa, wc, Ms, Mw, D, rfl⟩ := h
  exact ⟨sa, sc, wa, wc, Ms, Mw, D.ext he hM, rfl⟩
theorem DevAt.ext0 {w w' : World} {d : Nat} {v : DevV} {sz : Nat} {S : List Nat} (h : DevAt w d v sz S) (he : Ext [] w w') : DevAt w' d v sz S := h.ext he (by simp)
theorem DevAt.lt {w : World} {d : Nat} {v : DevV} {sz : Nat} {S : List Nat} (h : DevAt w d v sz S) : ∀ y ∈ S, y < w.heap.size := by
  obtain ⟨sa, sc, wa, wc, Ms, Mw, D, rfl⟩ := h
  exact D.lt
theorem DevAt.wf {w : World} {d : Nat} {v : DevV} {sz : Nat} {S : List Nat} (h : DevAt w d v sz S) : v.Wf sz ∧ 1 ≤ sz ∧ sz ≤ 4096 := by
  obtain ⟨sa, sc, wa, wc, Ms, Mw, D, rfl⟩ := h
  exact ⟨D.wf, D.hN⟩

theorem dnew_ok (n : Nat) (w : World) (h1 : 1 ≤ n) (h2 : n ≤ 4096) : Meets Try.prog 78 [.int .i64 (n : Int)] w (fun v w' => ∃ d S, v = .tuple #[ptr d, .int .i64 0] ∧ Ext [] w w' ∧ DevAt w' d (newV n) n S ∧ ∀ g ∈ S, w.heap.size ≤ g) := by
  refine Meets.enter Try.func78 rfl 15 rfl (Nat.le_of_ble_eq_true rfl) ?_
  have E := Ext.refl [] w
  refine G.seq ?_
  refine G.region ?_
  refine L.val rfl rfl (R.as rfl) ?_
  refine L.val rfl rfl (R.as rfl) ?_
  refine L.nil ?_
  refine N.seq ?_
  refine G.seq ?_
  refine G.seq ?_
  refine G.region ?_
  refine L.val rfl rfl (R.mv rfl) ?_
  refine L.val rfl rfl (R.lss rfl rfl) ?_
  refine L.val rfl rfl (R.mv rfl) ?_
  refine L.caseP 6 rfl (fun hg1_2 => ?_) (fun hg1_2 => ?_)
  · exfalso; omega
  · refine L.val rfl rfl (R.mv rfl) ?_
    refine L.val rfl rfl (R.gtr rfl rfl) ?_
    first | refine L.val rfl rfl (R.pickT rfl rfl) ?_ | refine L.val rfl rfl (R.pickF rfl rfl) ?_
    refine L.nil ?_
    refine N.seq ?_
    refine G.condP rfl (fun h0 => ?_) (fun h0 => ?_)
    · exfalso; omega
    · refine G.skip ?_
      refine N.seq ?_
      refine G.seq ?_
      refine G.region ?_
      refine L.val rfl rfl (R.mv rfl) ?_
      refine L.val rfl rfl (R.mul rfl rfl (by omega)) ?_
      refine L.do rfl rfl (R.make rfl rfl (by omega) (by omega) (by omega) (by omega)) ?_
      rintro _ w1 ⟨b12, rfl, hb12, hs1, e1, B12⟩
      replace E := E.trans0 e1
      obtain ⟨cs, hcs⟩ : ∃ cs : Array Value, cs = madeCells (Value.int .u8 0).cells (((n : Int) * 64).toNat * 1) := ⟨_, rfl⟩
      rw [← hcs] at B12
      have hcl : cs.toList = vbs (List.replicate (64 * n) 0) := by rw [hcs, show ((n : Int) * 64).toNat * 1 = 64 * n by omega]; exact madeCells_bytes _
      have hcz : cs.size = 64 * n := by rw [← Array.length_toList, hcl, vbs_length, List.length_replicate]
      refine L.be 12 rfl (show _ = Value.slice (some ⟨b12, 0, none⟩) (64 * n) (64 * n) by rw [show ((n : Int) * 64).toNat = 64 * n by omega]) ?_
      refine L.val rfl rfl (R.build (cs := #[.slice (some ⟨b12, 0, none⟩) (64 * n) (64 * n), .slice none 0 0, .int .i64 0, .int .i64 (-1), .bool false]) rfl rfl) ?_
      refine L.do rfl rfl (R.box rfl) ?_
      rintro _ w2 ⟨d, rfl, hd, hs2, e2, B2⟩
      replace E := E.trans0 e2
      have o1 := Own.blk (n := 64 * n) (size := 1) (B12.ext0 e2) (by omega) (by simp [maxLen]; omega)
      rw [hcl] at o1
      refine L.val rfl rfl (R.as rfl) ?_
      refine L.val rfl rfl (R.as rfl) ?_
      refine L.nil ?_
      refine N.seq ?_
      refine G.ret2 rfl rfl rfl ?_
      exact ⟨d, _, rfl, E, ⟨some ⟨b12, 0, none⟩, 64 * n, none, 0, [b12], [], ⟨by simpa [newV, Value.cells] using B2, newV_wf n, ⟨h1, h2⟩, by simpa [newV] using o1, Own.nil _ _ _⟩, rfl⟩, by intro g hg; simp at hg; omega⟩

theorem dnew_err (n : Int) (w : World) (h : ¬ (1 ≤ n ∧ n ≤ 4096)) : Meets Try.prog 78 [.int .i64 n] w (fun v w' => v = .tuple #[.pointer none, .int .i64 2] ∧ w' = w) := by
  refine Meets.enter Try.func78 rfl 15 rfl (Nat.le_of_ble_eq_true rfl) ?_
  refine G.seq ?_
  refine G.region ?_
  refine L.val rfl rfl (R.as rfl) ?_
  refine L.val rfl rfl (R.as rfl) ?_
  refine L.nil ?_
  refine N.seq ?_
  refine G.seq ?_
  refine G.seq ?_
  refine G.region ?_
  refine L.val rfl rfl (R.mv rfl) ?_
  refine L.val rfl rfl (R.lss rfl rfl) ?_
  refine L.val rfl rfl (R.mv rfl) ?_
  refine L.caseP 6 rfl (fun hg1_2 => ?_) (fun hg1_2 => ?_)
  · refine L.pass rfl rfl ?_
    refine L.pass rfl rfl ?_
    first | refine L.val rfl rfl (R.pickT rfl rfl) ?_ | refine L.val rfl rfl (R.pickF rfl rfl) ?_
    refine L.nil ?_
    refine N.seq ?_
    refine G.condT rfl ?_
    refine G.seq ?_
    refine G.region ?_
    refine L.val rfl rfl (R.as rfl) ?_
    refine L.val rfl rfl (R.as rfl) ?_
    refine L.nil ?_
    refine N.seq ?_
    refine G.ret2 rfl rfl rfl ?_
    exact ⟨rfl, rfl⟩
  · refine L.val rfl rfl (R.mv rfl) ?_
    refine L.val rfl rfl (R.gtr rfl rfl) ?_
    first | refine L.val rfl rfl (R.pickT rfl rfl) ?_ | refine L.val rfl rfl (R.pickF rfl rfl) ?_
    refine L.nil ?_
    refine N.seq ?_
    refine G.condP rfl (fun h0 => ?_) (fun h0 => ?_)
    · refine G.seq ?_
      refine G.region ?_
      refine L.val rfl rfl (R.as rfl) ?_
      refine L.val rfl rfl (R.as rfl) ?_
      refine L.nil ?_
      refine N.seq ?_
      refine G.ret2 rfl rfl rfl ?_
      exact ⟨rfl, rfl⟩
    · exfalso; omega

theorem dsize_ok (d : Nat) (v : DevV) (sz : Nat) (S : List Nat) (w : World) (hd : DevAt w d v sz S) : Meets Try.prog 144 [.pointer (some ⟨d, 0, none⟩)] w (fun r w' => r = .int .i64 (sz : Int) ∧ w' = w) := by
  refine Meets.enter Try.func144 rfl 11 rfl (Nat.le_of_ble_eq_true rfl) ?_
  obtain ⟨sa, sc, wa, wc, Ms, Mw, D, rfl⟩ := hd
  have hl := D.wf.len
  have hN := D.hN
  refine G.seq ?_
  refine G.region ?_
  refine L.val rfl rfl (R.as rfl) ?_
  refine L.nil ?_
  refine N.seq ?_
  refine G.seq ?_
  refine G.seq ?_
  refine G.region ?_
  refine L.val rfl rfl (R.mv rfl) ?_
  refine L.val rfl rfl (R.eqNilP rfl rfl) ?_
  refine L.nil ?_
  refine N.seq ?_
  refine G.condF rfl ?_
  refine G.skip ?_
  refine N.seq ?_
  refine G.seq ?_
  refine G.region ?_
  refine L.val rfl rfl (R.mv rfl) ?_
  refine L.val rfl rfl (R.nilChk rfl) ?_
  refine L.val rfl rfl (R.fld rfl) ?_
  refine L.val rfl rfl (R.ldB rfl D.hd rfl) ?_
  refine L.val rfl rfl (R.lenS rfl) ?_
  refine L.val rfl rfl (R.quo rfl rfl (by omega) (by omega)) ?_
  refine L.be 10 rfl (show _ = Value.int .i64 (sz : Int) by congr 1; omega) ?_
  refine L.val rfl rfl (R.as rfl) ?_
  refine L.nil ?_
  refine N.seq ?_
  refine G.ret1 rfl rfl ?_
  exact ⟨rfl, rfl⟩

theorem dsize_nil  (w : World) : Meets Try.prog 144 [.pointer none] w (fun r w' => r = .int .i64 0 ∧ w' = w) := by
  refine Meets.enter Try.func144 rfl 11 rfl (Nat.le_of_ble_eq_true rfl) ?_
  refine G.seq ?_
  refine G.region ?_
  refine L.val rfl rfl (R.as rfl) ?_
  refine L.nil ?_
  refine N.seq ?_
  refine G.seq ?_
  refine G.seq ?_
  refine G.region ?_
  refine L.val rfl rfl (R.mv rfl) ?_
  refine L.val rfl rfl (R.eqNilP rfl rfl) ?_
  refine L.nil ?_
  refine N.seq ?_
  refine G.condT rfl ?_
  refine G.seq ?_
  refine G.region ?_
  refine L.val rfl rfl (R.as rfl) ?_
  refine L.nil ?_
  refine N.seq ?_
  refine G.ret1 rfl rfl ?_
  exact ⟨rfl, rfl⟩

theorem dthere_ok (d : Nat) (v : DevV) (sz : Nat) (S : List Nat) (p n : Int) (w : World) (hd : DevAt w d v sz S) : Meets Try.prog 200 [.pointer (some ⟨d, 0, none⟩), .int .i64 p, .int .i64 n] w (fun r w' => r = .bool (decide (thereP sz p n)) ∧ w' = w) := by
  refine Meets.enter Try.func200 rfl 27 rfl (Nat.le_of_ble_eq_true rfl) ?_
  have hN := hd.wf.2
  refine G.seq ?_
  refine G.region ?_
  refine L.val rfl rfl (R.as rfl) ?_
  refine L.nil ?_
  refine N.seq ?_
  refine G.seq ?_
  refine G.region ?_
  refine L.val rfl rfl (R.mv rfl) ?_
  refine L.val rfl rfl (R.geq rfl rfl) ?_
  refine L.val rfl rfl (R.mv rfl) ?_
  refine L.caseP 9 rfl (fun hg1_2 => ?_) (fun hg1_2 => ?_)
  · refine L.val rfl rfl (R.mv rfl) ?_
    refine L.val rfl rfl (R.geq rfl rfl) ?_
    first | refine L.val rfl rfl (R.pickT rfl rfl) ?_ | refine L.val rfl rfl (R.pickF rfl rfl) ?_
    refine L.val rfl rfl (R.mv rfl) ?_
    refine L.caseP 13 rfl (fun hg1_6 => ?_) (fun hg1_6 => ?_)
    · refine L.val rfl rfl (R.mv rfl) ?_
      refine L.val rfl rfl (R.mv rfl) ?_
      refine L.callF rfl rfl rfl go144 (dsize_ok d v sz S _ hd) ?_
      rintro _ _ ⟨rfl, hw⟩
      obtain rfl := hw.symm
      refine L.val rfl rfl (R.leq rfl rfl) ?_
      first | refine L.val rfl rfl (R.pickT rfl rfl) ?_ | refine L.val rfl rfl (R.pickF rfl rfl) ?_
      refine L.val rfl rfl (R.mv rfl) ?_
      refine L.caseP 19 rfl (fun hg1_12 => ?_) (fun hg1_12 => ?_)
      · refine L.val rfl rfl (R.mv rfl) ?_
        refine L.val rfl rfl (R.mv rfl) ?_
        refine L.callF rfl rfl rfl go144 (dsize_ok d v sz S _ hd) ?_
        rintro _ _ ⟨rfl, hw⟩
        obtain rfl := hw.symm
        refine L.val rfl rfl (R.mv rfl) ?_
        refine L.val rfl rfl (R.sub' rfl rfl (by omega)) ?_
        refine L.val rfl rfl (R.leq rfl rfl) ?_
        first | refine L.val rfl rfl (R.pickT rfl rfl) ?_ | refine L.val rfl rfl (R.pickF rfl rfl) ?_
        refine L.val rfl rfl (R.as rfl) ?_
        refine L.nil ?_
        refine N.seq ?_
        refine G.ret1 rfl rfl ?_
        first | exact ⟨congrArg Value.bool (decide_eq_decide.2 (by unfold thereP; omega)), rfl⟩ | exact ⟨congrArg Value.bool (decide_eq_false (by unfold thereP; omega)).symm, rfl⟩
      · refine L.pass rfl rfl ?_
        refine L.pass rfl rfl ?_
        refine L.pass rfl rfl ?_
        refine L.pass rfl rfl ?_
        refine L.pass rfl rfl ?_
        refine L.pass rfl rfl ?_
        first | refine L.val rfl rfl (R.pickT rfl rfl) ?_ | refine L.val rfl rfl (R.pickF rfl rfl) ?_
        refine L.val rfl rfl (R.as rfl) ?_
        refine L.nil ?_
        refine N.seq ?_
        refine G.ret1 rfl rfl ?_
        first | exact ⟨congrArg Value.bool (decide_eq_decide.2 (by unfold thereP; omega)), rfl⟩ | exact ⟨congrArg Value.bool (decide_eq_false (by unfold thereP; omega)).symm, rfl⟩
    · refine L.pass rfl rfl ?_
      refine L.pass rfl rfl ?_
      refine L.pass rfl rfl ?_
      refine L.pass rfl rfl ?_
      first | refine L.val rfl rfl (R.pickT rfl rfl) ?_ | refine L.val rfl rfl (R.pickF rfl rfl) ?_
      refine L.val rfl rfl (R.mv rfl) ?_
      refine L.pass rfl rfl ?_
      refine L.pass rfl rfl ?_
      refine L.pass rfl rfl ?_
      refine L.pass rfl rfl ?_
      refine L.pass rfl rfl ?_
      refine L.pass rfl rfl ?_
      first | refine L.val rfl rfl (R.pickT rfl rfl) ?_ | refine L.val rfl rfl (R.pickF rfl rfl) ?_
      refine L.val rfl rfl (R.as rfl) ?_
      refine L.nil ?_
      refine N.seq ?_
      refine G.ret1 rfl rfl ?_
      first | exact ⟨congrArg Value.bool (decide_eq_decide.2 (by unfold thereP; omega)), rfl⟩ | exact ⟨congrArg Value.bool (decide_eq_false (by unfold thereP; omega)).symm, rfl⟩
  · refine L.pass rfl rfl ?_
    refine L.pass rfl rfl ?_
    first | refine L.val rfl rfl (R.pickT rfl rfl) ?_ | refine L.val rfl rfl (R.pickF rfl rfl) ?_
    refine L.val rfl rfl (R.mv rfl) ?_
    refine L.pass rfl rfl ?_
    refine L.pass rfl rfl ?_
    refine L.pass rfl rfl ?_
    refine L.pass rfl rfl ?_
    first | refine L.val rfl rfl (R.pickT rfl rfl) ?_ | refine L.val rfl rfl (R.pickF rfl rfl) ?_
    refine L.val rfl rfl (R.mv rfl) ?_
    refine L.pass rfl rfl ?_
    refine L.pass rfl rfl ?_
    refine L.pass rfl rfl ?_
    refine L.pass rfl rfl ?_
    refine L.pass rfl rfl ?_
    refine L.pass rfl rfl ?_
    first | refine L.val rfl rfl (R.pickT rfl rfl) ?_ | refine L.val rfl rfl (R.pickF rfl rfl) ?_
    refine L.val rfl rfl (R.as rfl) ?_
    refine L.nil ?_
    refine N.seq ?_
    refine G.ret1 rfl rfl ?_
    first | exact ⟨congrArg Value.bool (decide_eq_decide.2 (by unfold thereP; omega)), rfl⟩ | exact ⟨congrArg Value.bool (decide_eq_false (by unfold thereP; omega)).symm, rfl⟩

theorem dable_ok (d : Nat) (v : DevV) (sz : Nat) (S : List Nat) (w : World) (hd : DevAt w d v sz S) : Meets Try.prog 199 [.pointer (some ⟨d, 0, none⟩)] w (fun r w' => r = .int .i64 (if v.off then 10 else 0) ∧ w' = w) := by
  refine Meets.enter Try.func199 rfl 11 rfl (Nat.le_of_ble_eq_true rfl) ?_
  obtain ⟨sa, sc, wa, wc, Ms, Mw, D, rfl⟩ := hd
  refine G.seq ?_
  refine G.region ?_
  refine L.val rfl rfl (R.as rfl) ?_
  refine L.nil ?_
  refine N.seq ?_
  refine G.seq ?_
  refine G.block ?_
  refine G.seq ?_
  refine G.region ?_
  refine L.val rfl rfl (R.mv rfl) ?_
  refine L.val rfl rfl (R.eqNilP rfl rfl) ?_
  refine L.val rfl rfl (R.as rfl) ?_
  refine L.nil ?_
  refine N.seq ?_
  refine G.condF rfl ?_
  refine G.seq ?_
  refine G.region ?_
  refine L.val rfl rfl (R.mv rfl) ?_
  refine L.val rfl rfl (R.nilChk rfl) ?_
  refine L.val rfl rfl (R.fld rfl) ?_
  refine L.val rfl rfl (R.ldB rfl D.hd rfl) ?_
  refine L.val rfl rfl (R.as rfl) ?_
  refine L.nil ?_
  refine N.seq ?_
  refine G.condB rfl (fun h1 => ?_) (fun h1 => ?_)
  · refine G.seq ?_
    refine G.region ?_
    refine L.val rfl rfl (R.as rfl) ?_
    refine L.nil ?_
    refine N.seq ?_
    refine G.ret1 rfl rfl ?_
    exact ⟨by rw [if_pos h1], rfl⟩
  · refine G.skip ?_
    refine N.block ?_
    refine N.seq ?_
    refine G.seq ?_
    refine G.region ?_
    refine L.val rfl rfl (R.as rfl) ?_
    refine L.nil ?_
    refine N.seq ?_
    refine G.ret1 rfl rfl ?_
    exact ⟨by rw [if_neg (by simp [h1])], rfl⟩

theorem dable_nil  (w : World) : Meets Try.prog 199 [.pointer none] w (fun r w' => r = .int .i64 1 ∧ w' = w) := by
  refine Meets.enter Try.func199 rfl 11 rfl (Nat.le_of_ble_eq_true rfl) ?_
  refine G.seq ?_
  refine G.region ?_
  refine L.val rfl rfl (R.as rfl) ?_
  refine L.nil ?_
  refine N.seq ?_
  refine G.seq ?_
  refine G.block ?_
  refine G.seq ?_
  refine G.region ?_
  refine L.val rfl rfl (R.mv rfl) ?_
  refine L.val rfl rfl (R.eqNilP rfl rfl) ?_
  refine L.val rfl rfl (R.as rfl) ?_
  refine L.nil ?_
  refine N.seq ?_
  refine G.condT rfl ?_
  refine G.seq ?_
  refine G.region ?_
  refine L.val rfl rfl (R.as rfl) ?_
  refine L.nil ?_
  refine N.seq ?_
  refine G.ret1 rfl rfl ?_
  exact ⟨rfl, rfl⟩







theorem dimage_ok (d : Nat) (v : DevV) (sz : Nat) (S : List Nat) (w : World) (hd : DevAt w d v sz S) : Meets Try.prog 79 [.pointer (some ⟨d, 0, none⟩)] w (Cloned w 5 1 v.stay.length (vbs v.stay)) := by
  refine Meets.enter Try.func79 rfl 10 rfl (Nat.le_of_ble_eq_true rfl) ?_
  obtain ⟨sa, sc, wa, wc, Ms, Mw, D, rfl⟩ := hd
  have hl := D.wf.len
  have hN := D.hN
  refine G.seq ?_
  refine G.region ?_
  refine L.val rfl rfl (R.as rfl) ?_
  refine L.nil ?_
  refine N.seq ?_
  refine G.seq ?_
  refine G.seq ?_
  refine G.region ?_
  refine L.val rfl rfl (R.mv rfl) ?_
  refine L.val rfl rfl (R.eqNilP rfl rfl) ?_
  refine L.nil ?_
  refine N.seq ?_
  refine G.condF rfl ?_
  refine G.skip ?_
  refine N.seq ?_
  refine G.seq ?_
  refine G.region ?_
  refine L.val rfl rfl (R.mv rfl) ?_
  refine L.val rfl rfl (R.nilChk rfl) ?_
  refine L.val rfl rfl (R.fld rfl) ?_
  refine L.val rfl rfl (R.ldB rfl D.hd rfl) ?_
  refine L.callF rfl rfl rfl go143 (clone_ok _ _ _ _ _ (Bs.of_own D.st) (by omega)) ?_
  rintro _ w1 h1
  refine L.val rfl rfl (R.as rfl) ?_
  refine L.nil ?_
  refine N.seq ?_
  refine G.ret1 rfl rfl ?_
  exact h1

theorem dimage_nil  (w : World) : Meets Try.prog 79 [.pointer none] w (fun r w' => r = .slice none 0 0 ∧ w' = w) := by
  refine Meets.enter Try.func79 rfl 10 rfl (Nat.le_of_ble_eq_true rfl) ?_
  refine G.seq ?_
  refine G.region ?_
  refine L.val rfl rfl (R.as rfl) ?_
  refine L.nil ?_
  refine N.seq ?_
  refine G.seq ?_
  refine G.seq ?_
  refine G.region ?_
  refine L.val rfl rfl (R.mv rfl) ?_
  refine L.val rfl rfl (R.eqNilP rfl rfl) ?_
  refine L.nil ?_
  refine N.seq ?_
  refine G.condT rfl ?_
  refine G.seq ?_
  refine G.region ?_
  refine L.val rfl rfl (R.as rfl) ?_
  refine L.nil ?_
  refine N.seq ?_
  refine G.ret1 rfl rfl ?_
  exact ⟨rfl, rfl⟩

end Go.Proofs.Ythpolibakkmmeaa
/-
  The walks of package dev.
-/
set_option linter.unusedVariables false
set_option linter.unusedSimpArgs false
namespace Go.Proofs.Ythpolibakkmmeaa
open Go Brv Brv.Image Brv.Dev
theorem DevL.fld {w w' : World} {d : Nat} {v v' : DevV} {sz : Nat} {sa : Option Addr} {sc : Nat} {wa : Option Addr} {wc : Nat} {Ms Mw : List Nat} (h : DevL w d v sz sa sc wa wc Ms Mw) (he : Ext [d] w w') (hb : Blk w' d #[.slice sa v'.stay.length sc, .slice wa v'.wt.length wc, .int .i64 v'.calls, .int .i64 v'.left, .bool v'.off] 234 (0, 0)) (hs : v'.stay = v.stay) (hw : v'.wt = v.wt) (wf : v'.Wf sz) : DevL w' d v' sz sa sc wa wc Ms Mw := by
  obtain ⟨h1, h2, _⟩ := h.apart
  exact ⟨hb, wf, h.hN, by rw [hs]; exact h.st.ext he (fun g hg hm => by rw [List.mem_singleton.1 hm] at hg; exact h1 hg), by rw [hw]; exact h.wt.ext he (fun g hg hm => by rw [List.mem_singleton.1 hm] at hg; exact h2 hg)⟩
theorem DevL.lay {w w' : World} {d : Nat} {v : DevV} {sz : Nat} {sa : Option Addr} {sc : Nat} {wa : Option Addr} {wc : Nat} {Ms Mw : List Nat} {s : List UInt8} (h : DevL w d v sz sa sc wa wc Ms Mw) (he : Ext Ms w w') (ho : Own w' 5 1 sa v.stay.length sc (vbs s) Ms) (hs : s.length = v.stay.length) : DevL w' d { v with stay := s } sz sa sc wa wc Ms Mw := by
  obtain ⟨h1, h2, h3⟩ := h.apart
  refine ⟨?_, ⟨hs.trans h.wf.len, h.wf.wt, h.wf.left⟩, h.hN, by show Own w' _ 1 sa s.length sc (vbs s) Ms; rw [hs]; exact ho, h.wt.ext he (fun g hg hm => h3 g hm hg)⟩
  have hb := h.hd.ext he h1
  show Blk w' d #[.slice sa s.length sc, .slice wa v.wt.length wc, .int .i64 v.calls, .int .i64 v.left, .bool v.off] 234 (0, 0)
  rw [hs]
  exact hb

theorem dcallL_ok (d : Nat) (v : DevV) (sz : Nat) (sa : Option Addr) (sc : Nat) (wa : Option Addr) (wc : Nat) (Ms Mw : List Nat) (w : World) (D : DevL w d v sz sa sc wa wc Ms Mw) (hcb : 0 ≤ v.calls ∧ v.calls ≤ 1000000000) : Meets Try.prog 201 [.pointer (some ⟨d, 0, none⟩)] w (fun r w' => r = .bool (callV v).2 ∧ Ext [d] w w' ∧ DevL w' d (callV v).1 sz sa sc wa wc Ms Mw) := by
  refine Meets.enter Try.func201 rfl 30 rfl (Nat.le_of_ble_eq_true rfl) ?_
  have hlf := D.wf.left
  refine G.seq ?_
  refine G.region ?_
  refine L.val rfl rfl (R.as rfl) ?_
  refine L.nil ?_
  refine N.seq ?_
  refine G.seq ?_
  refine G.seq ?_
  refine G.region ?_
  refine L.val rfl rfl (R.mv rfl) ?_
  refine L.val rfl rfl (R.nilChk rfl) ?_
  refine L.val rfl rfl (R.fld rfl) ?_
  refine L.val rfl rfl (R.ldB rfl D.hd rfl) ?_
  refine L.val rfl rfl (R.eqI rfl rfl) ?_
  refine L.nil ?_
  refine N.seq ?_
  refine G.condP rfl (fun h0 => ?_) (fun h0 => ?_)
  · have hcv : callV v = ({ v with off := true }, false) := if_pos h0
    refine G.seq ?_
    refine G.region ?_
    refine L.val rfl rfl (R.mv rfl) ?_
    refine L.val rfl rfl (R.nilChk rfl) ?_
    refine L.val rfl rfl (R.fld rfl) ?_
    refine L.set rfl (R.st rfl rfl D.hd (by show 4 < 5; decide) rfl) ?_
    rintro w1 ⟨e1, hs1, B1⟩
    replace B1 : Blk w1 d #[.slice sa ({ v with off := true } : DevV).stay.length sc, .slice wa ({ v with off := true } : DevV).wt.length wc, .int .i64 ({ v with off := true } : DevV).calls, .int .i64 ({ v with off := true } : DevV).left, .bool ({ v with off := true } : DevV).off] 234 (0, 0) := B1
    refine L.nil ?_
    refine N.seq ?_
    refine G.seq ?_
    refine G.region ?_
    refine L.val rfl rfl (R.as rfl) ?_
    refine L.nil ?_
    refine N.seq ?_
    refine G.ret1 rfl rfl ?_
    first
      | (rw [hcv]; exact ⟨rfl, e1, D.fld e1 B1 rfl rfl ⟨D.wf.len, D.wf.wt, D.wf.left⟩⟩)
      | (rw [hcv]; exact ⟨rfl, e2.trans e3 (by simp) (by simp), D2.fld e3 B3 rfl rfl ⟨D.wf.len, D.wf.wt, by show -1 ≤ v.left - 1 ∧ v.left - 1 ≤ _; omega⟩⟩)
      | (rw [hcv]; exact ⟨rfl, e3, D.fld e3 B3 rfl rfl ⟨D.wf.len, D.wf.wt, D.wf.left⟩⟩)
  · refine G.skip ?_
    refine N.seq ?_
    refine G.seq ?_
    refine G.seq ?_
    refine G.region ?_
    refine L.val rfl rfl (R.mv rfl) ?_
    refine L.val rfl rfl (R.nilChk rfl) ?_
    refine L.val rfl rfl (R.fld rfl) ?_
    refine L.val rfl rfl (R.ldB rfl D.hd rfl) ?_
    refine L.val rfl rfl (R.gtr rfl rfl) ?_
    refine L.nil ?_
    refine N.seq ?_
    refine G.condP rfl (fun h1 => ?_) (fun h1 => ?_)
    · have hcv : callV v = ({ v with left := v.left - 1, calls := v.calls + 1 }, true) := by unfold callV; rw [if_neg h0, if_pos h1]
      refine G.region ?_
      refine L.val rfl rfl (R.mv rfl) ?_
      refine L.val rfl rfl (R.nilChk rfl) ?_
      refine L.val rfl rfl (R.fld rfl) ?_
      refine L.val rfl rfl (R.ldB rfl D.hd rfl) ?_
      refine L.val rfl rfl (R.sub' rfl rfl (by omega)) ?_
      refine L.val rfl rfl (R.nilChk rfl) ?_
      refine L.val rfl rfl (R.fld rfl) ?_
      refine L.set rfl (R.st rfl rfl D.hd (by show 3 < 5; decide) rfl) ?_
      rintro w2 ⟨e2, hs2, B2⟩
      replace B2 : Blk w2 d #[.slice sa ({ v with left := v.left - 1 } : DevV).stay.length sc, .slice wa ({ v with left := v.left - 1 } : DevV).wt.length wc, .int .i64 ({ v with left := v.left - 1 } : DevV).calls, .int .i64 ({ v with left := v.left - 1 } : DevV).left, .bool ({ v with left := v.left - 1 } : DevV).off] 234 (0, 0) := B2
      have D2 := D.fld e2 B2 rfl rfl ⟨D.wf.len, D.wf.wt, by show -1 ≤ v.left - 1 ∧ v.left - 1 ≤ _; omega⟩
      refine L.nil ?_
      refine N.seq ?_
      refine G.seq ?_
      refine G.region ?_
      refine L.val rfl rfl (R.mv rfl) ?_
      refine L.val rfl rfl (R.nilChk rfl) ?_
      refine L.val rfl rfl (R.fld rfl) ?_
      first | refine L.val rfl rfl (R.ldB rfl D2.hd rfl) ?_ | refine L.val rfl rfl (R.ldB rfl D.hd rfl) ?_
      refine L.be 26 rfl (show _ = Value.int .i64 v.calls from rfl) ?_
      refine L.val rfl rfl (R.add rfl rfl (by omega)) ?_
      refine L.val rfl rfl (R.nilChk rfl) ?_
      refine L.val rfl rfl (R.fld rfl) ?_
      refine L.set rfl (R.st rfl rfl D2.hd (by show 2 < 5; decide) rfl) ?_
      rintro w3 ⟨e3, hs3, B3⟩
      refine L.nil ?_
      refine N.seq ?_
      refine G.seq ?_
      refine G.region ?_
      refine L.val rfl rfl (R.as rfl) ?_
      refine L.nil ?_
      refine N.seq ?_
      refine G.ret1 rfl rfl ?_
      first
        | (rw [hcv]; exact ⟨rfl, e1, D.fld e1 B1 rfl rfl ⟨D.wf.len, D.wf.wt, D.wf.left⟩⟩)
        | (rw [hcv]; exact ⟨rfl, e2.trans e3 (by simp) (by simp), D2.fld e3 B3 rfl rfl ⟨D.wf.len, D.wf.wt, by show -1 ≤ v.left - 1 ∧ v.left - 1 ≤ _; omega⟩⟩)
        | (rw [hcv]; exact ⟨rfl, e3, D.fld e3 B3 rfl rfl ⟨D.wf.len, D.wf.wt, D.wf.left⟩⟩)
    · have hcv : callV v = ({ v with left := v.left, calls := v.calls + 1 }, true) := by unfold callV; rw [if_neg h0, if_neg h1]
      refine G.skip ?_
      refine N.seq ?_
      refine G.seq ?_
      refine G.region ?_
      refine L.val rfl rfl (R.mv rfl) ?_
      refine L.val rfl rfl (R.nilChk rfl) ?_
      refine L.val rfl rfl (R.fld rfl) ?_
      first | refine L.val rfl rfl (R.ldB rfl D2.hd rfl) ?_ | refine L.val rfl rfl (R.ldB rfl D.hd rfl) ?_
      refine L.be 26 rfl (show _ = Value.int .i64 v.calls from rfl) ?_
      refine L.val rfl rfl (R.add rfl rfl (by omega)) ?_
      refine L.val rfl rfl (R.nilChk rfl) ?_
      refine L.val rfl rfl (R.fld rfl) ?_
      refine L.set rfl (R.st rfl rfl D.hd (by show 2 < 5; decide) rfl) ?_
      rintro w3 ⟨e3, hs3, B3⟩
      refine L.nil ?_
      refine N.seq ?_
      refine G.seq ?_
      refine G.region ?_
      refine L.val rfl rfl (R.as rfl) ?_
      refine L.nil ?_
      refine N.seq ?_
      refine G.ret1 rfl rfl ?_
      first
        | (rw [hcv]; exact ⟨rfl, e1, D.fld e1 B1 rfl rfl ⟨D.wf.len, D.wf.wt, D.wf.left⟩⟩)
        | (rw [hcv]; exact ⟨rfl, e2.trans e3 (by simp) (by simp), D2.fld e3 B3 rfl rfl ⟨D.wf.len, D.wf.wt, by show -1 ≤ v.left - 1 ∧ v.left - 1 ≤ _; omega⟩⟩)
        | (rw [hcv]; exact ⟨rfl, e3, D.fld e3 B3 rfl rfl ⟨D.wf.len, D.wf.wt, D.wf.left⟩⟩)

theorem settle_ok (d : Nat) (v : DevV) (sz : Nat) (sa : Option Addr) (sc : Nat) (wa : Option Addr) (wc : Nat) (Ms Mw : List Nat) (x : Nat × List UInt8) (w : World) (D : DevL w d v sz sa sc wa wc Ms Mw) (hx : x.1 < sz) (hx64 : x.2.length = 64) : Meets Try.prog 148 [.pointer (some ⟨d, 0, none⟩), .agg (waitC x).toArray] w (fun _ w' => Ext Ms w w' ∧ DevL w' d { v with stay := (laid v.stay x.1 x.2) } sz sa sc wa wc Ms Mw) := by
  refine Meets.enter Try.func148 rfl 15 rfl (Nat.le_of_ble_eq_true rfl) ?_
  have hl := D.wf.len
  have hN := D.hN
  have hvs : (vbs x.2).length = 64 := by rw [vbs_length, hx64]
  have hll := laid_length (x := v.stay) hx64 (by rw [dn_of hl]; exact hx)
  refine G.seq ?_
  refine G.region ?_
  refine L.do rfl rfl (R.box rfl) ?_
  rintro _ w1 ⟨b3, rfl, hb3, hs1, e1, B3⟩
  replace B3 : Blk w1 b3 (waitC x).toArray 238 (0, 0) := B3
  have D0 := D
  replace D := D.ext0 e1
  refine L.nil ?_
  refine N.seq ?_
  obtain ⟨g7, cur7, rfl, rfl, B7, hz7, hO7⟩ := D.st.over (o := 64 * x.1) (cs := vbs x.2) (by rw [hvs]; omega) (by omega)
  refine G.staged [10] [.blocks ([g7])] [fun w' => Ext [] w1 w', fun w' => Ext [g7] w1 w' ∧ Blk w' g7 (Over cur7 (64 * x.1) (vbs x.2)) 5 (0, 0)] [] (by decide +kernel) (by decide +kernel) rfl rfl rfl (fun _ h => h) ?_
  refine Z.val rfl rfl rfl rfl rfl (fun w2 => R.mv rfl) ?_
  refine Z.val rfl rfl rfl rfl rfl (fun w2 => R.nilChk rfl) ?_
  refine Z.val rfl rfl rfl rfl rfl (fun w2 => R.fld rfl) ?_
  refine Z.read 0 (by decide +kernel) rfl rfl rfl rfl rfl rfl (fun w2 hJ => R.ldB rfl (D.hd.ext0 hJ) rfl) ?_
  refine Z.val rfl rfl rfl rfl rfl (fun w2 => R.fld rfl) ?_
  refine Z.read 0 (by decide +kernel) rfl rfl rfl rfl rfl rfl (fun w2 hJ => R.ldB rfl (B3.ext0 hJ) rfl) ?_
  refine Z.val rfl rfl rfl rfl rfl (fun w2 => R.mul rfl rfl (by omega)) ?_
  refine Z.val rfl rfl rfl rfl rfl (fun w2 => R.slL rfl rfl (by omega) (by omega)) ?_
  refine Z.be 11 rfl (show _ = Value.slice (some ⟨g7, 64 * x.1, none⟩) (v.stay.length - 64 * x.1) (sc - 64 * x.1) by rw [show ((x.1 : Int) * 64).toNat = 64 * x.1 by omega, subA_lit (by have := D.st.le; omega), Nat.zero_add, Nat.mul_one]) ?_
  refine Z.val rfl rfl rfl rfl rfl (fun w2 => R.fld rfl) ?_
  refine Z.val rfl rfl rfl rfl rfl (fun w2 => R.slA rfl) ?_
  refine Z.put (A := fun v _ => v = .int .i64 64) (Lasts.kill (fun _ _ _ _ h => h) (by decide +kernel)) 0 (by decide +kernel) rfl rfl rfl rfl rfl rfl rfl (fun w2 hJ => (R.copyB rfl rfl (B7.ext0 hJ) (Cells.of_blk (B3.ext0 hJ) 1 (vbs x.2) (fun j v hj => by rw [Nat.add_comm]; simpa [waitC] using hj)) (by rw [hvs]; exact (Nat.min_eq_left (by omega)).symm) hz7 (vbs_one _)).mono (fun v w' h => by obtain ⟨rfl, h1, h2, h3⟩ := h; rw [hvs]; exact ⟨rfl, h1, h1.after hJ, h3⟩)) ?_
  refine Z.nil rfl rfl (fun w2 hJ => ?_)
  obtain ⟨e2, B7⟩ := hJ
  rintro _ _
  have o7 := hO7 _ B7
  rw [show List.take (64 * x.1) (vbs v.stay) ++ vbs x.2 ++ List.drop (64 * x.1 + (vbs x.2).length) (vbs v.stay) = vbs (laid v.stay x.1 x.2) by rw [hvs]; simp only [laid, vbs, List.map_append, List.map_take, List.map_drop]] at o7
  refine N.end0 rfl ?_
  exact ⟨e2.after e1, D.lay e2 o7 hll⟩

end Go.Proofs.Ythpolibakkmmeaa
/-
  The walks of package dev.
-/
set_option linter.unusedVariables false
set_option linter.unusedSimpArgs false
namespace Go.Proofs.Ythpolibakkmmeaa
open Go Brv Brv.Image Brv.Dev
theorem DevL.elem {w : World} {d : Nat} {v : DevV} {sz : Nat} {sa : Option Addr} {sc : Nat} {wa : Option Addr} {wc : Nat} {Ms Mw : List Nat} (h : DevL w d v sz sa sc wa wc Ms Mw) {k : Nat} {x : Nat × List UInt8} (hx : v.wt[k]? = some x) : ∃ q, wa = some q ∧ Cells w (some (q.add (k * 65))) (waitC x) ∧ x.1 < sz ∧ x.2.length = 64 := by
  have hk := (List.getElem?_eq_some_iff.1 hx).1
  obtain ⟨q, hq, hc⟩ := h.tab.at (by decide) k (by rw [List.length_map]; exact hk)
  rw [List.getElem_map, show v.wt[k] = x from (List.getElem?_eq_some_iff.1 hx).2] at hc
  exact ⟨q, hq, hc, h.wf.wt x (List.mem_of_getElem? hx)⟩
theorem DevL.none {w w' : World} {d : Nat} {v : DevV} {sz : Nat} {sa : Option Addr} {sc : Nat} {wa : Option Addr} {wc : Nat} {Ms Mw : List Nat} (h : DevL w d v sz sa sc wa wc Ms Mw) (he : Ext [d] w w') (hb : Blk w' d #[.slice sa v.stay.length sc, .slice .none 0 0, .int .i64 v.calls, .int .i64 v.left, .bool v.off] 234 (0, 0)) : DevL w' d { v with wt := [] } sz sa sc .none 0 Ms [] := by
  obtain ⟨h1, h2, _⟩ := h.apart
  exact ⟨hb, ⟨h.wf.len, by simp, h.wf.left⟩, h.hN, h.st.ext he (fun g hg hm => by rw [List.mem_singleton.1 hm] at hg; exact h1 hg), Own.nil _ _ _⟩

theorem dflush_ok (d : Nat) (v : DevV) (sz : Nat) (S : List Nat) (w : World) (hd : DevAt w d v sz S) (hcb : 0 ≤ v.calls ∧ v.calls ≤ 1000000000) (hwb : v.wt.length ≤ 1000000) : Meets Try.prog 146 [.pointer (some ⟨d, 0, none⟩)] w (fun r w' => r = .int .i64 (flushV v).2 ∧ ∃ S', Grown S S' w w' ∧ DevAt w' d (flushV v).1 sz S') := by
  refine Meets.enter Try.func146 rfl 30 rfl (Nat.le_of_ble_eq_true rfl) ?_
  have hd0 := hd
  obtain ⟨sa, sc, wa, wc, Ms, Mw, D, rfl⟩ := hd
  have hcs := callV_same v
  refine G.seq ?_
  refine G.region ?_
  refine L.val rfl rfl (R.as rfl) ?_
  refine L.nil ?_
  refine N.seq ?_
  refine G.seq ?_
  refine G.seq ?_
  refine G.region ?_
  refine L.val rfl rfl (R.mv rfl) ?_
  refine L.callF rfl rfl rfl go199 (dable_ok d v sz _ _ hd0) ?_
  rintro _ _ ⟨rfl, hw⟩
  obtain rfl := hw.symm
  refine L.val rfl rfl (R.as rfl) ?_
  refine L.nil ?_
  refine N.seq ?_
  refine G.seq ?_
  by_cases ho : v.off = true
  · rw [if_pos ho]
    have hf : flushV v = (v, 10) := if_pos ho
    refine G.region ?_
    refine L.val rfl rfl (R.mv rfl) ?_
    refine L.val rfl rfl (R.neI rfl rfl) ?_
    refine L.nil ?_
    refine N.seq ?_
    refine G.condT rfl ?_
    refine G.seq ?_
    refine G.region ?_
    refine L.val rfl rfl (R.mv rfl) ?_
    refine L.val rfl rfl (R.as rfl) ?_
    refine L.nil ?_
    refine N.seq ?_
    refine G.ret1 rfl rfl ?_
    first
      | (rw [hf]; exact ⟨rfl, _, Grown.refl _ _, hd0⟩)
      | (rw [hf]; exact ⟨rfl, _, ⟨E, fun g hg => .inl hg⟩, sa, sc, wa, wc, Ms, Mw, D1, rfl⟩)
      | (rw [hf]; exact ⟨rfl, _, ⟨E, fun g hg => .inl (by simp at hg ⊢; rcases hg with h | h <;> simp [h])⟩, sa, sc, none, 0, Ms, [], D7, rfl⟩)
  · rw [if_neg ho]
    refine G.region ?_
    refine L.val rfl rfl (R.mv rfl) ?_
    refine L.val rfl rfl (R.neI rfl rfl) ?_
    refine L.nil ?_
    refine N.seq ?_
    refine G.condF rfl ?_
    refine G.skip ?_
    refine N.seq ?_
    refine G.seq ?_
    refine G.seq ?_
    refine G.region ?_
    refine L.val rfl rfl (R.mv rfl) ?_
    refine L.callF rfl rfl rfl go201 (dcallL_ok d v sz sa sc wa wc Ms Mw _ D hcb) ?_
    rintro _ w1 ⟨rfl, e1, D1⟩
    obtain ⟨v1, hv1⟩ : ∃ v1, v1 = (callV v).1 := ⟨_, rfl⟩
    rw [← hv1] at D1 hcs
    have E : Ext (d :: (Ms ++ Mw)) w w1 := e1.mono (by simp)
    have hwl : v1.wt.length ≤ 1000000 := by rw [hcs.2]; exact hwb
    refine L.val rfl rfl (R.not rfl) ?_
    refine L.nil ?_
    refine N.seq ?_
    refine G.condB rfl (fun h1 => ?_) (fun h1 => ?_)
    · have hcf : (callV v).2 = false := by simpa using h1
      have hf : flushV v = (v1, 10) := by unfold flushV; rw [if_neg ho, if_neg (by simp [hcf]), hv1]
      refine G.seq ?_
      refine G.region ?_
      refine L.val rfl rfl (R.as rfl) ?_
      refine L.nil ?_
      refine N.seq ?_
      refine G.ret1 rfl rfl ?_
      first
        | (rw [hf]; exact ⟨rfl, _, Grown.refl _ _, hd0⟩)
        | (rw [hf]; exact ⟨rfl, _, ⟨E, fun g hg => .inl hg⟩, sa, sc, wa, wc, Ms, Mw, D1, rfl⟩)
        | (rw [hf]; exact ⟨rfl, _, ⟨E, fun g hg => .inl (by simp at hg ⊢; rcases hg with h | h <;> simp [h])⟩, sa, sc, none, 0, Ms, [], D7, rfl⟩)
    · have hcf : (callV v).2 = true := by simpa using h1
      have hf : flushV v = ({ v1 with stay := laidAll v1.stay v1.wt, wt := [] }, 0) := by unfold flushV; rw [if_neg ho, if_pos hcf, hv1]
      refine G.skip ?_
      refine N.seq ?_
      refine G.seq ?_
      refine G.seq ?_
      refine G.region ?_
      refine L.val rfl rfl (R.mv rfl) ?_
      refine L.val rfl rfl (R.nilChk rfl) ?_
      refine L.val rfl rfl (R.fld rfl) ?_
      refine L.val rfl rfl (R.ldB rfl D1.hd rfl) ?_
      refine L.val rfl rfl (R.lenS rfl) ?_
      refine L.val rfl rfl (R.mv rfl) ?_
      refine L.nil ?_
      refine N.seq ?_
      refine G.block ?_
      refine G.loop (X := Nat) (fun k => [(0, .pointer (some ⟨d, 0, none⟩)), (17, .slice wa v1.wt.length wc), (18, .int .i64 (v1.wt.length : Int)), (19, .int .i64 (k : Int))]) (fun k w' => k ≤ v1.wt.length ∧ DevL w' d { v1 with stay := (laidAll v1.stay (v1.wt.take k)) } sz sa sc wa wc Ms Mw ∧ Ext (d :: (Ms ++ Mw)) w w') (fun k => v1.wt.length - k) (0) (Sub.cons rfl (Sub.cons rfl (Sub.cons rfl (Sub.cons rfl (Sub.nil _))))) ⟨Nat.zero_le _, D1, E⟩ ?_
      rintro k w2 ⟨hk, D2, E⟩
      refine G.seq ?_
      refine G.region ?_
      refine L.val rfl rfl (R.lss rfl rfl) ?_
      refine L.nil ?_
      refine N.seq ?_
      refine G.seq ?_
      refine G.condP rfl (fun h2 => ?_) (fun h2 => ?_)
      · have hk2 : k < v1.wt.length := by omega
        obtain ⟨x, hx⟩ : ∃ x, v1.wt[k]? = some x := ⟨_, List.getElem?_eq_getElem hk2⟩
        obtain ⟨q9, hq9, hcl, hxs, hx64⟩ := D2.elem (x := x) hx
        refine G.skip ?_
        refine N.seq ?_
        refine G.seq ?_
        refine G.block ?_
        refine G.seq ?_
        refine G.region ?_
        refine L.val rfl rfl (R.idx rfl rfl (by omega) (by omega) q9 hq9) ?_
        refine L.val rfl rfl (R.ldN rfl hcl (waitC_length hx64)) ?_
        refine L.do rfl rfl (R.alloc) ?_
        rintro _ w3 ⟨b5, rfl, hb5, hs3, e3, B5⟩
        refine L.set rfl (R.stN rfl rfl B5 (by rw [List.size_toArray, waitC_length hx64]) (by rw [List.size_toArray, waitC_length hx64]; exact Nat.le_refl 65) (waitC_one x)) ?_
        rintro w4 ⟨e4, hs4, B5⟩
        rw [all_stored (Eq.trans (by rfl : _ = 65) (by rw [List.size_toArray, waitC_length hx64]))] at B5
        have n4 := e3.news2 e4 (by omega)
        replace D2 := D2.ext0 n4
        replace E := E.trans0 n4
        refine L.nil ?_
        refine N.seq ?_
        refine G.region ?_
        refine L.val rfl rfl (R.mv rfl) ?_
        refine L.val rfl rfl (R.ldBN rfl B5 (by rw [List.size_toArray, waitC_length hx64])) ?_
        refine L.callF rfl rfl rfl go148 (settle_ok d _ sz sa sc wa wc Ms Mw x _ D2 hxs hx64) ?_
        rintro _ w5 ⟨e5, D5⟩
        replace D2 : DevL w5 d { v1 with stay := (laidAll v1.stay (v1.wt.take (k + 1))) } sz sa sc wa wc Ms Mw := by rw [laidAll_succ hx]; exact D5
        replace E := E.transN e5 (fun g hg => .inl (by simp [hg]))
        refine L.nil ?_
        refine N.block ?_
        refine N.seq ?_
        refine G.region ?_
        refine L.val rfl rfl (R.add rfl rfl (by omega)) ?_
        refine L.val rfl rfl (R.mv rfl) ?_
        refine L.nil ?_
        exact N.again (k + 1) (by omega) (Sub.cons rfl (Sub.cons rfl (Sub.cons rfl (Sub.cons rfl (Sub.nil _))))) ⟨by omega, D2, E⟩
      · obtain rfl : k = v1.wt.length := by omega
        rw [List.take_length] at D2
        refine G.exit _ rfl ?_
        refine N.seq ?_
        refine G.seq ?_
        refine G.region ?_
        refine L.val rfl rfl (R.mv rfl) ?_
        refine L.val rfl rfl (R.nilChk rfl) ?_
        refine L.val rfl rfl (R.fld rfl) ?_
        refine L.set rfl (R.st rfl rfl D2.hd (by show 1 < 5; decide) rfl) ?_
        rintro w6 ⟨e6, hs6, B6⟩
        have D7 := D2.none e6 B6
        replace E := E.transN e6 (fun g hg => .inl (by rw [List.mem_singleton.1 hg]; simp))
        refine L.nil ?_
        refine N.seq ?_
        refine G.seq ?_
        refine G.region ?_
        refine L.val rfl rfl (R.as rfl) ?_
        refine L.nil ?_
        refine N.seq ?_
        refine G.ret1 rfl rfl ?_
        first
          | (rw [hf]; exact ⟨rfl, _, Grown.refl _ _, hd0⟩)
          | (rw [hf]; exact ⟨rfl, _, ⟨E, fun g hg => .inl hg⟩, sa, sc, wa, wc, Ms, Mw, D1, rfl⟩)
          | (rw [hf]; exact ⟨rfl, _, ⟨E, fun g hg => .inl (by simp at hg ⊢; rcases hg with h | h <;> simp [h])⟩, sa, sc, none, 0, Ms, [], D7, rfl⟩)

theorem dflush_nil  (w : World) : Meets Try.prog 146 [.pointer none] w (fun r w' => r = .int .i64 1 ∧ w' = w) := by
  refine Meets.enter Try.func146 rfl 30 rfl (Nat.le_of_ble_eq_true rfl) ?_
  refine G.seq ?_
  refine G.region ?_
  refine L.val rfl rfl (R.as rfl) ?_
  refine L.nil ?_
  refine N.seq ?_
  refine G.seq ?_
  refine G.seq ?_
  refine G.region ?_
  refine L.val rfl rfl (R.mv rfl) ?_
  refine L.callF rfl rfl rfl go199 (dable_nil _) ?_
  rintro _ _ ⟨rfl, hw⟩
  obtain rfl := hw.symm
  refine L.val rfl rfl (R.as rfl) ?_
  refine L.nil ?_
  refine N.seq ?_
  refine G.seq ?_
  refine G.region ?_
  refine L.val rfl rfl (R.mv rfl) ?_
  refine L.val rfl rfl (R.neI rfl rfl) ?_
  refine L.nil ?_
  refine N.seq ?_
  refine G.condT rfl ?_
  refine G.seq ?_
  refine G.region ?_
  refine L.val rfl rfl (R.mv rfl) ?_
  refine L.val rfl rfl (R.as rfl) ?_
  refine L.nil ?_
  refine N.seq ?_
  refine G.ret1 rfl rfl ?_
  exact ⟨rfl, rfl⟩

end Go.Proofs.Ythpolibakkmmeaa
/-
  Slices of three bounds; a struct of two parts.
-/
set_option linter.unusedVariables false
namespace Brv
open Go
section
variable {P : Program} {n : Fm} {ρ : Env} {w : World} {d : Nat} {ty : TypeId} {pos : String} {af : Array Edge} {gd : Option (Nat × Bool)}
theorem R.slLHM {T E size bytes : Nat} {z : Value} [t : TySlice P T E size bytes z] {x lo hi mx : Operand} {k k' k'' : IntKind} {a : Option Addr} {m c : Nat} {i j e : Int} (hx : ev ρ x = some (.slice a m c)) (hlo : ev ρ lo = some (.int k i)) (hhi : ev ρ hi = some (.int k' j)) (hmx : ev ρ mx = some (.int k'' e)) (h0 : 0 ≤ i) (h1 : i ≤ j) (h2 : j ≤ e) (h3 : e ≤ c) :
    Runs P n ρ w ⟨some d, .slice T x (some lo) (some hi) (some mx), ty, pos, af, gd⟩ (.slice (subA a i.toNat e.toNat size) (j.toNat - i.toNat) (e.toNat - i.toNat)) w := (fun f hf => by
    have hb : (Instr.sliceBounds true m c (some (.int k i)) (some (.int k' j)) (some (.int k'' e))).run P w = .ok (i.toNat, j.toNat, e.toNat) w := by
      simp [Instr.sliceBounds, sliceBound_ok (P := P) (k := k'') (i := e) (y := c) (code := .slice3Acap) (by omega) h3 w, sliceBound_ok (P := P) (k := k') (i := j) (y := e.toNat) (code := .slice3B) (by omega) (by omega) w, sliceBound_ok (P := P) (k := k) (i := i) (y := j.toNat) (code := .slice3C) h0 (by omega) w]
    have := run_subS (P := P) (T := T) (a := a) w hb
    simp only [execOp, hf.eval hx, hf.eval hlo, hf.eval hhi, hf.eval hmx, Sem.run_bind, Option.map_some, this]
    rfl)
end
theorem fill_two {pl : Nat → Option (Nat × Nat)} {A cs : Array Value} {u : Value} {m : Nat} (h0 : pl 0 = some (0, 1)) (h1 : pl 1 = some (1, m)) (hu : u.cells = #[u]) (hc : cs.size = m) (hA : A.size = 1 + m) : Instr.fill pl A [(0, u), (1, .agg cs)] = some (u :: cs.toList).toArray := by
  have hcc : (Value.agg cs).cells = cs := rfl
  have e0 : (u.cells.zipIdx.foldl (fun ac (p : Value × Nat) => ac.setIfInBounds (0 + p.2) p.1) A) = A.setIfInBounds 0 u := by rw [hu]; simp
  have hf := seg_fold 1 cs.toList 0 (A.setIfInBounds 0 u) (by simp; omega)
  have e : (cs.zipIdx.foldl (fun ac (p : Value × Nat) => ac.setIfInBounds (1 + p.2) p.1) (A.setIfInBounds 0 u)) = ((cs.toList.zipIdx 0).foldl (fun ac (p : Value × Nat) => ac.setIfInBounds (1 + p.2) p.1) (A.setIfInBounds 0 u)) := by
    rw [← Array.foldl_toList]; simp
  simp only [Instr.fill, h0, h1, hcc]
  rw [if_neg (by rw [hu]; intro h; simp at h; rw [h] at hA; simp at hA; omega)]
  simp only [e0]
  rw [if_neg (by simp; omega)]
  refine congrArg some ?_
  rw [e]
  apply Array.toList_inj.1
  rw [hf]
  simp only [Array.toList_setIfInBounds, Nat.add_zero, Array.length_toList]
  obtain ⟨al⟩ := A
  cases al with
  | nil => simp at hA; omega
  | cons a r =>
    simp at hA
    simp
    omega
/-- Where the elements of a slice lie; nowhere, if there are none. -/
def effA {α : Type} (a : Option Addr) : List α → Option Addr
  | [] => none
  | _ :: _ => a
theorem effA.of {α : Type} {a : Option Addr} {l : List α} {p : Addr} (h : effA a l = some p) : a = some p := by
  cases l with
  | nil => cases h
  | cons x r => exact h
theorem Cells.extE {α : Type} {f : α → Value} {w w' : World} {M : List Nat} {a : Option Addr} {l : List α} (h : Cells w a (l.map f)) (he : Ext M w w') (hm : ∀ p, effA a l = some p → p.block ∉ M) : Cells w' a (l.map f) := by
  cases l with
  | nil => exact Cells.nil _ _
  | cons x r => exact h.ext he hm
theorem Bs.extE {w w' : World} {M : List Nat} {a : Option Addr} {n : Nat} {l : List UInt8} (h : Bs w a n l) (he : Ext M w w') (hm : ∀ p, effA a l = some p → p.block ∉ M) : Bs w' a n l := ⟨Cells.extE (f := vb) h.cells he hm, h.len⟩
theorem Cells.effLt {α : Type} {f : α → Value} {w : World} {a : Option Addr} {l : List α} (h : Cells w a (l.map f)) : ∀ p, effA a l = some p → p.block < w.heap.size := by
  intro p hp
  cases l with
  | nil => cases hp
  | cons x r =>
    obtain ⟨q, hq, hc⟩ := h 0 (f x) rfl
    have : a = some p := hp
    rw [this] at hq; cases hq
    obtain ⟨o, ho, _⟩ : ∃ o : Obj, w.heap[(p.add 0).block]? = some o ∧ True := by
      unfold World.cell? at hc
      cases ho : w.heap[(p.add 0).block]? with
      | none => simp [ho] at hc
      | some o => exact ⟨o, rfl, trivial⟩
    exact (Array.getElem?_eq_some_iff.1 ho).1
theorem Bs.effLt {w : World} {a : Option Addr} {n : Nat} {l : List UInt8} (h : Bs w a n l) : ∀ p, effA a l = some p → p.block < w.heap.size := Cells.effLt (f := vb) h.cells
end Brv
/-
  The walks of package dev.
-/
set_option linter.unusedVariables false
set_option linter.unusedSimpArgs false
namespace Go.Proofs.Ythpolibakkmmeaa
open Go Brv Brv.Image Brv.Dev
def chE (l : List UInt8) (k : Nat) (vs : List Value) (W : World) : Prop := ∃ a c, vs = [.slice a 64 c] ∧ 64 ≤ c ∧ Bs W a 64 (blk l k)
def chF (a : Option Addr) (b2 b3 : Nat) : List Nat := b2 :: b3 :: (match a with | some p => [p.block] | none => [])
theorem chF_a {a : Option Addr} {b2 b3 : Nat} {p : Addr} (h : a = some p) : p.block ∈ chF a b2 b3 := by subst h; simp [chF]
theorem chF_mem {a : Option Addr} {b2 b3 y : Nat} (h : y ∈ chF a b2 b3) : y = b2 ∨ y = b3 ∨ ∃ p, a = some p ∧ y = p.block := by
  unfold chF at h
  rcases List.mem_cons.1 h with h | h
  · exact .inl h
  rcases List.mem_cons.1 h with h | h
  · exact .inr (.inl h)
  cases a with
  | none => simp at h
  | some p => exact .inr (.inr ⟨p, rfl, List.mem_singleton.1 h⟩)
theorem chunk_ok (a : Option Addr) (n c : Nat) (w : World) : Meets Try.prog 202 [.slice a n c, .int .i64 64] w (fun v w' => ∃ b2 b3, v = .func (.func 231) #[] #[.pointer (some ⟨b2, 0, none⟩), .pointer (some ⟨b3, 0, none⟩)] ∧ Ext [] w w' ∧ Blk w' b2 #[.slice a n c] 22 (0, 0) ∧ Blk w' b3 #[.int .i64 64] 3 (0, 0) ∧ w.heap.size ≤ b2 ∧ w.heap.size ≤ b3) := by
  refine Meets.enter Try.func202 rfl 9 rfl (Nat.le_of_ble_eq_true rfl) ?_
  have E := Ext.refl [] w
  refine G.seq ?_
  refine G.region ?_
  refine L.do rfl rfl (R.box rfl) ?_
  rintro _ w1 ⟨b2, rfl, hb2, hs2, e1, B2⟩
  replace E := E.trans0 e1
  refine L.do rfl rfl (R.box rfl) ?_
  rintro _ w2 ⟨b3, rfl, hb3, hs3, e2, B3⟩
  replace E := E.trans0 e2
  replace B2 := B2.ext0 e2
  refine L.val rfl rfl (R.as rfl) ?_
  refine L.nil ?_
  refine N.seq ?_
  refine G.seq ?_
  refine G.seq ?_
  refine G.region ?_
  refine L.val rfl rfl (R.ldB rfl B3 rfl) ?_
  refine L.val rfl rfl (R.lss rfl rfl) ?_
  refine L.nil ?_
  refine N.seq ?_
  refine G.condF rfl ?_
  refine G.skip ?_
  refine N.seq ?_
  refine G.seq ?_
  refine G.region ?_
  refine L.val rfl rfl (R.mkFunc rfl rfl) ?_
  refine L.val rfl rfl (R.as rfl) ?_
  refine L.nil ?_
  refine N.seq ?_
  refine G.ret1 rfl rfl ?_
  exact ⟨b2, b3, rfl, E, B2, B3, by omega, by omega⟩

theorem chunk1_ok (y : Value) (b2 b3 : Nat) (a : Option Addr) (n c : Nat) (l : List UInt8) (D₀ : List Nat) (J Jx : Nat → List Nat → World → Prop) (w : World) (hB2 : Blk w b2 #[.slice a n c] 22 (0, 0)) (hB3 : Blk w b3 #[.int .i64 64] 3 (0, 0)) (hb : Bs w a n l) (hc : n ≤ c) (hn : n ≤ 1000000) (hm : l.length = 64 * dn l) (hD : ∀ g ∈ D₀, g < w.heap.size ∧ g ∉ chF (effA a l) b2 b3 ∧ g ∉ ([] : List Nat)) (hJ : ∀ k D W₁ W₂ M', J k D W₁ → Ext M' W₁ W₂ → (∀ g ∈ M', g ∉ D ∧ (g ∈ ([] : List Nat) ∨ w.heap.size ≤ g)) → J k D W₂) (hJx : ∀ k D W₁ W₂ M', Jx k D W₁ → Ext M' W₁ W₂ → (∀ g ∈ M', g ∉ D ∧ (g ∈ ([] : List Nat) ∨ w.heap.size ≤ g)) → Jx k D W₂) (hY : ∀ k D vs W₁, k < dn l → J k D W₁ → chE l k vs W₁ → (∀ g ∈ D, g < W₁.heap.size) → YCall Try.prog y vs W₁ fun b W₂ => ∃ D', Ext D W₁ W₂ ∧ (∀ g ∈ D', g < W₂.heap.size ∧ (g ∈ D ∨ W₁.heap.size ≤ g)) ∧ (b = true → J (k + 1) D' W₂) ∧ (b = false → Jx (k + 1) D' W₂)) (h0 : J 0 D₀ w) : Meets Try.prog 231 [y, .pointer (some ⟨b2, 0, none⟩), .pointer (some ⟨b3, 0, none⟩)] w (fun _ W₂ => (∃ D, J (dn l) D W₂ ∧ True) ∨ ∃ k D, k ≤ dn l ∧ Jx k D W₂ ∧ True) := by
  refine Meets.enter Try.func231 rfl 31 rfl (Nat.le_of_ble_eq_true rfl) ?_
  have hl := hb.len
  have hb2D : b2 ∉ D₀ := fun h => (hD _ h).2.1 (by simp [chF])
  have hb3D : b3 ∉ D₀ := fun h => (hD _ h).2.1 (by simp [chF])
  have haD : ∀ p, effA a l = some p → p.block ∉ D₀ := fun p hp h => (hD _ h).2.1 (chF_a hp)
  refine G.seq ?_
  refine G.region ?_
  refine L.val rfl rfl (R.as rfl) ?_
  refine L.nil ?_
  refine N.seq ?_
  refine G.block ?_
  refine G.loop (X := Nat) (fun i => [(0, y), (1, .pointer (some ⟨b2, 0, none⟩)), (2, .pointer (some ⟨b3, 0, none⟩)), (4, .int .i64 ((64 * i : Nat) : Int))]) (fun i w' => i ≤ dn l ∧ (∃ D, J i D w' ∧ ∀ g ∈ D, g < w'.heap.size ∧ (g ∈ D₀ ∨ w.heap.size ≤ g)) ∧ Ext D₀ w w') (fun i => dn l - i) (0) (Sub.cons rfl (Sub.cons rfl (Sub.cons rfl (Sub.cons rfl (Sub.nil _))))) ⟨Nat.zero_le _, ⟨D₀, h0, fun g hg => ⟨(hD g hg).1, .inl hg⟩⟩, Ext.refl _ _⟩ ?_
  rintro i w1 ⟨hi, ⟨D, hJi, hDD⟩, e1⟩
  have B2 := hB2.ext e1 hb2D
  have B3 := hB3.ext e1 hb3D
  have hb1 := hb.extE e1 haD
  refine G.seq ?_
  refine G.seq ?_
  refine G.region ?_
  refine L.val rfl rfl (R.mv rfl) ?_
  refine L.val rfl rfl (R.ldB rfl B2 rfl) ?_
  refine L.val rfl rfl (R.lenS rfl) ?_
  refine L.val rfl rfl (R.lss rfl rfl) ?_
  refine L.nil ?_
  refine N.seq ?_
  refine G.condP rfl (fun h0 => ?_) (fun h0 => ?_)
  · have hil : i < dn l := by omega
    have hbs := hb1.sub (64 * i) (64 * i + 64) 64 (by omega) (by omega)
    rw [show (l.drop (64 * i)).take 64 = blk l i from rfl] at hbs
    refine G.skip ?_
    refine N.seq ?_
    refine G.seq ?_
    refine G.block ?_
    refine G.seq ?_
    refine G.quiet (by decide +kernel) rfl ?_
    refine Q.val rfl rfl rfl rfl (fun w2 hE => R.ldB rfl (B3.ext0 hE) rfl) ?_
    refine Q.val rfl rfl rfl rfl (fun w2 hE => R.ldB rfl (B2.ext0 hE) rfl) ?_
    refine Q.val rfl rfl rfl rfl (fun w2 hE => R.mv rfl) ?_
    refine Q.val rfl rfl rfl rfl (fun w2 hE => R.slL rfl rfl (by omega) (by omega)) ?_
    refine Q.val rfl rfl rfl rfl (fun w2 hE => R.lenS rfl) ?_
    refine Q.val rfl rfl rfl rfl (fun w2 hE => R.min rfl rfl 64 (by split <;> omega)) ?_
    refine Q.val rfl rfl rfl rfl (fun w2 hE => R.as rfl) ?_
    refine Q.nil (fun w2 e2 => ?_)
    replace hJi := hJ i D _ _ [] hJi e2 (by simp)
    replace hDD := fun g hg => And.intro (Nat.lt_of_lt_of_le (hDD g hg).1 e2.size) (hDD g hg).2
    replace e1 := e1.trans0 e2
    replace B2 := B2.ext0 e2
    replace hbs := hbs.ext0 e2
    refine N.seq ?_
    refine G.seq ?_
    refine G.region ?_
    refine L.val rfl rfl (R.mv rfl) ?_
    refine L.val rfl rfl (R.ldB rfl B2 rfl) ?_
    refine L.val rfl rfl (R.mv rfl) ?_
    refine L.val rfl rfl (R.mv rfl) ?_
    refine L.val rfl rfl (R.mv rfl) ?_
    refine L.val rfl rfl (R.add rfl rfl (by omega)) ?_
    refine L.val rfl rfl (R.mv rfl) ?_
    refine L.val rfl rfl (R.mv rfl) ?_
    refine L.val rfl rfl (R.add rfl rfl (by omega)) ?_
    refine L.val rfl rfl (R.slLHM rfl rfl rfl rfl (by omega) (by omega) (by omega) (by omega)) ?_
    refine L.be 28 rfl (show _ = Value.slice (subA a (64 * i) (64 * i + 64) 1) 64 64 by rw [show (((64 * i : Nat) : Int)).toNat = 64 * i by omega, show (((64 * i : Nat) : Int) + 64).toNat = 64 * i + 64 by omega, Nat.add_sub_cancel_left]) ?_
    refine L.ycall rfl rfl rfl rfl (hY i D _ _ hil hJi ⟨_, _, rfl, Nat.le_refl _, hbs⟩ (fun g hg => (hDD g hg).1)) ?_
    rintro bb w3 ⟨D2, eD, hD2, hT, hF⟩
    refine L.val rfl rfl (R.not rfl) ?_
    refine L.nil ?_
    refine N.seq ?_
    refine G.condB rfl (fun h1 => ?_) (fun h1 => ?_)
    · obtain rfl : bb = false := by simpa using h1
      refine G.ret0 rfl ?_
      exact .inr ⟨i + 1, D2, by omega, hF rfl, trivial⟩
    · obtain rfl : bb = true := by simpa using h1
      refine G.skip ?_
      refine N.block ?_
      refine N.seq ?_
      refine G.region ?_
      refine L.val rfl rfl (R.mv rfl) ?_
      first | refine L.val rfl rfl (R.ldB rfl (hB3.ext (e1.transN eD (fun g hg => (hDD g hg).2)) hb3D) rfl) ?_ | refine L.val rfl rfl (R.ldB rfl B3 rfl) ?_
      refine L.val rfl rfl (R.add rfl rfl (by omega)) ?_
      refine L.be 12 rfl (show _ = Value.int .i64 ((64 * (i + 1) : Nat) : Int) by congr 1) ?_
      refine L.val rfl rfl (R.as rfl) ?_
      refine L.nil ?_
      exact N.again (i + 1) (by omega) (Sub.cons rfl (Sub.cons rfl (Sub.cons rfl (Sub.cons rfl (Sub.nil _))))) ⟨by omega, ⟨D2, hT rfl, fun g hg => ⟨(hD2 g hg).1, (hD2 g hg).2.elim (fun h => (hDD g h).2) (fun h => .inr (Nat.le_trans e1.size h))⟩⟩, e1.transN eD (fun g hg => (hDD g hg).2)⟩
  · refine G.exit _ rfl ?_
    refine N.end0 rfl ?_
    obtain rfl : i = dn l := by omega
    exact .inl ⟨D, hJi, trivial⟩

theorem chunk_iter (b2 b3 : Nat) (a : Option Addr) (n c : Nat) (l : List UInt8) (w : World) (hB2 : Blk w b2 #[.slice a n c] 22 (0, 0)) (hB3 : Blk w b3 #[.int .i64 64] 3 (0, 0)) (hb : Bs w a n l) (hc : n ≤ c) (hn : n ≤ 1000000) (hm : l.length = 64 * dn l) :
    Iter Try.prog 231 [.pointer (some ⟨b2, 0, none⟩), .pointer (some ⟨b3, 0, none⟩)] w (dn l) (chE l) (fun _ _ => True) (chF (effA a l) b2 b3) [] := by
  intro y D₀ J Jx W hE hD hJ hJx hY h0
  exact chunk1_ok y b2 b3 a n c l D₀ J Jx W (hB2.ext0 hE) (hB3.ext0 hE) (hb.ext0 hE) hc hn hm hD (fun k D W₁ W₂ M' h he hm => hJ k D W₁ W₂ M' h he (fun g hg => ⟨(hm g hg).1, (hm g hg).2.imp id (Nat.le_trans hE.size)⟩)) (fun k D W₁ W₂ M' h he hm => hJx k D W₁ W₂ M' h he (fun g hg => ⟨(hm g hg).1, (hm g hg).2.imp id (Nat.le_trans hE.size)⟩)) hY h0

end Go.Proofs.Ythpolibakkmmeaa
/-
  The walks of package dev.
-/
set_option linter.unusedVariables false
set_option linter.unusedSimpArgs false
namespace Go.Proofs.Ythpolibakkmmeaa
open Go Brv Brv.Image Brv.Dev
theorem DevL.still {w w' : World} {d : Nat} {v : DevV} {sz : Nat} {sa : Option Addr} {sc : Nat} {wa : Option Addr} {wc : Nat} {Ms Mw : List Nat} (h : DevL w d v sz sa sc wa wc Ms Mw) (hs : Still w w') : DevL w' d v sz sa sc wa wc Ms Mw := ⟨h.hd.still hs, h.wf, h.hN, h.st.still hs, h.wt.still hs⟩
def IsT1 (x : Nat × List UInt8) (v : Value) (w : World) : Prop := ∃ g, v = .slice (some ⟨g, 0, none⟩) 1 1 ∧ Cells w (some ⟨g, 0, none⟩) (waitC x)
theorem IsT1.keep (x : Nat × List UInt8) : ∀ v w w', Ext [] w w' → IsT1 x v w → IsT1 x v w' := fun _ _ _ he ⟨g, hv, hc⟩ => ⟨g, hv, hc.ext0 he⟩
theorem DevL.push {w w₁ w' : World} {d : Nat} {v v' : DevV} {sz : Nat} {sa : Option Addr} {sc : Nat} {wa : Option Addr} {wc : Nat} {Ms Mw : List Nat} {u : Value} (D : DevL w d v sz sa sc wa wc Ms Mw) (h : Held Mw w.heap.size 238 65 v'.wt.length (waitsC v'.wt) u w₁) (hJ : Ext Mw w w₁) (hp : Put w₁ d (#[.slice sa v.stay.length sc, .slice wa v.wt.length wc, .int .i64 v.calls, .int .i64 v.left, .bool v.off].setIfInBounds 1 u) 234 w') (wf : v'.Wf sz) (h1 : v'.stay = v.stay) (h2 : v'.calls = v.calls) (h3 : v'.left = v.left) (h4 : v'.off = v.off) :
    ∃ wa2 wc2 Mw2, DevL w' d v' sz sa sc wa2 wc2 Ms Mw2 ∧ Ext (d :: Mw) w w' ∧ ∀ g ∈ Mw2, g ∈ Mw ∨ w.heap.size ≤ g := by
  obtain ⟨a1, a2, a3⟩ := D.apart
  obtain ⟨wa2, wc2, Mw2, rfl, o, hM⟩ := h
  obtain ⟨e, hsz, B⟩ := hp
  have hl := D.hd.lt
  refine ⟨wa2, wc2, Mw2, ⟨by rw [h1, h2, h3, h4]; exact B, wf, D.hN, ?_, o.ext e (fun g hg hm => ?_)⟩, hJ.trans e (fun x hx => .inl (by simp [hx])) (fun x hx => .inl (by rw [List.mem_singleton.1 hx]; simp)), hM⟩
  · rw [h1]
    exact (D.st.ext hJ (fun g hg hm => a3 g hg hm)).ext e (fun g hg hm => a1 (by rw [List.mem_singleton.1 hm] at hg; exact hg))
  · rw [List.mem_singleton.1 hm] at hg
    exact (hM _ hg).elim a2 (by omega)
def wI (d sz : Nat) (v1 : DevV) (i : Nat) (l : List UInt8) (sa : Option Addr) (sc : Nat) (Ms Mw : List Nat) (b3 b4 : Nat) (w0 : World) (k : Nat) (D : List Nat) (W : World) : Prop :=
  ∃ wa wc Mw', D = d :: b4 :: Mw' ∧ DevL W d { v1 with wt := v1.wt ++ secsF i l k } sz sa sc wa wc Ms Mw' ∧ Blk W b3 #[.pointer (some ⟨d, 0, none⟩)] 131 (0, 0) ∧ Blk W b4 #[.int .i64 ((i + k : Nat) : Int)] 3 (0, 0) ∧ (∀ g ∈ Mw', g ∈ Mw ∨ w0.heap.size ≤ g) ∧ b4 ∉ Mw' ∧ Ext (d :: (Ms ++ Mw)) w0 W
theorem wI_keep {d sz : Nat} {v1 : DevV} {i : Nat} {l : List UInt8} {sa : Option Addr} {sc : Nat} {Ms Mw : List Nat} {b3 b4 : Nat} {w0 : World} {k s : Nat} {D M' : List Nat} {W W' : World} (hs : w0.heap.size ≤ s) (hMs : ∀ g ∈ Ms, g < s) (h3 : b3 < s) (h : wI d sz v1 i l sa sc Ms Mw b3 b4 w0 k D W) (he : Ext M' W W') (hm : ∀ g ∈ M', g ∉ D ∧ (g ∈ ([] : List Nat) ∨ s ≤ g)) : wI d sz v1 i l sa sc Ms Mw b3 b4 w0 k D W' := by
  obtain ⟨wa, wc, Mw', rfl, DD, B3, B4, hMw, h4, E⟩ := h
  have hge : ∀ g ∈ M', s ≤ g := fun g hg => (hm g hg).2.elim (fun h => by cases h) id
  refine ⟨wa, wc, Mw', rfl, DD.ext he (fun y hy hmem => ?_), B3.ext he (fun h => by have := hge _ h; omega), B4.ext he (fun h => (hm _ h).1 (by simp)), hMw, h4, E.transN he (fun g hg => .inr (Nat.le_trans hs (hge g hg)))⟩
  rcases List.mem_cons.1 hy with rfl | hy
  · exact (hm _ hmem).1 (by simp)
  rcases List.mem_append.1 hy with hy | hy
  · have := hge _ hmem; have := hMs y hy; omega
  · exact (hm _ hmem).1 (by simp [hy])

theorem dwrite_ok (d : Nat) (v : DevV) (sz : Nat) (S : List Nat) (p : Int) (ba : Option Addr) (bn bc : Nat) (l : List UInt8) (w : World) (hd : DevAt w d v sz S) (hcb : 0 ≤ v.calls ∧ v.calls ≤ 1000000000) (hwb : v.wt.length ≤ 1000000) (hb : Bs w ba bn l) (hbc : bn ≤ bc) (hbn : bn ≤ 1000000) (hbS : ∀ q, effA ba l = some q → q.block ∉ S ∧ q.block < w.heap.size) : Meets Try.prog 145 [.pointer (some ⟨d, 0, none⟩), .int .i64 p, .slice ba bn bc] w (fun r w' => r = .int .i64 (writeV v sz p l).2 ∧ ∃ S', Grown S S' w w' ∧ DevAt w' d (writeV v sz p l).1 sz S') := by
  refine Meets.enter Try.func145 rfl 50 rfl (Nat.le_of_ble_eq_true rfl) ?_
  have E := Ext.refl [] w
  have hd0 := hd
  obtain ⟨sa, sc, wa, wc, Ms, Mw, D, rfl⟩ := hd
  replace E : Ext (d :: (Ms ++ Mw)) w w := Ext.refl _ _
  have hl := hb.len
  have hsN := D.hN
  have hdl : dn l = l.length / 64 := rfl
  have hcs := callV_same v
  have hlt0 := D.lt
  refine G.seq ?_
  refine G.region ?_
  refine L.do rfl rfl (R.box rfl) ?_
  rintro _ w1 ⟨b3, rfl, hb3, hs1, e1, B3⟩
  replace B3 : Blk w1 b3 #[.pointer (some ⟨d, 0, none⟩)] 131 (0, 0) := B3
  replace E := E.trans0 e1
  refine L.do rfl rfl (R.box rfl) ?_
  rintro _ w2 ⟨b4, rfl, hb4, hs2, e2, B4⟩
  replace B4 : Blk w2 b4 #[.int .i64 p] 3 (0, 0) := B4
  replace E := E.trans0 e2
  replace B3 := B3.ext0 e2
  have e12 := e1.trans0 e2
  replace D := D.ext0 e12
  have hd2 := hd0.ext0 e12
  have hb2 := hb.ext0 e12
  refine L.val rfl rfl (R.as rfl) ?_
  refine L.nil ?_
  refine N.seq ?_
  refine G.seq ?_
  refine G.seq ?_
  refine G.region ?_
  refine L.val rfl rfl (R.ldB rfl B3 rfl) ?_
  refine L.callF rfl rfl rfl go199 (dable_ok d v sz _ _ hd2) ?_
  rintro _ _ ⟨rfl, hw⟩
  obtain rfl := hw.symm
  refine L.val rfl rfl (R.as rfl) ?_
  refine L.nil ?_
  refine N.seq ?_
  refine G.seq ?_
  by_cases ho : v.off = true
  · rw [if_pos ho]
    have hf : writeV v sz p l = (v, 10) := if_pos ho
    refine G.region ?_
    refine L.val rfl rfl (R.mv rfl) ?_
    refine L.val rfl rfl (R.neI rfl rfl) ?_
    refine L.nil ?_
    refine N.seq ?_
    refine G.condT rfl ?_
    refine G.seq ?_
    refine G.region ?_
    refine L.val rfl rfl (R.mv rfl) ?_
    refine L.val rfl rfl (R.as rfl) ?_
    refine L.nil ?_
    refine N.seq ?_
    refine G.ret1 rfl rfl ?_
    first
      | (rw [hf]; exact ⟨rfl, _, Grown.of0 _ e12, hd2⟩)
      | (rw [hf]; exact ⟨rfl, _, ⟨E, fun g hg => .inl hg⟩, sa, sc, wa, wc, Ms, Mw, D1, rfl⟩)
      | (rw [hf]; exact ⟨rfl, d :: (Ms ++ Mw1), ⟨E.transN (Ext.putObj _ _ _) (fun g hg => .inr (by rw [List.mem_singleton.1 hg]; omega)), hG⟩, sa, sc, wa1, wc1, Ms, Mw1, D.still hst, rfl⟩)
  · rw [if_neg ho]
    refine G.region ?_
    refine L.val rfl rfl (R.mv rfl) ?_
    refine L.val rfl rfl (R.neI rfl rfl) ?_
    refine L.nil ?_
    refine N.seq ?_
    refine G.condF rfl ?_
    refine G.skip ?_
    refine N.seq ?_
    refine G.seq ?_
    refine G.block ?_
    refine G.seq ?_
    refine G.region ?_
    refine L.val rfl rfl (R.mv rfl) ?_
    refine L.val rfl rfl (R.lenS rfl) ?_
    refine L.val rfl rfl (R.rem rfl rfl (by omega) (by omega)) ?_
    refine L.val rfl rfl (R.neI rfl rfl) ?_
    refine L.val rfl rfl (R.as rfl) ?_
    refine L.nil ?_
    refine N.seq ?_
    refine G.condP rfl (fun h1 => ?_) (fun h1 => ?_)
    · have hf : writeV v sz p l = (v, 2) := by unfold writeV; rw [if_neg ho, if_pos (by omega)]
      refine G.seq ?_
      refine G.region ?_
      refine L.val rfl rfl (R.as rfl) ?_
      refine L.nil ?_
      refine N.seq ?_
      refine G.ret1 rfl rfl ?_
      first
        | (rw [hf]; exact ⟨rfl, _, Grown.of0 _ e12, hd2⟩)
        | (rw [hf]; exact ⟨rfl, _, ⟨E, fun g hg => .inl hg⟩, sa, sc, wa, wc, Ms, Mw, D1, rfl⟩)
        | (rw [hf]; exact ⟨rfl, d :: (Ms ++ Mw1), ⟨E.transN (Ext.putObj _ _ _) (fun g hg => .inr (by rw [List.mem_singleton.1 hg]; omega)), hG⟩, sa, sc, wa1, wc1, Ms, Mw1, D.still hst, rfl⟩)
    · have hm : l.length = 64 * dn l := by omega
      refine G.seq ?_
      refine G.region ?_
      refine L.val rfl rfl (R.ldB rfl B3 rfl) ?_
      refine L.val rfl rfl (R.ldB rfl B4 rfl) ?_
      refine L.val rfl rfl (R.mv rfl) ?_
      refine L.val rfl rfl (R.lenS rfl) ?_
      refine L.val rfl rfl (R.quo rfl rfl (by omega) (by omega)) ?_
      refine L.be 24 rfl (show _ = Value.int .i64 (dn l : Int) by congr 1; omega) ?_
      refine L.callF rfl rfl rfl go200 (dthere_ok d v sz _ p (dn l : Int) _ hd2) ?_
      rintro _ _ ⟨rfl, hw⟩
      obtain rfl := hw.symm
      refine L.val rfl rfl (R.not rfl) ?_
      refine L.be 26 rfl (show _ = Value.bool (decide (¬ thereP sz p (dn l))) by simp) ?_
      refine L.val rfl rfl (R.as rfl) ?_
      refine L.nil ?_
      refine N.seq ?_
      refine G.condP rfl (fun h2 => ?_) (fun h2 => ?_)
      · have hf : writeV v sz p l = (v, 11) := by unfold writeV; rw [if_neg ho, if_neg (by omega), if_pos h2]
        refine G.seq ?_
        refine G.region ?_
        refine L.val rfl rfl (R.as rfl) ?_
        refine L.nil ?_
        refine N.seq ?_
        refine G.ret1 rfl rfl ?_
        first
          | (rw [hf]; exact ⟨rfl, _, Grown.of0 _ e12, hd2⟩)
          | (rw [hf]; exact ⟨rfl, _, ⟨E, fun g hg => .inl hg⟩, sa, sc, wa, wc, Ms, Mw, D1, rfl⟩)
          | (rw [hf]; exact ⟨rfl, d :: (Ms ++ Mw1), ⟨E.transN (Ext.putObj _ _ _) (fun g hg => .inr (by rw [List.mem_singleton.1 hg]; omega)), hG⟩, sa, sc, wa1, wc1, Ms, Mw1, D.still hst, rfl⟩)
      · have ht : thereP sz p (dn l) := Classical.not_not.1 h2
        have ht2 := ht
        unfold thereP at ht2
        obtain ⟨i, rfl⟩ := Int.eq_ofNat_of_zero_le ht2.1
        have hin : i + dn l ≤ sz := by omega
        refine G.seq ?_
        refine G.region ?_
        refine L.val rfl rfl (R.ldB rfl B3 rfl) ?_
        refine L.callF rfl rfl rfl go201 (dcallL_ok d v sz sa sc wa wc Ms Mw _ D hcb) ?_
        rintro _ w3 ⟨rfl, e3, D1⟩
        obtain ⟨v1, hv1⟩ : ∃ v1, v1 = (callV v).1 := ⟨_, rfl⟩
        rw [← hv1] at D1 hcs
        have hdlt := hlt0 d (by simp)
        replace E := E.transN e3 (fun g hg => .inl (by rw [List.mem_singleton.1 hg]; simp))
        replace B3 := B3.ext e3 (by simp; omega)
        replace B4 := B4.ext e3 (by simp; omega)
        have hb3 := hb2.extE e3 (fun q hq hm => (hbS q hq).1 (by rw [List.mem_singleton.1 hm]; simp))
        have hv1w : v1.wt.length ≤ 1000000 := by rw [hcs.2]; exact hwb
        refine L.val rfl rfl (R.not rfl) ?_
        refine L.val rfl rfl (R.as rfl) ?_
        refine L.nil ?_
        refine N.seq ?_
        refine G.condB rfl (fun h3 => ?_) (fun h3 => ?_)
        · have hcf : (callV v).2 = false := by simpa using h3
          have hf : writeV v sz (i : Int) l = (v1, 10) := by unfold writeV; rw [if_neg ho, if_neg (by omega), if_neg (by simpa using ht), if_neg (by simp [hcf]), hv1]
          refine G.seq ?_
          refine G.region ?_
          refine L.val rfl rfl (R.as rfl) ?_
          refine L.nil ?_
          refine N.seq ?_
          refine G.ret1 rfl rfl ?_
          first
            | (rw [hf]; exact ⟨rfl, _, Grown.of0 _ e12, hd2⟩)
            | (rw [hf]; exact ⟨rfl, _, ⟨E, fun g hg => .inl hg⟩, sa, sc, wa, wc, Ms, Mw, D1, rfl⟩)
            | (rw [hf]; exact ⟨rfl, d :: (Ms ++ Mw1), ⟨E.transN (Ext.putObj _ _ _) (fun g hg => .inr (by rw [List.mem_singleton.1 hg]; omega)), hG⟩, sa, sc, wa1, wc1, Ms, Mw1, D.still hst, rfl⟩)
        · have hcf : (callV v).2 = true := by simpa using h3
          have hf : writeV v sz (i : Int) l = ({ v1 with wt := v1.wt ++ secsF i l (dn l) }, 0) := by unfold writeV; rw [if_neg ho, if_neg (by omega), if_neg (by simpa using ht), if_pos hcf, hv1]; rfl
          refine G.skip ?_
          refine N.block ?_
          refine N.seq ?_
          refine G.seq ?_
          refine G.seq ?_
          refine G.region ?_
          refine L.val rfl rfl (R.mv rfl) ?_
          refine L.callF rfl rfl rfl go202 (chunk_ok ba bn bc _) ?_
          rintro _ w4 ⟨c2, c3, rfl, e4, C2, C3, hc2, hc3⟩
          replace E := E.trans0 e4
          have hE3 := e3.size
          have hE4 := e4.size
          replace D1 := D1.ext0 e4
          replace B3 := B3.ext0 e4
          replace B4 := B4.ext0 e4
          replace hb3 := hb3.ext0 e4
          have hE4w := E.size
          have l3 := B3.lt
          have l4 := B4.lt
          have lC2 := C2.lt
          have lC3 := C3.lt
          have hwD := D1.wt.typ
          refine L.nil ?_
          refine N.seq ?_
          refine G.block ?_
          have hD0 : ∀ y ∈ d :: b4 :: Mw, y < w4.heap.size ∧ y ∉ chF (effA ba l) c2 c3 ∧ y ∉ ([] : List Nat) := by
            intro y hy
            have hyc : y = b4 ∨ y ∈ (d :: (Ms ++ Mw)) := by
              simp only [List.mem_cons] at hy ⊢
              rcases hy with h | h | h
              · exact .inr (.inl h)
              · exact .inl h
              · exact .inr (.inr (List.mem_append.2 (.inr h)))
            rcases hyc with rfl | hyS
            · refine ⟨l4, fun h => ?_, by simp⟩
              rcases chF_mem h with h | h | ⟨q, hq, h⟩
              · omega
              · omega
              · have := (hbS q hq).2; omega
            · have hylt := hlt0 y hyS
              refine ⟨by omega, fun h => ?_, by simp⟩
              rcases chF_mem h with h | h | ⟨q, hq, h⟩
              · omega
              · omega
              · exact (hbS q hq).1 (h ▸ hyS)
          have hF0 : ∀ y, y ∈ chF (effA ba l) c2 c3 ∨ y ∈ ([] : List Nat) → y < w4.heap.size := by
            rintro y (h | h)
            · rcases chF_mem h with h | h | ⟨q, hq, h⟩
              · omega
              · omega
              · have := (hbS q hq).2; omega
            · cases h
          have hn4 : b4 ∉ Mw := fun h => by have := hlt0 b4 (by simp [h]); omega
          have hI0 : wI d sz v1 i l sa sc Ms Mw b3 b4 w 0 (d :: b4 :: Mw) w4 := ⟨wa, wc, Mw, rfl, by simpa [secsF] using D1, B3, B4, fun g hg => .inl hg, hn4, E⟩
          have hMsl : ∀ g ∈ Ms, g < w4.heap.size := fun g hg => by have := hlt0 g (by simp [hg]); omega
          refine G.range (lb := [.pointer (some ⟨c2, 0, none⟩), .pointer (some ⟨c3, 0, none⟩)]) rfl rfl go231 (chunk_iter c2 c3 ba bn bc l _ C2 C3 hb3 hbc hbn hm) (fun _ _ _ h _ => h) (d :: b4 :: Mw) hD0 hF0 (wI d sz v1 i l sa sc Ms Mw b3 b4 w) (fun _ _ _ _ => False) (fun k D W1 W2 M2 h he hm => wI_keep hE4w hMsl l3 h he hm) (fun _ _ _ _ _ _ h _ _ => h) hI0 ?_ ?_ ?_
          · rintro q k D vs W1 hl2 hlt hlD hDl hk hIk ⟨a, c, rfl, hac, hbk⟩
            refine ⟨rfl, ?_⟩
            refine G.sub [(33, .slice a 64 c), (3, .pointer (some ⟨b3, 0, none⟩)), (4, .pointer (some ⟨b4, 0, none⟩))] (Sub.cons rfl (Sub.cons rfl (Sub.cons rfl (Sub.nil _)))) ?_
            refine G.region ?_
            refine L.val rfl rfl (R.as rfl) ?_
            refine L.nil ?_
            refine N.round (Ext.refl _ _) (fun wb hb1 hb2 => ?_)
            obtain ⟨wa1, wc1, Mw1, rfl, D, B3, B4, hMw1, hn41, E⟩ := hIk
            replace hbk := hbk.still hb2
            replace B3 := B3.still hb2
            replace B4 := B4.still hb2
            replace D := D.still hb2
            replace E := E.transN hb1 (fun g hg => .inr (by rw [List.mem_singleton.1 hg]; omega))
            have hb64 := blk_length hk
            obtain ⟨pa, hpa⟩ : ∃ pa, a = some pa := by
              cases a with
              | none => have := hbk.none.2; cases this
              | some pa => exact ⟨pa, rfl⟩
            subst hpa
            have hx65 : (waitC ((i + k, blk l k) : Nat × List UInt8)).length = 65 := waitC_length hb64
            have hEb := E.size
            have l3b := B3.lt
            have l4b := B4.lt
            have hap := D.apart
            have hdb := D.hd.lt
            have h3d : b3 ≠ d := by omega
            have h4d : b4 ≠ d := by omega
            have hwln : (v1.wt ++ secsF i l k).length = v1.wt.length + k := by rw [List.length_append, secsF_length]
            have hwf2 : ({ v1 with wt := v1.wt ++ secsF i l (k + 1) } : DevV).Wf sz := secs_wf (hv1 ▸ callV_wf hd0.wf.1) hin hk
            have hn3 : b3 ∉ Mw1 := fun h => by obtain ⟨_, hq⟩ := D.wt.typ b3 h; exact B3.ne hq (by decide) rfl
            refine G.block ?_
            refine G.seq ?_
            have hI : ∀ kq w', stage [Ext [] wb, Ext Mw1 wb, fun w' => ∃ wa2 wc2 Mw2, DevL w' d { v1 with wt := v1.wt ++ secsF i l (k + 1) } sz sa sc wa2 wc2 Ms Mw2 ∧ Ext (d :: Mw1) wb w' ∧ ∀ g ∈ Mw2, g ∈ Mw1 ∨ wb.heap.size ≤ g] kq w' → (Ext (d :: Mw1) wb) w' := fun kq w' hs => stage_all (I := Ext (d :: Mw1) wb) (by
              intro Ψ hΨ w' hJ
              simp only [List.mem_cons, List.not_mem_nil, or_false] at hΨ
              rcases hΨ with rfl | rfl | rfl
              · exact hJ.mono (by simp)
              · exact hJ.mono (fun g hg => .inl (List.mem_cons_of_mem _ hg))
              · exact hJ.elim fun _ h => h.elim fun _ h => h.elim fun _ h => h.2.1) hs
            refine G.staged [11, 14] [.blocks (Mw1), .blocks ([d])] [Ext [] wb, Ext Mw1 wb, fun w' => ∃ wa2 wc2 Mw2, DevL w' d { v1 with wt := v1.wt ++ secsF i l (k + 1) } sz sa sc wa2 wc2 Ms Mw2 ∧ Ext (d :: Mw1) wb w' ∧ ∀ g ∈ Mw2, g ∈ Mw1 ∨ wb.heap.size ≤ g] [(11, 44), (14, 44), (14, 45)] (by decide +kernel) (by decide +kernel) rfl rfl rfl (fun _ h => h) ?_
            refine Z.readI (I := Ext (d :: Mw1) wb) hI rfl rfl rfl rfl rfl (fun w5 hJ => R.ldB rfl (B3.ext hJ (by simp [h3d, hn3])) rfl) ?_
            refine Z.readI (I := Ext (d :: Mw1) wb) hI rfl rfl rfl rfl rfl (fun w5 hJ => R.ldB rfl (B3.ext hJ (by simp [h3d, hn3])) rfl) ?_
            refine Z.val rfl rfl rfl rfl rfl (fun w5 => R.nilChk rfl) ?_
            refine Z.val rfl rfl rfl rfl rfl (fun w5 => R.fld rfl) ?_
            refine Z.read 0 (by decide +kernel) rfl rfl rfl rfl rfl rfl (fun w5 hJ => R.ldB rfl (D.hd.ext0 hJ) rfl) ?_
            refine Z.read 0 (by decide +kernel) rfl rfl rfl rfl rfl rfl (fun w5 hJ => R.ldB rfl (B4.ext0 hJ) rfl) ?_
            refine Z.val rfl rfl rfl rfl rfl (fun w5 => R.mv rfl) ?_
            refine Z.val rfl rfl rfl rfl rfl (fun w5 => R.s2ap rfl (by decide)) ?_
            refine Z.read 0 (by decide +kernel) rfl rfl rfl rfl rfl rfl (fun w5 hJ => R.ldN rfl (hbk.ext0 hJ).cells (by rw [vbs_length, hb64])) ?_
            refine Z.val rfl rfl rfl rfl rfl (fun w5 => R.build (cs := (waitC ((i + k, blk l k) : Nat × List UInt8)).toArray) rfl (fill_two rfl rfl rfl (by rw [List.size_toArray, vbs_length, hb64]) rfl)) ?_
            refine Z.new (A := IsT1 ((i + k, blk l k) : Nat × List UInt8)) (Lasts.kill (IsT1.keep _) (by decide +kernel)) 0 (by decide +kernel) rfl rfl rfl rfl rfl (fun w5 hJ => (R.buildA rfl rfl rfl rfl (by show (Nat.beq (waitC ((i + k, blk l k) : Nat × List UInt8)).toArray.size 65 && true) = true; rw [List.size_toArray, hx65]; rfl)).mono (fun v w1 h => by obtain ⟨g, rfl, _, _, e9, B9⟩ := h; exact ⟨⟨g, rfl, Cells.of_blk B9 0 _ (fun j u hj => by simpa [cellsOf, Value.cells] using hj)⟩, e9, hJ.trans0 e9⟩)) ?_
            refine Z.put (A := Held Mw1 wb.heap.size 238 65 (v1.wt ++ secsF i l (k + 1)).length (waitsC (v1.wt ++ secsF i l (k + 1)))) (Lasts.kill (Held.keep _ _ _ _ _ _) (by decide +kernel)) 0 (by decide +kernel) rfl rfl rfl rfl rfl rfl rfl (fun w5 hJ => by rintro v ⟨g, rfl, hc⟩; exact (R.app rfl rfl (D.wt.ext0 hJ) hc hx65 (waitC_one _) (by show (v1.wt ++ secsF i l k).length + 1 ≤ _; rw [hwln]; simp [maxLen]; omega) (by show ((v1.wt ++ secsF i l k).length + 1) * _ ≤ _; rw [hwln]; omega)).mono (fun _ _ h => Held.app h hJ (by show (v1.wt ++ secsF i l k).length + 1 = _; rw [List.length_append, List.length_append, secsF_length, secsF_length]; omega) (by rw [secsF_succ, ← List.append_assoc, waitsC_append (v1.wt ++ secsF i l k)]; simp [waitsC]))) ?_
            refine Z.val rfl rfl rfl rfl rfl (fun w5 => R.nilChk rfl) ?_
            refine Z.val rfl rfl rfl rfl rfl (fun w5 => R.fld rfl) ?_
            refine Z.set 1 (by decide +kernel) rfl rfl rfl rfl rfl rfl (fun w5 hJ => fun v hv => (R.st rfl rfl (D.hd.ext hJ hap.2.1) (by show 1 < 5; decide) (by obtain ⟨_, _, _, rfl, _⟩ := hv; rfl)).mono (fun _ h => ⟨h.1, by exact D.push hv hJ h hwf2 rfl rfl rfl rfl⟩)) ?_
            refine Z.nil rfl rfl (fun w5 hJ => ?_)
            obtain ⟨wa2, wc2, Mw2, D2, e12b, hMw2⟩ := hJ
            have X : Ext (d :: b4 :: Mw1) wb _ := e12b.mono (fun g hg => .inl (by simp at hg ⊢; rcases hg with h | h <;> simp [h]))
            replace B3 := B3.ext e12b (by simp [h3d, hn3])
            replace B4 := B4.ext e12b (by simp [h4d, hn41])
            replace E := E.transN e12b (fun g hg => (List.mem_cons.1 hg).elim (fun h => .inl (by simp [h])) (fun h => (hMw1 g h).imp (fun h => by simp [h]) id))
            have hn42 : b4 ∉ Mw2 := fun h => by obtain ⟨_, hq⟩ := D2.wt.typ b4 h; exact B4.ne hq (by decide) rfl
            have hs12 := e12b.size
            refine N.seq ?_
            refine G.region ?_
            refine L.val rfl rfl (R.ldB rfl B4 rfl) ?_
            refine L.val rfl rfl (R.add rfl rfl (by omega)) ?_
            refine L.set rfl (R.st rfl rfl B4 (by show 0 < 1; decide) rfl) ?_
            rintro w9 ⟨e9, hs9, B4n⟩
            replace B4 : Blk w9 b4 #[.int .i64 ((i + (k + 1) : Nat) : Int)] 3 (0, 0) := B4n
            replace B3 := B3.ext e9 (by simp; omega)
            have hb4n : ∀ y ∈ d :: (Ms ++ Mw2), y ∉ [b4] := by
              intro y hy hm
              rw [List.mem_singleton.1 hm] at hy
              exact (List.mem_cons.1 hy).elim h4d (fun h => (List.mem_append.1 h).elim (fun h => by have := hlt0 b4 (by simp [h]); omega) hn42)
            replace D2 := D2.ext e9 hb4n
            replace E := E.transN e9 (fun g hg => .inr (by rw [List.mem_singleton.1 hg]; omega))
            replace X := X.transN e9 (fun g hg => .inl (by rw [List.mem_singleton.1 hg]; simp))
            have hlt2 := D2.lt
            have hD2 : ∀ g ∈ d :: b4 :: Mw2, g < w9.heap.size ∧ (g ∈ d :: b4 :: Mw1 ∨ wb.heap.size ≤ g) := by
              intro g hg
              simp only [List.mem_cons] at hg
              rcases hg with rfl | rfl | hg
              · exact ⟨hlt2 _ (by simp), .inl (by simp)⟩
              · exact ⟨B4.lt, .inl (by simp)⟩
              · exact ⟨hlt2 _ (by simp [hg]), (hMw2 g hg).imp (fun h => by simp [h]) id⟩
            refine L.nil ?_
            refine N.block ?_
            refine N.done fun _ _ => ?_
            exact ⟨d :: b4 :: Mw2, X, hD2, wa2, wc2, Mw2, rfl, D2, B3, B4, fun g hg => (hMw2 g hg).elim (hMw1 g) (fun h => .inr (by omega)), hn42, E⟩
          · rintro d2 DD W2 hd2 hdD hK ⟨wa1, wc1, Mw1, rfl, D, B3, B4, hMw1, hn41, E⟩ _
            have hst := Still.putObj (.deferred none) hK rfl
            have hG : ∀ g ∈ d :: (Ms ++ Mw1), g ∈ (d :: (Ms ++ Mw)) ∨ w.heap.size ≤ g := fun g hg => (List.mem_cons.1 hg).elim (fun h => .inl (by simp [h])) (fun h => (List.mem_append.1 h).elim (fun h => .inl (by simp [h])) (fun h => (hMw1 g h).imp (fun h => by simp [h]) id))
            refine N.block ?_
            refine N.seq ?_
            refine G.seq ?_
            refine G.region ?_
            refine L.val rfl rfl (R.as rfl) ?_
            refine L.nil ?_
            refine N.seq ?_
            refine G.ret1M rfl rfl (leave1 hK) ?_
            first
              | (rw [hf]; exact ⟨rfl, _, Grown.of0 _ e12, hd2⟩)
              | (rw [hf]; exact ⟨rfl, _, ⟨E, fun g hg => .inl hg⟩, sa, sc, wa, wc, Ms, Mw, D1, rfl⟩)
              | (rw [hf]; exact ⟨rfl, d :: (Ms ++ Mw1), ⟨E.transN (Ext.putObj _ _ _) (fun g hg => .inr (by rw [List.mem_singleton.1 hg]; omega)), hG⟩, sa, sc, wa1, wc1, Ms, Mw1, D.still hst, rfl⟩)
          · rintro _ _ _ _ _ _ _ _ _ h _
            exact h.elim

theorem dwrite_nil (x : Int) (y : Value) (w : World) : Meets Try.prog 145 [.pointer none, .int .i64 x, y] w (fun r w' => r = .int .i64 1 ∧ Ext [] w w') := by
  refine Meets.enter Try.func145 rfl 50 rfl (Nat.le_of_ble_eq_true rfl) ?_
  have E := Ext.refl [] w
  refine G.seq ?_
  refine G.region ?_
  refine L.do rfl rfl (R.box rfl) ?_
  rintro _ w1 ⟨b3, rfl, hb3, hs1, e1, B3⟩
  replace E := E.trans0 e1
  refine L.do rfl rfl (R.box rfl) ?_
  rintro _ w2 ⟨b4, rfl, hb4, hs2, e2, B4⟩
  replace E := E.trans0 e2
  replace B3 := B3.ext0 e2
  refine L.val rfl rfl (R.as rfl) ?_
  refine L.nil ?_
  refine N.seq ?_
  refine G.seq ?_
  refine G.seq ?_
  refine G.region ?_
  refine L.val rfl rfl (R.ldB rfl B3 rfl) ?_
  refine L.callF rfl rfl rfl go199 (dable_nil _) ?_
  rintro _ _ ⟨rfl, hw⟩
  obtain rfl := hw.symm
  refine L.val rfl rfl (R.as rfl) ?_
  refine L.nil ?_
  refine N.seq ?_
  refine G.seq ?_
  refine G.region ?_
  refine L.val rfl rfl (R.mv rfl) ?_
  refine L.val rfl rfl (R.neI rfl rfl) ?_
  refine L.nil ?_
  refine N.seq ?_
  refine G.condT rfl ?_
  refine G.seq ?_
  refine G.region ?_
  refine L.val rfl rfl (R.mv rfl) ?_
  refine L.val rfl rfl (R.as rfl) ?_
  refine L.nil ?_
  refine N.seq ?_
  refine G.ret1 rfl rfl ?_
  exact ⟨rfl, E⟩

end Go.Proofs.Ythpolibakkmmeaa
/-
  The walks of package dev.
-/
set_option linter.unusedVariables false
set_option linter.unusedSimpArgs false
namespace Go.Proofs.Ythpolibakkmmeaa
open Go Brv Brv.Image Brv.Dev
theorem dread_ok (d : Nat) (v : DevV) (sz : Nat) (S : List Nat) (p n : Int) (w : World) (hd : DevAt w d v sz S) (hwb : v.wt.length ≤ 1000000) : Meets Try.prog 147 [.pointer (some ⟨d, 0, none⟩), .int .i64 p, .int .i64 n] w (fun r w' => ∃ a c M, r = .tuple #[.slice a (readV v sz p n).1.length c, .int .i64 (readV v sz p n).2] ∧ Ext [] w w' ∧ Own w' 5 1 a (readV v sz p n).1.length c (vbs (readV v sz p n).1) M ∧ ∀ g ∈ M, w.heap.size ≤ g) := by
  refine Meets.enter Try.func147 rfl 67 rfl (Nat.le_of_ble_eq_true rfl) ?_
  have E := Ext.refl [] w
  have hd0 := hd
  obtain ⟨sa, sc, wa, wc, Ms, Mw, D, rfl⟩ := hd
  have hl := D.wf.len
  have hsN := D.hN
  refine G.seq ?_
  refine G.region ?_
  refine L.val rfl rfl (R.as rfl) ?_
  refine L.val rfl rfl (R.as rfl) ?_
  refine L.nil ?_
  refine N.seq ?_
  refine G.seq ?_
  refine G.seq ?_
  refine G.region ?_
  refine L.val rfl rfl (R.mv rfl) ?_
  refine L.callF rfl rfl rfl go199 (dable_ok d v sz _ _ hd0) ?_
  rintro _ _ ⟨rfl, hw⟩
  obtain rfl := hw.symm
  refine L.val rfl rfl (R.as rfl) ?_
  refine L.nil ?_
  refine N.seq ?_
  refine G.seq ?_
  by_cases ho : v.off = true
  · rw [if_pos ho]
    have hf : readV v sz p n = ([], 10) := if_pos ho
    refine G.region ?_
    refine L.val rfl rfl (R.mv rfl) ?_
    refine L.val rfl rfl (R.neI rfl rfl) ?_
    refine L.nil ?_
    refine N.seq ?_
    refine G.condT rfl ?_
    refine G.seq ?_
    refine G.region ?_
    refine L.val rfl rfl (R.mv rfl) ?_
    refine L.val rfl rfl (R.as rfl) ?_
    refine L.val rfl rfl (R.as rfl) ?_
    refine L.nil ?_
    refine N.seq ?_
    refine G.ret2 rfl rfl rfl ?_
    first
      | (rw [hf]; exact ⟨none, 0, [], rfl, E, Own.nil _ _ _, by simp⟩)
      | (rw [hf]; dsimp only; rw [hwl]; exact ⟨a9, c9, M9, rfl, E, o9, hM9⟩)
  · rw [if_neg ho]
    refine G.region ?_
    refine L.val rfl rfl (R.mv rfl) ?_
    refine L.val rfl rfl (R.neI rfl rfl) ?_
    refine L.nil ?_
    refine N.seq ?_
    refine G.condF rfl ?_
    refine G.skip ?_
    refine N.seq ?_
    refine G.seq ?_
    refine G.seq ?_
    refine G.region ?_
    refine L.val rfl rfl (R.mv rfl) ?_
    refine L.val rfl rfl (R.mv rfl) ?_
    refine L.val rfl rfl (R.mv rfl) ?_
    refine L.callF rfl rfl rfl go200 (dthere_ok d v sz _ p n _ hd0) ?_
    rintro _ _ ⟨rfl, hw⟩
    obtain rfl := hw.symm
    refine L.val rfl rfl (R.not rfl) ?_
    refine L.be 21 rfl (show _ = Value.bool (decide (¬ thereP sz p n)) by simp) ?_
    refine L.nil ?_
    refine N.seq ?_
    refine G.condP rfl (fun h1 => ?_) (fun h1 => ?_)
    · have hf : readV v sz p n = ([], 11) := by unfold readV; rw [if_neg ho, if_neg h1]
      refine G.seq ?_
      refine G.region ?_
      refine L.val rfl rfl (R.as rfl) ?_
      refine L.val rfl rfl (R.as rfl) ?_
      refine L.nil ?_
      refine N.seq ?_
      refine G.ret2 rfl rfl rfl ?_
      first
        | (rw [hf]; exact ⟨none, 0, [], rfl, E, Own.nil _ _ _, by simp⟩)
        | (rw [hf]; dsimp only; rw [hwl]; exact ⟨a9, c9, M9, rfl, E, o9, hM9⟩)
    · have ht : thereP sz p n := Classical.not_not.1 h1
      have ht2 := ht
      unfold thereP at ht2
      obtain ⟨i, rfl⟩ := Int.eq_ofNat_of_zero_le ht2.1
      obtain ⟨m, rfl⟩ := Int.eq_ofNat_of_zero_le ht2.2.1
      have him : i + m ≤ sz := by omega
      have hf : readV v sz (i : Int) (m : Int) = (win (laidAll v.stay v.wt) i m, 0) := by unfold readV; rw [if_neg ho, if_pos ht]; rfl
      have hbs : Bs w (subA sa (64 * i) sc 1) (64 * m) (win v.stay i m) := (Bs.of_own D.st).sub (64 * i) sc (64 * m) (by omega) (by have := D.st.le; omega)
      refine G.skip ?_
      refine N.seq ?_
      refine G.seq ?_
      refine G.region ?_
      refine L.val rfl rfl (R.mv rfl) ?_
      refine L.val rfl rfl (R.nilChk rfl) ?_
      refine L.val rfl rfl (R.fld rfl) ?_
      refine L.val rfl rfl (R.ldB rfl D.hd rfl) ?_
      refine L.val rfl rfl (R.mv rfl) ?_
      refine L.val rfl rfl (R.mul rfl rfl (by omega)) ?_
      refine L.val rfl rfl (R.mv rfl) ?_
      refine L.val rfl rfl (R.mv rfl) ?_
      refine L.val rfl rfl (R.add rfl rfl (by omega)) ?_
      refine L.val rfl rfl (R.mul rfl rfl (by omega)) ?_
      refine L.val rfl rfl (R.slLH rfl rfl rfl (by omega) (by omega) (by have := D.st.le; omega)) ?_
      refine L.be 32 rfl (show _ = Value.slice (subA sa (64 * i) sc 1) (64 * m) (sc - 64 * i) by rw [show ((i : Int) * 64).toNat = 64 * i by omega, show (((i : Int) + (m : Int)) * 64).toNat - 64 * i = 64 * m by omega]) ?_
      refine L.callF rfl rfl rfl go143 (clone_ok _ _ _ _ _ hbs (by omega)) ?_
      rintro _ w1 ⟨a9, c9, M9, rfl, e1, o9, hM9⟩
      replace E := E.trans0 e1
      refine L.val rfl rfl (R.as rfl) ?_
      refine L.nil ?_
      refine N.seq ?_
      refine G.seq ?_
      refine G.seq ?_
      refine G.region ?_
      refine L.val rfl rfl (R.mv rfl) ?_
      refine L.val rfl rfl (R.nilChk rfl) ?_
      refine L.val rfl rfl (R.fld rfl) ?_
      refine L.val rfl rfl (R.ldB rfl (D.hd.ext0 E) rfl) ?_
      refine L.val rfl rfl (R.lenS rfl) ?_
      refine L.val rfl rfl (R.mv rfl) ?_
      refine L.nil ?_
      refine N.seq ?_
      refine G.block ?_
      refine G.loop (X := Nat) (fun k => [(0, .pointer (some ⟨d, 0, none⟩)), (1, .int .i64 (i : Int)), (2, .int .i64 (m : Int)), (9, .slice a9 (64 * m) c9), (37, .slice wa v.wt.length wc), (38, .int .i64 (v.wt.length : Int)), (39, .int .i64 (k : Int))]) (fun k w' => k ≤ v.wt.length ∧ Ext [] w w' ∧ Own w' 5 1 a9 (64 * m) c9 (vbs ((v.wt.take k).foldl (rd1 i m) (win v.stay i m))) M9) (fun k => v.wt.length - k) (0) (Sub.cons rfl (Sub.cons rfl (Sub.cons rfl (Sub.cons rfl (Sub.cons rfl (Sub.cons rfl (Sub.cons rfl (Sub.nil _)))))))) ⟨Nat.zero_le _, E, o9⟩ ?_
      rintro k w2 ⟨hk, E, o9⟩
      have D2 := D.ext0 E
      refine G.seq ?_
      refine G.region ?_
      refine L.val rfl rfl (R.lss rfl rfl) ?_
      refine L.nil ?_
      refine N.seq ?_
      refine G.seq ?_
      refine G.condP rfl (fun h2 => ?_) (fun h2 => ?_)
      · have hk2 : k < v.wt.length := by omega
        obtain ⟨x, hx⟩ : ∃ x, v.wt[k]? = some x := ⟨_, List.getElem?_eq_getElem hk2⟩
        obtain ⟨q9, hq9, hcl, hxs, hx64⟩ := D2.elem (x := x) hx
        have hfo : ((v.wt.take (k + 1)).foldl (rd1 i m) (win v.stay i m)) = rd1 i m ((v.wt.take k).foldl (rd1 i m) (win v.stay i m)) x := by rw [List.take_add_one, hx]; simp [List.foldl_append]
        have hfl : ((v.wt.take k).foldl (rd1 i m) (win v.stay i m)).length = 64 * m := rd_length (win_length hl him) (fun y hy => (D.wf.wt y (List.mem_of_mem_take hy)).2)
        have hvs : (vbs x.2).length = 64 := by rw [vbs_length, hx64]
        refine G.skip ?_
        refine N.seq ?_
        refine G.seq ?_
        refine G.block ?_
        refine G.seq ?_
        refine G.region ?_
        refine L.val rfl rfl (R.idx rfl rfl (by omega) (by omega) q9 hq9) ?_
        refine L.val rfl rfl (R.ldN rfl hcl (waitC_length hx64)) ?_
        refine L.do rfl rfl (R.alloc) ?_
        rintro _ w3 ⟨b11, rfl, hb11, hs3, e3, B11⟩
        refine L.set rfl (R.stN rfl rfl B11 (by rw [List.size_toArray, waitC_length hx64]) (by rw [List.size_toArray, waitC_length hx64]; exact Nat.le_refl 65) (waitC_one x)) ?_
        rintro w4 ⟨e4, hs4, B11⟩
        rw [all_stored (Eq.trans (by rfl : _ = 65) (by rw [List.size_toArray, waitC_length hx64]))] at B11
        have n4 := e3.news2 e4 (by omega)
        replace o9 := o9.ext0 n4
        replace E := E.trans0 n4
        refine L.nil ?_
        refine N.seq ?_
        refine G.seq ?_
        refine G.region ?_
        refine L.val rfl rfl (R.fld rfl) ?_
        refine L.val rfl rfl (R.ldB rfl B11 rfl) ?_
        refine L.be 44 rfl (show _ = Value.int .i64 (x.1 : Int) from rfl) ?_
        refine L.val rfl rfl (R.mv rfl) ?_
        refine L.val rfl rfl (R.geq rfl rfl) ?_
        refine L.val rfl rfl (R.mv rfl) ?_
        refine L.caseP 47 rfl (fun hg10_4 => ?_) (fun hg10_4 => ?_)
        · refine L.val rfl rfl (R.fld rfl) ?_
          refine L.val rfl rfl (R.ldB rfl B11 rfl) ?_
          refine L.be 49 rfl (show _ = Value.int .i64 (x.1 : Int) from rfl) ?_
          refine L.val rfl rfl (R.mv rfl) ?_
          refine L.val rfl rfl (R.mv rfl) ?_
          refine L.val rfl rfl (R.add rfl rfl (by omega)) ?_
          refine L.val rfl rfl (R.lss rfl rfl) ?_
          first | refine L.val rfl rfl (R.pickT rfl rfl) ?_ | refine L.val rfl rfl (R.pickF rfl rfl) ?_
          refine L.nil ?_
          refine N.seq ?_
          refine G.condP rfl (fun h3 => ?_) (fun h3 => ?_)
          · have hin : i ≤ x.1 ∧ x.1 < i + m := by omega
            obtain ⟨g7, cur7, rfl, rfl, B7, hz7, hO7⟩ := o9.over (o := (64 * (x.1 - i))) (cs := vbs x.2) (by rw [hvs]; omega) (by omega)
            have hg7 := hM9 g7 (by simp)
            refine G.staged [9] [.blocks ([g7])] [fun w' => Ext [] w4 w', fun w' => Ext [g7] w4 w' ∧ Blk w' g7 (Over cur7 (64 * (x.1 - i)) (vbs x.2)) 5 (0, 0)] [] (by decide +kernel) (by decide +kernel) rfl rfl rfl (fun _ h => h) ?_
            refine Z.val rfl rfl rfl rfl rfl (fun w5 => R.mv rfl) ?_
            refine Z.val rfl rfl rfl rfl rfl (fun w5 => R.fld rfl) ?_
            refine Z.read 0 (by decide +kernel) rfl rfl rfl rfl rfl rfl (fun w5 hJ => R.ldB rfl (B11.ext0 hJ) rfl) ?_
            refine Z.be 57 rfl (show _ = Value.int .i64 (x.1 : Int) from rfl) ?_
            refine Z.val rfl rfl rfl rfl rfl (fun w5 => R.mv rfl) ?_
            refine Z.val rfl rfl rfl rfl rfl (fun w5 => R.sub' rfl rfl (by omega)) ?_
            refine Z.val rfl rfl rfl rfl rfl (fun w5 => R.mul rfl rfl (by omega)) ?_
            refine Z.val rfl rfl rfl rfl rfl (fun w5 => R.slL rfl rfl (by omega) (by omega)) ?_
            refine Z.be 61 rfl (show _ = Value.slice (some ⟨g7, (64 * (x.1 - i)), none⟩) (64 * m - (64 * (x.1 - i))) (c9 - (64 * (x.1 - i))) by rw [show (((x.1 : Int) - (i : Int)) * 64).toNat = (64 * (x.1 - i)) by omega, subA_lit (by have := o9.le; omega), Nat.zero_add, Nat.mul_one]) ?_
            refine Z.val rfl rfl rfl rfl rfl (fun w5 => R.fld rfl) ?_
            refine Z.val rfl rfl rfl rfl rfl (fun w5 => R.slA rfl) ?_
            refine Z.put (A := fun v _ => v = .int .i64 64) (Lasts.kill (fun _ _ _ _ h => h) (by decide +kernel)) 0 (by decide +kernel) rfl rfl rfl rfl rfl rfl rfl (fun w5 hJ => (R.copyB rfl rfl (B7.ext0 hJ) (Cells.of_blk (B11.ext0 hJ) 1 (vbs x.2) (fun j v hj => by rw [Nat.add_comm]; simpa [waitC] using hj)) (by rw [hvs]; exact (Nat.min_eq_left (by omega)).symm) hz7 (vbs_one _)).mono (fun v w' h => by obtain ⟨rfl, h1, h2, h3⟩ := h; rw [hvs]; exact ⟨rfl, h1, h1.after hJ, h3⟩)) ?_
            refine Z.nil rfl rfl (fun w5 hJ => ?_)
            obtain ⟨e12, B7⟩ := hJ
            rintro _ _
            replace o9 := hO7 _ B7
            have hE4 := E.size
            replace E := E.news2 e12 (by have := e1.size; omega)
            rw [show List.take (64 * (x.1 - i)) (vbs ((v.wt.take k).foldl (rd1 i m) (win v.stay i m))) ++ vbs x.2 ++ List.drop ((64 * (x.1 - i)) + (vbs x.2).length) (vbs ((v.wt.take k).foldl (rd1 i m) (win v.stay i m))) = vbs (laid ((v.wt.take k).foldl (rd1 i m) (win v.stay i m)) (x.1 - i) x.2) by rw [hvs]; simp only [laid, vbs, List.map_append, List.map_take, List.map_drop]] at o9
            refine N.block ?_
            refine N.seq ?_
            refine G.region ?_
            refine L.val rfl rfl (R.add rfl rfl (by omega)) ?_
            refine L.val rfl rfl (R.mv rfl) ?_
            refine L.nil ?_
            first
              | exact N.again (k + 1) (by omega) (Sub.cons rfl (Sub.cons rfl (Sub.cons rfl (Sub.cons rfl (Sub.cons rfl (Sub.cons rfl (Sub.cons rfl (Sub.nil _)))))))) ⟨by omega, E, by rw [hfo, show rd1 i m _ x = laid _ (x.1 - i) x.2 from if_pos hin]; exact o9⟩
              | exact N.again (k + 1) (by omega) (Sub.cons rfl (Sub.cons rfl (Sub.cons rfl (Sub.cons rfl (Sub.cons rfl (Sub.cons rfl (Sub.cons rfl (Sub.nil _)))))))) ⟨by omega, E, by rw [hfo, show rd1 i m _ x = _ from if_neg hin]; exact o9⟩
          · have hin : ¬ (i ≤ x.1 ∧ x.1 < i + m) := by omega
            refine G.skip ?_
            refine N.block ?_
            refine N.seq ?_
            refine G.region ?_
            refine L.val rfl rfl (R.add rfl rfl (by omega)) ?_
            refine L.val rfl rfl (R.mv rfl) ?_
            refine L.nil ?_
            first
              | exact N.again (k + 1) (by omega) (Sub.cons rfl (Sub.cons rfl (Sub.cons rfl (Sub.cons rfl (Sub.cons rfl (Sub.cons rfl (Sub.cons rfl (Sub.nil _)))))))) ⟨by omega, E, by rw [hfo, show rd1 i m _ x = laid _ (x.1 - i) x.2 from if_pos hin]; exact o9⟩
              | exact N.again (k + 1) (by omega) (Sub.cons rfl (Sub.cons rfl (Sub.cons rfl (Sub.cons rfl (Sub.cons rfl (Sub.cons rfl (Sub.cons rfl (Sub.nil _)))))))) ⟨by omega, E, by rw [hfo, show rd1 i m _ x = _ from if_neg hin]; exact o9⟩
        · refine L.pass rfl rfl ?_
          refine L.pass rfl rfl ?_
          refine L.pass rfl rfl ?_
          refine L.pass rfl rfl ?_
          refine L.pass rfl rfl ?_
          refine L.pass rfl rfl ?_
          first | refine L.val rfl rfl (R.pickT rfl rfl) ?_ | refine L.val rfl rfl (R.pickF rfl rfl) ?_
          refine L.nil ?_
          refine N.seq ?_
          refine G.condF rfl ?_
          have hin : ¬ (i ≤ x.1 ∧ x.1 < i + m) := by omega
          refine G.skip ?_
          refine N.block ?_
          refine N.seq ?_
          refine G.region ?_
          refine L.val rfl rfl (R.add rfl rfl (by omega)) ?_
          refine L.val rfl rfl (R.mv rfl) ?_
          refine L.nil ?_
          first
            | exact N.again (k + 1) (by omega) (Sub.cons rfl (Sub.cons rfl (Sub.cons rfl (Sub.cons rfl (Sub.cons rfl (Sub.cons rfl (Sub.cons rfl (Sub.nil _)))))))) ⟨by omega, E, by rw [hfo, show rd1 i m _ x = laid _ (x.1 - i) x.2 from if_pos hin]; exact o9⟩
            | exact N.again (k + 1) (by omega) (Sub.cons rfl (Sub.cons rfl (Sub.cons rfl (Sub.cons rfl (Sub.cons rfl (Sub.cons rfl (Sub.cons rfl (Sub.nil _)))))))) ⟨by omega, E, by rw [hfo, show rd1 i m _ x = _ from if_neg hin]; exact o9⟩
      · obtain rfl : k = v.wt.length := by omega
        rw [List.take_length, rd_fold him hl D.wf.wt] at o9
        have hwl := win_length (laidAll_length (s := []) hl D.wf.wt) him
        refine G.exit _ rfl ?_
        refine N.seq ?_
        refine G.seq ?_
        refine G.region ?_
        refine L.val rfl rfl (R.mv rfl) ?_
        refine L.val rfl rfl (R.as rfl) ?_
        refine L.val rfl rfl (R.as rfl) ?_
        refine L.nil ?_
        refine N.seq ?_
        refine G.ret2 rfl rfl rfl ?_
        first
          | (rw [hf]; exact ⟨none, 0, [], rfl, E, Own.nil _ _ _, by simp⟩)
          | (rw [hf]; dsimp only; rw [hwl]; exact ⟨a9, c9, M9, rfl, E, o9, hM9⟩)

theorem dread_nil (x y : Value) (w : World) : Meets Try.prog 147 [.pointer none, x, y] w (fun r w' => r = .tuple #[.slice none 0 0, .int .i64 1] ∧ w' = w) := by
  refine Meets.enter Try.func147 rfl 67 rfl (Nat.le_of_ble_eq_true rfl) ?_
  refine G.seq ?_
  refine G.region ?_
  refine L.val rfl rfl (R.as rfl) ?_
  refine L.val rfl rfl (R.as rfl) ?_
  refine L.nil ?_
  refine N.seq ?_
  refine G.seq ?_
  refine G.seq ?_
  refine G.region ?_
  refine L.val rfl rfl (R.mv rfl) ?_
  refine L.callF rfl rfl rfl go199 (dable_nil _) ?_
  rintro _ _ ⟨rfl, hw⟩
  obtain rfl := hw.symm
  refine L.val rfl rfl (R.as rfl) ?_
  refine L.nil ?_
  refine N.seq ?_
  refine G.seq ?_
  refine G.region ?_
  refine L.val rfl rfl (R.mv rfl) ?_
  refine L.val rfl rfl (R.neI rfl rfl) ?_
  refine L.nil ?_
  refine N.seq ?_
  refine G.condT rfl ?_
  refine G.seq ?_
  refine G.region ?_
  refine L.val rfl rfl (R.mv rfl) ?_
  refine L.val rfl rfl (R.as rfl) ?_
  refine L.val rfl rfl (R.as rfl) ?_
  refine L.nil ?_
  refine N.seq ?_
  refine G.ret2 rfl rfl rfl ?_
  exact ⟨rfl, rfl⟩

end Go.Proofs.Ythpolibakkmmeaa
/-
  The walks of package control.
-/
set_option linter.unusedVariables false
set_option linter.unusedSimpArgs false
namespace Go.Proofs.Ythpolibakkmmeaa
open Go Brv Brv.Crc Brv.Pack Brv.Frame Brv.Image Brv.Dev Brv.Control
theorem cread_ok (d : Nat) (v : DevV) (sz : Nat) (S : List Nat) (p : Int) (w : World) (hd : DevAt w d v sz S) (hwb : v.wt.length ≤ 1000000) : Meets Try.prog 81 [.pointer (some ⟨d, 0, none⟩), .int .i64 p] w (fun r w' => r = .tuple #[.agg (ctlC (readCV v sz p).1), .int .i64 (readCV v sz p).2] ∧ Ext [] w w') := by
  refine Meets.enter Try.func81 rfl 59 rfl (Nat.le_of_ble_eq_true rfl) ?_
  have E := Ext.refl [] w
  refine G.seq ?_
  refine G.region ?_
  refine L.do rfl rfl (R.alloc) ?_
  rintro _ w1 ⟨b4, rfl, hb4, hs4, e1, B4⟩
  replace B4 : Blk w1 b4 (ctlC zeroC) 121 (0, 0) := B4
  replace E := E.trans0 e1
  refine L.val rfl rfl (R.as rfl) ?_
  refine L.nil ?_
  refine N.seq ?_
  refine G.seq ?_
  refine G.region ?_
  refine L.val rfl rfl (R.mv rfl) ?_
  refine L.val rfl rfl (R.mv rfl) ?_
  refine L.callF rfl rfl rfl go147 (dread_ok d v sz S p 2 _ (hd.ext0 E) hwb) ?_
  rintro _ w2 ⟨a6, c6, M6, rfl, e2, o6, hM6⟩
  replace E := E.trans0 e2
  replace B4 := B4.ext0 e2
  have L6 := Bs.of_own o6
  have h6 := o6.le
  have hw2 := e2.size
  refine L.val rfl rfl (R.mv rfl) ?_
  refine L.val rfl rfl (R.ext rfl rfl) ?_
  refine L.val rfl rfl (R.ext rfl rfl) ?_
  refine L.val rfl rfl (R.as rfl) ?_
  refine L.val rfl rfl (R.as rfl) ?_
  refine L.nil ?_
  refine N.seq ?_
  refine G.seq ?_
  refine G.seq ?_
  refine G.region ?_
  refine L.val rfl rfl (R.mv rfl) ?_
  refine L.val rfl rfl (R.neI rfl rfl) ?_
  refine L.nil ?_
  refine N.seq ?_
  refine G.condP rfl (fun h0 => ?_) (fun h0 => ?_)
  · have hne : (readV v sz p 2).2 ≠ 0 := h0
    refine G.seq ?_
    refine G.region ?_
    refine L.val rfl rfl (R.build (cs := (ctlC zeroC)) rfl rfl) ?_
    refine L.val rfl rfl (R.mv rfl) ?_
    refine L.set rfl (R.stN rfl rfl B4 rfl (Nat.le_refl 7) (ctlC_one _)) ?_
    rintro w20 ⟨e20, hs20, B4x⟩
    replace B4 : Blk w20 b4 (ctlC zeroC) 121 (0, 0) := by rw [all_stored (by rfl)] at B4x; exact B4x
    replace E := E.trans e20 (M := []) (by simp) (by intro x hx; rw [List.mem_singleton.1 hx]; exact .inr (by omega))
    refine L.val rfl rfl (R.as rfl) ?_
    refine L.nil ?_
    refine N.seq ?_
    refine G.retCT rfl rfl rfl (B4) rfl ?_
    first
      | (rw [readCV_err hne]; exact ⟨rfl, E⟩)
      | (rw [readCV_ok he0, ← hq, pickC_eq, if_pos h3]; exact ⟨rfl, E⟩)
      | (rw [readCV_ok he0, ← hq, pickC_eq, if_neg h3]; exact ⟨rfl, E⟩)
  · have he0 : (readV v sz p 2).2 = 0 := Classical.not_not.1 h0
    have hlen := readV_two (p := p) hd.wf.1 he0
    obtain ⟨q, hq⟩ : ∃ q, q = (readV v sz p 2).1 := ⟨_, rfl⟩
    rw [← hq] at hlen L6 h6 ⊢
    rw [hlen] at L6 h6 ⊢
    refine G.skip ?_
    refine N.seq ?_
    refine G.seq ?_
    refine G.region ?_
    refine L.do rfl rfl (R.alloc) ?_
    rintro _ w3 ⟨b8, rfl, hb8, hs8, e3, B8⟩
    replace B8 : Blk w3 b8 (ctlC zeroC) 121 (0, 0) := B8
    have hl4 := B4.lt
    have hE2 := E.size
    replace E := E.trans0 e3
    replace B4 := B4.ext0 e3
    replace L6 := L6.ext0 e3
    have hfa : ∀ p, a6 = some p → p.block < b8 ∧ w.heap.size ≤ p.block := fun p hp => ⟨by have := (o6.mem p hp).2; omega, by have := hM6 _ (o6.mem p hp).1; have := e1.size; omega⟩
    refine L.nil ?_
    refine N.seq ?_
    refine G.seq ?_
    refine G.seq ?_
    refine G.region ?_
    refine L.val rfl rfl (R.mv rfl) ?_
    refine L.nil ?_
    refine N.seq ?_
    refine G.block ?_
    refine G.loop (X := Nat) (fun k => [(4, .pointer (some ⟨b4, 0, none⟩)), (6, .slice a6 128 c6), (8, .pointer (some ⟨b8, 0, none⟩)), (22, .int .i64 (k : Int))]) (fun k w' => k ≤ 2 ∧ Blk w' b8 (ctlC (stepN q k)) 121 (0, 0) ∧ Blk w' b4 (ctlC zeroC) 121 (0, 0) ∧ Bs w' a6 128 q ∧ b8 < w'.heap.size ∧ Ext [] w w') (fun k => 2 - k) (0) (Sub.cons rfl (Sub.cons rfl (Sub.cons rfl (Sub.cons rfl (Sub.nil _))))) ⟨by decide, B8, B4, L6, B8.lt, E⟩ ?_
    rintro k w4 ⟨hk, B8, B4, L6, hl8, E⟩
    have hE4 := E.size
    refine G.seq ?_
    refine G.region ?_
    refine L.val rfl rfl (R.lss rfl rfl) ?_
    refine L.nil ?_
    refine N.seq ?_
    refine G.seq ?_
    refine G.condP rfl (fun h1 => ?_) (fun h1 => ?_)
    · have hk2 : k < 2 := by omega
      have Lk := L6.sub (64 * k) c6 64 (by omega) (by omega)
      rw [show (q.drop (64 * k)).take 64 = blk q k from rfl] at Lk
      refine G.skip ?_
      refine N.seq ?_
      refine G.seq ?_
      refine G.block ?_
      refine G.seq ?_
      refine G.region ?_
      refine L.val rfl rfl (R.mv rfl) ?_
      refine L.val rfl rfl (R.as rfl) ?_
      refine L.nil ?_
      refine N.seq ?_
      refine G.seq ?_
      refine G.region ?_
      refine L.val rfl rfl (R.mv rfl) ?_
      refine L.val rfl rfl (R.mv rfl) ?_
      refine L.val rfl rfl (R.mul rfl rfl (by omega)) ?_
      refine L.val rfl rfl (R.mv rfl) ?_
      refine L.val rfl rfl (R.add rfl rfl (by omega)) ?_
      refine L.val rfl rfl (R.mul rfl rfl (by omega)) ?_
      refine L.val rfl rfl (R.slLH rfl rfl rfl (by omega) (by omega) (by omega)) ?_
      refine L.be 32 rfl (show _ = Value.slice (subA a6 (64 * k) c6 1) 64 (c6 - 64 * k) by rw [show ((k : Int) * 64).toNat = 64 * k by omega, show (((k : Int) + 1) * 64).toNat - 64 * k = 64 by omega]) ?_
      refine L.callF rfl rfl rfl go74 (cget_ok _ 64 _ (blk q k) _ Lk (by omega) (by decide)) ?_
      rintro _ w5 ⟨rfl, e5⟩
      replace E := E.trans0 e5
      replace B4 := B4.ext0 e5
      replace B8 := B8.ext0 e5
      replace L6 := L6.ext0 e5
      have hs5 := e5.size
      refine L.val rfl rfl (R.mv rfl) ?_
      refine L.val rfl rfl (R.ext rfl rfl) ?_
      refine L.val rfl rfl (R.ext rfl rfl) ?_
      refine L.do rfl rfl (R.alloc) ?_
      rintro _ w6 ⟨b10, rfl, hb10, hs10, e6, B10⟩
      replace E := E.trans0 e6
      replace B4 := B4.ext0 e6
      replace B8 := B8.ext0 e6
      replace L6 := L6.ext0 e6
      obtain ⟨g, hg⟩ : ∃ g, g = getC (blk q k) := ⟨_, rfl⟩
      rw [← hg]
      refine L.set rfl (R.stN rfl rfl B10 rfl (Nat.le_refl 7) (ctlC_one _)) ?_
      rintro w7 ⟨e7, hs7, B10x⟩
      replace B4 := B4.ext e7 (by simp; omega)
      replace B8 := B8.ext e7 (by simp; omega)
      replace L6 := L6.ext e7 (by intro p hp hh; have h1 := (hfa p hp).1; rw [List.mem_singleton.1 hh] at h1; omega)
      replace B10 : Blk w7 b10 (ctlC g.1) 121 (0, 0) := by rw [all_stored (by rfl)] at B10x; exact B10x
      replace E := E.trans e7 (M := []) (by simp) (by intro x hx; rw [List.mem_singleton.1 hx]; exact .inr (by omega))
      have hs7 := e7.size
      refine L.val rfl rfl (R.as rfl) ?_
      refine L.nil ?_
      refine N.seq ?_
      refine G.seq ?_
      refine G.region ?_
      refine L.val rfl rfl (R.mv rfl) ?_
      refine L.val rfl rfl (R.eqI rfl rfl) ?_
      refine L.val rfl rfl (R.mv rfl) ?_
      refine L.caseP 38 rfl (fun hg9_2 => ?_) (fun hg9_2 => ?_)
      · refine L.val rfl rfl (R.fld rfl) ?_
        refine L.val rfl rfl (R.ldB rfl B10 rfl) ?_
        refine L.val rfl rfl (R.remW rfl rfl (by decide) _ rfl) ?_
        refine L.val rfl rfl (R.mv rfl) ?_
        refine L.val rfl rfl (R.eqI rfl rfl) ?_
        first | refine L.val rfl rfl (R.pickT rfl rfl) ?_ | refine L.val rfl rfl (R.pickF rfl rfl) ?_
        refine L.val rfl rfl (R.mv rfl) ?_
        refine L.caseP 45 rfl (fun hg9_9 => ?_) (fun hg9_9 => ?_)
        · refine L.val rfl rfl (R.fld rfl) ?_
          refine L.val rfl rfl (R.ldB rfl B10 rfl) ?_
          refine L.val rfl rfl (R.fld rfl) ?_
          refine L.val rfl rfl (R.ldB rfl B8 rfl) ?_
          refine L.val rfl rfl (R.gtr rfl rfl) ?_
          first | refine L.val rfl rfl (R.pickT rfl rfl) ?_ | refine L.val rfl rfl (R.pickF rfl rfl) ?_
          refine L.nil ?_
          refine N.seq ?_
          refine G.condP rfl (fun h2 => ?_) (fun h2 => ?_)
          · have hst : stepN q (k + 1) = g.1 := by rw [hg]; exact stepN_yes (by rw [← hg]; assumption) (by rw [← hg]; assumption) (by rw [← hg]; assumption)
            refine G.region ?_
            refine L.val rfl rfl (R.ldBN rfl B10 rfl) ?_
            refine L.set rfl (R.stN rfl rfl B8 rfl (Nat.le_refl 7) (ctlC_one _)) ?_
            rintro w8 ⟨e8, hs8, B8x⟩
            replace B4 := B4.ext e8 (by simp; omega)
            replace L6 := L6.ext e8 (by intro p hp hh; have h1 := (hfa p hp).1; rw [List.mem_singleton.1 hh] at h1; omega)
            replace B8 : Blk w8 b8 (ctlC g.1) 121 (0, 0) := by rw [all_stored (by rfl)] at B8x; exact B8x
            replace E := E.trans e8 (M := []) (by simp) (by intro x hx; rw [List.mem_singleton.1 hx]; exact .inr (by omega))
            have hs8b := e8.size
            refine L.nil ?_
            refine N.block ?_
            refine N.seq ?_
            refine G.region ?_
            refine L.val rfl rfl (R.add rfl rfl (by omega)) ?_
            refine L.val rfl rfl (R.mv rfl) ?_
            refine L.nil ?_
            exact N.again (k + 1) (by omega) (Sub.cons rfl (Sub.cons rfl (Sub.cons rfl (Sub.cons rfl (Sub.nil _))))) ⟨by omega, by rw [hst]; exact B8, B4, L6, Nat.lt_of_lt_of_le hl8 (by omega), E⟩
          · have hst : stepN q (k + 1) = stepN q k := stepN_no (by rw [← hg]; rintro ⟨n1, n2, n3⟩; first | exact absurd n3 (by assumption) | exact absurd n2 (by assumption) | exact absurd n1 (by assumption))
            refine G.skip ?_
            refine N.block ?_
            refine N.seq ?_
            refine G.region ?_
            refine L.val rfl rfl (R.add rfl rfl (by omega)) ?_
            refine L.val rfl rfl (R.mv rfl) ?_
            refine L.nil ?_
            exact N.again (k + 1) (by omega) (Sub.cons rfl (Sub.cons rfl (Sub.cons rfl (Sub.cons rfl (Sub.nil _))))) ⟨by omega, by rw [hst]; exact B8, B4, L6, Nat.lt_of_lt_of_le hl8 (by omega), E⟩
        · refine L.pass rfl rfl ?_
          refine L.pass rfl rfl ?_
          refine L.pass rfl rfl ?_
          refine L.pass rfl rfl ?_
          refine L.pass rfl rfl ?_
          first | refine L.val rfl rfl (R.pickT rfl rfl) ?_ | refine L.val rfl rfl (R.pickF rfl rfl) ?_
          refine L.nil ?_
          refine N.seq ?_
          refine G.condF rfl ?_
          have hst : stepN q (k + 1) = stepN q k := stepN_no (by rw [← hg]; rintro ⟨n1, n2, n3⟩; first | exact absurd n3 (by assumption) | exact absurd n2 (by assumption) | exact absurd n1 (by assumption))
          refine G.skip ?_
          refine N.block ?_
          refine N.seq ?_
          refine G.region ?_
          refine L.val rfl rfl (R.add rfl rfl (by omega)) ?_
          refine L.val rfl rfl (R.mv rfl) ?_
          refine L.nil ?_
          exact N.again (k + 1) (by omega) (Sub.cons rfl (Sub.cons rfl (Sub.cons rfl (Sub.cons rfl (Sub.nil _))))) ⟨by omega, by rw [hst]; exact B8, B4, L6, Nat.lt_of_lt_of_le hl8 (by omega), E⟩
      · refine L.pass rfl rfl ?_
        refine L.pass rfl rfl ?_
        refine L.pass rfl rfl ?_
        refine L.pass rfl rfl ?_
        refine L.pass rfl rfl ?_
        first | refine L.val rfl rfl (R.pickT rfl rfl) ?_ | refine L.val rfl rfl (R.pickF rfl rfl) ?_
        refine L.val rfl rfl (R.mv rfl) ?_
        refine L.pass rfl rfl ?_
        refine L.pass rfl rfl ?_
        refine L.pass rfl rfl ?_
        refine L.pass rfl rfl ?_
        refine L.pass rfl rfl ?_
        first | refine L.val rfl rfl (R.pickT rfl rfl) ?_ | refine L.val rfl rfl (R.pickF rfl rfl) ?_
        refine L.nil ?_
        refine N.seq ?_
        refine G.condF rfl ?_
        have hst : stepN q (k + 1) = stepN q k := stepN_no (by rw [← hg]; rintro ⟨n1, n2, n3⟩; first | exact absurd n3 (by assumption) | exact absurd n2 (by assumption) | exact absurd n1 (by assumption))
        refine G.skip ?_
        refine N.block ?_
        refine N.seq ?_
        refine G.region ?_
        refine L.val rfl rfl (R.add rfl rfl (by omega)) ?_
        refine L.val rfl rfl (R.mv rfl) ?_
        refine L.nil ?_
        exact N.again (k + 1) (by omega) (Sub.cons rfl (Sub.cons rfl (Sub.cons rfl (Sub.cons rfl (Sub.nil _))))) ⟨by omega, by rw [hst]; exact B8, B4, L6, Nat.lt_of_lt_of_le hl8 (by omega), E⟩
    · obtain rfl : k = 2 := by omega
      refine G.exit _ rfl ?_
      refine N.seq ?_
      refine G.seq ?_
      refine G.seq ?_
      refine G.region ?_
      refine L.val rfl rfl (R.fld rfl) ?_
      refine L.val rfl rfl (R.ldB rfl B8 rfl) ?_
      refine L.val rfl rfl (R.eqI rfl rfl) ?_
      refine L.nil ?_
      refine N.seq ?_
      refine G.condP rfl (fun h3 => ?_) (fun h3 => ?_)
      · refine G.seq ?_
        refine G.region ?_
        refine L.val rfl rfl (R.build (cs := (ctlC zeroC)) rfl rfl) ?_
        refine L.set rfl (R.stN rfl rfl B4 rfl (Nat.le_refl 7) (ctlC_one _)) ?_
        rintro w21 ⟨e21, hs21, B4x⟩
        replace B4 : Blk w21 b4 (ctlC zeroC) 121 (0, 0) := by rw [all_stored (by rfl)] at B4x; exact B4x
        replace E := E.trans e21 (M := []) (by simp) (by intro x hx; rw [List.mem_singleton.1 hx]; exact .inr (by omega))
        refine L.val rfl rfl (R.as rfl) ?_
        refine L.nil ?_
        refine N.seq ?_
        refine G.retCT rfl rfl rfl (B4) rfl ?_
        first
          | (rw [readCV_err hne]; exact ⟨rfl, E⟩)
          | (rw [readCV_ok he0, ← hq, pickC_eq, if_pos h3]; exact ⟨rfl, E⟩)
          | (rw [readCV_ok he0, ← hq, pickC_eq, if_neg h3]; exact ⟨rfl, E⟩)
      · refine G.skip ?_
        refine N.seq ?_
        refine G.seq ?_
        refine G.region ?_
        refine L.val rfl rfl (R.ldBN rfl B8 rfl) ?_
        refine L.set rfl (R.stN rfl rfl B4 rfl (Nat.le_refl 7) (ctlC_one _)) ?_
        rintro w22 ⟨e22, hs22, B4x⟩
        replace B4 : Blk w22 b4 (ctlC (stepN q 2)) 121 (0, 0) := by rw [all_stored (by rfl)] at B4x; exact B4x
        replace E := E.trans e22 (M := []) (by simp) (by intro x hx; rw [List.mem_singleton.1 hx]; exact .inr (by omega))
        refine L.val rfl rfl (R.as rfl) ?_
        refine L.nil ?_
        refine N.seq ?_
        refine G.retCT rfl rfl rfl (B4) rfl ?_
        first
          | (rw [readCV_err hne]; exact ⟨rfl, E⟩)
          | (rw [readCV_ok he0, ← hq, pickC_eq, if_pos h3]; exact ⟨rfl, E⟩)
          | (rw [readCV_ok he0, ← hq, pickC_eq, if_neg h3]; exact ⟨rfl, E⟩)

theorem cwrite_ok (d : Nat) (v : DevV) (sz : Nat) (S : List Nat) (p : Int) (c : Ctl) (w : World) (hd : DevAt w d v sz S) (hc : InC c) (hcb : 0 ≤ v.calls ∧ v.calls ≤ 1000000) (hwb : v.wt.length ≤ 1000) : Meets Try.prog 80 [.pointer (some ⟨d, 0, none⟩), .int .i64 p, .agg (ctlC c)] w (fun r w' => r = .tuple #[.agg (ctlC (writeCV v sz p c).2.1), .int .i64 (writeCV v sz p c).2.2] ∧ ∃ S', Grown S S' w w' ∧ DevAt w' d (writeCV v sz p c).1 sz S') := by
  refine Meets.enter Try.func80 rfl 54 rfl (Nat.le_of_ble_eq_true rfl) ?_
  have G0 := Grown.refl S w
  have hlt := hd.lt
  refine G.seq ?_
  refine G.region ?_
  refine L.do rfl rfl (R.box rfl) ?_
  rintro _ w1 ⟨b5, rfl, hb5, hs1, e1, B5⟩
  replace B5 : Blk w1 b5 (ctlC c) 121 (0, 0) := B5
  replace hd := hd.ext0 e1
  replace G0 := G0.then0 e1
  refine L.do rfl rfl (R.alloc) ?_
  rintro _ w2 ⟨b6, rfl, hb6, hs2, e2, B6⟩
  replace B6 : Blk w2 b6 (ctlC zeroC) 121 (0, 0) := B6
  have hl5 := B5.lt
  replace B5 := B5.ext0 e2
  replace hd := hd.ext0 e2
  replace G0 := G0.then0 e2
  have hn5 : b5 ∉ S := fun h => by have := hlt _ h; omega
  have hn6 : b6 ∉ S := fun h => by have := hlt _ h; omega
  have hl6 := B6.lt
  replace hl5 := B5.lt
  refine L.val rfl rfl (R.as rfl) ?_
  refine L.nil ?_
  refine N.seq ?_
  refine G.seq ?_
  refine G.block ?_
  refine G.seq ?_
  refine G.region ?_
  refine L.val rfl rfl (R.mv rfl) ?_
  refine L.val rfl rfl (R.eqNilP rfl rfl) ?_
  refine L.val rfl rfl (R.as rfl) ?_
  refine L.nil ?_
  refine N.seq ?_
  refine G.condF rfl ?_
  refine G.seq ?_
  refine G.region ?_
  refine L.val rfl rfl (R.fld rfl) ?_
  refine L.val rfl rfl (R.ldB rfl B5 rfl) ?_
  refine L.val rfl rfl (R.geq rfl rfl) ?_
  refine L.val rfl rfl (R.as rfl) ?_
  refine L.nil ?_
  refine N.seq ?_
  refine G.condP rfl (fun h1 => ?_) (fun h1 => ?_)
  · have h33 : 2305843009213693952 ≤ c.1 := h1
    refine G.seq ?_
    refine G.region ?_
    refine L.val rfl rfl (R.build (cs := (ctlC zeroC)) rfl rfl) ?_
    refine L.set rfl (R.stN rfl rfl B6 rfl (Nat.le_refl 7) (ctlC_one _)) ?_
    rintro w20 ⟨e20, hs20, B6x⟩
    replace B6 : Blk w20 b6 (ctlC zeroC) 121 (0, 0) := by rw [all_stored (by rfl)] at B6x; exact B6x
    replace hd := hd.ext e20 (fun y hy hm => by rw [List.mem_singleton.1 hm] at hy; exact hn6 hy)
    replace G0 : Grown S S w w20 := ⟨G0.1.transN e20 (fun x hx => .inr (by rw [List.mem_singleton.1 hx]; omega)), G0.2⟩
    refine L.val rfl rfl (R.as rfl) ?_
    refine L.nil ?_
    refine N.seq ?_
    refine G.retCT rfl rfl rfl (B6) rfl ?_
    first
      | (rw [writeCV_spent h33]; exact ⟨rfl, S, G0, hd⟩)
      | (rw [writeCV_arg h33 harg]; exact ⟨rfl, S, G0, hd⟩)
      | (rw [writeCV_w h33 hna hwr hw0]; exact ⟨rfl, S1, G1, D1⟩)
      | (rw [writeCV_f h33 hna hwr hw0 hfl h4]; exact ⟨rfl, S2, G2, D2⟩)
      | (rw [writeCV_ok h33 hna hwr hw0 hfl h4]; exact ⟨rfl, S2, G2, D2⟩)
  · have h33 : ¬ 2305843009213693952 ≤ c.1 := h1
    obtain ⟨ig1, ig2⟩ := hc.g
    refine G.skip ?_
    refine N.block ?_
    refine N.seq ?_
    refine G.seq ?_
    refine G.region ?_
    refine L.val rfl rfl (R.fld rfl) ?_
    refine L.val rfl rfl (R.ldB (v := .int .i64 c.1) rfl B5 rfl) ?_
    refine L.val rfl rfl (R.add rfl rfl (by omega)) ?_
    refine L.val rfl rfl (R.fld rfl) ?_
    refine L.set rfl (R.st rfl rfl B5 (by show 0 < 7; decide) rfl) ?_
    rintro w3 ⟨e3, hs3, B5x⟩
    replace B5 : Blk w3 b5 (ctlC (nextC c)) 121 (0, 0) := B5x
    replace B6 := B6.ext e3 (by simp; omega)
    replace hd := hd.ext e3 (fun y hy hm => by rw [List.mem_singleton.1 hm] at hy; exact hn5 hy)
    replace G0 : Grown S S w w3 := ⟨G0.1.transN e3 (fun x hx => .inr (by rw [List.mem_singleton.1 hx]; omega)), G0.2⟩
    replace hl5 := B5.lt
    replace hl6 := B6.lt
    refine L.nil ?_
    refine N.seq ?_
    refine G.seq ?_
    refine G.seq ?_
    refine G.region ?_
    refine L.val rfl rfl (R.ldBN rfl B5 rfl) ?_
    refine L.callF rfl rfl rfl go76 (cright_ok (nextC c) _) ?_
    rintro _ w4 ⟨rfl, e4⟩
    replace B5 := B5.ext0 e4
    replace B6 := B6.ext0 e4
    replace hd := hd.ext0 e4
    replace G0 := G0.then0 e4
    replace hl5 := B5.lt
    replace hl6 := B6.lt
    refine L.val rfl rfl (R.not rfl) ?_
    refine L.val rfl rfl (R.mv rfl) ?_
    refine L.caseB 25 rfl (fun hg6_3 => ?_) (fun hg6_3 => ?_)
    · have harg : ¬ okC (nextC c) ∨ p < 0 ∨ (sz : Int) < p := .inl (by simpa using hg6_3)
      refine L.pass rfl rfl ?_
      refine L.pass rfl rfl ?_
      first | refine L.val rfl rfl (R.pickT rfl rfl) ?_ | refine L.val rfl rfl (R.pickF rfl rfl) ?_
      refine L.val rfl rfl (R.mv rfl) ?_
      refine L.pass rfl rfl ?_
      refine L.pass rfl rfl ?_
      refine L.pass rfl rfl ?_
      refine L.pass rfl rfl ?_
      first | refine L.val rfl rfl (R.pickT rfl rfl) ?_ | refine L.val rfl rfl (R.pickF rfl rfl) ?_
      refine L.nil ?_
      refine N.seq ?_
      refine G.condT rfl ?_
      refine G.seq ?_
      refine G.region ?_
      refine L.val rfl rfl (R.build (cs := (ctlC zeroC)) rfl rfl) ?_
      refine L.set rfl (R.stN rfl rfl B6 rfl (Nat.le_refl 7) (ctlC_one _)) ?_
      rintro w21 ⟨e21, hs21, B6x⟩
      replace B6 : Blk w21 b6 (ctlC zeroC) 121 (0, 0) := by rw [all_stored (by rfl)] at B6x; exact B6x
      replace hd := hd.ext e21 (fun y hy hm => by rw [List.mem_singleton.1 hm] at hy; exact hn6 hy)
      replace G0 : Grown S S w w21 := ⟨G0.1.transN e21 (fun x hx => .inr (by rw [List.mem_singleton.1 hx]; omega)), G0.2⟩
      refine L.val rfl rfl (R.as rfl) ?_
      refine L.nil ?_
      refine N.seq ?_
      refine G.retCT rfl rfl rfl (B6) rfl ?_
      first
        | (rw [writeCV_spent h33]; exact ⟨rfl, S, G0, hd⟩)
        | (rw [writeCV_arg h33 harg]; exact ⟨rfl, S, G0, hd⟩)
        | (rw [writeCV_w h33 hna hwr hw0]; exact ⟨rfl, S1, G1, D1⟩)
        | (rw [writeCV_f h33 hna hwr hw0 hfl h4]; exact ⟨rfl, S2, G2, D2⟩)
        | (rw [writeCV_ok h33 hna hwr hw0 hfl h4]; exact ⟨rfl, S2, G2, D2⟩)
    · have hok : okC (nextC c) := by simpa using hg6_3
      refine L.val rfl rfl (R.mv rfl) ?_
      refine L.val rfl rfl (R.lss rfl rfl) ?_
      first | refine L.val rfl rfl (R.pickT rfl rfl) ?_ | refine L.val rfl rfl (R.pickF rfl rfl) ?_
      refine L.val rfl rfl (R.mv rfl) ?_
      refine L.caseP 29 rfl (fun hg6_7 => ?_) (fun hg6_7 => ?_)
      · have harg : ¬ okC (nextC c) ∨ p < 0 ∨ (sz : Int) < p := .inr (.inl (by omega))
        refine L.pass rfl rfl ?_
        refine L.pass rfl rfl ?_
        refine L.pass rfl rfl ?_
        refine L.pass rfl rfl ?_
        first | refine L.val rfl rfl (R.pickT rfl rfl) ?_ | refine L.val rfl rfl (R.pickF rfl rfl) ?_
        refine L.nil ?_
        refine N.seq ?_
        refine G.condT rfl ?_
        refine G.seq ?_
        refine G.region ?_
        refine L.val rfl rfl (R.build (cs := (ctlC zeroC)) rfl rfl) ?_
        refine L.set rfl (R.stN rfl rfl B6 rfl (Nat.le_refl 7) (ctlC_one _)) ?_
        rintro w21 ⟨e21, hs21, B6x⟩
        replace B6 : Blk w21 b6 (ctlC zeroC) 121 (0, 0) := by rw [all_stored (by rfl)] at B6x; exact B6x
        replace hd := hd.ext e21 (fun y hy hm => by rw [List.mem_singleton.1 hm] at hy; exact hn6 hy)
        replace G0 : Grown S S w w21 := ⟨G0.1.transN e21 (fun x hx => .inr (by rw [List.mem_singleton.1 hx]; omega)), G0.2⟩
        refine L.val rfl rfl (R.as rfl) ?_
        refine L.nil ?_
        refine N.seq ?_
        refine G.retCT rfl rfl rfl (B6) rfl ?_
        first
          | (rw [writeCV_spent h33]; exact ⟨rfl, S, G0, hd⟩)
          | (rw [writeCV_arg h33 harg]; exact ⟨rfl, S, G0, hd⟩)
          | (rw [writeCV_w h33 hna hwr hw0]; exact ⟨rfl, S1, G1, D1⟩)
          | (rw [writeCV_f h33 hna hwr hw0 hfl h4]; exact ⟨rfl, S2, G2, D2⟩)
          | (rw [writeCV_ok h33 hna hwr hw0 hfl h4]; exact ⟨rfl, S2, G2, D2⟩)
      · refine L.val rfl rfl (R.mv rfl) ?_
        refine L.val rfl rfl (R.mv rfl) ?_
        refine L.callF rfl rfl rfl go144 (dsize_ok d v sz S _ hd) ?_
        rintro _ _ ⟨rfl, hw⟩
        obtain rfl := hw.symm
        refine L.val rfl rfl (R.gtr rfl rfl) ?_
        first | refine L.val rfl rfl (R.pickT rfl rfl) ?_ | refine L.val rfl rfl (R.pickF rfl rfl) ?_
        refine L.nil ?_
        refine N.seq ?_
        refine G.condP rfl (fun h2 => ?_) (fun h2 => ?_)
        · have harg : ¬ okC (nextC c) ∨ p < 0 ∨ (sz : Int) < p := .inr (.inr (by omega))
          refine G.seq ?_
          refine G.region ?_
          refine L.val rfl rfl (R.build (cs := (ctlC zeroC)) rfl rfl) ?_
          refine L.set rfl (R.stN rfl rfl B6 rfl (Nat.le_refl 7) (ctlC_one _)) ?_
          rintro w21 ⟨e21, hs21, B6x⟩
          replace B6 : Blk w21 b6 (ctlC zeroC) 121 (0, 0) := by rw [all_stored (by rfl)] at B6x; exact B6x
          replace hd := hd.ext e21 (fun y hy hm => by rw [List.mem_singleton.1 hm] at hy; exact hn6 hy)
          replace G0 : Grown S S w w21 := ⟨G0.1.transN e21 (fun x hx => .inr (by rw [List.mem_singleton.1 hx]; omega)), G0.2⟩
          refine L.val rfl rfl (R.as rfl) ?_
          refine L.nil ?_
          refine N.seq ?_
          refine G.retCT rfl rfl rfl (B6) rfl ?_
          first
            | (rw [writeCV_spent h33]; exact ⟨rfl, S, G0, hd⟩)
            | (rw [writeCV_arg h33 harg]; exact ⟨rfl, S, G0, hd⟩)
            | (rw [writeCV_w h33 hna hwr hw0]; exact ⟨rfl, S1, G1, D1⟩)
            | (rw [writeCV_f h33 hna hwr hw0 hfl h4]; exact ⟨rfl, S2, G2, D2⟩)
            | (rw [writeCV_ok h33 hna hwr hw0 hfl h4]; exact ⟨rfl, S2, G2, D2⟩)
        · have hna : ¬ (¬ okC (nextC c) ∨ p < 0 ∨ (sz : Int) < p) := by rintro (n1 | n2 | n3); exact n1 hok; omega; omega
          obtain ⟨wr, hwr⟩ : ∃ r, r = (writeV v sz (p + (nextC c).1.tmod 2) (ctlS (nextC c))) := ⟨_, rfl⟩
          have hm2 : (nextC c).1.tmod 2 = (nextC c).1 % 2 := Int.tmod_eq_emod_of_nonneg (by have := hok.1.1; omega)
          have hcs := ctlS_length hok
          have hput : putC (nextC c) = ctlS (nextC c) := if_pos hok
          obtain ⟨_, hz1, hz2⟩ := hd.wf
          have hlt4 := hd.lt
          refine G.skip ?_
          refine N.seq ?_
          refine G.seq ?_
          refine G.staged [8] [.blocks (S)] [fun w' => Ext [] w4 w', fun w' => ∃ S1, Grown S S1 w4 w' ∧ DevAt w' d wr.1 sz S1] [(8, 43)] (by decide +kernel) (by decide +kernel) rfl rfl rfl (fun _ h => h) ?_
          refine Z.val rfl rfl rfl rfl rfl (fun w5 => R.mv rfl) ?_
          refine Z.val rfl rfl rfl rfl rfl (fun w5 => R.mv rfl) ?_
          refine Z.val rfl rfl rfl rfl rfl (fun w5 => R.fld rfl) ?_
          refine Z.read 0 (by decide +kernel) rfl rfl rfl rfl rfl rfl (fun w5 hJ => R.ldB (v := .int .i64 (nextC c).1) rfl (B5.ext0 hJ) rfl) ?_
          refine Z.val rfl rfl rfl rfl rfl (fun w5 => R.remW rfl rfl (by decide) _ rfl) ?_
          refine Z.val rfl rfl rfl rfl rfl (fun w5 => R.add rfl rfl (by omega)) ?_
          refine Z.read 0 (by decide +kernel) rfl rfl rfl rfl rfl rfl (fun w5 hJ => R.ldBN rfl (B5.ext0 hJ) rfl) ?_
          refine Z.callR (A := IsPut w4.heap.size (ctlS (nextC c))) (Lasts.kill (IsPut.keep _ _) (by decide +kernel)) 0 (by decide +kernel) rfl rfl rfl rfl go77 (fun w5 hJ => ⟨_, rfl, (cput_ok (nextC c) _).mono (fun _ _ h => by obtain ⟨⟨x2, y2, rfl, h2, h3, h4⟩, e⟩ := h; rw [hput] at h2 h3 ⊢; exact ⟨⟨x2, y2, rfl, h2, h3, fun p hp => ⟨Nat.le_trans hJ.size (h4 p hp).1, (h4 p hp).2⟩⟩, e, hJ.trans0 e⟩)⟩) ?_
          refine Z.callEqPut (.int .i64 wr.2) 0 (by decide +kernel) rfl rfl rfl rfl rfl rfl rfl go145 (fun w5 hJ => fun v hv => by obtain ⟨x2, y2, rfl, h2, h3, h4⟩ := hv; exact ⟨_, rfl, (dwrite_ok d v sz S _ _ _ _ (ctlS (nextC c)) _ (hd.ext0 hJ) ⟨hcb.1, by omega⟩ (by omega) h2 h3 (by rw [hcs]; decide) (fun q hq => ⟨fun hm => by have h8 := hlt4 _ hm; have h9 := (h4 q (effA.of hq)).1; omega, (h4 q (effA.of hq)).2⟩)).mono (fun _ _ h => by obtain ⟨h1, S1, g1, D1⟩ := h; rw [← hwr] at h1 D1; exact ⟨h1, g1.1, S1, g1.after0 hJ, D1⟩)⟩) ?_
          refine Z.val rfl rfl rfl rfl rfl (fun w5 => R.as rfl) ?_
          refine Z.nil rfl rfl (fun w5 hJ => ?_)
          obtain ⟨S1, g1, D1⟩ := hJ
          clear hd
          have n55 := hn5
          replace B5 := B5.ext g1.1 n55
          replace B6 := B6.ext g1.1 hn6
          replace hn5 : b5 ∉ S1 := g1.apart (Z := [b5]) (by simpa using hn5) (by simpa using hl5) b5 (by simp)
          replace hn6 : b6 ∉ S1 := g1.apart (Z := [b6]) (by simpa using hn6) (by simpa using hl6) b6 (by simp)
          replace hl5 := Nat.lt_of_lt_of_le hl5 g1.1.size
          replace hl6 := Nat.lt_of_lt_of_le hl6 g1.1.size
          have G1 := G0.trans g1
          refine N.seq ?_
          refine G.seq ?_
          refine G.seq ?_
          refine G.region ?_
          refine L.val rfl rfl (R.mv rfl) ?_
          refine L.val rfl rfl (R.eqI rfl rfl) ?_
          refine L.nil ?_
          refine N.seq ?_
          refine G.condP rfl (fun h3 => ?_) (fun h3 => ?_)
          · have hw0 : ¬ wr.2 ≠ 0 := by omega
            obtain ⟨fl, hfl⟩ : ∃ r, r = flushV wr.1 := ⟨_, rfl⟩
            have hbd := writeV_bd v sz (p + (nextC c).1.tmod 2) (ctlS (nextC c))
            rw [← hwr] at hbd
            obtain ⟨bd1, bd2, bd3⟩ := hbd
            have hdn : dn (ctlS (nextC c)) = 1 := dn_64 hcs
            refine G.region ?_
            refine L.val rfl rfl (R.mv rfl) ?_
            refine L.callF rfl rfl rfl go146 (dflush_ok d wr.1 sz S1 _ D1 ⟨by omega, by omega⟩ (by omega)) ?_
            rintro _ w6 ⟨rfl, S2, g2, D2⟩
            rw [← hfl] at D2 ⊢
            have n56 := hn5
            replace B5 := B5.ext g2.1 n56
            replace B6 := B6.ext g2.1 hn6
            replace hn5 : b5 ∉ S2 := g2.apart (Z := [b5]) (by simpa using hn5) (by simpa using hl5) b5 (by simp)
            replace hn6 : b6 ∉ S2 := g2.apart (Z := [b6]) (by simpa using hn6) (by simpa using hl6) b6 (by simp)
            replace hl5 := Nat.lt_of_lt_of_le hl5 g2.1.size
            replace hl6 := Nat.lt_of_lt_of_le hl6 g2.1.size
            have G2 := G1.trans g2
            refine L.val rfl rfl (R.as rfl) ?_
            refine L.nil ?_
            refine N.seq ?_
            refine G.seq ?_
            refine G.seq ?_
            refine G.region ?_
            refine L.val rfl rfl (R.mv rfl) ?_
            refine L.val rfl rfl (R.neI rfl rfl) ?_
            refine L.nil ?_
            refine N.seq ?_
            refine G.condP rfl (fun h4 => ?_) (fun h4 => ?_)
            · refine G.seq ?_
              refine G.region ?_
              refine L.val rfl rfl (R.build (cs := (ctlC zeroC)) rfl rfl) ?_
              refine L.val rfl rfl (R.mv rfl) ?_
              refine L.set rfl (R.stN rfl rfl B6 rfl (Nat.le_refl 7) (ctlC_one _)) ?_
              rintro w22 ⟨e22, hs22, B6x⟩
              replace B6 : Blk w22 b6 (ctlC zeroC) 121 (0, 0) := by rw [all_stored (by rfl)] at B6x; exact B6x
              replace D2 := D2.ext e22 (fun y hy hm => by rw [List.mem_singleton.1 hm] at hy; exact hn6 hy)
              replace G2 : Grown S S2 w w22 := ⟨G2.1.transN e22 (fun x hx => .inr (by rw [List.mem_singleton.1 hx]; omega)), G2.2⟩
              refine L.val rfl rfl (R.as rfl) ?_
              refine L.nil ?_
              refine N.seq ?_
              refine G.retCT rfl rfl rfl (B6) rfl ?_
              first
                | (rw [writeCV_spent h33]; exact ⟨rfl, S, G0, hd⟩)
                | (rw [writeCV_arg h33 harg]; exact ⟨rfl, S, G0, hd⟩)
                | (rw [writeCV_w h33 hna hwr hw0]; exact ⟨rfl, S1, G1, D1⟩)
                | (rw [writeCV_f h33 hna hwr hw0 hfl h4]; exact ⟨rfl, S2, G2, D2⟩)
                | (rw [writeCV_ok h33 hna hwr hw0 hfl h4]; exact ⟨rfl, S2, G2, D2⟩)
            · refine G.skip ?_
              refine N.seq ?_
              refine G.seq ?_
              refine G.region ?_
              refine L.val rfl rfl (R.ldBN rfl B5 rfl) ?_
              refine L.set rfl (R.stN rfl rfl B6 rfl (Nat.le_refl 7) (ctlC_one _)) ?_
              rintro w23 ⟨e23, hs23, B6x⟩
              replace B6 : Blk w23 b6 (ctlC (nextC c)) 121 (0, 0) := by rw [all_stored (by rfl)] at B6x; exact B6x
              replace D2 := D2.ext e23 (fun y hy hm => by rw [List.mem_singleton.1 hm] at hy; exact hn6 hy)
              replace G2 : Grown S S2 w w23 := ⟨G2.1.transN e23 (fun x hx => .inr (by rw [List.mem_singleton.1 hx]; omega)), G2.2⟩
              refine L.val rfl rfl (R.as rfl) ?_
              refine L.nil ?_
              refine N.seq ?_
              refine G.retCT rfl rfl rfl (B6) rfl ?_
              first
                | (rw [writeCV_spent h33]; exact ⟨rfl, S, G0, hd⟩)
                | (rw [writeCV_arg h33 harg]; exact ⟨rfl, S, G0, hd⟩)
                | (rw [writeCV_w h33 hna hwr hw0]; exact ⟨rfl, S1, G1, D1⟩)
                | (rw [writeCV_f h33 hna hwr hw0 hfl h4]; exact ⟨rfl, S2, G2, D2⟩)
                | (rw [writeCV_ok h33 hna hwr hw0 hfl h4]; exact ⟨rfl, S2, G2, D2⟩)
          · have hw0 : wr.2 ≠ 0 := h3
            refine G.skip ?_
            refine N.seq ?_
            refine G.seq ?_
            refine G.seq ?_
            refine G.region ?_
            refine L.val rfl rfl (R.mv rfl) ?_
            refine L.val rfl rfl (R.neI rfl rfl) ?_
            refine L.nil ?_
            refine N.seq ?_
            refine G.condP rfl (fun h4 => ?_) (fun h4 => ?_)
            · refine G.seq ?_
              refine G.region ?_
              refine L.val rfl rfl (R.build (cs := (ctlC zeroC)) rfl rfl) ?_
              refine L.val rfl rfl (R.mv rfl) ?_
              refine L.set rfl (R.stN rfl rfl B6 rfl (Nat.le_refl 7) (ctlC_one _)) ?_
              rintro w22 ⟨e22, hs22, B6x⟩
              replace B6 : Blk w22 b6 (ctlC zeroC) 121 (0, 0) := by rw [all_stored (by rfl)] at B6x; exact B6x
              replace D1 := D1.ext e22 (fun y hy hm => by rw [List.mem_singleton.1 hm] at hy; exact hn6 hy)
              replace G1 : Grown S S1 w w22 := ⟨G1.1.transN e22 (fun x hx => .inr (by rw [List.mem_singleton.1 hx]; omega)), G1.2⟩
              refine L.val rfl rfl (R.as rfl) ?_
              refine L.nil ?_
              refine N.seq ?_
              refine G.retCT rfl rfl rfl (B6) rfl ?_
              first
                | (rw [writeCV_spent h33]; exact ⟨rfl, S, G0, hd⟩)
                | (rw [writeCV_arg h33 harg]; exact ⟨rfl, S, G0, hd⟩)
                | (rw [writeCV_w h33 hna hwr hw0]; exact ⟨rfl, S1, G1, D1⟩)
                | (rw [writeCV_f h33 hna hwr hw0 hfl h4]; exact ⟨rfl, S2, G2, D2⟩)
                | (rw [writeCV_ok h33 hna hwr hw0 hfl h4]; exact ⟨rfl, S2, G2, D2⟩)
            · exact absurd hw0 h4

end Go.Proofs.Ythpolibakkmmeaa
/-
  Controls on devices: what is written is read; slots take turns; a crash.
-/
set_option linter.unusedVariables false
namespace Brv.Control
open Go Brv Brv.Pack Brv.Frame Brv.Image Brv.Dev
def cleanV (st : List UInt8) (calls : Int) : DevV := ⟨st, [], calls, -1, false⟩
def slot (c : Ctl) : Nat := (c.1 % 2).toNat
theorem slot_lt (c : Ctl) : slot c < 2 := by unfold slot; omega
theorem tmod_slot {c : Ctl} (h : okC c) : c.1.tmod 2 = (slot c : Int) := by
  obtain ⟨⟨h1, _⟩, _⟩ := h
  rw [Int.tmod_eq_emod_of_nonneg (by omega)]
  unfold slot
  omega
theorem write_clean {st : List UInt8} {calls : Int} {N p : Nat} {c : Ctl} (hl : st.length = 64 * N) (hp : p + 2 ≤ N) (hg : c.1 < 2305843009213693952) (hok : okC (nextC c)) :
    writeCV (cleanV st calls) N (p : Int) c = (cleanV (laid st (p + slot (nextC c)) (ctlS (nextC c))) (calls + 2), nextC c, 0) := by
  have hs := slot_lt (nextC c)
  have h64 := ctlS_length hok
  have e1 : (p : Int) + (nextC c).1.tmod 2 = ((p + slot (nextC c) : Nat) : Int) := by rw [tmod_slot hok]; omega
  have hw := write_ok (v := cleanV st calls) (N := N) (p := p + slot (nextC c)) (b := ctlS (nextC c)) rfl h64 (by omega) (by show (-1 : Int) ≠ 0; decide)
  have hna : ¬ (¬ okC (nextC c) ∨ (p : Int) < 0 ∨ (N : Int) < p) := by
    rintro (h | h | h)
    · exact h hok
    · omega
    · omega
  have hw2 : writeV (cleanV st calls) N ((p : Int) + (nextC c).1.tmod 2) (ctlS (nextC c)) = (⟨st, [(p + slot (nextC c), ctlS (nextC c))], calls + 1, -1, false⟩, 0) := by rw [e1]; exact hw
  have hf : flushV (⟨st, [(p + slot (nextC c), ctlS (nextC c))], calls + 1, -1, false⟩ : DevV) = (cleanV (laid st (p + slot (nextC c)) (ctlS (nextC c))) (calls + 2), 0) := by
    rw [flush_ok (v := ⟨st, [(p + slot (nextC c), ctlS (nextC c))], calls + 1, -1, false⟩) rfl (by show (-1 : Int) ≠ 0; decide)]
    have : calls + 1 + 1 = calls + 2 := by omega
    show ((DevV.mk (laid st (p + slot (nextC c)) (ctlS (nextC c))) [] (calls + 1 + 1) (-1) false : DevV), (0 : Int)) = _
    rw [this]; rfl
  exact writeCV_ok (Int.not_le.2 hg) hna hw2.symm (fun h => h rfl) hf.symm (fun h => h rfl)
theorem read_clean {st : List UInt8} {calls : Int} {N p : Nat} (hp : p + 2 ≤ N) : readCV (cleanV st calls) N (p : Int) = pickC (win st p 2) := by
  have hr : readV (cleanV st calls) N (p : Int) 2 = (win st p 2, 0) := by
    unfold readV
    rw [if_neg (by simp [cleanV]), if_pos (by unfold thereP; omega)]
    show (win (laidAll st []) ((p : Int)).toNat (2 : Int).toNat, (0 : Int)) = _
    rw [Int.toNat_natCast]
    rfl
  rw [readCV_ok (by rw [hr]), hr]
theorem pick_new {q : List UInt8} {c : Ctl} (hok : okC c) (hs : blk q (slot c) = ctlS c) (ho : (getC (blk q (1 - slot c))).2 = 0 → (getC (blk q (1 - slot c))).1.1.tmod 2 = ((1 - slot c : Nat) : Int) → (getC (blk q (1 - slot c))).1.1 < c.1) : pickC q = (c, 0) := by
  have hg := getC_put hok
  have ht := tmod_slot hok
  have hc1 := hok.1.1
  have fin : stepN q 2 = c → pickC q = (c, 0) := fun h => by rw [pickC_eq, h, if_neg (by omega)]
  have h2 := slot_lt c
  apply fin
  rcases Nat.lt_or_ge (slot c) 1 with h0 | h0
  · have e : slot c = 0 := by omega
    rw [e] at hs ho ht
    have s1 : stepN q 1 = c := by
      have := stepN_yes (q := q) (k := 0) (by rw [hs, hg]) (by rw [hs, hg]; exact ht) (by rw [hs, hg]; show (0 : Int) < c.1; omega)
      rw [this, hs, hg]
    have : stepN q 2 = stepN q 1 := stepN_no (by
      rintro ⟨n1, n2, n3⟩
      have := ho n1 n2
      rw [s1] at n3
      have : (getC (blk q 1)).1.1 < c.1 := this
      omega)
    rw [this, s1]
  · have e : slot c = 1 := by omega
    rw [e] at hs ho ht
    have hlt : (stepN q 1).1 < c.1 := by
      by_cases hy : (getC (blk q 0)).2 = 0 ∧ (getC (blk q 0)).1.1.tmod 2 = ((0 : Nat) : Int) ∧ (stepN q 0).1 < (getC (blk q 0)).1.1
      · rw [stepN_yes (k := 0) hy.1 hy.2.1 hy.2.2]; exact ho hy.1 hy.2.1
      · rw [stepN_no (k := 0) hy]; show (0 : Int) < c.1; omega
    have := stepN_yes (q := q) (k := 1) (by rw [hs, hg]) (by rw [hs, hg]; exact ht) (by rw [hs, hg]; exact hlt)
    rw [this, hs, hg]
theorem pick_none {q : List UInt8} (h : ∀ s, s < 2 → (getC (blk q s)).2 = 0 → ¬ (getC (blk q s)).1.1.tmod 2 = (s : Int)) : pickC q = (zeroC, 20) := by
  have s1 : stepN q 1 = zeroC := stepN_no (k := 0) (fun ⟨a, b, _⟩ => h 0 (by decide) a b)
  have s2 : stepN q 2 = stepN q 1 := stepN_no (k := 1) (fun ⟨a, b, _⟩ => h 1 (by decide) a b)
  rw [pickC_eq, s2, s1]
  rfl
theorem getC_zero : (getC (List.replicate 64 0)).2 = 20 := by
  have : getF (List.replicate 64 0) = (zeroV, 20) := getF_size (by rintro ⟨_, h⟩; rw [show num ((List.replicate 64 (0 : UInt8)).take 2) = 0 by decide] at h; cases h)
  rw [getC_err (by rw [this]; show (20 : Int) ≠ 0; decide), this]
theorem blk_rep {n k : Nat} (h : k < n) : blk (List.replicate (64 * n) (0 : UInt8)) k = List.replicate 64 0 := by
  unfold blk
  rw [List.drop_replicate, List.take_replicate]
  congr 1
  omega
/-- The slots of a device of three: none is ahead of gen. -/
def Behind' (st : List UInt8) (gen : Nat) : Prop := st.length = 64 * 3 ∧ ∀ s, s < 2 → (getC (blk st s)).2 = 0 → (getC (blk st s)).1.1 ≤ gen
theorem Behind'.zero : Behind' (List.replicate (64 * 3) 0) 0 := ⟨by rw [List.length_replicate], fun s hs h => by rw [blk_rep (by omega), getC_zero] at h; cases h⟩
theorem win_two {st : List UInt8} {s : Nat} (hs : s < 2) (p : Nat) : blk (win st p 2) s = blk st (p + s) := win_blk hs
theorem turn {st : List UInt8} {gen : Nat} {c : Ctl} (h : Behind' st gen) (hc : c.1 = ((gen + 1 : Nat) : Int)) (hok : okC c) :
    Behind' (laid st (slot c) (ctlS c)) (gen + 1) ∧ pickC (win (laid st (slot c) (ctlS c)) 0 2) = (c, 0) ∧ blk (laid st (slot c) (ctlS c)) (1 - slot c) = blk st (1 - slot c) := by
  have hl := h.1
  have h64 := ctlS_length hok
  have hs := slot_lt c
  have hd : slot c < dn st := by rw [dn_of hl]; omega
  have hb : ∀ j, blk (laid st (slot c) (ctlS c)) j = if j = slot c then ctlS c else blk st j := fun j => laid_blk h64 hd
  have ho : blk (laid st (slot c) (ctlS c)) (1 - slot c) = blk st (1 - slot c) := by rw [hb, if_neg (by omega)]
  refine ⟨⟨by rw [laid_length h64 hd, hl], fun s hs2 hg => ?_⟩, ?_, ho⟩
  · rw [hb] at hg ⊢
    split
    · rw [getC_put hok]; show c.1 ≤ _; omega
    · rename_i hne
      rw [if_neg hne] at hg
      have := h.2 s hs2 hg
      omega
  · refine pick_new hok (by rw [win_two hs, Nat.zero_add, hb, if_pos rfl]) (fun g1 _ => ?_)
    rw [win_two (by omega), Nat.zero_add, ho] at g1 ⊢
    have := h.2 (1 - slot c) (by omega) g1
    omega
def c4 : Ctl := (4, 1, 0, 1, 7, 0, 0)
def c5 : Ctl := (5, 1, 0, 1, 7, 0, 0)
def st5 : List UInt8 := laid (List.replicate (64 * 4) 0) 2 (ctlS c5)
theorem c5_ok : okC c5 := by decide
theorem c4_ok : okC c4 := by decide
theorem first_write : writeCV (newV 4) 4 1 c4 = (cleanV st5 2, c5, 0) := write_clean (st := List.replicate (64 * 4) 0) (calls := 0) (N := 4) (p := 1) (c := c4) (by rw [List.length_replicate]) (by decide) (by decide) c5_ok
theorem st5_blk (j : Nat) : blk st5 j = if j = 2 then ctlS c5 else blk (List.replicate (64 * 4) 0) j := laid_blk (ctlS_length c5_ok) (by rw [dn_zero]; decide)
theorem first_read : readCV (cleanV st5 2) 4 1 = (c5, 0) := by
  have := read_clean (st := st5) (calls := 2) (N := 4) (p := 1) (by decide)
  rw [show ((1 : Nat) : Int) = 1 from rfl] at this
  rw [this]
  refine pick_new c5_ok ?_ (fun h _ => ?_)
  · rw [show slot c5 = 1 from rfl, win_two (by decide), st5_blk]; rfl
  · rw [show slot c5 = 1 from rfl, win_two (by decide), st5_blk, if_neg (by decide), blk_rep (by decide), getC_zero] at h; cases h
theorem first_read2 : readCV (cleanV st5 2) 4 2 = (zeroC, 20) := by
  have := read_clean (st := st5) (calls := 2) (N := 4) (p := 2) (by decide)
  rw [show ((2 : Nat) : Int) = 2 from rfl] at this
  rw [this]
  refine pick_none (fun s hs h => ?_)
  rw [win_two hs, st5_blk] at h ⊢
  rcases s with _ | _ | s
  · rw [if_pos rfl, getC_put c5_ok]; decide
  · rw [if_neg (by decide), blk_rep (by decide), getC_zero] at h; cases h
  · omega
theorem next_no {a : Ctl} (h : 2305843009213693952 ≤ a.1 ∨ ¬ okC (nextC a)) : ¬ okC (min (max a.1 (-1)) 4611686018427387904 + 1, a.2) := by
  obtain ⟨g, r⟩ := a
  rintro ⟨⟨h1, h2⟩, h3⟩
  simp only at h h1 h2
  rcases h with h | h
  · omega
  · refine h ⟨⟨by show 1 ≤ g + 1; omega, by show g + 1 ≤ _; omega⟩, h3⟩
theorem crash_clean {st : List UInt8} {calls l : Int} {o : Bool} {ks : List Bool} : crashV ⟨st, [], calls, l, o⟩ ks = cleanV st calls := rfl
theorem crash_one {st : List UInt8} {m : Nat} {s : List UInt8} {calls l : Int} {o : Bool} {ks : List Bool} : crashV ⟨st, [(m, s)], calls, l, o⟩ ks = cleanV (if ks[0]? = some true then laid st m s else st) calls := by
  unfold crashV cleanV
  congr 1
/-- What a crash in a write behind another one leaves. -/
theorem crash_play {a b : Ctl} {ks : List Bool} {k : Nat} (ha : a.1 < 2305843009213693952) (hok : okC (nextC a)) :
    ∃ v3 y f z, writeCV (limitV (cleanV (laid (List.replicate (64 * 3) 0) (slot (nextC a)) (ctlS (nextC a))) 2) (k : Int)) 3 0 ((nextC a).1, b.2) = (v3, y, f) ∧ v3.wt.length ≤ 1 ∧ readCV (crashV v3 ks) 3 0 = (z, 0) ∧
      (((f = 2 ∨ f = 33) ∧ z = nextC a) ∨ (f = 10 ∧ (z = nextC a ∨ z = nextC ((nextC a).1, b.2))) ∨ (f = 0 ∧ y = nextC ((nextC a).1, b.2) ∧ z = nextC ((nextC a).1, b.2))) := by
  obtain ⟨x, hx⟩ : ∃ x, x = nextC a := ⟨_, rfl⟩
  rw [← hx] at hok ⊢
  have hg : x.1 = a.1 + 1 := by rw [hx]; rfl
  obtain ⟨g, hgn⟩ : ∃ g : Nat, x.1 = ((g + 1 : Nat) : Int) := ⟨(x.1 - 1).toNat, by have := hok.1.1; omega⟩
  have hl0 : (List.replicate (64 * 3) (0 : UInt8)).length = 64 * 3 := by rw [List.length_replicate]
  have B0 : Behind' (List.replicate (64 * 3) 0) g := ⟨hl0, fun s hs h => by rw [blk_rep (by omega), getC_zero] at h; cases h⟩
  obtain ⟨B1, P1, _⟩ := turn B0 hgn hok
  obtain ⟨st, hst⟩ : ∃ st, st = laid (List.replicate (64 * 3) 0) (slot x) (ctlS x) := ⟨_, rfl⟩
  rw [← hst] at B1 P1 ⊢
  have hmax : max (k : Int) (-1) = k := by omega
  have hv2 : limitV (cleanV st 2) (k : Int) = ⟨st, [], 2, k, false⟩ := by unfold limitV cleanV; rw [hmax]
  rw [hv2]
  have hrd : ∀ {st' : List UInt8} {calls : Int} {z : Ctl}, pickC (win st' 0 2) = (z, 0) → readCV (cleanV st' calls) 3 0 = (z, 0) := by
    intro st' calls z h
    have := read_clean (st := st') (calls := calls) (N := 3) (p := 0) (by decide)
    rw [show ((0 : Nat) : Int) = 0 from rfl] at this
    rw [this, h]
  obtain ⟨c, hc⟩ : ∃ c : Ctl, c = (x.1, b.2) := ⟨_, rfl⟩
  rw [← hc]
  have hc1 : c.1 = x.1 := by rw [hc]
  by_cases h33 : 2305843009213693952 ≤ c.1
  · exact ⟨_, _, _, x, writeCV_spent h33, by show (0 : Nat) ≤ 1; decide, by rw [crash_clean]; exact hrd P1, .inl ⟨.inr rfl, rfl⟩⟩
  by_cases hokc : okC (nextC c)
  · have hna : ¬ (¬ okC (nextC c) ∨ (0 : Int) < 0 ∨ ((3 : Nat) : Int) < 0) := by
      rintro (h | h | h)
      · exact h hokc
      · omega
      · omega
    have hcn : (nextC c).1 = ((g + 1 + 1 : Nat) : Int) := by show c.1 + 1 = _; omega
    obtain ⟨B2, P2, _⟩ := turn B1 hcn hokc
    have hs := slot_lt (nextC c)
    have h64 := ctlS_length hokc
    have e1 : (0 : Int) + (nextC c).1.tmod 2 = ((slot (nextC c) : Nat) : Int) := by rw [tmod_slot hokc]; omega
    by_cases hk0 : k = 0
    · subst hk0
      have hw : writeV ⟨st, [], 2, ((0 : Nat) : Int), false⟩ 3 ((0 : Int) + (nextC c).1.tmod 2) (ctlS (nextC c)) = (⟨st, [], 2, ((0 : Nat) : Int), true⟩, 10) := by
        rw [e1]; exact write_lim (v := ⟨st, [], 2, ((0 : Nat) : Int), false⟩) rfl h64 (by omega) rfl
      exact ⟨_, _, _, x, writeCV_w h33 hna hw.symm (by show (10 : Int) ≠ 0; decide), by show (0 : Nat) ≤ 1; decide, by rw [crash_clean]; exact hrd P1, .inr (.inl ⟨rfl, .inl rfl⟩)⟩
    · have hkp : 0 < (k : Int) := by omega
      have hw : writeV ⟨st, [], 2, (k : Int), false⟩ 3 ((0 : Int) + (nextC c).1.tmod 2) (ctlS (nextC c)) = (⟨st, [(slot (nextC c), ctlS (nextC c))], 3, (k : Int) - 1, false⟩, 0) := by
        rw [e1, write_ok (v := ⟨st, [], 2, (k : Int), false⟩) rfl h64 (by omega) (by show (k : Int) ≠ 0; omega)]
        show ((DevV.mk st ([] ++ [(slot (nextC c), ctlS (nextC c))]) (2 + 1) (if 0 < (k : Int) then (k : Int) - 1 else (k : Int)) false : DevV), (0 : Int)) = _
        rw [if_pos hkp]; rfl
      by_cases hk1 : k = 1
      · subst hk1
        have hf : flushV (⟨st, [(slot (nextC c), ctlS (nextC c))], 3, ((1 : Nat) : Int) - 1, false⟩ : DevV) = (⟨st, [(slot (nextC c), ctlS (nextC c))], 3, ((1 : Nat) : Int) - 1, true⟩, 10) := rfl
        by_cases hkeep : ks[0]? = some true
        · exact ⟨_, _, _, nextC c, writeCV_f h33 hna hw.symm (fun h => h rfl) hf.symm (by show (10 : Int) ≠ 0; decide), Nat.le_refl 1, by rw [crash_one, if_pos hkeep]; exact hrd P2, .inr (.inl ⟨rfl, .inr rfl⟩)⟩
        · exact ⟨_, _, _, x, writeCV_f h33 hna hw.symm (fun h => h rfl) hf.symm (by show (10 : Int) ≠ 0; decide), Nat.le_refl 1, by rw [crash_one, if_neg hkeep]; exact hrd P1, .inr (.inl ⟨rfl, .inl rfl⟩)⟩
      · have hf := flush_ok (v := ⟨st, [(slot (nextC c), ctlS (nextC c))], 3, (k : Int) - 1, false⟩) rfl (by show (k : Int) - 1 ≠ 0; omega)
        exact ⟨_, _, _, nextC c, writeCV_ok h33 hna hw.symm (fun h => h rfl) hf.symm (fun h => h rfl), by show (0 : Nat) ≤ 1; decide, by rw [crash_clean]; exact hrd P2, .inr (.inr ⟨rfl, rfl, rfl⟩)⟩
  · exact ⟨_, _, _, x, writeCV_arg h33 (.inl hokc), by show (0 : Nat) ≤ 1; decide, by rw [crash_clean]; exact hrd P1, .inl ⟨.inl rfl, rfl⟩⟩
end Brv.Control
/-
  The structs of plain fields, to be compared.
-/
set_option linter.unusedVariables false
set_option maxRecDepth 100000
namespace Go.Proofs.Ythpolibakkmmeaa
open Go Brv
instance : TyEqS Try.prog 66 [.i .i64, .i .i64, .i .i64, .s] := ⟨by kernel_rfl, by kernel_rfl, by kernel_rfl, by kernel_rfl⟩ -- breviarylaw04.Op
instance : TyEqS Try.prog 77 [.i .i64, .s] := ⟨by kernel_rfl, by kernel_rfl, by kernel_rfl, by kernel_rfl⟩ -- breviaryref04.Pair
instance : TyEqS Try.prog 121 [.i .i64, .i .i64, .i .i64, .i .i64, .i .i64, .i .i64, .i .i64] := ⟨by kernel_rfl, by kernel_rfl, by kernel_rfl, by kernel_rfl⟩ -- api.Control
instance : TyEqS Try.prog 182 [.s, .i .i64] := ⟨by kernel_rfl, by kernel_rfl, by kernel_rfl, by kernel_rfl⟩ -- order.pair[string,int]
instance : TyEqS Try.prog 194 [.i .i64, .s] := ⟨by kernel_rfl, by kernel_rfl, by kernel_rfl, by kernel_rfl⟩ -- order.pair[int,string]
instance : TyEqS Try.prog 224 [.s, .i .i64] := ⟨by kernel_rfl, by kernel_rfl, by kernel_rfl, by kernel_rfl⟩ -- breviaryref03.Scan
end Go.Proofs.Ythpolibakkmmeaa
/-
  The walks of package control.
-/
set_option linter.unusedVariables false
set_option linter.unusedSimpArgs false
namespace Go.Proofs.Ythpolibakkmmeaa
open Go Brv Brv.Crc Brv.Pack Brv.Frame Brv.Image Brv.Dev Brv.Control
theorem control_first_ok  (w : World) : Meets Try.prog 71 [] w (fun v w' => v = .bool true ∧ Ext [] w w') := by
  refine Meets.enter Try.func71 rfl 77 rfl (Nat.le_of_ble_eq_true rfl) ?_
  have E := Ext.refl [] w
  refine G.seq ?_
  refine G.region ?_
  refine L.val rfl rfl (R.as rfl) ?_
  refine L.nil ?_
  refine N.seq ?_
  refine G.seq ?_
  refine G.region ?_
  refine L.callF rfl rfl rfl go78 (dnew_ok 4 _ (by decide) (by decide)) ?_
  rintro _ w1 ⟨d, S, rfl, e1, D, hS⟩
  replace E := E.trans0 e1
  refine L.val rfl rfl (R.mv rfl) ?_
  refine L.val rfl rfl (R.ext rfl rfl) ?_
  refine L.val rfl rfl (R.ext rfl rfl) ?_
  refine L.val rfl rfl (R.as rfl) ?_
  refine L.val rfl rfl (R.as rfl) ?_
  refine L.nil ?_
  refine N.seq ?_
  refine G.seq ?_
  refine G.region ?_
  refine L.val rfl rfl (R.build1 (cs := ctlC c4) rfl rfl rfl) ?_
  refine L.do rfl rfl (R.alloc) ?_
  rintro _ w2 ⟨b3, rfl, hb3, hs2, e2, B3⟩
  have hE2 := E.size
  have hlt2 := D.lt
  replace E := E.trans0 e2
  replace D := D.ext0 e2
  refine L.set rfl (R.stN rfl rfl B3 rfl (Nat.le_refl 7) (ctlC_one _)) ?_
  rintro w3 ⟨e3, hs3, B3x⟩
  replace D := D.ext e3 (fun y hy hm => by have h9 := hlt2 _ hy; rw [List.mem_singleton.1 hm] at h9; omega)
  replace B3 : Blk w3 b3 (ctlC c4) 121 (0, 0) := by rw [all_stored (by rfl)] at B3x; exact B3x
  replace E := E.trans e3 (M := []) (by simp) (by intro x hx; rw [List.mem_singleton.1 hx]; exact .inr (by omega))
  refine L.nil ?_
  refine N.seq ?_
  refine G.seq ?_
  refine G.region ?_
  refine L.val rfl rfl (R.mv rfl) ?_
  refine L.val rfl rfl (R.ldBN rfl B3 rfl) ?_
  refine L.callF rfl rfl rfl go80 (cwrite_ok d (newV 4) 4 S 1 c4 _ D (InC.of c4_ok) (by decide) (by decide)) ?_
  rintro _ w4 ⟨rfl, S1, g4, D1⟩
  rw [first_write] at D1 ⊢
  have hEw := E.size
  have n3 : b3 ∉ S := fun h => by have := hlt2 _ h; omega
  replace B3 := B3.ext g4.1 n3
  replace E := E.fresh g4.1 hS
  replace hS := g4.fresh hS hEw
  refine L.val rfl rfl (R.mv rfl) ?_
  refine L.val rfl rfl (R.ext rfl rfl) ?_
  refine L.val rfl rfl (R.ext rfl rfl) ?_
  refine L.do rfl rfl (R.alloc) ?_
  rintro _ w5 ⟨b4, rfl, hb4, hs5, e5, B4⟩
  have hE5 := E.size
  have hlt5 := D1.lt
  have hl5_B3 := B3.lt
  replace E := E.trans0 e5
  replace B3 := B3.ext0 e5
  replace D1 := D1.ext0 e5
  refine L.set rfl (R.stN rfl rfl B4 rfl (Nat.le_refl 7) (ctlC_one _)) ?_
  rintro w6 ⟨e6, hs6, B4x⟩
  replace B3 := B3.ext e6 (by simp; omega)
  replace D1 := D1.ext e6 (fun y hy hm => by have h9 := hlt5 _ hy; rw [List.mem_singleton.1 hm] at h9; omega)
  replace B4 : Blk w6 b4 (ctlC c5) 121 (0, 0) := by rw [all_stored (by rfl)] at B4x; exact B4x
  replace E := E.trans e6 (M := []) (by simp) (by intro x hx; rw [List.mem_singleton.1 hx]; exact .inr (by omega))
  refine L.val rfl rfl (R.as rfl) ?_
  refine L.nil ?_
  refine N.seq ?_
  refine G.seq ?_
  refine G.region ?_
  refine L.val rfl rfl (R.mv rfl) ?_
  refine L.callF rfl rfl rfl go81 (cread_ok d _ 4 S1 1 _ D1 (by decide)) ?_
  rintro _ w7 ⟨rfl, e7⟩
  rw [first_read]
  replace E := E.trans0 e7
  replace B3 := B3.ext0 e7
  replace B4 := B4.ext0 e7
  replace D1 := D1.ext0 e7
  refine L.val rfl rfl (R.mv rfl) ?_
  refine L.val rfl rfl (R.ext rfl rfl) ?_
  refine L.val rfl rfl (R.ext rfl rfl) ?_
  refine L.do rfl rfl (R.alloc) ?_
  rintro _ w8 ⟨b6, rfl, hb6, hs8, e8, B6⟩
  have hE8 := E.size
  have hlt8 := D1.lt
  have hl8_B3 := B3.lt
  have hl8_B4 := B4.lt
  replace E := E.trans0 e8
  replace B3 := B3.ext0 e8
  replace B4 := B4.ext0 e8
  replace D1 := D1.ext0 e8
  refine L.set rfl (R.stN rfl rfl B6 rfl (Nat.le_refl 7) (ctlC_one _)) ?_
  rintro w9 ⟨e9, hs9, B6x⟩
  replace B3 := B3.ext e9 (by simp; omega)
  replace B4 := B4.ext e9 (by simp; omega)
  replace D1 := D1.ext e9 (fun y hy hm => by have h9 := hlt8 _ hy; rw [List.mem_singleton.1 hm] at h9; omega)
  replace B6 : Blk w9 b6 (ctlC c5) 121 (0, 0) := by rw [all_stored (by rfl)] at B6x; exact B6x
  replace E := E.trans e9 (M := []) (by simp) (by intro x hx; rw [List.mem_singleton.1 hx]; exact .inr (by omega))
  refine L.val rfl rfl (R.as rfl) ?_
  refine L.nil ?_
  refine N.seq ?_
  refine G.seq ?_
  refine G.region ?_
  refine L.val rfl rfl (R.mv rfl) ?_
  refine L.callF rfl rfl rfl go81 (cread_ok d _ 4 S1 2 _ D1 (by decide)) ?_
  rintro _ w10 ⟨rfl, e10⟩
  rw [first_read2]
  replace E := E.trans0 e10
  replace B3 := B3.ext0 e10
  replace B4 := B4.ext0 e10
  replace B6 := B6.ext0 e10
  refine L.val rfl rfl (R.mv rfl) ?_
  refine L.val rfl rfl (R.ext rfl rfl) ?_
  refine L.val rfl rfl (R.ext rfl rfl) ?_
  refine L.do rfl rfl (R.alloc) ?_
  rintro _ w11 ⟨b8, rfl, hb8, hs11, e11, B8⟩
  have hE11 := E.size
  have hl11_B3 := B3.lt
  have hl11_B4 := B4.lt
  have hl11_B6 := B6.lt
  replace E := E.trans0 e11
  replace B3 := B3.ext0 e11
  replace B4 := B4.ext0 e11
  replace B6 := B6.ext0 e11
  refine L.set rfl (R.stN rfl rfl B8 rfl (Nat.le_refl 7) (ctlC_one _)) ?_
  rintro w12 ⟨e12, hs12, B8x⟩
  replace B3 := B3.ext e12 (by simp; omega)
  replace B4 := B4.ext e12 (by simp; omega)
  replace B6 := B6.ext e12 (by simp; omega)
  replace B8 : Blk w12 b8 (ctlC zeroC) 121 (0, 0) := by rw [all_stored (by rfl)] at B8x; exact B8x
  replace E := E.trans e12 (M := []) (by simp) (by intro x hx; rw [List.mem_singleton.1 hx]; exact .inr (by omega))
  refine L.val rfl rfl (R.as rfl) ?_
  refine L.nil ?_
  refine N.seq ?_
  refine G.seq ?_
  refine G.region ?_
  refine L.val rfl rfl (R.ldBN rfl B3 rfl) ?_
  refine L.callF rfl rfl rfl go77 (cput_ok c4 _) ?_
  rintro _ w13 ⟨⟨a13, k13, rfl, L13, hk13, _⟩, e13⟩
  replace E := E.trans0 e13
  rw [show putC c4 = ctlS c4 from if_pos c4_ok] at L13 hk13 ⊢
  have h64 := ctlS_length c4_ok
  replace B3 := B3.ext0 e13
  replace B4 := B4.ext0 e13
  replace B6 := B6.ext0 e13
  refine L.callF rfl rfl rfl go74 (cget_ok _ _ _ (ctlS c4) _ L13 hk13 (by omega)) ?_
  rintro _ w14 ⟨rfl, e14⟩
  rw [getC_put c4_ok]
  replace E := E.trans0 e14
  replace B3 := B3.ext0 e14
  replace B4 := B4.ext0 e14
  replace B6 := B6.ext0 e14
  refine L.val rfl rfl (R.mv rfl) ?_
  refine L.val rfl rfl (R.ext rfl rfl) ?_
  refine L.val rfl rfl (R.ext rfl rfl) ?_
  refine L.do rfl rfl (R.alloc) ?_
  rintro _ w15 ⟨b10, rfl, hb10, hs15, e15, B10⟩
  have hE15 := E.size
  have hl15_B3 := B3.lt
  have hl15_B4 := B4.lt
  have hl15_B6 := B6.lt
  replace E := E.trans0 e15
  replace B3 := B3.ext0 e15
  replace B4 := B4.ext0 e15
  replace B6 := B6.ext0 e15
  refine L.set rfl (R.stN rfl rfl B10 rfl (Nat.le_refl 7) (ctlC_one _)) ?_
  rintro w16 ⟨e16, hs16, B10x⟩
  replace B3 := B3.ext e16 (by simp; omega)
  replace B4 := B4.ext e16 (by simp; omega)
  replace B6 := B6.ext e16 (by simp; omega)
  replace B10 : Blk w16 b10 (ctlC c4) 121 (0, 0) := by rw [all_stored (by rfl)] at B10x; exact B10x
  replace E := E.trans e16 (M := []) (by simp) (by intro x hx; rw [List.mem_singleton.1 hx]; exact .inr (by omega))
  refine L.val rfl rfl (R.as rfl) ?_
  refine L.nil ?_
  refine N.seq ?_
  refine G.seq ?_
  refine G.region ?_
  refine L.val rfl rfl (R.mv rfl) ?_
  refine L.val rfl rfl (R.eqI rfl rfl) ?_
  refine L.val rfl rfl (R.mv rfl) ?_
  refine L.isT 41 rfl (by rfl) ?_
  refine L.val rfl rfl (R.fld rfl) ?_
  refine L.val rfl rfl (R.ldB (v := .int .i64 5) rfl B4 rfl) ?_
  refine L.val rfl rfl (R.eqI rfl rfl) ?_
  first | refine L.val rfl rfl (R.pickT rfl rfl) ?_ | refine L.val rfl rfl (R.pickF rfl rfl) ?_
  refine L.val rfl rfl (R.mv rfl) ?_
  refine L.isT 46 rfl (by rfl) ?_
  refine L.val rfl rfl (R.mv rfl) ?_
  refine L.val rfl rfl (R.eqI rfl rfl) ?_
  first | refine L.val rfl rfl (R.pickT rfl rfl) ?_ | refine L.val rfl rfl (R.pickF rfl rfl) ?_
  refine L.val rfl rfl (R.mv rfl) ?_
  refine L.isT 50 rfl (by rfl) ?_
  refine L.val rfl rfl (R.ldBN rfl B4 rfl) ?_
  refine L.val rfl rfl (R.ldBN rfl B6 rfl) ?_
  refine L.val rfl rfl (R.eqS rfl rfl rfl rfl (b := true) (by rw [eqL_ctl]; simp)) ?_
  first | refine L.val rfl rfl (R.pickT rfl rfl) ?_ | refine L.val rfl rfl (R.pickF rfl rfl) ?_
  refine L.val rfl rfl (R.mv rfl) ?_
  refine L.isT 55 rfl (by rfl) ?_
  refine L.val rfl rfl (R.mv rfl) ?_
  refine L.val rfl rfl (R.eqI rfl rfl) ?_
  first | refine L.val rfl rfl (R.pickT rfl rfl) ?_ | refine L.val rfl rfl (R.pickF rfl rfl) ?_
  refine L.val rfl rfl (R.mv rfl) ?_
  refine L.isT 59 rfl (by rfl) ?_
  refine L.val rfl rfl (R.mv rfl) ?_
  refine L.val rfl rfl (R.eqI rfl rfl) ?_
  first | refine L.val rfl rfl (R.pickT rfl rfl) ?_ | refine L.val rfl rfl (R.pickF rfl rfl) ?_
  refine L.val rfl rfl (R.mv rfl) ?_
  refine L.isT 63 rfl (by rfl) ?_
  refine L.val rfl rfl (R.ldBN rfl B10 rfl) ?_
  refine L.val rfl rfl (R.ldBN rfl B3 rfl) ?_
  refine L.val rfl rfl (R.eqS rfl rfl rfl rfl (b := true) (by rw [eqL_ctl]; simp)) ?_
  first | refine L.val rfl rfl (R.pickT rfl rfl) ?_ | refine L.val rfl rfl (R.pickF rfl rfl) ?_
  refine L.val rfl rfl (R.mv rfl) ?_
  refine L.isT 68 rfl (by rfl) ?_
  refine L.val rfl rfl (R.ldBN rfl B3 rfl) ?_
  refine L.callF rfl rfl rfl go76 (cright_ok c4 _) ?_
  rintro _ w17 ⟨rfl, e17⟩
  replace E := E.trans0 e17
  first | refine L.val rfl rfl (R.pickT rfl rfl) ?_ | refine L.val rfl rfl (R.pickF rfl rfl) ?_
  refine L.val rfl rfl (R.mv rfl) ?_
  refine L.isT 72 rfl (by rfl) ?_
  refine L.val rfl rfl (R.build (cs := ctlC zeroC) rfl rfl) ?_
  refine L.callF rfl rfl rfl go76 (cright_ok zeroC _) ?_
  rintro _ w18 ⟨rfl, e18⟩
  replace E := E.trans0 e18
  refine L.val rfl rfl (R.not rfl) ?_
  first | refine L.val rfl rfl (R.pickT rfl rfl) ?_ | refine L.val rfl rfl (R.pickF rfl rfl) ?_
  refine L.val rfl rfl (R.as rfl) ?_
  refine L.nil ?_
  refine N.seq ?_
  refine G.ret1 rfl rfl ?_
  exact ⟨rfl, E⟩

end Go.Proofs.Ythpolibakkmmeaa
/-
  The walks of package dev.
-/
set_option linter.unusedVariables false
set_option linter.unusedSimpArgs false
namespace Go.Proofs.Ythpolibakkmmeaa
open Go Brv Brv.Image Brv.Dev
theorem DevL.zero {w : World} {d : Nat} {v : DevV} {sz : Nat} {sa : Option Addr} {sc : Nat} {wa : Option Addr} {wc : Nat} {Ms Mw : List Nat} (h : DevL w d v sz sa sc wa wc Ms Mw) : ∀ g ∈ Ms, g ∈ d :: (Ms ++ Mw) := fun g hg => by simp [hg]
theorem cellsB {w : World} {a : Option Addr} {ks : List Bool} (h : Cells w a (ks.map Value.bool)) {k : Nat} {b : Bool} (hk : ks[k]? = some b) : ∃ p, a = some p ∧ w.cell? (p.add k) = some (.bool b) := h k (.bool b) (by simp [hk])
theorem dcrash_ok (d : Nat) (v : DevV) (sz : Nat) (S : List Nat) (ka : Option Addr) (kc : Nat) (ks : List Bool) (w : World) (hd : DevAt w d v sz S) (hwb : v.wt.length ≤ 1000000) (hq : Cells w ka (ks.map Value.bool)) (hqS : ∀ p, effA ka ks = some p → p.block ∉ S) : Meets Try.prog 83 [.pointer (some ⟨d, 0, none⟩), .slice ka ks.length kc] w (fun _ w' => ∃ S', Grown S S' w w' ∧ DevAt w' d (crashV v ks) sz S') := by
  refine Meets.enter Try.func83 rfl 41 rfl (Nat.le_of_ble_eq_true rfl) ?_
  have hd0 := hd
  obtain ⟨sa, sc, wa, wc, Ms, Mw, D, rfl⟩ := hd
  have E := Ext.refl (d :: (Ms ++ Mw)) w
  have hq0 := hq
  refine G.seq ?_
  refine G.seq ?_
  refine G.region ?_
  refine L.val rfl rfl (R.mv rfl) ?_
  refine L.val rfl rfl (R.eqNilP rfl rfl) ?_
  refine L.nil ?_
  refine N.seq ?_
  refine G.condF rfl ?_
  refine G.skip ?_
  refine N.seq ?_
  refine G.seq ?_
  refine G.seq ?_
  refine G.region ?_
  refine L.val rfl rfl (R.mv rfl) ?_
  refine L.val rfl rfl (R.nilChk rfl) ?_
  refine L.val rfl rfl (R.fld rfl) ?_
  refine L.val rfl rfl (R.ldB rfl D.hd rfl) ?_
  refine L.val rfl rfl (R.lenS rfl) ?_
  refine L.val rfl rfl (R.mv rfl) ?_
  refine L.nil ?_
  refine N.seq ?_
  refine G.block ?_
  refine G.loop (X := Nat) (fun k => [(0, .pointer (some ⟨d, 0, none⟩)), (1, .slice ka ks.length kc), (11, .slice wa v.wt.length wc), (12, .int .i64 (v.wt.length : Int)), (13, .int .i64 (k : Int))]) (fun k w' => k ≤ v.wt.length ∧ DevL w' d { v with stay := (keepN v.stay v.wt ks k) } sz sa sc wa wc Ms Mw ∧ Ext (d :: (Ms ++ Mw)) w w') (fun k => v.wt.length - k) (0) (Sub.cons rfl (Sub.cons rfl (Sub.cons rfl (Sub.cons rfl (Sub.cons rfl (Sub.nil _)))))) ⟨Nat.zero_le _, D, E⟩ ?_
  rintro k w2 ⟨hk, D2, E⟩
  have hq2 : Cells w2 ka (ks.map Value.bool) := hq0.extE E hqS
  refine G.seq ?_
  refine G.region ?_
  refine L.val rfl rfl (R.lss rfl rfl) ?_
  refine L.nil ?_
  refine N.seq ?_
  refine G.seq ?_
  refine G.condP rfl (fun h1 => ?_) (fun h1 => ?_)
  · have hk2 : k < v.wt.length := by omega
    obtain ⟨x, hx⟩ : ∃ x, v.wt[k]? = some x := ⟨_, List.getElem?_eq_getElem hk2⟩
    obtain ⟨q9, hq9, hcl, hxs, hx64⟩ := D2.elem (x := x) hx
    refine G.skip ?_
    refine N.seq ?_
    refine G.seq ?_
    refine G.block ?_
    refine G.seq ?_
    refine G.region ?_
    refine L.val rfl rfl (R.mv rfl) ?_
    refine L.val rfl rfl (R.idx rfl rfl (by omega) (by omega) q9 hq9) ?_
    refine L.val rfl rfl (R.ldN rfl hcl (waitC_length hx64)) ?_
    refine L.do rfl rfl (R.alloc) ?_
    rintro _ w3 ⟨b5, rfl, hb5, hs3, e3, B5⟩
    refine L.val rfl rfl (R.as rfl) ?_
    refine L.set rfl (R.stN rfl rfl B5 (by rw [List.size_toArray, waitC_length hx64]) (by rw [List.size_toArray, waitC_length hx64]; exact Nat.le_refl 65) (waitC_one x)) ?_
    rintro w4 ⟨e4, hs4, B5⟩
    rw [all_stored (Eq.trans (by rfl : _ = 65) (by rw [List.size_toArray, waitC_length hx64]))] at B5
    have n4 := e3.news2 e4 (by omega)
    replace D2 := D2.ext0 n4
    replace E := E.trans0 n4
    refine L.nil ?_
    refine N.seq ?_
    refine G.seq ?_
    refine G.region ?_
    refine L.val rfl rfl (R.mv rfl) ?_
    refine L.val rfl rfl (R.mv rfl) ?_
    refine L.val rfl rfl (R.lenS rfl) ?_
    refine L.val rfl rfl (R.lss rfl rfl) ?_
    refine L.val rfl rfl (R.mv rfl) ?_
    refine L.caseP 22 rfl (fun hg4_4 => ?_) (fun hg4_4 => ?_)
    · have hkl : k < ks.length := by omega
      obtain ⟨bb, hbb⟩ : ∃ bb, ks[k]? = some bb := ⟨_, List.getElem?_eq_getElem hkl⟩
      obtain ⟨pk, hpk, hck⟩ := cellsB (hq2.ext0 n4) hbb
      refine L.val rfl rfl (R.mv rfl) ?_
      refine L.val rfl rfl (R.mv rfl) ?_
      refine L.val rfl rfl (R.idx rfl rfl (by omega) (by omega) pk hpk) ?_
      refine L.val rfl rfl (R.ld rfl (v := .bool bb) (by simpa using hck)) ?_
      first | refine L.val rfl rfl (R.pickT rfl rfl) ?_ | refine L.val rfl rfl (R.pickF rfl rfl) ?_
      refine L.nil ?_
      refine N.seq ?_
      refine G.condB rfl (fun h2 => ?_) (fun h2 => ?_)
      · have hkb : ks[k]? = some true := by rw [hbb, h2]
        refine G.region ?_
        refine L.val rfl rfl (R.mv rfl) ?_
        refine L.val rfl rfl (R.ldBN rfl B5 (by rw [List.size_toArray, waitC_length hx64])) ?_
        refine L.callF rfl rfl rfl go148 (settle_ok d _ sz sa sc wa wc Ms Mw x _ D2 hxs hx64) ?_
        rintro _ w5 ⟨e5, D5⟩
        replace E := E.transN e5 (fun g hg => .inl (by simp [hg]))
        refine L.nil ?_
        refine N.block ?_
        refine N.seq ?_
        refine G.region ?_
        refine L.val rfl rfl (R.add rfl rfl (by omega)) ?_
        refine L.val rfl rfl (R.mv rfl) ?_
        refine L.nil ?_
        first
          | exact N.again (k + 1) (by omega) (Sub.cons rfl (Sub.cons rfl (Sub.cons rfl (Sub.cons rfl (Sub.cons rfl (Sub.nil _)))))) ⟨by omega, by rw [keepN_yes hx hkb]; exact D5, E⟩
          | exact N.again (k + 1) (by omega) (Sub.cons rfl (Sub.cons rfl (Sub.cons rfl (Sub.cons rfl (Sub.cons rfl (Sub.nil _)))))) ⟨by omega, by rw [keepN_no hx hkb]; exact D2, E⟩
      · have hkb : ¬ ks[k]? = some true := by rw [hbb]; simpa using h2
        refine G.skip ?_
        refine N.block ?_
        refine N.seq ?_
        refine G.region ?_
        refine L.val rfl rfl (R.add rfl rfl (by omega)) ?_
        refine L.val rfl rfl (R.mv rfl) ?_
        refine L.nil ?_
        first
          | exact N.again (k + 1) (by omega) (Sub.cons rfl (Sub.cons rfl (Sub.cons rfl (Sub.cons rfl (Sub.cons rfl (Sub.nil _)))))) ⟨by omega, by rw [keepN_yes hx hkb]; exact D5, E⟩
          | exact N.again (k + 1) (by omega) (Sub.cons rfl (Sub.cons rfl (Sub.cons rfl (Sub.cons rfl (Sub.cons rfl (Sub.nil _)))))) ⟨by omega, by rw [keepN_no hx hkb]; exact D2, E⟩
    · have hkb : ¬ ks[k]? = some true := by rw [List.getElem?_eq_none (by omega)]; simp
      refine L.pass rfl rfl ?_
      refine L.pass rfl rfl ?_
      refine L.pass rfl rfl ?_
      refine L.pass rfl rfl ?_
      first | refine L.val rfl rfl (R.pickT rfl rfl) ?_ | refine L.val rfl rfl (R.pickF rfl rfl) ?_
      refine L.nil ?_
      refine N.seq ?_
      refine G.condF rfl ?_
      refine G.skip ?_
      refine N.block ?_
      refine N.seq ?_
      refine G.region ?_
      refine L.val rfl rfl (R.add rfl rfl (by omega)) ?_
      refine L.val rfl rfl (R.mv rfl) ?_
      refine L.nil ?_
      first
        | exact N.again (k + 1) (by omega) (Sub.cons rfl (Sub.cons rfl (Sub.cons rfl (Sub.cons rfl (Sub.cons rfl (Sub.nil _)))))) ⟨by omega, by rw [keepN_yes hx hkb]; exact D5, E⟩
        | exact N.again (k + 1) (by omega) (Sub.cons rfl (Sub.cons rfl (Sub.cons rfl (Sub.cons rfl (Sub.cons rfl (Sub.nil _)))))) ⟨by omega, by rw [keepN_no hx hkb]; exact D2, E⟩
  · obtain rfl : k = v.wt.length := by omega
    have ap := D2.apart
    refine G.exit _ rfl ?_
    refine N.seq ?_
    refine G.region ?_
    refine L.val rfl rfl (R.mv rfl) ?_
    refine L.val rfl rfl (R.mv rfl) ?_
    refine L.val rfl rfl (R.mv rfl) ?_
    refine L.val rfl rfl (R.nilChk rfl) ?_
    refine L.val rfl rfl (R.fld rfl) ?_
    refine L.set rfl (R.st rfl rfl D2.hd (by show 1 < 5; decide) rfl) ?_
    rintro w6 ⟨e6, hs6, B6⟩
    replace B6 : Blk w6 d #[.slice sa (keepN v.stay v.wt ks v.wt.length).length sc, .slice none 0 0, .int .i64 v.calls, .int .i64 v.left, .bool v.off] 234 (0, 0) := B6
    have D6 := D2.none e6 B6
    replace E := E.transN e6 (fun g hg => .inl (by rw [List.mem_singleton.1 hg]; simp))
    refine L.val rfl rfl (R.nilChk rfl) ?_
    refine L.val rfl rfl (R.fld rfl) ?_
    refine L.set rfl (R.st rfl rfl B6 (by show 4 < 5; decide) rfl) ?_
    rintro w7 ⟨e7, hs7, B7⟩
    replace B7 : Blk w7 d #[.slice sa (keepN v.stay v.wt ks v.wt.length).length sc, .slice none 0 0, .int .i64 v.calls, .int .i64 v.left, .bool false] 234 (0, 0) := B7
    have D7 : DevL w7 d { v with stay := (keepN v.stay v.wt ks v.wt.length), wt := [], off := false } sz sa sc none 0 Ms [] := D6.fld e7 B7 rfl rfl ⟨D6.wf.len, D6.wf.wt, D6.wf.left⟩
    replace E := E.transN e7 (fun g hg => .inl (by rw [List.mem_singleton.1 hg]; simp))
    refine L.val rfl rfl (R.nilChk rfl) ?_
    refine L.val rfl rfl (R.fld rfl) ?_
    refine L.set rfl (R.st rfl rfl B7 (by show 3 < 5; decide) rfl) ?_
    rintro w8 ⟨e8, hs8, B8⟩
    replace B8 : Blk w8 d #[.slice sa (keepN v.stay v.wt ks v.wt.length).length sc, .slice none 0 0, .int .i64 v.calls, .int .i64 (-1), .bool false] 234 (0, 0) := B8
    have D8 : DevL w8 d (crashV v ks) sz sa sc none 0 Ms [] := D7.fld e8 B8 rfl rfl (crashV_wf hd0.wf.1)
    replace E := E.transN e8 (fun g hg => .inl (by rw [List.mem_singleton.1 hg]; simp))
    refine L.nil ?_
    refine N.end0 rfl ?_
    exact ⟨_, ⟨E, fun g hg => .inl (by simp at hg ⊢; rcases hg with h | h <;> simp [h])⟩, sa, sc, none, 0, Ms, [], D8, rfl⟩

theorem dcrash_nil (x : Value) (w : World) : Meets Try.prog 83 [.pointer none, x] w (fun _ w' => w' = w) := by
  refine Meets.enter Try.func83 rfl 41 rfl (Nat.le_of_ble_eq_true rfl) ?_
  refine G.seq ?_
  refine G.seq ?_
  refine G.region ?_
  refine L.val rfl rfl (R.mv rfl) ?_
  refine L.val rfl rfl (R.eqNilP rfl rfl) ?_
  refine L.nil ?_
  refine N.seq ?_
  refine G.condT rfl ?_
  refine G.ret0 rfl ?_
  exact rfl

theorem dlimit_ok (d : Nat) (v : DevV) (sz : Nat) (S : List Nat) (n : Int) (w : World) (hd : DevAt w d v sz S) (hn : n ≤ 9223372036854775807) : Meets Try.prog 82 [.pointer (some ⟨d, 0, none⟩), .int .i64 n] w (fun _ w' => Ext S w w' ∧ DevAt w' d (limitV v n) sz S) := by
  refine Meets.enter Try.func82 rfl 11 rfl (Nat.le_of_ble_eq_true rfl) ?_
  have hd0 := hd
  obtain ⟨sa, sc, wa, wc, Ms, Mw, D, rfl⟩ := hd
  refine G.seq ?_
  refine G.region ?_
  refine L.val rfl rfl (R.mv rfl) ?_
  refine L.val rfl rfl (R.neNilP rfl rfl) ?_
  refine L.nil ?_
  refine N.seq ?_
  refine G.condT rfl ?_
  refine G.region ?_
  refine L.val rfl rfl (R.mv rfl) ?_
  refine L.val rfl rfl (R.mv rfl) ?_
  refine L.val rfl rfl (R.max rfl rfl (max n (-1)) (by split <;> omega)) ?_
  refine L.val rfl rfl (R.nilChk rfl) ?_
  refine L.val rfl rfl (R.fld rfl) ?_
  refine L.set rfl (R.st rfl rfl D.hd (by show 3 < 5; decide) rfl) ?_
  rintro w1 ⟨e1, hs1, B1⟩
  refine L.nil ?_
  refine N.end0 rfl ?_
  exact ⟨e1.mono (by simp), sa, sc, wa, wc, Ms, Mw, D.fld e1 B1 rfl rfl (limitV_wf hd0.wf.1 hn), rfl⟩

theorem dlimit_nil (x : Value) (w : World) : Meets Try.prog 82 [.pointer none, x] w (fun _ w' => w' = w) := by
  refine Meets.enter Try.func82 rfl 11 rfl (Nat.le_of_ble_eq_true rfl) ?_
  refine G.seq ?_
  refine G.region ?_
  refine L.val rfl rfl (R.mv rfl) ?_
  refine L.val rfl rfl (R.neNilP rfl rfl) ?_
  refine L.nil ?_
  refine N.seq ?_
  refine G.condF rfl ?_
  refine G.skip ?_
  refine N.end0 rfl ?_
  exact rfl



end Go.Proofs.Ythpolibakkmmeaa
