/-
  Texts of this claim, put together.
-/
import Derived.Test.YtiiiplhfgblamaaRecBLz1
/-
  The walks of package record.
-/
set_option linter.unusedVariables false
set_option linter.unusedSimpArgs false
set_option maxRecDepth 4000
namespace Go.Proofs.Ytiiiplhfgblamaa
open Go Brv
def okAt (ws : List (Int × List UInt8)) (i : Nat) : Prop := ∀ x, ws[i]? = some x → (0 ≤ x.1 ∧ x.1 ≤ 63) ∧ x.2.length = 64 ∧ ∀ y, 0 < i → ws[i - 1]? = some y → y.1 < x.1
def okWs (ws : List (Int × List UInt8)) : Prop := ∀ i, okAt ws i
def okTN (tl nu : Int) : Prop := (1 ≤ tl ∧ tl ≤ 2147483647) ∧ (0 ≤ nu ∧ nu ≤ 1099511627776)
def okR (kd tl nu : Int) (ws : List (Int × List UInt8)) : Prop := (kd = 1 ∧ okTN tl nu ∧ ws.length = 0) ∨ (kd = 2 ∧ (tl = 0 ∧ nu = 0) ∧ ws.length = 0) ∨ (kd = 3 ∧ okTN tl nu ∧ 0 < nu ∧ okWs ws)
theorem at_map {r : RowW} {i : Nat} {x : WriteV} {h : i < r.os.length} (hx : x = r.os[i]'h) : (r.os.map wv)[i]? = some (wv x) := by
  rw [List.getElem?_map, List.getElem?_eq_getElem h, hx]; rfl

theorem rsame_ok (kd tl nu kd2 tl2 nu2 : Int) (r r2 : RowW) (w : World) (hr : r.ok w) (hr2 : r2.ok w) : Meets Try.prog 22 [.agg #[.int .i64 kd, .int .i64 tl, .int .i64 nu, .slice r.a r.n r.c], .agg #[.int .i64 kd2, .int .i64 tl2, .int .i64 nu2, .slice r2.a r2.n r2.c]] w (fun v w' => v = .bool (decide ((kd = kd2 ∧ tl = tl2 ∧ nu = nu2) ∧ r.os.map wv = r2.os.map wv)) ∧ Ext [] w w') := by
  refine Meets.enter Try.func22 rfl 31 rfl (Nat.le_of_ble_eq_true rfl) ?_
  have E := Ext.refl [] w
  refine G.seq ?_
  refine G.region ?_
  refine L.do rfl rfl (R.box rfl) ?_
  rintro _ w1 ⟨b2, rfl, hb2, hs2, e1, B2⟩
  replace E := E.trans0 e1
  refine L.do rfl rfl (R.box rfl) ?_
  rintro _ w2 ⟨b3, rfl, hb3, hs3, e2, B3⟩
  replace E := E.trans0 e2
  replace B2 := B2.ext0 e2
  refine L.val rfl rfl (R.as rfl) ?_
  refine L.nil ?_
  refine N.seq ?_
  refine G.seq ?_
  refine G.region ?_
  refine L.val rfl rfl (R.fld rfl) ?_
  refine L.val rfl rfl (R.ldB (v := .int .i64 kd) rfl B2 rfl) ?_
  refine L.val rfl rfl (R.fld rfl) ?_
  refine L.val rfl rfl (R.ldB (v := .int .i64 kd2) rfl B3 rfl) ?_
  refine L.val rfl rfl (R.eqI rfl rfl) ?_
  refine L.val rfl rfl (R.mv rfl) ?_
  refine L.caseP 10 rfl (fun hg1_5 => ?_) (fun hg1_5 => ?_)
  · refine L.val rfl rfl (R.fld rfl) ?_
    refine L.val rfl rfl (R.ldB (v := .int .i64 tl) rfl B2 rfl) ?_
    refine L.val rfl rfl (R.fld rfl) ?_
    refine L.val rfl rfl (R.ldB (v := .int .i64 tl2) rfl B3 rfl) ?_
    refine L.val rfl rfl (R.eqI rfl rfl) ?_
    first | refine L.val rfl rfl (R.pickT rfl rfl) ?_ | refine L.val rfl rfl (R.pickF rfl rfl) ?_
    refine L.val rfl rfl (R.mv rfl) ?_
    refine L.caseP 17 rfl (fun hg1_12 => ?_) (fun hg1_12 => ?_)
    · refine L.val rfl rfl (R.fld rfl) ?_
      refine L.val rfl rfl (R.ldB (v := .int .i64 nu) rfl B2 rfl) ?_
      refine L.val rfl rfl (R.fld rfl) ?_
      refine L.val rfl rfl (R.ldB (v := .int .i64 nu2) rfl B3 rfl) ?_
      refine L.val rfl rfl (R.eqI rfl rfl) ?_
      first | refine L.val rfl rfl (R.pickT rfl rfl) ?_ | refine L.val rfl rfl (R.pickF rfl rfl) ?_
      refine L.val rfl rfl (R.mv rfl) ?_
      refine L.caseP 24 rfl (fun hg1_19 => ?_) (fun hg1_19 => ?_)
      · refine L.val rfl rfl (R.fld rfl) ?_
        refine L.val rfl rfl (R.ldB (v := .slice r.a r.n r.c) rfl B2 rfl) ?_
        refine L.val rfl rfl (R.fld rfl) ?_
        refine L.val rfl rfl (R.ldB (v := .slice r2.a r2.n r2.c) rfl B3 rfl) ?_
        refine L.callF rfl rfl rfl go71 (eqfunc_ok r r2 _ (hr.ext0 E) (hr2.ext0 E)) ?_
        rintro _ w3 ⟨rfl, e3⟩
        replace E := E.trans0 e3
        first | refine L.val rfl rfl (R.pickT rfl rfl) ?_ | refine L.val rfl rfl (R.pickF rfl rfl) ?_
        refine L.val rfl rfl (R.as rfl) ?_
        refine L.nil ?_
        refine N.seq ?_
        refine G.ret1 rfl rfl ?_
        first
          | exact ⟨congrArg Value.bool (by rw [decide_eq_decide]; exact ⟨fun h => ⟨⟨hg1_5, hg1_12, hg1_19⟩, h⟩, fun h => h.2⟩), E⟩
          | exact ⟨congrArg Value.bool (by rw [eq_comm, decide_eq_false_iff_not]; rintro ⟨⟨h1, h2, h3⟩, _⟩; first | exact hg1_5 h1 | exact hg1_12 h2 | exact hg1_19 h3), E⟩
      · refine L.pass rfl rfl ?_
        refine L.pass rfl rfl ?_
        refine L.pass rfl rfl ?_
        refine L.pass rfl rfl ?_
        refine L.pass rfl rfl ?_
        first | refine L.val rfl rfl (R.pickT rfl rfl) ?_ | refine L.val rfl rfl (R.pickF rfl rfl) ?_
        refine L.val rfl rfl (R.as rfl) ?_
        refine L.nil ?_
        refine N.seq ?_
        refine G.ret1 rfl rfl ?_
        first
          | exact ⟨congrArg Value.bool (by rw [decide_eq_decide]; exact ⟨fun h => ⟨⟨hg1_5, hg1_12, hg1_19⟩, h⟩, fun h => h.2⟩), E⟩
          | exact ⟨congrArg Value.bool (by rw [eq_comm, decide_eq_false_iff_not]; rintro ⟨⟨h1, h2, h3⟩, _⟩; first | exact hg1_5 h1 | exact hg1_12 h2 | exact hg1_19 h3), E⟩
    · refine L.pass rfl rfl ?_
      refine L.pass rfl rfl ?_
      refine L.pass rfl rfl ?_
      refine L.pass rfl rfl ?_
      refine L.pass rfl rfl ?_
      first | refine L.val rfl rfl (R.pickT rfl rfl) ?_ | refine L.val rfl rfl (R.pickF rfl rfl) ?_
      refine L.val rfl rfl (R.mv rfl) ?_
      refine L.pass rfl rfl ?_
      refine L.pass rfl rfl ?_
      refine L.pass rfl rfl ?_
      refine L.pass rfl rfl ?_
      refine L.pass rfl rfl ?_
      first | refine L.val rfl rfl (R.pickT rfl rfl) ?_ | refine L.val rfl rfl (R.pickF rfl rfl) ?_
      refine L.val rfl rfl (R.as rfl) ?_
      refine L.nil ?_
      refine N.seq ?_
      refine G.ret1 rfl rfl ?_
      first
        | exact ⟨congrArg Value.bool (by rw [decide_eq_decide]; exact ⟨fun h => ⟨⟨hg1_5, hg1_12, hg1_19⟩, h⟩, fun h => h.2⟩), E⟩
        | exact ⟨congrArg Value.bool (by rw [eq_comm, decide_eq_false_iff_not]; rintro ⟨⟨h1, h2, h3⟩, _⟩; first | exact hg1_5 h1 | exact hg1_12 h2 | exact hg1_19 h3), E⟩
  · refine L.pass rfl rfl ?_
    refine L.pass rfl rfl ?_
    refine L.pass rfl rfl ?_
    refine L.pass rfl rfl ?_
    refine L.pass rfl rfl ?_
    first | refine L.val rfl rfl (R.pickT rfl rfl) ?_ | refine L.val rfl rfl (R.pickF rfl rfl) ?_
    refine L.val rfl rfl (R.mv rfl) ?_
    refine L.pass rfl rfl ?_
    refine L.pass rfl rfl ?_
    refine L.pass rfl rfl ?_
    refine L.pass rfl rfl ?_
    refine L.pass rfl rfl ?_
    first | refine L.val rfl rfl (R.pickT rfl rfl) ?_ | refine L.val rfl rfl (R.pickF rfl rfl) ?_
    refine L.val rfl rfl (R.mv rfl) ?_
    refine L.pass rfl rfl ?_
    refine L.pass rfl rfl ?_
    refine L.pass rfl rfl ?_
    refine L.pass rfl rfl ?_
    refine L.pass rfl rfl ?_
    first | refine L.val rfl rfl (R.pickT rfl rfl) ?_ | refine L.val rfl rfl (R.pickF rfl rfl) ?_
    refine L.val rfl rfl (R.as rfl) ?_
    refine L.nil ?_
    refine N.seq ?_
    refine G.ret1 rfl rfl ?_
    first
      | exact ⟨congrArg Value.bool (by rw [decide_eq_decide]; exact ⟨fun h => ⟨⟨hg1_5, hg1_12, hg1_19⟩, h⟩, fun h => h.2⟩), E⟩
      | exact ⟨congrArg Value.bool (by rw [eq_comm, decide_eq_false_iff_not]; rintro ⟨⟨h1, h2, h3⟩, _⟩; first | exact hg1_5 h1 | exact hg1_12 h2 | exact hg1_19 h3), E⟩

theorem refsame_ok (kd tl nu kd2 tl2 nu2 : Int) (r r2 : RowW) (w : World) (hr : r.ok w) (hr2 : r2.ok w) : Meets Try.prog 23 [.agg #[.int .i64 kd, .int .i64 tl, .int .i64 nu, .slice r.a r.n r.c], .agg #[.int .i64 kd2, .int .i64 tl2, .int .i64 nu2, .slice r2.a r2.n r2.c]] w (fun v w' => v = .bool (decide ((kd = kd2 ∧ tl = tl2 ∧ nu = nu2) ∧ r.os.map wv = r2.os.map wv)) ∧ Ext [] w w') := by
  refine Meets.enter Try.func23 rfl 31 rfl (Nat.le_of_ble_eq_true rfl) ?_
  have E := Ext.refl [] w
  refine G.seq ?_
  refine G.region ?_
  refine L.do rfl rfl (R.box rfl) ?_
  rintro _ w1 ⟨b2, rfl, hb2, hs2, e1, B2⟩
  replace E := E.trans0 e1
  refine L.do rfl rfl (R.box rfl) ?_
  rintro _ w2 ⟨b3, rfl, hb3, hs3, e2, B3⟩
  replace E := E.trans0 e2
  replace B2 := B2.ext0 e2
  refine L.val rfl rfl (R.as rfl) ?_
  refine L.nil ?_
  refine N.seq ?_
  refine G.seq ?_
  refine G.region ?_
  refine L.val rfl rfl (R.fld rfl) ?_
  refine L.val rfl rfl (R.ldB (v := .int .i64 kd) rfl B2 rfl) ?_
  refine L.val rfl rfl (R.fld rfl) ?_
  refine L.val rfl rfl (R.ldB (v := .int .i64 kd2) rfl B3 rfl) ?_
  refine L.val rfl rfl (R.eqI rfl rfl) ?_
  refine L.val rfl rfl (R.mv rfl) ?_
  refine L.caseP 10 rfl (fun hg1_5 => ?_) (fun hg1_5 => ?_)
  · refine L.val rfl rfl (R.fld rfl) ?_
    refine L.val rfl rfl (R.ldB (v := .int .i64 tl) rfl B2 rfl) ?_
    refine L.val rfl rfl (R.fld rfl) ?_
    refine L.val rfl rfl (R.ldB (v := .int .i64 tl2) rfl B3 rfl) ?_
    refine L.val rfl rfl (R.eqI rfl rfl) ?_
    first | refine L.val rfl rfl (R.pickT rfl rfl) ?_ | refine L.val rfl rfl (R.pickF rfl rfl) ?_
    refine L.val rfl rfl (R.mv rfl) ?_
    refine L.caseP 17 rfl (fun hg1_12 => ?_) (fun hg1_12 => ?_)
    · refine L.val rfl rfl (R.fld rfl) ?_
      refine L.val rfl rfl (R.ldB (v := .int .i64 nu) rfl B2 rfl) ?_
      refine L.val rfl rfl (R.fld rfl) ?_
      refine L.val rfl rfl (R.ldB (v := .int .i64 nu2) rfl B3 rfl) ?_
      refine L.val rfl rfl (R.eqI rfl rfl) ?_
      first | refine L.val rfl rfl (R.pickT rfl rfl) ?_ | refine L.val rfl rfl (R.pickF rfl rfl) ?_
      refine L.val rfl rfl (R.mv rfl) ?_
      refine L.caseP 24 rfl (fun hg1_19 => ?_) (fun hg1_19 => ?_)
      · refine L.val rfl rfl (R.fld rfl) ?_
        refine L.val rfl rfl (R.ldB (v := .slice r.a r.n r.c) rfl B2 rfl) ?_
        refine L.val rfl rfl (R.fld rfl) ?_
        refine L.val rfl rfl (R.ldB (v := .slice r2.a r2.n r2.c) rfl B3 rfl) ?_
        refine L.callF rfl rfl rfl go24 (rsamew_ok r r2 _ (hr.ext0 E) (hr2.ext0 E)) ?_
        rintro _ w3 ⟨rfl, e3⟩
        replace E := E.trans0 e3
        first | refine L.val rfl rfl (R.pickT rfl rfl) ?_ | refine L.val rfl rfl (R.pickF rfl rfl) ?_
        refine L.val rfl rfl (R.as rfl) ?_
        refine L.nil ?_
        refine N.seq ?_
        refine G.ret1 rfl rfl ?_
        first
          | exact ⟨congrArg Value.bool (by rw [decide_eq_decide]; exact ⟨fun h => ⟨⟨hg1_5, hg1_12, hg1_19⟩, h⟩, fun h => h.2⟩), E⟩
          | exact ⟨congrArg Value.bool (by rw [eq_comm, decide_eq_false_iff_not]; rintro ⟨⟨h1, h2, h3⟩, _⟩; first | exact hg1_5 h1 | exact hg1_12 h2 | exact hg1_19 h3), E⟩
      · refine L.pass rfl rfl ?_
        refine L.pass rfl rfl ?_
        refine L.pass rfl rfl ?_
        refine L.pass rfl rfl ?_
        refine L.pass rfl rfl ?_
        first | refine L.val rfl rfl (R.pickT rfl rfl) ?_ | refine L.val rfl rfl (R.pickF rfl rfl) ?_
        refine L.val rfl rfl (R.as rfl) ?_
        refine L.nil ?_
        refine N.seq ?_
        refine G.ret1 rfl rfl ?_
        first
          | exact ⟨congrArg Value.bool (by rw [decide_eq_decide]; exact ⟨fun h => ⟨⟨hg1_5, hg1_12, hg1_19⟩, h⟩, fun h => h.2⟩), E⟩
          | exact ⟨congrArg Value.bool (by rw [eq_comm, decide_eq_false_iff_not]; rintro ⟨⟨h1, h2, h3⟩, _⟩; first | exact hg1_5 h1 | exact hg1_12 h2 | exact hg1_19 h3), E⟩
    · refine L.pass rfl rfl ?_
      refine L.pass rfl rfl ?_
      refine L.pass rfl rfl ?_
      refine L.pass rfl rfl ?_
      refine L.pass rfl rfl ?_
      first | refine L.val rfl rfl (R.pickT rfl rfl) ?_ | refine L.val rfl rfl (R.pickF rfl rfl) ?_
      refine L.val rfl rfl (R.mv rfl) ?_
      refine L.pass rfl rfl ?_
      refine L.pass rfl rfl ?_
      refine L.pass rfl rfl ?_
      refine L.pass rfl rfl ?_
      refine L.pass rfl rfl ?_
      first | refine L.val rfl rfl (R.pickT rfl rfl) ?_ | refine L.val rfl rfl (R.pickF rfl rfl) ?_
      refine L.val rfl rfl (R.as rfl) ?_
      refine L.nil ?_
      refine N.seq ?_
      refine G.ret1 rfl rfl ?_
      first
        | exact ⟨congrArg Value.bool (by rw [decide_eq_decide]; exact ⟨fun h => ⟨⟨hg1_5, hg1_12, hg1_19⟩, h⟩, fun h => h.2⟩), E⟩
        | exact ⟨congrArg Value.bool (by rw [eq_comm, decide_eq_false_iff_not]; rintro ⟨⟨h1, h2, h3⟩, _⟩; first | exact hg1_5 h1 | exact hg1_12 h2 | exact hg1_19 h3), E⟩
  · refine L.pass rfl rfl ?_
    refine L.pass rfl rfl ?_
    refine L.pass rfl rfl ?_
    refine L.pass rfl rfl ?_
    refine L.pass rfl rfl ?_
    first | refine L.val rfl rfl (R.pickT rfl rfl) ?_ | refine L.val rfl rfl (R.pickF rfl rfl) ?_
    refine L.val rfl rfl (R.mv rfl) ?_
    refine L.pass rfl rfl ?_
    refine L.pass rfl rfl ?_
    refine L.pass rfl rfl ?_
    refine L.pass rfl rfl ?_
    refine L.pass rfl rfl ?_
    first | refine L.val rfl rfl (R.pickT rfl rfl) ?_ | refine L.val rfl rfl (R.pickF rfl rfl) ?_
    refine L.val rfl rfl (R.mv rfl) ?_
    refine L.pass rfl rfl ?_
    refine L.pass rfl rfl ?_
    refine L.pass rfl rfl ?_
    refine L.pass rfl rfl ?_
    refine L.pass rfl rfl ?_
    first | refine L.val rfl rfl (R.pickT rfl rfl) ?_ | refine L.val rfl rfl (R.pickF rfl rfl) ?_
    refine L.val rfl rfl (R.as rfl) ?_
    refine L.nil ?_
    refine N.seq ?_
    refine G.ret1 rfl rfl ?_
    first
      | exact ⟨congrArg Value.bool (by rw [decide_eq_decide]; exact ⟨fun h => ⟨⟨hg1_5, hg1_12, hg1_19⟩, h⟩, fun h => h.2⟩), E⟩
      | exact ⟨congrArg Value.bool (by rw [eq_comm, decide_eq_false_iff_not]; rintro ⟨⟨h1, h2, h3⟩, _⟩; first | exact hg1_5 h1 | exact hg1_12 h2 | exact hg1_19 h3), E⟩

theorem rwrites_ok (r : RowW) (w : World) (hr : r.ok w) : Meets Try.prog 67 [.slice r.a r.n r.c] w (fun v w' => ∃ b, v = .bool b ∧ (b = true ↔ okWs (r.os.map wv)) ∧ Ext [] w w') := by
  refine Meets.enter Try.func67 rfl 38 rfl (Nat.le_of_ble_eq_true rfl) ?_
  have E := Ext.refl [] w
  obtain ⟨hrc, hrT, hrO⟩ := hr
  have hrl := hrT.len
  rw [List.length_map] at hrl
  refine G.seq ?_
  refine G.region ?_
  refine L.val rfl rfl (R.as rfl) ?_
  refine L.nil ?_
  refine N.seq ?_
  refine G.seq ?_
  refine G.seq ?_
  refine G.region ?_
  refine L.val rfl rfl (R.mv rfl) ?_
  refine L.val rfl rfl (R.lenS rfl) ?_
  refine L.val rfl rfl (R.mv rfl) ?_
  refine L.nil ?_
  refine N.seq ?_
  refine G.block ?_
  refine G.loop (X := Nat) (fun s => [(0, .slice r.a r.n r.c), (5, .slice r.a r.n r.c), (6, .int .i64 (r.n : Int)), (7, .int .i64 (s : Int))]) (fun s w' => s ≤ r.n ∧ (∀ j, j < s → okAt (r.os.map wv) j) ∧ Ext [] w w') (fun s => r.n - s) (0) (Sub.cons rfl (Sub.cons rfl (Sub.cons rfl (Sub.cons rfl (Sub.nil _))))) ⟨Nat.zero_le _, (by intro j hj; omega), E⟩ ?_
  rintro i w1 ⟨hi, hall, E⟩
  refine G.sub [(0, .slice r.a r.n r.c), (5, .slice r.a r.n r.c), (6, .int .i64 (r.n : Int)), (7, .int .i64 (i : Int))] (Sub.cons rfl (Sub.cons rfl (Sub.cons rfl (Sub.cons rfl (Sub.nil _))))) ?_
  refine G.seq ?_
  refine G.region ?_
  refine L.val rfl rfl (R.lss rfl rfl) ?_
  refine L.nil ?_
  refine N.seq ?_
  refine G.seq ?_
  refine G.condP rfl (fun h0 => ?_) (fun h0 => ?_)
  · refine G.skip ?_
    refine N.seq ?_
    refine G.seq ?_
    refine G.block ?_
    refine G.seq ?_
    refine G.region ?_
    refine L.val rfl rfl (R.mv rfl) ?_
    obtain ⟨q2, hq2, hcl2⟩ := hrT.at (by decide) i (by rw [List.length_map]; omega)
    rw [List.getElem_map] at hcl2
    have hokx := hrO _ (List.getElem_mem (show i < r.os.length by omega))
    obtain ⟨x, hoe2⟩ : ∃ x, x = r.os[i]'(by omega) := ⟨_, rfl⟩
    rw [← hoe2] at hcl2 hokx
    refine L.val rfl rfl (R.idx rfl rfl (by omega) (by omega) q2 hq2) ?_
    refine L.val rfl rfl (R.ldN rfl (hcl2.ext0 E) rfl) ?_
    refine L.do rfl rfl (R.alloc) ?_
    rintro _ w2 ⟨b4, rfl, hbx2, hsx2, e2, B4⟩
    have hEx2 := E.size
    replace E := E.trans0 e2
    refine L.val rfl rfl (R.as rfl) ?_
    refine L.set rfl (R.stN rfl rfl B4 rfl (Nat.le_refl 2) (WriteV.cells.one _)) ?_
    rintro w3 ⟨e3, hsx3, B4⟩
    replace B4 : Blk w3 b4 x.cells.toArray 40 (0, 0) := B4
    replace E := E.trans e3 (M := []) (by simp) (by intro x hx; rw [List.mem_singleton.1 hx]; exact .inr (by omega))
    refine L.nil ?_
    refine N.seq ?_
    refine G.seq ?_
    refine G.quiet (by decide +kernel) rfl ?_
    refine Q.val rfl rfl rfl rfl (fun w4 hE => R.fld rfl) ?_
    refine Q.val rfl rfl rfl rfl (fun w4 hE => R.ldB (v := .int .i64 x.Block') rfl (B4.ext0 hE) rfl) ?_
    refine Q.call (Value.bool (decide (0 ≤ x.Block' ∧ x.Block' ≤ 63))) rfl rfl rfl go66 (fun w4 hE => ⟨_, rfl, (rbetween_ok _ _ _ _).mono (by rintro _ _ ⟨rfl, rfl⟩; exact ⟨rfl, Ext.refl _ _⟩)⟩) ?_
    refine Q.val rfl rfl rfl rfl (fun w4 hE => R.not rfl) ?_
    refine Q.val rfl rfl rfl rfl (fun w4 hE => R.mv rfl) ?_
    refine Q.caseB 16 rfl (fun hg4_4 => ?_) (fun hg4_4 => ?_)
    · have hbad : ¬ okAt (r.os.map wv) i := fun h => by have h9 := (h _ (at_map hoe2)).1; simp only [Bool.not_eq_true', decide_eq_false_iff_not] at hg4_4; exact hg4_4 h9
      refine Q.pass rfl rfl rfl ?_
      refine Q.pass rfl rfl rfl ?_
      refine Q.pass rfl rfl rfl ?_
      refine Q.pass rfl rfl rfl ?_
      first | refine Q.val rfl rfl rfl rfl (fun w4 hE => R.pickT rfl rfl) ?_ | refine Q.val rfl rfl rfl rfl (fun w4 hE => R.pickF rfl rfl) ?_
      refine Q.val rfl rfl rfl rfl (fun w4 hE => R.mv rfl) ?_
      refine Q.pass rfl rfl rfl ?_
      refine Q.pass rfl rfl rfl ?_
      refine Q.pass rfl rfl rfl ?_
      refine Q.pass rfl rfl rfl ?_
      refine Q.pass rfl rfl rfl ?_
      refine Q.pass rfl rfl rfl ?_
      refine Q.pass rfl rfl rfl ?_
      refine Q.pass rfl rfl rfl ?_
      refine Q.pass rfl rfl rfl ?_
      refine Q.pass rfl rfl rfl ?_
      refine Q.pass rfl rfl rfl ?_
      refine Q.pass rfl rfl rfl ?_
      refine Q.pass rfl rfl rfl ?_
      first | refine Q.val rfl rfl rfl rfl (fun w4 hE => R.pickT rfl rfl) ?_ | refine Q.val rfl rfl rfl rfl (fun w4 hE => R.pickF rfl rfl) ?_
      refine Q.nil (fun w4 e4 => ?_)
      replace E := E.trans0 e4
      refine N.seq ?_
      refine G.condT rfl ?_
      refine G.seq ?_
      refine G.region ?_
      refine L.val rfl rfl (R.as rfl) ?_
      refine L.nil ?_
      refine N.seq ?_
      refine G.ret1 rfl rfl ?_
      first
        | exact ⟨false, rfl, ⟨fun h => (by cases h), fun h => absurd (h i) hbad⟩, E⟩
        | exact ⟨true, rfl, ⟨fun _ j => (Nat.lt_or_ge j i).elim (hall j) (fun h9 z hz => by have := (List.getElem?_eq_some_iff.1 hz).1; rw [List.length_map] at this; omega), fun _ => rfl⟩, E⟩
    · have hbk : 0 ≤ x.Block' ∧ x.Block' ≤ 63 := by simpa using hg4_4
      have hxl := hokx.2.2.len
      refine Q.val rfl rfl rfl rfl (fun w4 hE => R.fld rfl) ?_
      refine Q.val rfl rfl rfl rfl (fun w4 hE => R.ldB (v := .slice x.B'a x.B'n x.B'c) rfl (B4.ext0 hE) rfl) ?_
      refine Q.val rfl rfl rfl rfl (fun w4 hE => R.lenS rfl) ?_
      refine Q.val rfl rfl rfl rfl (fun w4 hE => R.neI rfl rfl) ?_
      first | refine Q.val rfl rfl rfl rfl (fun w4 hE => R.pickT rfl rfl) ?_ | refine Q.val rfl rfl rfl rfl (fun w4 hE => R.pickF rfl rfl) ?_
      refine Q.val rfl rfl rfl rfl (fun w4 hE => R.mv rfl) ?_
      refine Q.caseP 22 rfl (fun hg4_10 => ?_) (fun hg4_10 => ?_)
      · have hbad : ¬ okAt (r.os.map wv) i := fun h => by have h9 : x.B'.length = 64 := (h _ (at_map hoe2)).2.1; omega
        refine Q.pass rfl rfl rfl ?_
        refine Q.pass rfl rfl rfl ?_
        refine Q.pass rfl rfl rfl ?_
        refine Q.pass rfl rfl rfl ?_
        refine Q.pass rfl rfl rfl ?_
        refine Q.pass rfl rfl rfl ?_
        refine Q.pass rfl rfl rfl ?_
        refine Q.pass rfl rfl rfl ?_
        refine Q.pass rfl rfl rfl ?_
        refine Q.pass rfl rfl rfl ?_
        refine Q.pass rfl rfl rfl ?_
        refine Q.pass rfl rfl rfl ?_
        refine Q.pass rfl rfl rfl ?_
        first | refine Q.val rfl rfl rfl rfl (fun w4 hE => R.pickT rfl rfl) ?_ | refine Q.val rfl rfl rfl rfl (fun w4 hE => R.pickF rfl rfl) ?_
        refine Q.nil (fun w4 e4 => ?_)
        replace E := E.trans0 e4
        refine N.seq ?_
        refine G.condT rfl ?_
        refine G.seq ?_
        refine G.region ?_
        refine L.val rfl rfl (R.as rfl) ?_
        refine L.nil ?_
        refine N.seq ?_
        refine G.ret1 rfl rfl ?_
        first
          | exact ⟨false, rfl, ⟨fun h => (by cases h), fun h => absurd (h i) hbad⟩, E⟩
          | exact ⟨true, rfl, ⟨fun _ j => (Nat.lt_or_ge j i).elim (hall j) (fun h9 z hz => by have := (List.getElem?_eq_some_iff.1 hz).1; rw [List.length_map] at this; omega), fun _ => rfl⟩, E⟩
      · have hx64 : x.B'.length = 64 := by omega
        refine Q.val rfl rfl rfl rfl (fun w4 hE => R.mv rfl) ?_
        refine Q.val rfl rfl rfl rfl (fun w4 hE => R.gtr rfl rfl) ?_
        refine Q.val rfl rfl rfl rfl (fun w4 hE => R.mv rfl) ?_
        refine Q.caseP 25 rfl (fun hg4_13 => ?_) (fun hg4_13 => ?_)
        · obtain ⟨i0, hi0⟩ : ∃ i0, i0 = i - 1 := ⟨_, rfl⟩
          obtain ⟨q7, hq7, hcl7⟩ := hrT.at (by decide) i0 (by rw [List.length_map]; omega)
          rw [List.getElem_map] at hcl7
          obtain ⟨y, hoe7⟩ : ∃ y, y = r.os[i0]'(by omega) := ⟨_, rfl⟩
          rw [← hoe7] at hcl7
          obtain ⟨p7, hp7, ha7⟩ := hcl7 0 (.int .i64 y.Block') rfl
          cases hp7
          have hprev : (r.os.map wv)[i - 1]? = some (wv y) := by rw [← hi0]; exact at_map hoe7
          refine Q.val rfl rfl rfl rfl (fun w4 hE => R.mv rfl) ?_
          refine Q.val rfl rfl rfl rfl (fun w4 hE => R.mv rfl) ?_
          refine Q.val rfl rfl rfl rfl (fun w4 hE => R.sub' rfl rfl (by omega)) ?_
          refine Q.val rfl rfl rfl rfl (fun w4 hE => R.idx rfl rfl (by omega) (by omega) q7 hq7) ?_
          refine Q.val rfl rfl rfl rfl (fun w4 hE => R.fldA rfl) ?_
          refine Q.val rfl rfl rfl rfl (fun w4 hE => R.ld rfl (v := .int .i64 y.Block') (by rw [show ((i : Int) - 1).toNat = i0 by omega]; exact (Still.of (E.trans0 hE)).cell ha7)) ?_
          refine Q.val rfl rfl rfl rfl (fun w4 hE => R.fld rfl) ?_
          refine Q.val rfl rfl rfl rfl (fun w4 hE => R.ldB (v := .int .i64 x.Block') rfl (B4.ext0 hE) rfl) ?_
          refine Q.val rfl rfl rfl rfl (fun w4 hE => R.geq rfl rfl) ?_
          first | refine Q.val rfl rfl rfl rfl (fun w4 hE => R.pickT rfl rfl) ?_ | refine Q.val rfl rfl rfl rfl (fun w4 hE => R.pickF rfl rfl) ?_
          first | refine Q.val rfl rfl rfl rfl (fun w4 hE => R.pickT rfl rfl) ?_ | refine Q.val rfl rfl rfl rfl (fun w4 hE => R.pickF rfl rfl) ?_
          refine Q.nil (fun w4 e4 => ?_)
          replace E := E.trans0 e4
          refine N.seq ?_
          refine G.condP rfl (fun h1 => ?_) (fun h1 => ?_)
          · have hbad : ¬ okAt (r.os.map wv) i := fun h => by have h9 : y.Block' < x.Block' := (h _ (at_map hoe2)).2.2 _ (by omega) hprev; omega
            refine G.seq ?_
            refine G.region ?_
            refine L.val rfl rfl (R.as rfl) ?_
            refine L.nil ?_
            refine N.seq ?_
            refine G.ret1 rfl rfl ?_
            first
              | exact ⟨false, rfl, ⟨fun h => (by cases h), fun h => absurd (h i) hbad⟩, E⟩
              | exact ⟨true, rfl, ⟨fun _ j => (Nat.lt_or_ge j i).elim (hall j) (fun h9 z hz => by have := (List.getElem?_eq_some_iff.1 hz).1; rw [List.length_map] at this; omega), fun _ => rfl⟩, E⟩
          · have hoki : okAt (r.os.map wv) i := fun z hz => by rw [at_map hoe2] at hz; cases hz; exact ⟨hbk, hx64, fun y9 _ hy9 => by rw [hprev] at hy9; cases hy9; show y.Block' < x.Block'; omega⟩
            refine G.skip ?_
            refine N.block ?_
            refine N.seq ?_
            refine G.region ?_
            refine L.val rfl rfl (R.add rfl rfl (by omega)) ?_
            refine L.val rfl rfl (R.mv rfl) ?_
            refine L.nil ?_
            exact N.again (i + 1) (by omega) (Sub.cons rfl (Sub.cons rfl (Sub.cons rfl (Sub.cons rfl (Sub.nil _))))) ⟨by omega, fun j hj => (Nat.lt_or_ge j i).elim (hall j) (fun h9 => by obtain rfl : j = i := (by omega); exact hoki), E⟩
        · have hoki : okAt (r.os.map wv) i := fun z hz => by rw [at_map hoe2] at hz; cases hz; exact ⟨hbk, hx64, fun y9 h0 _ => absurd h0 (by omega)⟩
          refine Q.pass rfl rfl rfl ?_
          refine Q.pass rfl rfl rfl ?_
          refine Q.pass rfl rfl rfl ?_
          refine Q.pass rfl rfl rfl ?_
          refine Q.pass rfl rfl rfl ?_
          refine Q.pass rfl rfl rfl ?_
          refine Q.pass rfl rfl rfl ?_
          refine Q.pass rfl rfl rfl ?_
          refine Q.pass rfl rfl rfl ?_
          first | refine Q.val rfl rfl rfl rfl (fun w4 hE => R.pickT rfl rfl) ?_ | refine Q.val rfl rfl rfl rfl (fun w4 hE => R.pickF rfl rfl) ?_
          first | refine Q.val rfl rfl rfl rfl (fun w4 hE => R.pickT rfl rfl) ?_ | refine Q.val rfl rfl rfl rfl (fun w4 hE => R.pickF rfl rfl) ?_
          refine Q.nil (fun w4 e4 => ?_)
          replace E := E.trans0 e4
          refine N.seq ?_
          refine G.condF rfl ?_
          refine G.skip ?_
          refine N.block ?_
          refine N.seq ?_
          refine G.region ?_
          refine L.val rfl rfl (R.add rfl rfl (by omega)) ?_
          refine L.val rfl rfl (R.mv rfl) ?_
          refine L.nil ?_
          exact N.again (i + 1) (by omega) (Sub.cons rfl (Sub.cons rfl (Sub.cons rfl (Sub.cons rfl (Sub.nil _))))) ⟨by omega, fun j hj => (Nat.lt_or_ge j i).elim (hall j) (fun h9 => by obtain rfl : j = i := (by omega); exact hoki), E⟩
  · refine G.exit _ rfl ?_
    refine N.seq ?_
    refine G.seq ?_
    refine G.region ?_
    refine L.val rfl rfl (R.as rfl) ?_
    refine L.nil ?_
    refine N.seq ?_
    refine G.ret1 rfl rfl ?_
    first
      | exact ⟨false, rfl, ⟨fun h => (by cases h), fun h => absurd (h i) hbad⟩, E⟩
      | exact ⟨true, rfl, ⟨fun _ j => (Nat.lt_or_ge j i).elim (hall j) (fun h9 z hz => by have := (List.getElem?_eq_some_iff.1 hz).1; rw [List.length_map] at this; omega), fun _ => rfl⟩, E⟩

theorem rright_ok (kd tl nu : Int) (r : RowW) (w : World) (hr : r.ok w) : Meets Try.prog 19 [.agg #[.int .i64 kd, .int .i64 tl, .int .i64 nu, .slice r.a r.n r.c]] w (fun v w' => ∃ b, v = .bool b ∧ (b = true ↔ okR kd tl nu (r.os.map wv)) ∧ Ext [] w w') := by
  refine Meets.enter Try.func19 rfl 52 rfl (Nat.le_of_ble_eq_true rfl) ?_
  have E := Ext.refl [] w
  obtain ⟨hrc, hrT, hrO⟩ := hr
  have hrl := hrT.len
  rw [List.length_map] at hrl
  have hwl : (r.os.map wv).length = r.n := by rw [List.length_map]; omega
  refine G.seq ?_
  refine G.region ?_
  refine L.do rfl rfl (R.box rfl) ?_
  rintro _ w1 ⟨b1, rfl, hb1, hs1, e1, B1⟩
  replace E := E.trans0 e1
  refine L.val rfl rfl (R.as rfl) ?_
  refine L.nil ?_
  refine N.seq ?_
  refine G.seq ?_
  refine G.region ?_
  refine L.val rfl rfl (R.fld rfl) ?_
  refine L.val rfl rfl (R.ldB (v := .int .i64 tl) rfl B1 rfl) ?_
  refine L.callF rfl rfl rfl go66 (rbetween_ok _ _ _ _) ?_
  rintro _ _ ⟨rfl, hw⟩
  obtain rfl := hw.symm
  refine L.val rfl rfl (R.mv rfl) ?_
  refine L.caseP 7 rfl (fun hg1_3 => ?_) (fun hg1_3 => ?_)
  · refine L.val rfl rfl (R.fld rfl) ?_
    refine L.val rfl rfl (R.ldB (v := .int .i64 nu) rfl B1 rfl) ?_
    refine L.callF rfl rfl rfl go66 (rbetween_ok _ _ _ _) ?_
    rintro _ _ ⟨rfl, hw⟩
    obtain rfl := hw.symm
    first | refine L.val rfl rfl (R.pickT rfl rfl) ?_ | refine L.val rfl rfl (R.pickF rfl rfl) ?_
    refine L.val rfl rfl (R.as rfl) ?_
    refine L.nil ?_
    refine N.seq ?_
    refine G.seq ?_
    refine G.seq ?_
    refine G.region ?_
    refine L.val rfl rfl (R.fld rfl) ?_
    refine L.val rfl rfl (R.ldB (v := .int .i64 kd) rfl B1 rfl) ?_
    refine L.nil ?_
    refine N.seq ?_
    refine G.block ?_
    refine G.seq ?_
    refine G.region ?_
    refine L.val rfl rfl (R.eqI rfl rfl) ?_
    refine L.val rfl rfl (R.as rfl) ?_
    refine L.nil ?_
    refine N.seq ?_
    refine G.condP rfl (fun h0 => ?_) (fun h0 => ?_)
    · refine G.seq ?_
      refine G.region ?_
      refine L.val rfl rfl (R.mv rfl) ?_
      refine L.val rfl rfl (R.mv rfl) ?_
      refine L.caseP 17 rfl (fun hg4_1 => ?_) (fun hg4_1 => ?_)
      · refine L.val rfl rfl (R.fld rfl) ?_
        refine L.val rfl rfl (R.ldB (v := .slice r.a r.n r.c) rfl B1 rfl) ?_
        refine L.val rfl rfl (R.lenS rfl) ?_
        refine L.val rfl rfl (R.eqI rfl rfl) ?_
        first | refine L.val rfl rfl (R.pickT rfl rfl) ?_ | refine L.val rfl rfl (R.pickF rfl rfl) ?_
        refine L.val rfl rfl (R.as rfl) ?_
        refine L.nil ?_
        refine N.seq ?_
        refine G.ret1 rfl rfl ?_
        refine ⟨_, rfl, ?_, E⟩
        unfold okR okTN
        rw [hwl]
        first
          | (simp only [decide_eq_true_eq]; omega)
          | (simp only [Bool.false_eq_true, false_iff]; omega)
          | (rw [hbw]; exact ⟨fun h => by refine .inr (.inr ⟨by omega, ⟨by omega, by omega⟩, by omega, h⟩), fun h => by rcases h with h | h | h; omega; omega; exact h.2.2.2⟩)
          | (simp only [Bool.false_eq_true, false_iff]; rintro (h | h | h) <;> omega)
      · refine L.pass rfl rfl ?_
        refine L.pass rfl rfl ?_
        refine L.pass rfl rfl ?_
        refine L.pass rfl rfl ?_
        first | refine L.val rfl rfl (R.pickT rfl rfl) ?_ | refine L.val rfl rfl (R.pickF rfl rfl) ?_
        refine L.val rfl rfl (R.as rfl) ?_
        refine L.nil ?_
        refine N.seq ?_
        refine G.ret1 rfl rfl ?_
        refine ⟨_, rfl, ?_, E⟩
        unfold okR okTN
        rw [hwl]
        first
          | (simp only [decide_eq_true_eq]; omega)
          | (simp only [Bool.false_eq_true, false_iff]; omega)
          | (rw [hbw]; exact ⟨fun h => by refine .inr (.inr ⟨by omega, ⟨by omega, by omega⟩, by omega, h⟩), fun h => by rcases h with h | h | h; omega; omega; exact h.2.2.2⟩)
          | (simp only [Bool.false_eq_true, false_iff]; rintro (h | h | h) <;> omega)
    · refine G.seq ?_
      refine G.region ?_
      refine L.val rfl rfl (R.eqI rfl rfl) ?_
      refine L.val rfl rfl (R.as rfl) ?_
      refine L.nil ?_
      refine N.seq ?_
      refine G.condP rfl (fun h1 => ?_) (fun h1 => ?_)
      · refine G.seq ?_
        refine G.region ?_
        refine L.val rfl rfl (R.fld rfl) ?_
        refine L.val rfl rfl (R.ldB (v := .int .i64 tl) rfl B1 rfl) ?_
        refine L.val rfl rfl (R.eqI rfl rfl) ?_
        refine L.val rfl rfl (R.mv rfl) ?_
        refine L.caseP 28 rfl (fun hg6_3 => ?_) (fun hg6_3 => ?_)
        · refine L.val rfl rfl (R.fld rfl) ?_
          refine L.val rfl rfl (R.ldB (v := .int .i64 nu) rfl B1 rfl) ?_
          refine L.val rfl rfl (R.eqI rfl rfl) ?_
          first | refine L.val rfl rfl (R.pickT rfl rfl) ?_ | refine L.val rfl rfl (R.pickF rfl rfl) ?_
          refine L.val rfl rfl (R.mv rfl) ?_
          refine L.caseP 33 rfl (fun hg6_8 => ?_) (fun hg6_8 => ?_)
          · refine L.val rfl rfl (R.fld rfl) ?_
            refine L.val rfl rfl (R.ldB (v := .slice r.a r.n r.c) rfl B1 rfl) ?_
            refine L.val rfl rfl (R.lenS rfl) ?_
            refine L.val rfl rfl (R.eqI rfl rfl) ?_
            first | refine L.val rfl rfl (R.pickT rfl rfl) ?_ | refine L.val rfl rfl (R.pickF rfl rfl) ?_
            refine L.val rfl rfl (R.as rfl) ?_
            refine L.nil ?_
            refine N.seq ?_
            refine G.ret1 rfl rfl ?_
            refine ⟨_, rfl, ?_, E⟩
            unfold okR okTN
            rw [hwl]
            first
              | (simp only [decide_eq_true_eq]; omega)
              | (simp only [Bool.false_eq_true, false_iff]; omega)
              | (rw [hbw]; exact ⟨fun h => by refine .inr (.inr ⟨by omega, ⟨by omega, by omega⟩, by omega, h⟩), fun h => by rcases h with h | h | h; omega; omega; exact h.2.2.2⟩)
              | (simp only [Bool.false_eq_true, false_iff]; rintro (h | h | h) <;> omega)
          · refine L.pass rfl rfl ?_
            refine L.pass rfl rfl ?_
            refine L.pass rfl rfl ?_
            refine L.pass rfl rfl ?_
            first | refine L.val rfl rfl (R.pickT rfl rfl) ?_ | refine L.val rfl rfl (R.pickF rfl rfl) ?_
            refine L.val rfl rfl (R.as rfl) ?_
            refine L.nil ?_
            refine N.seq ?_
            refine G.ret1 rfl rfl ?_
            refine ⟨_, rfl, ?_, E⟩
            unfold okR okTN
            rw [hwl]
            first
              | (simp only [decide_eq_true_eq]; omega)
              | (simp only [Bool.false_eq_true, false_iff]; omega)
              | (rw [hbw]; exact ⟨fun h => by refine .inr (.inr ⟨by omega, ⟨by omega, by omega⟩, by omega, h⟩), fun h => by rcases h with h | h | h; omega; omega; exact h.2.2.2⟩)
              | (simp only [Bool.false_eq_true, false_iff]; rintro (h | h | h) <;> omega)
        · refine L.pass rfl rfl ?_
          refine L.pass rfl rfl ?_
          refine L.pass rfl rfl ?_
          first | refine L.val rfl rfl (R.pickT rfl rfl) ?_ | refine L.val rfl rfl (R.pickF rfl rfl) ?_
          refine L.val rfl rfl (R.mv rfl) ?_
          refine L.pass rfl rfl ?_
          refine L.pass rfl rfl ?_
          refine L.pass rfl rfl ?_
          refine L.pass rfl rfl ?_
          first | refine L.val rfl rfl (R.pickT rfl rfl) ?_ | refine L.val rfl rfl (R.pickF rfl rfl) ?_
          refine L.val rfl rfl (R.as rfl) ?_
          refine L.nil ?_
          refine N.seq ?_
          refine G.ret1 rfl rfl ?_
          refine ⟨_, rfl, ?_, E⟩
          unfold okR okTN
          rw [hwl]
          first
            | (simp only [decide_eq_true_eq]; omega)
            | (simp only [Bool.false_eq_true, false_iff]; omega)
            | (rw [hbw]; exact ⟨fun h => by refine .inr (.inr ⟨by omega, ⟨by omega, by omega⟩, by omega, h⟩), fun h => by rcases h with h | h | h; omega; omega; exact h.2.2.2⟩)
            | (simp only [Bool.false_eq_true, false_iff]; rintro (h | h | h) <;> omega)
      · refine G.seq ?_
        refine G.region ?_
        refine L.val rfl rfl (R.eqI rfl rfl) ?_
        refine L.val rfl rfl (R.as rfl) ?_
        refine L.nil ?_
        refine N.seq ?_
        refine G.condP rfl (fun h2 => ?_) (fun h2 => ?_)
        · refine G.seq ?_
          refine G.region ?_
          refine L.val rfl rfl (R.mv rfl) ?_
          refine L.val rfl rfl (R.mv rfl) ?_
          refine L.caseP 42 rfl (fun hg8_1 => ?_) (fun hg8_1 => ?_)
          · refine L.val rfl rfl (R.fld rfl) ?_
            refine L.val rfl rfl (R.ldB (v := .int .i64 nu) rfl B1 rfl) ?_
            refine L.val rfl rfl (R.gtr rfl rfl) ?_
            first | refine L.val rfl rfl (R.pickT rfl rfl) ?_ | refine L.val rfl rfl (R.pickF rfl rfl) ?_
            refine L.val rfl rfl (R.mv rfl) ?_
            refine L.caseP 47 rfl (fun hg8_6 => ?_) (fun hg8_6 => ?_)
            · refine L.val rfl rfl (R.fld rfl) ?_
              refine L.val rfl rfl (R.ldB (v := .slice r.a r.n r.c) rfl B1 rfl) ?_
              refine L.callF rfl rfl rfl go67 (rwrites_ok r _ (⟨hrc, hrT, hrO⟩ |> fun h : r.ok w => h.ext0 E)) ?_
              rintro _ w2 ⟨bw, rfl, hbw, e2⟩
              replace E := E.trans0 e2
              first | refine L.val rfl rfl (R.pickT rfl rfl) ?_ | refine L.val rfl rfl (R.pickF rfl rfl) ?_
              refine L.val rfl rfl (R.as rfl) ?_
              refine L.nil ?_
              refine N.seq ?_
              refine G.ret1 rfl rfl ?_
              refine ⟨_, rfl, ?_, E⟩
              unfold okR okTN
              rw [hwl]
              first
                | (simp only [decide_eq_true_eq]; omega)
                | (simp only [Bool.false_eq_true, false_iff]; omega)
                | (rw [hbw]; exact ⟨fun h => by refine .inr (.inr ⟨by omega, ⟨by omega, by omega⟩, by omega, h⟩), fun h => by rcases h with h | h | h; omega; omega; exact h.2.2.2⟩)
                | (simp only [Bool.false_eq_true, false_iff]; rintro (h | h | h) <;> omega)
            · refine L.pass rfl rfl ?_
              refine L.pass rfl rfl ?_
              refine L.pass rfl rfl ?_
              first | refine L.val rfl rfl (R.pickT rfl rfl) ?_ | refine L.val rfl rfl (R.pickF rfl rfl) ?_
              refine L.val rfl rfl (R.as rfl) ?_
              refine L.nil ?_
              refine N.seq ?_
              refine G.ret1 rfl rfl ?_
              refine ⟨_, rfl, ?_, E⟩
              unfold okR okTN
              rw [hwl]
              first
                | (simp only [decide_eq_true_eq]; omega)
                | (simp only [Bool.false_eq_true, false_iff]; omega)
                | (rw [hbw]; exact ⟨fun h => by refine .inr (.inr ⟨by omega, ⟨by omega, by omega⟩, by omega, h⟩), fun h => by rcases h with h | h | h; omega; omega; exact h.2.2.2⟩)
                | (simp only [Bool.false_eq_true, false_iff]; rintro (h | h | h) <;> omega)
          · refine L.pass rfl rfl ?_
            refine L.pass rfl rfl ?_
            refine L.pass rfl rfl ?_
            first | refine L.val rfl rfl (R.pickT rfl rfl) ?_ | refine L.val rfl rfl (R.pickF rfl rfl) ?_
            refine L.val rfl rfl (R.mv rfl) ?_
            refine L.pass rfl rfl ?_
            refine L.pass rfl rfl ?_
            refine L.pass rfl rfl ?_
            first | refine L.val rfl rfl (R.pickT rfl rfl) ?_ | refine L.val rfl rfl (R.pickF rfl rfl) ?_
            refine L.val rfl rfl (R.as rfl) ?_
            refine L.nil ?_
            refine N.seq ?_
            refine G.ret1 rfl rfl ?_
            refine ⟨_, rfl, ?_, E⟩
            unfold okR okTN
            rw [hwl]
            first
              | (simp only [decide_eq_true_eq]; omega)
              | (simp only [Bool.false_eq_true, false_iff]; omega)
              | (rw [hbw]; exact ⟨fun h => by refine .inr (.inr ⟨by omega, ⟨by omega, by omega⟩, by omega, h⟩), fun h => by rcases h with h | h | h; omega; omega; exact h.2.2.2⟩)
              | (simp only [Bool.false_eq_true, false_iff]; rintro (h | h | h) <;> omega)
        · refine G.skip ?_
          refine N.block ?_
          refine N.seq ?_
          refine G.seq ?_
          refine G.region ?_
          refine L.val rfl rfl (R.as rfl) ?_
          refine L.nil ?_
          refine N.seq ?_
          refine G.ret1 rfl rfl ?_
          refine ⟨_, rfl, ?_, E⟩
          unfold okR okTN
          rw [hwl]
          first
            | (simp only [decide_eq_true_eq]; omega)
            | (simp only [Bool.false_eq_true, false_iff]; omega)
            | (rw [hbw]; exact ⟨fun h => by refine .inr (.inr ⟨by omega, ⟨by omega, by omega⟩, by omega, h⟩), fun h => by rcases h with h | h | h; omega; omega; exact h.2.2.2⟩)
            | (simp only [Bool.false_eq_true, false_iff]; rintro (h | h | h) <;> omega)
  · refine L.pass rfl rfl ?_
    refine L.pass rfl rfl ?_
    refine L.pass rfl rfl ?_
    first | refine L.val rfl rfl (R.pickT rfl rfl) ?_ | refine L.val rfl rfl (R.pickF rfl rfl) ?_
    refine L.val rfl rfl (R.as rfl) ?_
    refine L.nil ?_
    refine N.seq ?_
    refine G.seq ?_
    refine G.seq ?_
    refine G.region ?_
    refine L.val rfl rfl (R.fld rfl) ?_
    refine L.val rfl rfl (R.ldB (v := .int .i64 kd) rfl B1 rfl) ?_
    refine L.nil ?_
    refine N.seq ?_
    refine G.block ?_
    refine G.seq ?_
    refine G.region ?_
    refine L.val rfl rfl (R.eqI rfl rfl) ?_
    refine L.val rfl rfl (R.as rfl) ?_
    refine L.nil ?_
    refine N.seq ?_
    refine G.condP rfl (fun h0 => ?_) (fun h0 => ?_)
    · refine G.seq ?_
      refine G.region ?_
      refine L.val rfl rfl (R.mv rfl) ?_
      refine L.val rfl rfl (R.mv rfl) ?_
      refine L.pass rfl rfl ?_
      refine L.pass rfl rfl ?_
      refine L.pass rfl rfl ?_
      refine L.pass rfl rfl ?_
      first | refine L.val rfl rfl (R.pickT rfl rfl) ?_ | refine L.val rfl rfl (R.pickF rfl rfl) ?_
      refine L.val rfl rfl (R.as rfl) ?_
      refine L.nil ?_
      refine N.seq ?_
      refine G.ret1 rfl rfl ?_
      refine ⟨_, rfl, ?_, E⟩
      unfold okR okTN
      rw [hwl]
      first
        | (simp only [decide_eq_true_eq]; omega)
        | (simp only [Bool.false_eq_true, false_iff]; omega)
        | (rw [hbw]; exact ⟨fun h => by refine .inr (.inr ⟨by omega, ⟨by omega, by omega⟩, by omega, h⟩), fun h => by rcases h with h | h | h; omega; omega; exact h.2.2.2⟩)
        | (simp only [Bool.false_eq_true, false_iff]; rintro (h | h | h) <;> omega)
    · refine G.seq ?_
      refine G.region ?_
      refine L.val rfl rfl (R.eqI rfl rfl) ?_
      refine L.val rfl rfl (R.as rfl) ?_
      refine L.nil ?_
      refine N.seq ?_
      refine G.condP rfl (fun h1 => ?_) (fun h1 => ?_)
      · refine G.seq ?_
        refine G.region ?_
        refine L.val rfl rfl (R.fld rfl) ?_
        refine L.val rfl rfl (R.ldB (v := .int .i64 tl) rfl B1 rfl) ?_
        refine L.val rfl rfl (R.eqI rfl rfl) ?_
        refine L.val rfl rfl (R.mv rfl) ?_
        refine L.caseP 28 rfl (fun hg6_3 => ?_) (fun hg6_3 => ?_)
        · refine L.val rfl rfl (R.fld rfl) ?_
          refine L.val rfl rfl (R.ldB (v := .int .i64 nu) rfl B1 rfl) ?_
          refine L.val rfl rfl (R.eqI rfl rfl) ?_
          first | refine L.val rfl rfl (R.pickT rfl rfl) ?_ | refine L.val rfl rfl (R.pickF rfl rfl) ?_
          refine L.val rfl rfl (R.mv rfl) ?_
          refine L.caseP 33 rfl (fun hg6_8 => ?_) (fun hg6_8 => ?_)
          · refine L.val rfl rfl (R.fld rfl) ?_
            refine L.val rfl rfl (R.ldB (v := .slice r.a r.n r.c) rfl B1 rfl) ?_
            refine L.val rfl rfl (R.lenS rfl) ?_
            refine L.val rfl rfl (R.eqI rfl rfl) ?_
            first | refine L.val rfl rfl (R.pickT rfl rfl) ?_ | refine L.val rfl rfl (R.pickF rfl rfl) ?_
            refine L.val rfl rfl (R.as rfl) ?_
            refine L.nil ?_
            refine N.seq ?_
            refine G.ret1 rfl rfl ?_
            refine ⟨_, rfl, ?_, E⟩
            unfold okR okTN
            rw [hwl]
            first
              | (simp only [decide_eq_true_eq]; omega)
              | (simp only [Bool.false_eq_true, false_iff]; omega)
              | (rw [hbw]; exact ⟨fun h => by refine .inr (.inr ⟨by omega, ⟨by omega, by omega⟩, by omega, h⟩), fun h => by rcases h with h | h | h; omega; omega; exact h.2.2.2⟩)
              | (simp only [Bool.false_eq_true, false_iff]; rintro (h | h | h) <;> omega)
          · refine L.pass rfl rfl ?_
            refine L.pass rfl rfl ?_
            refine L.pass rfl rfl ?_
            refine L.pass rfl rfl ?_
            first | refine L.val rfl rfl (R.pickT rfl rfl) ?_ | refine L.val rfl rfl (R.pickF rfl rfl) ?_
            refine L.val rfl rfl (R.as rfl) ?_
            refine L.nil ?_
            refine N.seq ?_
            refine G.ret1 rfl rfl ?_
            refine ⟨_, rfl, ?_, E⟩
            unfold okR okTN
            rw [hwl]
            first
              | (simp only [decide_eq_true_eq]; omega)
              | (simp only [Bool.false_eq_true, false_iff]; omega)
              | (rw [hbw]; exact ⟨fun h => by refine .inr (.inr ⟨by omega, ⟨by omega, by omega⟩, by omega, h⟩), fun h => by rcases h with h | h | h; omega; omega; exact h.2.2.2⟩)
              | (simp only [Bool.false_eq_true, false_iff]; rintro (h | h | h) <;> omega)
        · refine L.pass rfl rfl ?_
          refine L.pass rfl rfl ?_
          refine L.pass rfl rfl ?_
          first | refine L.val rfl rfl (R.pickT rfl rfl) ?_ | refine L.val rfl rfl (R.pickF rfl rfl) ?_
          refine L.val rfl rfl (R.mv rfl) ?_
          refine L.pass rfl rfl ?_
          refine L.pass rfl rfl ?_
          refine L.pass rfl rfl ?_
          refine L.pass rfl rfl ?_
          first | refine L.val rfl rfl (R.pickT rfl rfl) ?_ | refine L.val rfl rfl (R.pickF rfl rfl) ?_
          refine L.val rfl rfl (R.as rfl) ?_
          refine L.nil ?_
          refine N.seq ?_
          refine G.ret1 rfl rfl ?_
          refine ⟨_, rfl, ?_, E⟩
          unfold okR okTN
          rw [hwl]
          first
            | (simp only [decide_eq_true_eq]; omega)
            | (simp only [Bool.false_eq_true, false_iff]; omega)
            | (rw [hbw]; exact ⟨fun h => by refine .inr (.inr ⟨by omega, ⟨by omega, by omega⟩, by omega, h⟩), fun h => by rcases h with h | h | h; omega; omega; exact h.2.2.2⟩)
            | (simp only [Bool.false_eq_true, false_iff]; rintro (h | h | h) <;> omega)
      · refine G.seq ?_
        refine G.region ?_
        refine L.val rfl rfl (R.eqI rfl rfl) ?_
        refine L.val rfl rfl (R.as rfl) ?_
        refine L.nil ?_
        refine N.seq ?_
        refine G.condP rfl (fun h2 => ?_) (fun h2 => ?_)
        · refine G.seq ?_
          refine G.region ?_
          refine L.val rfl rfl (R.mv rfl) ?_
          refine L.val rfl rfl (R.mv rfl) ?_
          refine L.pass rfl rfl ?_
          refine L.pass rfl rfl ?_
          refine L.pass rfl rfl ?_
          first | refine L.val rfl rfl (R.pickT rfl rfl) ?_ | refine L.val rfl rfl (R.pickF rfl rfl) ?_
          refine L.val rfl rfl (R.mv rfl) ?_
          refine L.pass rfl rfl ?_
          refine L.pass rfl rfl ?_
          refine L.pass rfl rfl ?_
          first | refine L.val rfl rfl (R.pickT rfl rfl) ?_ | refine L.val rfl rfl (R.pickF rfl rfl) ?_
          refine L.val rfl rfl (R.as rfl) ?_
          refine L.nil ?_
          refine N.seq ?_
          refine G.ret1 rfl rfl ?_
          refine ⟨_, rfl, ?_, E⟩
          unfold okR okTN
          rw [hwl]
          first
            | (simp only [decide_eq_true_eq]; omega)
            | (simp only [Bool.false_eq_true, false_iff]; omega)
            | (rw [hbw]; exact ⟨fun h => by refine .inr (.inr ⟨by omega, ⟨by omega, by omega⟩, by omega, h⟩), fun h => by rcases h with h | h | h; omega; omega; exact h.2.2.2⟩)
            | (simp only [Bool.false_eq_true, false_iff]; rintro (h | h | h) <;> omega)
        · refine G.skip ?_
          refine N.block ?_
          refine N.seq ?_
          refine G.seq ?_
          refine G.region ?_
          refine L.val rfl rfl (R.as rfl) ?_
          refine L.nil ?_
          refine N.seq ?_
          refine G.ret1 rfl rfl ?_
          refine ⟨_, rfl, ?_, E⟩
          unfold okR okTN
          rw [hwl]
          first
            | (simp only [decide_eq_true_eq]; omega)
            | (simp only [Bool.false_eq_true, false_iff]; omega)
            | (rw [hbw]; exact ⟨fun h => by refine .inr (.inr ⟨by omega, ⟨by omega, by omega⟩, by omega, h⟩), fun h => by rcases h with h | h | h; omega; omega; exact h.2.2.2⟩)
            | (simp only [Bool.false_eq_true, false_iff]; rintro (h | h | h) <;> omega)

end Go.Proofs.Ytiiiplhfgblamaa
/-
  Sums of bytes, in plain Lean: the program's step by bytes, the document's bit by bit, that they agree, and that one unlike byte is told.
-/
set_option linter.unusedVariables false
namespace Brv.Crc
open Go Brv

def half (r : UInt32) : UInt32 := if r % 2 = 1 then (r >>> 1) ^^^ 0xedb88320 else r >>> 1
def halves : Nat → UInt32 → UInt32
  | 0, r => r
  | n + 1, r => half (halves n r)
def stepF (r : UInt32) (c : UInt8) : UInt32 := halves 8 (r ^^^ c.toUInt32)
def restF (r : UInt32) (l : List UInt8) : UInt32 := l.foldl stepF r
def joinF (was : UInt32) (l : List UInt8) : UInt32 := ~~~ (restF (~~~ was) l)

def v32 (r : UInt32) : Value := .int .u32 (r.toNat : Int)

theorem bv_ofInt_nat (n x : Nat) : BitVec.ofInt n (x : Int) = BitVec.ofNat n x := by simp [BitVec.ofInt_natCast]
theorem xorI_u32 (a b : UInt32) : xorI .u32 (a.toNat : Int) (b.toNat : Int) = ((a ^^^ b).toNat : Int) := by
  unfold xorI
  show IntKind.u32.wrap (((BitVec.ofInt 32 (a.toNat : Int) ^^^ BitVec.ofInt 32 (b.toNat : Int)).toNat : Nat) : Int) = _
  rw [bv_ofInt_nat, bv_ofInt_nat]
  have ha : BitVec.ofNat 32 a.toNat = a.toBitVec := by simp
  have hb : BitVec.ofNat 32 b.toNat = b.toBitVec := by simp
  rw [ha, hb]
  have : (a.toBitVec ^^^ b.toBitVec).toNat = (a ^^^ b).toNat := by simp
  rw [this]
  exact wrap_u32 (by have := (a ^^^ b).toNat_lt; omega)
theorem compl_u32 (a : UInt32) : xorI .u32 (if IntKind.u32.signed then -1 else IntKind.u32.max) (a.toNat : Int) = ((~~~ a).toNat : Int) := by
  have h1 : (if IntKind.u32.signed then -1 else IntKind.u32.max) = (((0xffffffff : UInt32).toNat : Nat) : Int) := by decide
  rw [h1, xorI_u32]
  congr 2
theorem shr1_u32 (a : UInt32) : (a.toNat : Int).fdiv (2 ^ (Min.min (1 : Int).toNat (IntKind.u32.bits))) = ((a >>> 1).toNat : Int) := by
  have h : (2 : Int) ^ (Min.min (1 : Int).toNat (IntKind.u32.bits)) = 2 := by decide
  rw [h, Int.fdiv_eq_ediv_of_nonneg _ (by decide)]
  rw [UInt32.toNat_shiftRight]
  simp [Nat.shiftRight_eq_div_pow]
theorem lt_u32 (a : UInt32) : a.toNat < 4294967296 := a.toNat_lt
theorem lt_u8 (a : UInt8) : a.toNat < 256 := a.toNat_lt
theorem odd_u32 (a : UInt32) : ((a.toNat : Int) % 2 = 1) ↔ (a % 2 = 1) := by
  rw [← UInt32.toNat_inj]
  simp [UInt32.toNat_mod]
  omega
theorem half_t {a : UInt32} (h : (a.toNat : Int) % 2 = 1) : half a = (a >>> 1) ^^^ 0xedb88320 := by unfold half; rw [if_pos ((odd_u32 a).1 h)]
theorem half_f {a : UInt32} (h : ¬ (a.toNat : Int) % 2 = 1) : half a = a >>> 1 := by unfold half; rw [if_neg (fun h' => h ((odd_u32 a).2 h'))]
theorem restF_snoc (r : UInt32) (l : List UInt8) (k : Nat) (h : k < l.length) : restF r (l.take (k + 1)) = stepF (restF r (l.take k)) l[k] := by
  unfold restF
  rw [List.take_succ_eq_append_getElem h, List.foldl_append]
  rfl

/-! ### half, bit by bit -/
theorem mod2_lsb (x : UInt32) : (x % 2 = 1) ↔ x.toBitVec.getLsbD 0 = true := by
  rw [← UInt32.toNat_inj]
  simp [UInt32.toNat_mod, BitVec.getLsbD, Nat.testBit_zero]
theorem half_bits (x : UInt32) (i : Nat) (hi : i < 32) : (half x).toBitVec.getLsbD i = ((x.toBitVec.getLsbD (i + 1)) ^^ (x.toBitVec.getLsbD 0 && (0xedb88320 : BitVec 32).getLsbD i)) := by
  have hs : (x >>> 1).toBitVec.getLsbD i = x.toBitVec.getLsbD (i + 1) := by
    rw [UInt32.toBitVec_shiftRight]
    simp [Nat.add_comm]
  unfold half
  split
  · rename_i h
    rw [(mod2_lsb x).1 h]
    simp only [UInt32.toBitVec_xor, BitVec.getLsbD_xor, hs, Bool.true_and]
    rfl
  · rename_i h
    have : x.toBitVec.getLsbD 0 = false := by
      cases hb : x.toBitVec.getLsbD 0 with
      | false => rfl
      | true => exact absurd ((mod2_lsb x).2 hb) h
    rw [this, hs]; simp
theorem u32_ext {x y : UInt32} (h : ∀ i, i < 32 → x.toBitVec.getLsbD i = y.toBitVec.getLsbD i) : x = y :=
  UInt32.toBitVec_inj.1 (BitVec.eq_of_getLsbD_eq fun i hi => h i hi)
theorem half_xor (x y : UInt32) : half (x ^^^ y) = half x ^^^ half y := by
  refine u32_ext fun i hi => ?_
  simp only [UInt32.toBitVec_xor, BitVec.getLsbD_xor]
  rw [half_bits _ _ hi, half_bits _ _ hi, half_bits _ _ hi]
  simp only [UInt32.toBitVec_xor, BitVec.getLsbD_xor]
  cases x.toBitVec.getLsbD (i+1) <;> cases y.toBitVec.getLsbD (i+1) <;> cases x.toBitVec.getLsbD 0 <;> cases y.toBitVec.getLsbD 0 <;> cases (0xedb88320 : BitVec 32).getLsbD i <;> rfl
theorem half_inj {x y : UInt32} (h : half x = half y) : x = y := by
  have h31 : x.toBitVec.getLsbD 0 = y.toBitVec.getLsbD 0 := by
    have h1 := half_bits x 31 (by omega)
    have h2 := half_bits y 31 (by omega)
    rw [h] at h1
    rw [h1] at h2
    have hx : x.toBitVec.getLsbD 32 = false := BitVec.getLsbD_of_ge _ _ (by omega)
    have hy : y.toBitVec.getLsbD 32 = false := BitVec.getLsbD_of_ge _ _ (by omega)
    have hp : (0xedb88320 : BitVec 32).getLsbD 31 = true := by decide
    rw [hx, hy, hp] at h2
    simpa using h2
  refine u32_ext fun i hi => ?_
  cases i with
  | zero => exact h31
  | succ i =>
    have h1 := half_bits x i (by omega)
    have h2 := half_bits y i (by omega)
    rw [h] at h1
    rw [h1, h31] at h2
    cases hb : (y.toBitVec.getLsbD 0 && (0xedb88320 : BitVec 32).getLsbD i) <;> rw [hb] at h2 <;> simpa using h2
theorem halves_inj {x y : UInt32} : ∀ {n : Nat}, halves n x = halves n y → x = y
  | 0, h => h
  | _ + 1, h => halves_inj (half_inj h)
theorem xor_inj_right {a x y : UInt32} (h : x ^^^ a = y ^^^ a) : x = y := by
  have : x ^^^ a ^^^ a = y ^^^ a ^^^ a := by rw [h]
  simpa [UInt32.xor_assoc] using this
theorem xor_inj_left {a x y : UInt32} (h : a ^^^ x = a ^^^ y) : x = y := xor_inj_right (a := a) (by rw [UInt32.xor_comm, h, UInt32.xor_comm])
theorem stepF_inj {x y : UInt32} {c : UInt8} (h : stepF x c = stepF y c) : x = y := xor_inj_right (halves_inj h)
theorem stepF_inj_c {x : UInt32} {c d : UInt8} (h : stepF x c = stepF x d) : c = d := by
  have := xor_inj_left (halves_inj h)
  rw [← UInt32.toNat_inj] at this
  rw [← UInt8.toNat_inj]
  simpa using this
theorem restF_inj : ∀ {l : List UInt8} {x y : UInt32}, restF x l = restF y l → x = y
  | [], _, _, h => h
  | c :: l, x, y, h => stepF_inj (restF_inj (l := l) h)
theorem not_inj {x y : UInt32} (h : ~~~ x = ~~~ y) : x = y := by simpa using h
theorem joinF_append (r : UInt32) (a b : List UInt8) : joinF r (a ++ b) = joinF (joinF r a) b := by
  simp [joinF, restF]
/-- One unlike byte is told. -/
theorem joinF_set {r : UInt32} {l : List UInt8} {n : Nat} {c : UInt8} (hn : n < l.length) : joinF r (l.set n c) = joinF r l ↔ c = l[n] := by
  constructor
  · intro h
    have h1 : l.set n c = l.take n ++ c :: l.drop (n + 1) := List.set_eq_take_append_cons_drop .. |>.trans (by simp [hn])
    have h2 : l = l.take n ++ l[n] :: l.drop (n + 1) := by simp
    rw [h1] at h
    conv at h => rhs; rw [h2]
    have h3 := not_inj h
    simp only [restF, List.foldl_append, List.foldl_cons] at h3
    exact stepF_inj_c (restF_inj (l := l.drop (n + 1)) h3)
  · intro h; subst h; simp

/-! ### the document's sum, bit by bit -/
def oneF (q : UInt32) (c : UInt8) (j : Nat) : Bool := (decide ((q.toNat : Int) % 2 = 1)) != (decide ((c.toNat : Int) / 2 ^ j % 2 = 1))
def bitF (q : UInt32) (c : UInt8) (j : Nat) : UInt32 := if oneF q c j then (q >>> 1) ^^^ 0xedb88320 else q >>> 1
def bitsF (q : UInt32) (c : UInt8) : Nat → UInt32
  | 0 => q
  | j + 1 => bitF (bitsF q c j) c j
/-- The rest behind i bits. -/
def refR (r : UInt32) (l : List UInt8) (i : Nat) : UInt32 := bitsF (restF r (l.take (i / 8))) (l.getD (i / 8) 0) (i % 8)
def hi (c : UInt8) (j : Nat) : UInt32 := c.toUInt32 >>> j.toUInt32
theorem hi_bits (c : UInt8) (j i : Nat) (hj : j < 32) : (hi c j).toBitVec.getLsbD i = c.toBitVec.getLsbD (j + i) := by
  unfold hi
  rw [UInt32.toBitVec_shiftRight]
  have e : (j.toUInt32.toBitVec % 32).toNat = j := by
    simp only [Nat.toUInt32, UInt32.toBitVec_ofNat', BitVec.toNat_umod, BitVec.toNat_ofNat]
    have : j % 2 ^ 32 = j := Nat.mod_eq_of_lt (by omega)
    rw [this]
    show j % 32 = j
    exact Nat.mod_eq_of_lt hj
  simp only [BitVec.ushiftRight_eq', BitVec.getLsbD_ushiftRight, e]
  simp
  intro h
  have := BitVec.lt_of_getLsbD h
  omega
theorem hi_zero (c : UInt8) : hi c 0 = c.toUInt32 := u32_ext fun i _ => by rw [hi_bits _ _ _ (by omega)]; simp; intro h; have := BitVec.lt_of_getLsbD h; omega
theorem hi_eight (c : UInt8) : hi c 8 = 0 := u32_ext fun i _ => by rw [hi_bits _ _ _ (by omega)]; simp
theorem bit_lsb (c : UInt8) (j : Nat) : ((c.toNat : Int) / 2 ^ j % 2 = 1) ↔ c.toBitVec.getLsbD j = true := by
  have h1 : ((c.toNat : Int) / 2 ^ j % 2 = 1) ↔ (c.toNat / 2 ^ j % 2 = 1) := by
    have : ((c.toNat : Int) / 2 ^ j % 2) = ((c.toNat / 2 ^ j % 2 : Nat) : Int) := by
      rw [Int.natCast_emod, Int.natCast_ediv, Int.natCast_pow]; rfl
    rw [this]; omega
  rw [h1]
  show _ ↔ c.toNat.testBit j = true
  rw [Nat.testBit_eq_decide_div_mod_eq]
  simp
/-- A bit's step is half of the rest with the bits that are left, less those. -/
theorem bitF_half (q : UInt32) (c : UInt8) (j : Nat) (hj : j < 8) : bitF q c j ^^^ hi c (j + 1) = half (q ^^^ hi c j) := by
  refine u32_ext fun i hi' => ?_
  rw [half_bits _ _ hi']
  have hone : oneF q c j = (q.toBitVec.getLsbD 0 ^^ c.toBitVec.getLsbD j) := by
    unfold oneF
    have e1 : decide ((q.toNat : Int) % 2 = 1) = q.toBitVec.getLsbD 0 := by rw [Bool.eq_iff_iff]; simp only [decide_eq_true_eq]; rw [odd_u32, mod2_lsb]
    have e2 : decide ((c.toNat : Int) / 2 ^ j % 2 = 1) = c.toBitVec.getLsbD j := by rw [Bool.eq_iff_iff]; simp only [decide_eq_true_eq]; exact bit_lsb c j
    rw [e1, e2]
  have hq : (bitF q c j).toBitVec.getLsbD i = (q.toBitVec.getLsbD (i + 1) ^^ (oneF q c j && (0xedb88320 : BitVec 32).getLsbD i)) := by
    have hs : (q >>> 1).toBitVec.getLsbD i = q.toBitVec.getLsbD (i + 1) := by
      rw [UInt32.toBitVec_shiftRight]; simp [Nat.add_comm]
    unfold bitF
    split
    · rename_i h; rw [h]; simp only [UInt32.toBitVec_xor, BitVec.getLsbD_xor, hs, Bool.true_and]; rfl
    · rename_i h
      have : oneF q c j = false := by simpa using h
      rw [this, hs]; simp
  simp only [UInt32.toBitVec_xor, BitVec.getLsbD_xor, hq, hone]
  rw [hi_bits _ _ _ (by omega), hi_bits _ _ _ (by omega), hi_bits _ _ _ (by omega)]
  have e3 : j + 1 + i = j + (i + 1) := by omega
  rw [e3, Nat.add_zero]
  cases q.toBitVec.getLsbD (i+1) <;> cases c.toBitVec.getLsbD (j+(i+1)) <;> cases q.toBitVec.getLsbD 0 <;> cases c.toBitVec.getLsbD j <;> cases (0xedb88320 : BitVec 32).getLsbD i <;> rfl
theorem bitsF_halves (q : UInt32) (c : UInt8) : ∀ (j : Nat), j ≤ 8 → bitsF q c j ^^^ hi c j = halves j (q ^^^ c.toUInt32)
  | 0, _ => by rw [hi_zero]; rfl
  | j + 1, h => by
    show bitF (bitsF q c j) c j ^^^ hi c (j + 1) = half (halves j (q ^^^ c.toUInt32))
    rw [bitF_half _ _ _ (by omega), bitsF_halves q c j (by omega)]
theorem bitsF_eight (q : UInt32) (c : UInt8) : bitsF q c 8 = stepF q c := by
  have := bitsF_halves q c 8 (Nat.le_refl _)
  rw [hi_eight] at this
  simpa [stepF] using this
theorem refR_next (r : UInt32) (l : List UInt8) (i : Nat) (hi : i < 8 * l.length) : refR r l (i + 1) = bitF (refR r l i) (l.getD (i / 8) 0) (i % 8) := by
  unfold refR
  by_cases h : i % 8 = 7
  · have e1 : (i + 1) / 8 = i / 8 + 1 := by omega
    have e2 : (i + 1) % 8 = 0 := by omega
    rw [e1, e2]
    show restF r (l.take (i / 8 + 1)) = _
    have hlt : i / 8 < l.length := by omega
    rw [restF_snoc r l _ hlt, ← bitsF_eight, h]
    have : l.getD (i / 8) 0 = l[i / 8] := by simp [List.getD, hlt]
    rw [this]; rfl
  · have e1 : (i + 1) / 8 = i / 8 := by omega
    have e2 : (i + 1) % 8 = i % 8 + 1 := by omega
    rw [e1, e2]; rfl
theorem refR_end (r : UInt32) (l : List UInt8) : refR r l (8 * l.length) = restF r l := by
  unfold refR
  have e1 : 8 * l.length / 8 = l.length := by omega
  have e2 : 8 * l.length % 8 = 0 := by omega
  rw [e1, e2, List.take_length]; rfl

/-! ### marks -/
def fourF (v : UInt32) : List UInt8 := [v.toUInt8, (v >>> 8).toUInt8, (v >>> 16).toUInt8, (v >>> 24).toUInt8]
def markF (l : List UInt8) : List UInt8 := if l.length < 4 then l else l.take (l.length - 4) ++ fourF (joinF 0 (l.take (l.length - 4)))
def goodF (l : List UInt8) : Bool := decide (4 ≤ l.length) && decide (markF l = l)
theorem markF_length (l : List UInt8) : (markF l).length = l.length := by
  unfold markF
  split
  · rfl
  · simp [fourF]; omega

theorem byte_shift (v : UInt32) (k : Nat) (hk : k < 4) : IntKind.u8.wrap ((v.toNat : Int).fdiv (2 ^ (Min.min ((8 : Int) * (k : Int)).toNat IntKind.u32.bits))) = (((fourF v).getD k 0).toNat : Int) := by
  have gen : ∀ j : Nat, j < 4 → IntKind.u8.wrap ((v.toNat : Int).fdiv (2 ^ (8 * j))) = ((v >>> (8 * j).toUInt32).toUInt8.toNat : Int) := by
    intro j hj
    rw [Int.fdiv_eq_ediv_of_nonneg _ (by apply Int.le_of_lt; apply Int.pow_pos; decide)]
    simp only [IntKind.wrap, IntKind.bits, IntKind.signed, Bool.false_and]
    rw [UInt32.toNat_toUInt8, UInt32.toNat_shiftRight]
    have e : (8 * j).toUInt32.toNat % 32 = 8 * j := by
      simp only [Nat.toUInt32, UInt32.toNat_ofNat']
      omega
    rw [e, Nat.shiftRight_eq_div_pow]
    rw [Int.natCast_emod, Int.natCast_ediv, Int.natCast_pow]
    rfl
  have e : Min.min ((8 : Int) * (k : Int)).toNat IntKind.u32.bits = 8 * k := by
    have : IntKind.u32.bits = 32 := rfl
    rw [this]; omega
  rw [e, gen k hk]
  have : k = 0 ∨ k = 1 ∨ k = 2 ∨ k = 3 := by omega
  rcases this with rfl | rfl | rfl | rfl <;> simp [fourF] <;> rfl
theorem four_0 (v : UInt32) : IntKind.u8.wrap ((v.toNat : Int) % 256) = (v.toUInt8.toNat : Int) := by
  simp only [IntKind.wrap, IntKind.bits, IntKind.signed, Bool.false_and]
  rw [UInt32.toNat_toUInt8]
  simp
theorem four_k (v : UInt32) (j d : Nat) (hj : j < 32) (hd : d = 2 ^ j) : IntKind.u32.wrap ((v.toNat : Int).tdiv (d : Int)) = ((v >>> j.toUInt32).toNat : Int) := by
  rw [Int.tdiv_eq_ediv_of_nonneg (by omega), UInt32.toNat_shiftRight]
  have e : j.toUInt32.toNat % 32 = j := by
    simp only [Nat.toUInt32, UInt32.toNat_ofNat']
    omega
  rw [e, Nat.shiftRight_eq_div_pow, hd, wrap_u32]
  · rw [Int.natCast_ediv]
  · have := lt_u32 v
    have h1 : 0 ≤ (v.toNat : Int) / ((2 ^ j : Nat) : Int) := Int.ediv_nonneg (by omega) (by omega)
    have h2 : (v.toNat : Int) / ((2 ^ j : Nat) : Int) ≤ (v.toNat : Int) := Int.ediv_le_self _ (by omega)
    omega
/-- What Mark has written behind k bytes of the sum. -/
def partF (l : List UInt8) (m : Nat) (v : UInt32) (k : Nat) : List UInt8 := l.take m ++ ((fourF v).take k ++ l.drop (m + k))
theorem partF_zero (l : List UInt8) (m : Nat) (v : UInt32) : partF l m v 0 = l := by simp [partF]
theorem partF_next (l : List UInt8) (m : Nat) (v : UInt32) (k : Nat) (hk : k < 4) (hl : l.length = m + 4) : (partF l m v k).set (m + k) ((fourF v).getD k 0) = partF l m v (k + 1) := by
  unfold partF
  have h4 : (fourF v).length = 4 := rfl
  have ht : (l.take m).length = m := by simp; omega
  have ht4 : ((fourF v).take k).length = k := by simp; omega
  rw [List.set_append_right _ _ (by omega), List.set_append_right _ _ (by omega)]
  have e1 : m + k - (l.take m).length - ((fourF v).take k).length = 0 := by omega
  have e2 : (fourF v).take (k + 1) = (fourF v).take k ++ [(fourF v).getD k 0] := by
    rw [List.take_succ_eq_append_getElem (by omega)]
    simp [List.getD, h4, hk]
  rw [e1, List.drop_eq_getElem_cons (by omega), List.set_cons_zero, e2]
  simp [Nat.add_assoc]
theorem partF_end (l : List UInt8) (v : UInt32) (hl : 4 ≤ l.length) (hv : v = joinF 0 (l.take (l.length - 4))) : partF l (l.length - 4) v 4 = markF l := by
  unfold partF markF
  rw [if_neg (by omega), hv]
  have : (fourF (joinF 0 (l.take (l.length - 4)))).take 4 = fourF (joinF 0 (l.take (l.length - 4))) := rfl
  rw [this, List.drop_eq_nil_of_le (by omega)]
  simp

theorem compl_sub (r : UInt32) : IntKind.u32.wrap (4294967295 - (r.toNat : Int)) = ((~~~ r).toNat : Int) := by
  have := lt_u32 r
  rw [wrap_u32 (by omega)]
  rw [UInt32.toNat_not]
  show _ = ((4294967296 - 1 - r.toNat : Nat) : Int)
  omega
theorem wrap_u64c {z : Int} (h : 0 ≤ z ∧ z ≤ 18446744073709551615) : IntKind.u64.wrap z = z := by
  simp only [IntKind.wrap, IntKind.bits, IntKind.signed]
  simp; omega
theorem shr_u8 (x : UInt8) (j : Nat) (hj : j < 8) : (x.toNat : Int).fdiv (2 ^ (Min.min ((j : Int)).toNat IntKind.u8.bits)) = (x.toNat : Int) / 2 ^ j := by
  have : IntKind.u8.bits = 8 := rfl
  rw [this, show Min.min ((j : Int)).toNat 8 = j by omega]
  exact Int.fdiv_eq_ediv_of_nonneg _ (by apply Int.le_of_lt; apply Int.pow_pos; decide)
theorem four_top (v : UInt32) : IntKind.u8.wrap (((v >>> 24).toNat : Int)) = ((v >>> 24).toUInt8.toNat : Int) := by
  have h1 : (v >>> 24).toNat < 256 := by
    rw [UInt32.toNat_shiftRight]
    have := lt_u32 v
    show v.toNat >>> 24 < 256
    rw [Nat.shiftRight_eq_div_pow]
    omega
  rw [wrap_u8 (by omega), UInt32.toNat_toUInt8]
  omega
theorem toNat_u32 (a b : UInt32) : ((a.toNat : Int) = (b.toNat : Int)) ↔ a = b := ⟨fun h => UInt32.toNat_inj.1 (by omega), fun h => by rw [h]⟩
theorem toNat_u8 (a b : UInt8) : ((a.toNat : Int) = (b.toNat : Int)) ↔ a = b := ⟨fun h => UInt8.toNat_inj.1 (by omega), fun h => by rw [h]⟩
theorem joins_end {l : List UInt8} {k : Nat} {y : UInt8} (h : k < l.length) : (decide (((joinF 0 (l.set k y)).toNat : Int) = ((joinF 0 l).toNat : Int)) == decide ((y.toNat : Int) = (l[k].toNat : Int))) = true := by
  simp only [toNat_u32, toNat_u8, joinF_set h, beq_self_eq_true]
/-! ### one bit that is turned is told -/
theorem fourF_inj {x y : UInt32} (h : fourF x = fourF y) : x = y := by
  simp only [fourF, List.cons.injEq, and_true] at h
  obtain ⟨h0, h1, h2, h3⟩ := h
  have e0 := congrArg UInt8.toNat h0
  have e1 := congrArg UInt8.toNat h1
  have e2 := congrArg UInt8.toNat h2
  have e3 := congrArg UInt8.toNat h3
  simp only [UInt32.toNat_toUInt8, UInt32.toNat_shiftRight, Nat.shiftRight_eq_div_pow] at e0 e1 e2 e3
  rw [show (8 : UInt32).toNat % 32 = 8 by decide] at e1
  rw [show (16 : UInt32).toNat % 32 = 16 by decide] at e2
  rw [show (24 : UInt32).toNat % 32 = 24 by decide] at e3
  have hx := lt_u32 x
  have hy := lt_u32 y
  exact UInt32.toNat_inj.1 (by omega)
theorem goodF_iff (x : List UInt8) : goodF x = true ↔ 4 ≤ x.length ∧ x.drop (x.length - 4) = fourF (joinF 0 (x.take (x.length - 4))) := by
  unfold goodF
  rw [Bool.and_eq_true, decide_eq_true_iff, decide_eq_true_iff]
  constructor
  · rintro ⟨h, e⟩
    refine ⟨h, ?_⟩
    unfold markF at e
    rw [if_neg (by omega)] at e
    have := congrArg (List.drop (x.length - 4)) e
    rw [List.drop_left' (by simp)] at this
    exact this.symm
  · rintro ⟨h, e⟩
    refine ⟨h, ?_⟩
    unfold markF
    rw [if_neg (by omega), ← e, List.take_append_drop]
theorem good_mark {l : List UInt8} (h : 4 ≤ l.length) : goodF (markF l) = true := by
  rw [goodF_iff, markF_length]
  refine ⟨h, ?_⟩
  unfold markF
  rw [if_neg (by omega), List.drop_left' (by simp), List.take_left' (by simp)]
theorem good_set {x : List UInt8} (hg : goodF x = true) {j : Nat} (hj : j < x.length) {y : UInt8} (hy : y ≠ x[j]) : goodF (x.set j y) = false := by
  obtain ⟨h4, e⟩ := (goodF_iff x).1 hg
  cases hq : goodF (x.set j y) with
  | false => rfl
  | true =>
    exfalso
    obtain ⟨_, e'⟩ := (goodF_iff _).1 hq
    rw [List.length_set] at e'
    by_cases hlt : j < x.length - 4
    · rw [List.drop_set_of_lt hlt, e, List.take_set] at e'
      have := fourF_inj e'
      rw [eq_comm, joinF_set (by simp; omega)] at this
      exact hy (by rw [this]; simp)
    · rw [List.take_set_of_le (by omega), ← e] at e'
      have := congrArg (fun q => q[j - (x.length - 4)]?) e'
      simp only [List.getElem?_drop, show x.length - 4 + (j - (x.length - 4)) = j by omega, List.getElem?_set_self hj, List.getElem?_eq_getElem hj] at this
      exact hy (Option.some.inj this)
theorem xorI_u8 (a b : UInt8) : xorI .u8 (a.toNat : Int) (b.toNat : Int) = ((a ^^^ b).toNat : Int) := by
  unfold xorI
  show IntKind.u8.wrap (((BitVec.ofInt 8 (a.toNat : Int) ^^^ BitVec.ofInt 8 (b.toNat : Int)).toNat : Nat) : Int) = _
  rw [bv_ofInt_nat, bv_ofInt_nat]
  have ha : BitVec.ofNat 8 a.toNat = a.toBitVec := by simp
  have hb : BitVec.ofNat 8 b.toNat = b.toBitVec := by simp
  rw [ha, hb]
  have : (a.toBitVec ^^^ b.toBitVec).toNat = (a ^^^ b).toNat := by simp
  rw [this]
  exact wrap_u8 (by have := (a ^^^ b).toNat_lt; omega)
def oneBit (m : Nat) : UInt8 := UInt8.ofNat (2 ^ m)
theorem shl_u8 {m : Nat} (h : m < 8) : IntKind.u8.wrap (1 * 2 ^ (Min.min ((m : Nat) : Int).toNat IntKind.u8.bits)) = ((oneBit m).toNat : Int) := by
  have : ∀ m, m < 8 → IntKind.u8.wrap (1 * 2 ^ (Min.min ((m : Nat) : Int).toNat IntKind.u8.bits)) = ((oneBit m).toNat : Int) := by decide +kernel
  exact this m h
theorem xor_one {x : UInt8} {m : Nat} (h : m < 8) : x ^^^ oneBit m ≠ x := by
  intro e
  have h0 : oneBit m ≠ 0 := by
    have : ∀ m, m < 8 → oneBit m ≠ 0 := by decide +kernel
    exact this m h
  have := congrArg (fun z => x ^^^ z) e
  simp only [← UInt8.xor_assoc, UInt8.xor_self, UInt8.zero_xor] at this
  exact h0 this
end Brv.Crc
/-
  Plain laws on package pack: numbers as bytes of a width, what fits, texts, padding, and what a scan reads.
-/
set_option linter.unusedVariables false
namespace Brv.Pack
open Go Brv Brv.Crc

/-- The bytes of a number, of a width. -/
def be : Nat → Nat → List UInt8
  | 0, _ => []
  | w + 1, x => be w (x / 256) ++ [UInt8.ofNat (x % 256)]
theorem be_length : ∀ w x, (be w x).length = w
  | 0, _ => rfl
  | w + 1, x => by simp [be, be_length w]
theorem be_get : ∀ (w x i : Nat), i < w → (be w x)[i]? = some (UInt8.ofNat (x / 256 ^ (w - 1 - i) % 256))
  | 0, _, i, h => by omega
  | w + 1, x, i, h => by
    unfold be
    by_cases e : i = w
    · subst e
      rw [List.getElem?_append_right (by rw [be_length]; omega)]
      simp [be_length]
    · rw [List.getElem?_append_left (by rw [be_length]; omega), be_get w _ i (by omega)]
      rw [show w + 1 - 1 - i = (w - 1 - i) + 1 by omega, Nat.pow_succ, Nat.mul_comm, ← Nat.div_div_eq_div_mul]
theorem be_take (w x k : Nat) (h : k < w) : (be w x).take (k + 1) = (be w x).take k ++ [UInt8.ofNat (x / 256 ^ (w - 1 - k) % 256)] := by
  rw [List.take_add_one, be_get w x k h]; rfl
/-- The number that bytes tell. -/
def num (l : List UInt8) : Nat := l.foldl (fun n c => 256 * n + c.toNat) 0
theorem snoc_rec {Q : List UInt8 → Prop} (h0 : Q []) (hs : ∀ l c, Q l → Q (l ++ [c])) (l : List UInt8) : Q l := by
  have : ∀ r : List UInt8, Q r.reverse := by
    intro r
    induction r with
    | nil => exact h0
    | cons c r ih => rw [List.reverse_cons]; exact hs _ c ih
  have := this l.reverse
  rwa [List.reverse_reverse] at this
theorem num_snoc (l : List UInt8) (c : UInt8) : num (l ++ [c]) = 256 * num l + c.toNat := by simp [num]
theorem num_be : ∀ (w x : Nat), x < 256 ^ w → num (be w x) = x
  | 0, x, h => by simp at h; subst h; rfl
  | w + 1, x, h => by
    unfold be
    rw [num_snoc, num_be w _ (by rw [Nat.pow_succ] at h; omega)]
    simp only [UInt8.toNat_ofNat']
    omega
theorem num_lt : ∀ (l : List UInt8), num l < 256 ^ l.length := by
  refine snoc_rec (by simp [num]) (fun l c ih => ?_)
  · rw [num_snoc, List.length_append, List.length_singleton, Nat.pow_succ]
    have := lt_u8 c
    omega
theorem be_num : ∀ (l : List UInt8), be l.length (num l) = l := by
  refine snoc_rec rfl (fun l c ih => ?_)
  · rw [num_snoc, List.length_append, List.length_singleton]
    unfold be
    have := lt_u8 c
    rw [show (256 * num l + c.toNat) / 256 = num l by omega, ih, show (256 * num l + c.toNat) % 256 = c.toNat by omega]
    simp
theorem be_inj {w x y : Nat} (hx : x < 256 ^ w) (hy : y < 256 ^ w) (h : be w x = be w y) : x = y := by
  rw [← num_be w x hx, ← num_be w y hy, h]
/-- Does a number go into a width? -/
def fitsF (x y : Int) : Bool := decide (1 ≤ y ∧ y ≤ 8 ∧ 0 ≤ x ∧ x < 256 ^ y.toNat)
theorem pow_256 (k : Nat) : 256 ^ k = 2 ^ (8 * k) := by rw [Nat.pow_mul]
theorem pow_256_int (k : Nat) : (256 : Int) ^ k = 2 ^ (8 * k) := by rw [Int.pow_mul]; rfl
theorem pos_256 (k : Nat) : 0 < 256 ^ k := Nat.pow_pos (by decide)
theorem le_256 {k : Nat} (h : k ≤ 8) : 256 ^ k ≤ 18446744073709551616 := Nat.le_trans (Nat.pow_le_pow_right (by decide) h) (by decide)
/-- One byte of a number, shifted down. -/
theorem shift_byte (x w i : Nat) (hw : w ≤ 8) (hi : i < w) (z : Int) (hz : z = 8 * ((w : Int) - 1 - i)) :
    IntKind.u8.wrap ((x : Int).fdiv (2 ^ (Min.min z.toNat IntKind.i64.bits))) = ((UInt8.ofNat (x / 256 ^ (w - 1 - i) % 256)).toNat : Int) := by
  have e : Min.min z.toNat IntKind.i64.bits = 8 * (w - 1 - i) := by
    show Min.min z.toNat 64 = _
    omega
  rw [e, Int.fdiv_eq_ediv_of_nonneg _ (by apply Int.le_of_lt; apply Int.pow_pos; decide), ← pow_256_int]
  have h1 : (x : Int) / 256 ^ (w - 1 - i) = ((x / 256 ^ (w - 1 - i) : Nat) : Int) := by simp
  rw [h1]
  simp only [IntKind.wrap, IntKind.bits, IntKind.signed, Bool.false_and, UInt8.toNat_ofNat']
  simp
theorem shift_zero {x y : Int} (hx : 0 ≤ x) (h1 : 1 ≤ y) (h8 : y ≤ 7) : (x.fdiv (2 ^ (Min.min (8 * y).toNat IntKind.i64.bits)) = 0) ↔ x < 256 ^ y.toNat := by
  have e : Min.min (8 * y).toNat IntKind.i64.bits = 8 * y.toNat := by
    show Min.min (8 * y).toNat 64 = _
    omega
  rw [e, Int.fdiv_eq_ediv_of_nonneg _ (by apply Int.le_of_lt; apply Int.pow_pos; decide), ← pow_256_int]
  have hp : (0 : Int) < 256 ^ y.toNat := Int.pow_pos (by decide)
  constructor
  · intro h
    have := Int.lt_mul_ediv_self_add (x := x) hp
    rw [h] at this; omega
  · exact fun h => Int.ediv_eq_zero_of_lt hx h
theorem fits_eight {x : Int} (h : x ≤ 9223372036854775807) : x < 256 ^ (8 : Int).toNat := Int.lt_of_le_of_lt h (by decide)
theorem fitsF_eight {x y : Int} (h : y = 8) (h0 : 0 ≤ x) (hx : x ≤ 9223372036854775807) : true = fitsF x y := by
  subst h; unfold fitsF; rw [eq_comm, decide_eq_true_iff]; exact ⟨by omega, by omega, h0, fits_eight hx⟩
theorem fitsF_shift {x y : Int} (h1 : 1 ≤ y) (h8 : y ≤ 8) (hn : ¬ y = 8) (h0 : 0 ≤ x) : decide (x.fdiv (2 ^ (Min.min (8 * y).toNat IntKind.i64.bits)) = 0) = fitsF x y := by
  unfold fitsF
  rw [decide_eq_decide, shift_zero h0 h1 (by omega)]
  exact ⟨fun h => ⟨h1, h8, h0, h⟩, fun h => h.2.2.2⟩
theorem fitsF_no {x y : Int} (h : ¬ (1 ≤ y ∧ y ≤ 8 ∧ 0 ≤ x)) : false = fitsF x y := by
  unfold fitsF
  rw [eq_comm, decide_eq_false_iff_not]
  exact fun h' => h ⟨h'.1, h'.2.1, h'.2.2.1⟩
theorem fitsF_spec {x y : Int} : fitsF x y = true ↔ (1 ≤ y ∧ y ≤ 8 ∧ 0 ≤ x ∧ x < 256 ^ y.toNat) := by unfold fitsF; rw [decide_eq_true_iff]
/-- Divided so often, a number that fits is nothing. -/
theorem div_fits {x y : Int} (h1 : 1 ≤ y) (h8 : y ≤ 8) (h0 : 0 ≤ x) : decide (x / 256 ^ y.toNat = 0) = fitsF x y := by
  unfold fitsF
  rw [decide_eq_decide]
  have hp : (0 : Int) < 256 ^ y.toNat := Int.pow_pos (by decide)
  constructor
  · intro h
    refine ⟨h1, h8, h0, ?_⟩
    have := Int.lt_mul_ediv_self_add (x := x) hp
    rw [h] at this; omega
  · exact fun h => Int.ediv_eq_zero_of_lt h0 h.2.2.2
theorem div_step (x : Int) (k : Nat) : x / 256 ^ k / 256 = x / 256 ^ (k + 1) := by
  rw [Int.pow_succ, Int.ediv_ediv_of_nonneg (by apply Int.le_of_lt; apply Int.pow_pos; decide)]
/-- A text with its length. -/
def textF (l : List UInt8) : List UInt8 := be 2 l.length ++ l
def padN (n k : Nat) : Nat := (n - k % n) % n
/-- Bytes, padded to a multiple. -/
def padF (n : Int) (l : List UInt8) : List UInt8 := if n < 1 then l else l ++ List.replicate (padN n.toNat l.length) 0
theorem padN_lt {n k : Nat} (h : 0 < n) : padN n k < n := Nat.mod_lt _ h
theorem padN_mod {n k : Nat} (h : 0 < n) : (k + padN n k) % n = 0 := by
  unfold padN
  have h1 := Nat.mod_lt k h
  by_cases e : k % n = 0
  · rw [e]; simp [e]
  · rw [Nat.mod_eq_of_lt (a := n - k % n) (by omega)]
    have : k = n * (k / n) + k % n := (Nat.div_add_mod k n).symm
    rw [show k + (n - k % n) = n * (k / n) + n by omega]
    simp
theorem pad_more {n k j : Nat} (h : 0 < n) (hj : j < padN n k) : (k + j) % n ≠ 0 := by
  intro e
  have h1 := padN_mod (k := k) h
  have h2 := padN_lt (k := k) h
  have h3 := Nat.div_add_mod (k + j) n
  have h4 := Nat.div_add_mod (k + padN n k) n
  rw [e] at h3; rw [h1] at h4
  have : n * ((k + padN n k) / n) - n * ((k + j) / n) = padN n k - j := by omega
  rw [← Nat.mul_sub] at this
  have h5 : n ≤ n * ((k + padN n k) / n - (k + j) / n) := Nat.le_mul_of_pos_right _ (Nat.pos_of_ne_zero (fun e => by rw [e, Nat.mul_zero] at this; omega))
  omega
theorem pad_end {y : Int} {k j : Nat} (hy : ¬ y < 1) (hj : j ≤ padN y.toNat k) : ((k + j : Nat) : Int) % y = 0 ↔ j = padN y.toNat k := by
  obtain ⟨m, rfl⟩ := Int.eq_ofNat_of_zero_le (show 0 ≤ y by omega)
  simp only [Int.toNat_natCast] at *
  have hm : 0 < m := by omega
  have e : ((k + j : Nat) : Int) % (m : Int) = (((k + j) % m : Nat) : Int) := by simp
  rw [e]
  constructor
  · intro h
    by_cases hlt : j < padN m k
    · exact absurd (by omega) (pad_more hm hlt)
    · omega
  · intro h; subst h; rw [padN_mod hm]; rfl
theorem padN_int {n : Int} {k : Nat} (h : 1 ≤ n) : (n - (k : Int) % n) % n = (padN n.toNat k : Int) := by
  obtain ⟨m, rfl⟩ := Int.eq_ofNat_of_zero_le (show 0 ≤ n by omega)
  unfold padN
  have h1 := Nat.mod_lt k (show 0 < m by omega)
  simp only [Int.toNat_natCast]
  have e : ((m - k % m : Nat) : Int) = (m : Int) - (k : Int) % m := by omega
  rw [← e]; simp
theorem getD_zero {l : List UInt8} (h : 0 < l.length) : l.getD 0 0 = l[0] := by
  cases l with
  | nil => simp at h
  | cons c r => rfl
/-! ### scans -/
/-- How many bytes are taken. -/
def takeN (l : List UInt8) (y : Int) : Nat := if y ≤ l.length then y.toNat else 0
theorem takeN_le (l : List UInt8) (y : Int) : takeN l y ≤ l.length := by unfold takeN; split <;> omega
theorem takeN_yes {l : List UInt8} {y : Int} (h : y ≤ l.length) : takeN l y = y.toNat := if_pos h
theorem takeN_no {l : List UInt8} {y : Int} (h : ¬ y ≤ l.length) : takeN l y = 0 := if_neg h
/-- May a number of y bytes be read? -/
def okN (l : List UInt8) (y : Int) : Prop := 1 ≤ y ∧ y ≤ 8 ∧ y ≤ l.length ∧ (y = 8 → (l.getD 0 0).toNat < 128)
instance (l : List UInt8) (y : Int) : Decidable (okN l y) := by unfold okN; infer_instance
theorem okN_no {l : List UInt8} {y : Int} (h : okN l y) : y ≤ l.length := h.2.2.1
/-- What a scan reads, what is left, the error. -/
def numF (l : List UInt8) (e y : Int) : Nat × List UInt8 × Int :=
  if e = 0 then (if okN l y then (num (l.take y.toNat), l.drop y.toNat, 0) else (0, l, 20)) else (0, l, e)
def okT (l : List UInt8) (most : Int) : Prop := 2 ≤ l.length ∧ (num (l.take 2) : Int) ≤ most ∧ num (l.take 2) ≤ l.length - 2
instance (l : List UInt8) (y : Int) : Decidable (okT l y) := by unfold okT; infer_instance
def txtF (l : List UInt8) (e most : Int) : List UInt8 × List UInt8 × Int :=
  if e = 0 then (if okT l most then ((l.drop 2).take (num (l.take 2)), (l.drop 2).drop (num (l.take 2)), 0) else ([], l, 20)) else ([], l, e)
def noughtF (l : List UInt8) (e : Int) : Bool := decide (e = 0) && l.all (· == 0)
theorem num_snoc_le (l : List UInt8) (c : UInt8) : num l ≤ num (l ++ [c]) := by rw [num_snoc]; omega
theorem num_append_le (l : List UInt8) : ∀ (r : List UInt8), num l ≤ num (l ++ r) := by
  refine snoc_rec (by simp) (fun r c ih => ?_)
  rw [← List.append_assoc]
  exact Nat.le_trans ih (num_snoc_le _ _)
theorem num_take_le (l : List UInt8) {j k : Nat} (h : j ≤ k) : num (l.take j) ≤ num (l.take k) := by
  have : l.take j = (l.take k).take j := by rw [List.take_take, Nat.min_eq_left h]
  rw [this]
  conv => rhs; rw [← List.take_append_drop j (l.take k)]
  exact num_append_le _ _
theorem num_take_succ (l : List UInt8) {k : Nat} (h : k < l.length) : num (l.take (k + 1)) = 256 * num (l.take k) + l[k].toNat := by
  rw [List.take_succ_eq_append_getElem h, num_snoc]
theorem num_head (c : UInt8) : ∀ (l : List UInt8), num (c :: l) = c.toNat * 256 ^ l.length + num l := by
  refine snoc_rec (by simp [num]) (fun r d ih => ?_)
  rw [← List.cons_append, num_snoc, ih, num_snoc, List.length_append, List.length_singleton, Nat.pow_succ, Nat.mul_add, ← Nat.mul_assoc, ← Nat.mul_assoc, Nat.mul_comm 256, Nat.mul_right_comm]
  omega
theorem okN_lt {l : List UInt8} {y : Int} (h : okN l y) : num (l.take y.toNat) < 9223372036854775808 := by
  obtain ⟨h1, h8, hl, hh⟩ := h
  have hlen : (l.take y.toNat).length = y.toNat := by rw [List.length_take]; omega
  by_cases e : y = 8
  · subst e
    have := hh rfl
    cases l with
    | nil => simp at hl
    | cons c r =>
      rw [show (c :: r).take (8 : Int).toNat = c :: r.take 7 from rfl, num_head]
      have h7 : (r.take 7).length = 7 := by rw [List.length_take]; simp at hl; omega
      have h9 := num_lt (r.take 7)
      rw [h7] at h9 ⊢
      simp only [List.getD_cons_zero] at this
      omega
  · have := num_lt (l.take y.toNat)
    rw [hlen] at this
    exact Nat.lt_of_lt_of_le this (Nat.le_trans (Nat.pow_le_pow_right (by decide) (show y.toNat ≤ 7 by omega)) (by decide))
theorem or_byte {n : Nat} {c : Nat} (hc : c < 256) (h : 256 * n + c < 9223372036854775808) : orI .i64 (256 * (n : Int)) (c : Int) = ((256 * n + c : Nat) : Int) := by
  unfold orI
  show IntKind.i64.wrap (((BitVec.ofInt 64 (256 * (n : Int)) ||| BitVec.ofInt 64 (c : Int)).toNat : Nat) : Int) = _
  have e : 256 * (n : Int) = ((256 * n : Nat) : Int) := by omega
  rw [e, bv_ofInt_nat, bv_ofInt_nat, BitVec.toNat_or, BitVec.toNat_ofNat, BitVec.toNat_ofNat, Nat.mod_eq_of_lt (by omega), Nat.mod_eq_of_lt (by omega)]
  have := Nat.shiftLeft_add_eq_or_of_lt (i := 8) (b := c) hc n
  rw [Nat.shiftLeft_eq, Nat.mul_comm] at this
  rw [show (256 : Nat) = 2 ^ 8 by decide, ← this]
  exact wrap_i64 (by omega)
theorem shl_byte {n : Nat} (h : 256 * n < 9223372036854775808) : IntKind.i64.wrap ((n : Int) * 2 ^ (Min.min (8 : Int).toNat IntKind.i64.bits)) = 256 * (n : Int) := by
  rw [show (2 : Int) ^ (Min.min (8 : Int).toNat IntKind.i64.bits) = 256 by decide]
  exact (wrap_i64 (by omega)).trans (by omega)
theorem all_take_succ {l : List UInt8} {k : Nat} (h : k < l.length) : (l.take (k + 1)).all (· == 0) = ((l.take k).all (· == 0) && (l[k] == 0)) := by
  rw [List.take_succ_eq_append_getElem h, List.all_append, List.all_cons, List.all_nil, Bool.and_true]
theorem numF_go {l : List UInt8} {y : Int} (hok : y ≤ l.length → okN l y) : numF l 0 y = (num (l.take (takeN l y)), l.drop (takeN l y), if y ≤ l.length then 0 else 20) := by
  unfold numF
  by_cases h : y ≤ l.length
  · rw [if_pos rfl, if_pos (hok h), takeN_yes h, if_pos h]
  · rw [if_pos rfl, if_neg (fun h' => h (okN_no h')), takeN_no h, if_neg h]; rfl
theorem numF_no {l : List UInt8} {y : Int} (h : ¬ okN l y) : numF l 0 y = (0, l, 20) := by
  unfold numF; rw [if_pos rfl, if_neg h]
theorem numF_err {l : List UInt8} {e y : Int} (h : e ≠ 0) : numF l e y = (0, l, e) := by
  unfold numF; rw [if_neg h]
theorem numF_two {l : List UInt8} {m : Nat} {l' : List UInt8} {e' : Int} (h : numF l 0 2 = (m, l', e')) : (2 ≤ l.length ∧ e' = 0 ∧ m = num (l.take 2) ∧ l' = l.drop 2) ∨ (l.length < 2 ∧ e' = 20 ∧ m = 0 ∧ l' = l) := by
  by_cases hl : 2 ≤ l.length
  · have ok : okN l 2 := ⟨by omega, by omega, by omega, by omega⟩
    unfold numF at h
    rw [if_pos rfl, if_pos ok] at h
    cases h
    exact .inl ⟨hl, rfl, rfl, rfl⟩
  · have ok : ¬ okN l 2 := fun h => hl (by have := h.2.2.1; omega)
    rw [numF_no ok] at h
    cases h
    exact .inr ⟨by omega, rfl, rfl, rfl⟩
theorem txtF_yes {l : List UInt8} {m : Nat} {l' : List UInt8} {e' most : Int} (h : numF l 0 2 = (m, l', e')) (h0 : e' = 0) (hm : (m : Int) ≤ most) (hl : m ≤ l'.length) : txtF l 0 most = (l'.take m, l'.drop m, 0) := by
  rcases numF_two h with ⟨h1, _, rfl, rfl⟩ | ⟨_, h2, _⟩
  · unfold txtF
    rw [if_pos rfl, if_pos ⟨h1, hm, by simpa using hl⟩]
  · omega
theorem txtF_no {l : List UInt8} {m : Nat} {l' : List UInt8} {e' most : Int} (h : numF l 0 2 = (m, l', e')) (hn : ¬ (e' = 0 ∧ (m : Int) ≤ most ∧ m ≤ l'.length)) : txtF l 0 most = ([], l, 20) := by
  unfold txtF
  rw [if_pos rfl]
  rcases numF_two h with ⟨h1, h2, rfl, rfl⟩ | ⟨h1, h2, _⟩
  · rw [if_neg (fun h => hn ⟨h2, h.2.1, by simpa using h.2.2⟩)]
  · rw [if_neg (fun h => by have := h.1; omega)]
theorem txtF_err {l : List UInt8} {e y : Int} (h : e ≠ 0) : txtF l e y = ([], l, e) := by
  unfold txtF; rw [if_neg h]
theorem all_step {l : List UInt8} {k : Nat} (hk : k < l.length) (ha : (l.take k).all (· == 0) = true) (h0 : ¬ (l[k].toNat : Int) ≠ 0) : (l.take (k + 1)).all (· == 0) = true := by
  rw [all_take_succ hk, ha]
  have : l[k] = 0 := UInt8.toNat_inj.1 (by simp; omega)
  rw [this]; rfl
theorem all_stop {l : List UInt8} {k : Nat} (hk : k < l.length) (h0 : (l[k].toNat : Int) ≠ 0) : l.all (· == 0) = false := by
  cases h : l.all (· == 0) with
  | false => rfl
  | true =>
    have := List.all_eq_true.1 h l[k] (List.getElem_mem hk)
    have e : l[k] = 0 := by simpa using this
    rw [e] at h0; exact absurd rfl h0
theorem numF_ok {l : List UInt8} {y : Int} (h : okN l y) : numF l 0 y = (num (l.take y.toNat), l.drop y.toNat, 0) := by
  unfold numF; rw [if_pos rfl, if_pos h]
theorem numF_zero {l : List UInt8} {e y : Int} {m : Nat} {l' : List UInt8} (h : numF l e y = (m, l', 0)) : e = 0 := by
  by_cases he : e = 0
  · exact he
  · rw [numF_err he] at h; cases h; rfl
theorem txtF_first {l : List UInt8} {e most : Int} {m : Nat} {l' : List UInt8} {e' : Int} (h : numF l e 2 = (m, l', e')) (hn : e' ≠ 0) : txtF l e most = ([], l', e') := by
  by_cases he : e = 0
  · subst he
    rcases numF_two h with ⟨_, h2, _⟩ | ⟨_, h2, _, rfl⟩
    · exact absurd h2 hn
    · rw [txtF_no h (by omega), h2]
  · rw [numF_err he] at h; cases h
    exact txtF_err he
theorem num_takeN_lt {l : List UInt8} {y : Int} (hok : y ≤ l.length → okN l y) : num (l.take (takeN l y)) < 9223372036854775808 := by
  by_cases h : y ≤ l.length
  · rw [takeN_yes h]; exact okN_lt (hok h)
  · rw [takeN_no h]; simp [num]
theorem num_step {l : List UInt8} {m k : Nat} (hk : k < m) (hm : m ≤ l.length) (h : num (l.take m) < 9223372036854775808) : 256 * num (l.take k) + (l[k]'(by omega)).toNat < 9223372036854775808 := by
  rw [← num_take_succ l (by omega)]
  exact Nat.lt_of_le_of_lt (num_take_le l (by omega)) h
/-! ### the order of numbers is that of their bytes -/
theorem bytesLess_snoc (c d : UInt8) : ∀ (a b : List UInt8), a.length = b.length → Op.bytesLess (a ++ [c]) (b ++ [d]) = (Op.bytesLess a b || (decide (a = b) && decide (c < d)))
  | [], [], _ => by simp [Op.bytesLess]
  | [], _ :: _, h => by simp at h
  | _ :: _, [], h => by simp at h
  | a :: x, b :: y, h => by
    have ih := bytesLess_snoc c d x y (by simpa using h)
    simp only [List.cons_append, Op.bytesLess, ih]
    by_cases e : a = b
    · subst e
      by_cases e2 : x = y
      · subst e2; simp
      · simp [e2]
    · have e' : (a == b) = false := by simpa using e
      simp [e, e']
theorem nat_pow_lt {x k : Nat} : ((x : Int) < (256 : Int) ^ k) ↔ x < 256 ^ k := by
  rw [show (256 : Int) ^ k = ((256 ^ k : Nat) : Int) from (Int.natCast_pow 256 k).symm]
  omega
theorem be_less_aux : ∀ (w x y : Nat), x < 256 ^ w → y < 256 ^ w → Op.bytesLess (be w x) (be w y) = decide (x < y)
  | 0, x, y, hx, hy => by
    simp at hx hy; subst hx; subst hy; rfl
  | w + 1, x, y, hx, hy => by
    rw [Nat.pow_succ] at hx hy
    have h1 : x / 256 < 256 ^ w := by omega
    have h2 : y / 256 < 256 ^ w := by omega
    unfold be
    rw [bytesLess_snoc _ _ _ _ (by rw [be_length, be_length]), be_less_aux w _ _ h1 h2]
    have h3 : decide (be w (x / 256) = be w (y / 256)) = decide (x / 256 = y / 256) := by
      rw [decide_eq_decide]; exact ⟨be_inj h1 h2, fun h => by rw [h]⟩
    have h4 : decide (UInt8.ofNat (x % 256) < UInt8.ofNat (y % 256)) = decide (x % 256 < y % 256) := by
      rw [decide_eq_decide, UInt8.lt_iff_toNat_lt]
      simp only [UInt8.toNat_ofNat']
      omega
    rw [h3, h4, Bool.eq_iff_iff]
    simp only [Bool.or_eq_true, Bool.and_eq_true, decide_eq_true_eq]
    omega
theorem be_less {x y z : Int} (hx : 1 ≤ z ∧ z ≤ 8 ∧ 0 ≤ x ∧ x < 256 ^ z.toNat) (hy : 1 ≤ z ∧ z ≤ 8 ∧ 0 ≤ y ∧ y < 256 ^ z.toNat) : (Op.bytesLess (be z.toNat x.toNat) (be z.toNat y.toNat) == decide (x < y)) = true := by
  obtain ⟨x, rfl⟩ := Int.eq_ofNat_of_zero_le hx.2.2.1
  obtain ⟨y, rfl⟩ := Int.eq_ofNat_of_zero_le hy.2.2.1
  have h1 : x < 256 ^ z.toNat := nat_pow_lt.1 hx.2.2.2
  have h2 : y < 256 ^ z.toNat := nat_pow_lt.1 hy.2.2.2
  rw [Int.toNat_natCast, Int.toNat_natCast, be_less_aux _ _ _ h1 h2]
  simp
theorem be_same {x y z : Int} (hx : 1 ≤ z ∧ z ≤ 8 ∧ 0 ≤ x ∧ x < 256 ^ z.toNat) (hy : 1 ≤ z ∧ z ≤ 8 ∧ 0 ≤ y ∧ y < 256 ^ z.toNat) : (decide (be z.toNat x.toNat = be z.toNat y.toNat) == decide (x = y)) = true := by
  obtain ⟨x, rfl⟩ := Int.eq_ofNat_of_zero_le hx.2.2.1
  obtain ⟨y, rfl⟩ := Int.eq_ofNat_of_zero_le hy.2.2.1
  have h1 : x < 256 ^ z.toNat := nat_pow_lt.1 hx.2.2.2
  have h2 : y < 256 ^ z.toNat := nat_pow_lt.1 hy.2.2.2
  rw [Int.toNat_natCast, Int.toNat_natCast, beq_iff_eq, decide_eq_decide]
  exact ⟨fun h => congrArg Nat.cast (be_inj h1 h2 h), fun h => by rw [show x = y by omega]⟩
theorem numF_length (l : List UInt8) (e y : Int) : (numF l e y).2.1.length ≤ l.length := by
  unfold numF; split
  · split <;> simp
  · exact Nat.le_refl _
theorem txtF_length (l : List UInt8) (e y : Int) : (txtF l e y).2.1.length ≤ l.length := by
  unfold txtF; split
  · split <;> simp <;> omega
  · exact Nat.le_refl _
/-! ### any number's bytes -/
theorem u8_wrap (z : Int) : 0 ≤ IntKind.u8.wrap z ∧ IntKind.u8.wrap z < 256 := by
  simp only [IntKind.wrap, IntKind.bits, IntKind.signed, Bool.false_and]
  simp only [Bool.false_eq_true, if_false]
  omega
def byteI (x : Int) : UInt8 := UInt8.ofNat (IntKind.u8.wrap (x.tmod 256)).toNat
theorem byteI_spec (x : Int) : IntKind.u8.wrap (x.tmod 256) = ((byteI x).toNat : Int) := by
  have := u8_wrap (x.tmod 256)
  unfold byteI
  simp only [UInt8.toNat_ofNat']
  omega
def bi : Nat → Int → List UInt8
  | 0, _ => []
  | w + 1, x => bi w (x.tdiv 256) ++ [byteI x]
theorem bi_length : ∀ w x, (bi w x).length = w
  | 0, _ => rfl
  | w + 1, x => by simp [bi, bi_length w]
theorem byteI_nat (x : Nat) : byteI (x : Int) = UInt8.ofNat (x % 256) := by
  unfold byteI
  rw [show ((x : Int).tmod 256) = ((x % 256 : Nat) : Int) by rw [Int.tmod_eq_emod_of_nonneg (by omega)]; omega, wrap_u8 (by omega)]
  rfl
theorem bi_nat : ∀ (w x : Nat), bi w (x : Int) = be w x
  | 0, _ => rfl
  | w + 1, x => by
    unfold bi be
    rw [byteI_nat, show ((x : Int).tdiv 256) = ((x / 256 : Nat) : Int) by rw [Int.tdiv_eq_ediv_of_nonneg (by omega)]; omega, bi_nat w]
theorem tdiv_bounds {x : Int} (h : -9223372036854775808 ≤ x ∧ x ≤ 9223372036854775807) : -9223372036854775808 ≤ x.tdiv 256 ∧ x.tdiv 256 ≤ 9223372036854775807 := by
  rcases Int.le_total 0 x with h0 | h0
  · rw [Int.tdiv_eq_ediv_of_nonneg h0]; omega
  · obtain ⟨y, rfl⟩ : ∃ y : Int, x = -y := ⟨-x, by omega⟩
    rw [Int.neg_tdiv, Int.tdiv_eq_ediv_of_nonneg (by omega)]; omega
end Brv.Pack
/-
  The walks of package pack: the pen.
-/
set_option linter.unusedVariables false
namespace Go.Proofs.Ytiiiplhfgblamaa
open Go Brv Brv.Crc Brv.Pack
theorem fits_ok (x y : Int) (w : World) (hx : -9223372036854775808 ≤ x ∧ x ≤ 9223372036854775807) (hy : -9223372036854775808 ≤ y ∧ y ≤ 9223372036854775807) : Meets Try.prog 94 [.int .i64 x, .int .i64 y] w (fun v w' => v = .bool (fitsF x y) ∧ w' = w) := by
  refine Meets.enter Try.func94 rfl 26 rfl (Nat.le_of_ble_eq_true rfl) ?_
  refine G.seq ?_
  refine G.region ?_
  refine L.val rfl rfl (R.as rfl) ?_
  refine L.nil ?_
  refine N.seq ?_
  refine G.seq ?_
  refine G.region ?_
  refine L.val rfl rfl (R.mv rfl) ?_
  refine L.val rfl rfl (R.geq rfl rfl) ?_
  refine L.val rfl rfl (R.mv rfl) ?_
  refine L.caseP 7 rfl (fun hg1_2 => ?_) (fun hg1_2 => ?_)
  · refine L.val rfl rfl (R.mv rfl) ?_
    refine L.val rfl rfl (R.leq rfl rfl) ?_
    first | refine L.val rfl rfl (R.pickT rfl rfl) ?_ | refine L.val rfl rfl (R.pickF rfl rfl) ?_
    refine L.val rfl rfl (R.mv rfl) ?_
    refine L.caseP 11 rfl (fun hg1_6 => ?_) (fun hg1_6 => ?_)
    · refine L.val rfl rfl (R.mv rfl) ?_
      refine L.val rfl rfl (R.geq rfl rfl) ?_
      first | refine L.val rfl rfl (R.pickT rfl rfl) ?_ | refine L.val rfl rfl (R.pickF rfl rfl) ?_
      refine L.val rfl rfl (R.mv rfl) ?_
      refine L.caseP 15 rfl (fun hg1_10 => ?_) (fun hg1_10 => ?_)
      · refine L.val rfl rfl (R.mv rfl) ?_
        refine L.val rfl rfl (R.eqI rfl rfl) ?_
        refine L.val rfl rfl (R.mv rfl) ?_
        refine L.caseP 18 rfl (fun hg1_13 => ?_) (fun hg1_13 => ?_)
        · refine L.pass rfl rfl ?_
          refine L.pass rfl rfl ?_
          refine L.pass rfl rfl ?_
          refine L.pass rfl rfl ?_
          refine L.pass rfl rfl ?_
          first | refine L.val rfl rfl (R.pickT rfl rfl) ?_ | refine L.val rfl rfl (R.pickF rfl rfl) ?_
          first | refine L.val rfl rfl (R.pickT rfl rfl) ?_ | refine L.val rfl rfl (R.pickF rfl rfl) ?_
          refine L.val rfl rfl (R.as rfl) ?_
          refine L.nil ?_
          refine N.seq ?_
          refine G.ret1 rfl rfl ?_
          exact ⟨congrArg Value.bool (fitsF_eight hg1_13 hg1_10 hx.2), rfl⟩
        · refine L.val rfl rfl (R.mv rfl) ?_
          refine L.val rfl rfl (R.mv rfl) ?_
          refine L.val rfl rfl (R.mul rfl rfl (by omega)) ?_
          refine L.val rfl rfl (R.shrW rfl rfl (by omega) _ rfl) ?_
          refine L.val rfl rfl (R.eqI rfl rfl) ?_
          first | refine L.val rfl rfl (R.pickT rfl rfl) ?_ | refine L.val rfl rfl (R.pickF rfl rfl) ?_
          first | refine L.val rfl rfl (R.pickT rfl rfl) ?_ | refine L.val rfl rfl (R.pickF rfl rfl) ?_
          refine L.val rfl rfl (R.as rfl) ?_
          refine L.nil ?_
          refine N.seq ?_
          refine G.ret1 rfl rfl ?_
          exact ⟨congrArg Value.bool (fitsF_shift hg1_2 hg1_6 hg1_13 hg1_10), rfl⟩
      · refine L.pass rfl rfl ?_
        refine L.pass rfl rfl ?_
        refine L.pass rfl rfl ?_
        refine L.pass rfl rfl ?_
        refine L.pass rfl rfl ?_
        refine L.pass rfl rfl ?_
        refine L.pass rfl rfl ?_
        refine L.pass rfl rfl ?_
        refine L.pass rfl rfl ?_
        first | refine L.val rfl rfl (R.pickT rfl rfl) ?_ | refine L.val rfl rfl (R.pickF rfl rfl) ?_
        refine L.val rfl rfl (R.as rfl) ?_
        refine L.nil ?_
        refine N.seq ?_
        refine G.ret1 rfl rfl ?_
        exact ⟨congrArg Value.bool (fitsF_no (by omega)), rfl⟩
    · refine L.pass rfl rfl ?_
      refine L.pass rfl rfl ?_
      first | refine L.val rfl rfl (R.pickT rfl rfl) ?_ | refine L.val rfl rfl (R.pickF rfl rfl) ?_
      refine L.val rfl rfl (R.mv rfl) ?_
      refine L.pass rfl rfl ?_
      refine L.pass rfl rfl ?_
      refine L.pass rfl rfl ?_
      refine L.pass rfl rfl ?_
      refine L.pass rfl rfl ?_
      refine L.pass rfl rfl ?_
      refine L.pass rfl rfl ?_
      refine L.pass rfl rfl ?_
      refine L.pass rfl rfl ?_
      first | refine L.val rfl rfl (R.pickT rfl rfl) ?_ | refine L.val rfl rfl (R.pickF rfl rfl) ?_
      refine L.val rfl rfl (R.as rfl) ?_
      refine L.nil ?_
      refine N.seq ?_
      refine G.ret1 rfl rfl ?_
      exact ⟨congrArg Value.bool (fitsF_no (by omega)), rfl⟩
  · refine L.pass rfl rfl ?_
    refine L.pass rfl rfl ?_
    first | refine L.val rfl rfl (R.pickT rfl rfl) ?_ | refine L.val rfl rfl (R.pickF rfl rfl) ?_
    refine L.val rfl rfl (R.mv rfl) ?_
    refine L.pass rfl rfl ?_
    refine L.pass rfl rfl ?_
    first | refine L.val rfl rfl (R.pickT rfl rfl) ?_ | refine L.val rfl rfl (R.pickF rfl rfl) ?_
    refine L.val rfl rfl (R.mv rfl) ?_
    refine L.pass rfl rfl ?_
    refine L.pass rfl rfl ?_
    refine L.pass rfl rfl ?_
    refine L.pass rfl rfl ?_
    refine L.pass rfl rfl ?_
    refine L.pass rfl rfl ?_
    refine L.pass rfl rfl ?_
    refine L.pass rfl rfl ?_
    refine L.pass rfl rfl ?_
    first | refine L.val rfl rfl (R.pickT rfl rfl) ?_ | refine L.val rfl rfl (R.pickF rfl rfl) ?_
    refine L.val rfl rfl (R.as rfl) ?_
    refine L.nil ?_
    refine N.seq ?_
    refine G.ret1 rfl rfl ?_
    exact ⟨congrArg Value.bool (fitsF_no (by omega)), rfl⟩

theorem number_nil (x y : Int) (w : World) : Meets Try.prog 68 [.pointer none, .int .i64 x, .int .i64 y] w (fun v w' => v = .bool false ∧ w' = w) := by
  refine Meets.enter Try.func68 rfl 38 rfl (Nat.le_of_ble_eq_true rfl) ?_
  refine G.seq ?_
  refine G.region ?_
  refine L.val rfl rfl (R.as rfl) ?_
  refine L.nil ?_
  refine N.seq ?_
  refine G.seq ?_
  refine G.seq ?_
  refine G.region ?_
  refine L.val rfl rfl (R.mv rfl) ?_
  refine L.val rfl rfl (R.eqNilP rfl rfl) ?_
  refine L.val rfl rfl (R.mv rfl) ?_
  refine L.pass rfl rfl ?_
  refine L.pass rfl rfl ?_
  refine L.pass rfl rfl ?_
  refine L.pass rfl rfl ?_
  first | refine L.val rfl rfl (R.pickT rfl rfl) ?_ | refine L.val rfl rfl (R.pickF rfl rfl) ?_
  refine L.nil ?_
  refine N.seq ?_
  refine G.condT rfl ?_
  refine G.seq ?_
  refine G.region ?_
  refine L.val rfl rfl (R.as rfl) ?_
  refine L.nil ?_
  refine N.seq ?_
  refine G.ret1 rfl rfl ?_
  exact ⟨rfl, rfl⟩

theorem number_ok (p : Nat) (S : List Nat) (l : List UInt8) (x y : Int) (w : World) (hP : PenAt 122 5 w p l S) (hl : l.length ≤ 70368744177664) (hx : -9223372036854775808 ≤ x ∧ x ≤ 9223372036854775807) (hy : -9223372036854775808 ≤ y ∧ y ≤ 9223372036854775807) : Meets Try.prog 68 [.pointer (some ⟨p, 0, none⟩), .int .i64 x, .int .i64 y] w (fun v w' => v = .bool (fitsF x y) ∧ ∃ S', PenAt 122 5 w' p (l ++ (if fitsF x y then be y.toNat x.toNat else [])) S' ∧ Grown S S' w w') := by
  refine Meets.enter Try.func68 rfl 38 rfl (Nat.le_of_ble_eq_true rfl) ?_
  refine G.seq ?_
  refine G.region ?_
  refine L.val rfl rfl (R.as rfl) ?_
  refine L.nil ?_
  refine N.seq ?_
  refine G.seq ?_
  refine G.seq ?_
  refine G.region ?_
  refine L.val rfl rfl (R.mv rfl) ?_
  refine L.val rfl rfl (R.eqNilP rfl rfl) ?_
  refine L.val rfl rfl (R.mv rfl) ?_
  refine L.val rfl rfl (R.mv rfl) ?_
  refine L.val rfl rfl (R.mv rfl) ?_
  refine L.callF rfl rfl rfl go94 (fits_ok _ _ _ hx hy) ?_
  rintro _ _ ⟨rfl, hw⟩
  obtain rfl := hw.symm
  refine L.val rfl rfl (R.not rfl) ?_
  first | refine L.val rfl rfl (R.pickT rfl rfl) ?_ | refine L.val rfl rfl (R.pickF rfl rfl) ?_
  refine L.nil ?_
  refine N.seq ?_
  refine G.condB rfl (fun h0 => ?_) (fun h0 => ?_)
  · have hf : fitsF x y = false := by simpa using h0
    refine G.seq ?_
    refine G.region ?_
    refine L.val rfl rfl (R.as rfl) ?_
    refine L.nil ?_
    refine N.seq ?_
    refine G.ret1 rfl rfl ?_
    refine ⟨congrArg Value.bool hf.symm, S, ?_, Grown.refl _ _⟩
    rw [hf]; simpa using hP
  · have hf : fitsF x y = true := by simpa using h0
    have hf2 := fitsF_spec.1 hf
    obtain ⟨x, rfl⟩ := Int.eq_ofNat_of_zero_le hf2.2.2.1
    obtain ⟨y, rfl⟩ := Int.eq_ofNat_of_zero_le (show 0 ≤ y by omega)
    refine G.skip ?_
    refine N.seq ?_
    refine G.seq ?_
    refine G.seq ?_
    refine G.region ?_
    refine L.val rfl rfl (R.mv rfl) ?_
    refine L.val rfl rfl (R.mv rfl) ?_
    refine L.nil ?_
    refine N.seq ?_
    refine G.block ?_
    refine G.loop (X := Nat) (fun k => [(0, .pointer (some ⟨p, 0, none⟩)), (1, .int .i64 (x : Int)), (2, .int .i64 (y : Int)), (16, .int .i64 (y : Int)), (17, .int .i64 (k : Int))]) (fun k w' => k ≤ y ∧ ∃ S', PenAt 122 5 w' p (l ++ (be y x).take k) S' ∧ Grown S S' w w') (fun k => y - k) (0) (Sub.cons rfl (Sub.cons rfl (Sub.cons rfl (Sub.cons rfl (Sub.cons rfl (Sub.nil _)))))) ⟨by omega, S, by simpa using hP, Grown.refl _ _⟩ ?_
    rintro k w1 ⟨hk, S1, hP1, hG⟩
    refine G.seq ?_
    refine G.region ?_
    refine L.val rfl rfl (R.lss rfl rfl) ?_
    refine L.nil ?_
    refine N.seq ?_
    refine G.seq ?_
    refine G.condP rfl (fun h1 => ?_) (fun h1 => ?_)
    · obtain ⟨a, n, c, M, rfl, hpM, hn, hB, hO⟩ := hP1
      have hkt := be_take y x k (by omega)
      have hpl := hB.lt
      have htl : (List.take k (be y x)).length ≤ 8 := by rw [List.length_take, be_length]; omega
      rw [List.length_append] at hn
      refine G.skip ?_
      refine N.seq ?_
      refine G.seq ?_
      refine G.block ?_
      refine G.seq ?_
      refine G.region ?_
      refine L.val rfl rfl (R.mv rfl) ?_
      refine L.val rfl rfl (R.as rfl) ?_
      refine L.nil ?_
      refine N.seq ?_
      refine G.staged [14, 17] [.blocks (M), .blocks ([p])] [Ext [] w1, Ext M w1, fun w' => ∃ S', PenAt 122 5 w' p (l ++ (be y x).take (k + 1)) S' ∧ Grown (p :: M) S' w1 w'] [(14, 33), (17, 33), (17, 34)] (by decide +kernel) (by decide +kernel) rfl rfl rfl (fun _ h => h) ?_
      refine Z.val rfl rfl rfl rfl rfl (fun w2 => R.mv rfl) ?_
      refine Z.val rfl rfl rfl rfl rfl (fun w2 => R.mv rfl) ?_
      refine Z.val rfl rfl rfl rfl rfl (fun w2 => R.nilChk rfl) ?_
      refine Z.val rfl rfl rfl rfl rfl (fun w2 => R.fld rfl) ?_
      refine Z.read 0 (by decide +kernel) rfl rfl rfl rfl rfl rfl (fun w2 hJ => R.ldB rfl (hB.ext0 hJ) rfl) ?_
      refine Z.val rfl rfl rfl rfl rfl (fun w2 => R.mv rfl) ?_
      refine Z.val rfl rfl rfl rfl rfl (fun w2 => R.mv rfl) ?_
      refine Z.val rfl rfl rfl rfl rfl (fun w2 => R.sub' rfl rfl (by omega)) ?_
      refine Z.val rfl rfl rfl rfl rfl (fun w2 => R.mv rfl) ?_
      refine Z.val rfl rfl rfl rfl rfl (fun w2 => R.sub' rfl rfl (by omega)) ?_
      refine Z.val rfl rfl rfl rfl rfl (fun w2 => R.mul rfl rfl (by omega)) ?_
      refine Z.val rfl rfl rfl rfl rfl (fun w2 => R.shrW rfl rfl (by omega) _ rfl) ?_
      refine Z.val rfl rfl rfl rfl rfl (fun w2 => R.conv rfl _ (shift_byte x y k (by omega) (by omega) _ rfl)) ?_
      refine Z.new (A := IsBs 1 [UInt8.ofNat (x / 256 ^ (y - 1 - k) % 256)]) (Lasts.kill (IsBs.keep _ _) (by decide +kernel)) 0 (by decide +kernel) rfl rfl rfl rfl rfl (fun w2 hJ => (R.buildA rfl rfl rfl rfl rfl).mono (fun _ _ h => have q := h.bs (l := [UInt8.ofNat (x / 256 ^ (y - 1 - k) % 256)]) rfl rfl; ⟨q.1, q.2, hJ.trans0 q.2⟩)) ?_
      refine Z.put (A := Held M w1.heap.size 5 1 (n + 1) (vbs (l ++ (be y x).take (k + 1)))) (Lasts.kill (Held.keep _ _ _ _ _ _) (by decide +kernel)) 0 (by decide +kernel) rfl rfl rfl rfl rfl rfl rfl (fun w2 hJ => by rintro v ⟨a2, c2, rfl, _, hb2⟩; exact (R.app rfl rfl (hO.ext0 hJ) hb2.cells rfl (vbs_one _) (by simp [maxLen]; omega) (by omega)).mono (fun _ _ h => Held.app h hJ rfl (by rw [hkt]; simp [vbs]))) ?_
      refine Z.val rfl rfl rfl rfl rfl (fun w2 => R.nilChk rfl) ?_
      refine Z.val rfl rfl rfl rfl rfl (fun w2 => R.fld rfl) ?_
      refine Z.set 1 (by decide +kernel) rfl rfl rfl rfl rfl rfl (fun w2 hJ => fun v hv => (R.st rfl rfl (hB.ext hJ hpM) (by simp) (by obtain ⟨_, _, _, rfl, _⟩ := hv; rfl)).mono (fun _ h => ⟨h.1, by exact PenAt.put hpl hpM (by simp only [List.length_append, List.length_take, be_length] at hn ⊢; omega) hv hJ h⟩)) ?_
      refine Z.nil rfl rfl (fun w2 hJ => ?_)
      obtain ⟨S2, hP2, hG2⟩ := hJ
      refine N.block ?_
      refine N.seq ?_
      refine G.region ?_
      refine L.val rfl rfl (R.add rfl rfl (by omega)) ?_
      refine L.val rfl rfl (R.mv rfl) ?_
      refine L.nil ?_
      exact N.again (k + 1) (by omega) (Sub.cons rfl (Sub.cons rfl (Sub.cons rfl (Sub.cons rfl (Sub.cons rfl (Sub.nil _)))))) ⟨by omega, S2, hP2, hG.trans hG2⟩
    · obtain rfl : k = y := by omega
      refine G.exit _ rfl ?_
      refine N.seq ?_
      refine G.seq ?_
      refine G.region ?_
      refine L.val rfl rfl (R.as rfl) ?_
      refine L.nil ?_
      refine N.seq ?_
      refine G.ret1 rfl rfl ?_
      refine ⟨congrArg Value.bool hf.symm, S1, ?_, hG⟩
      rw [hf]; rw [List.take_of_length_le (by rw [be_length]; omega)] at hP1; simpa using hP1

theorem bytes_nil  (w : World) : Meets Try.prog 69 [.pointer none] w (fun v w' => v = .slice none 0 0 ∧ w' = w) := by
  refine Meets.enter Try.func69 rfl 10 rfl (Nat.le_of_ble_eq_true rfl) ?_
  refine G.seq ?_
  refine G.region ?_
  refine L.val rfl rfl (R.as rfl) ?_
  refine L.nil ?_
  refine N.seq ?_
  refine G.seq ?_
  refine G.seq ?_
  refine G.region ?_
  refine L.val rfl rfl (R.mv rfl) ?_
  refine L.val rfl rfl (R.eqNilP rfl rfl) ?_
  refine L.nil ?_
  refine N.seq ?_
  refine G.condT rfl ?_
  refine G.seq ?_
  refine G.region ?_
  refine L.val rfl rfl (R.as rfl) ?_
  refine L.nil ?_
  refine N.seq ?_
  refine G.ret1 rfl rfl ?_
  exact ⟨rfl, rfl⟩

theorem bytes_ok (p : Nat) (S : List Nat) (l : List UInt8) (w : World) (hP : PenAt 122 5 w p l S) (hl : l.length ≤ 70368744177664) : Meets Try.prog 69 [.pointer (some ⟨p, 0, none⟩)] w (Cloned w 5 1 l.length (vbs l)) := by
  refine Meets.enter Try.func69 rfl 10 rfl (Nat.le_of_ble_eq_true rfl) ?_
  refine G.seq ?_
  refine G.region ?_
  refine L.val rfl rfl (R.as rfl) ?_
  refine L.nil ?_
  refine N.seq ?_
  refine G.seq ?_
  refine G.seq ?_
  refine G.region ?_
  refine L.val rfl rfl (R.mv rfl) ?_
  refine L.val rfl rfl (R.eqNilP rfl rfl) ?_
  refine L.nil ?_
  refine N.seq ?_
  refine G.condF rfl ?_
  obtain ⟨a1, n1, c1, M1, rfl, hpM, rfl, hB, hO⟩ := hP
  refine G.skip ?_
  refine N.seq ?_
  refine G.seq ?_
  refine G.region ?_
  refine L.val rfl rfl (R.mv rfl) ?_
  refine L.val rfl rfl (R.nilChk rfl) ?_
  refine L.val rfl rfl (R.fld rfl) ?_
  refine L.val rfl rfl (R.ldB rfl hB rfl) ?_
  refine L.callF rfl rfl rfl go92 (clone_ok _ _ _ _ _ (Bs.of_own hO) (by omega)) ?_
  rintro v w1 h1
  refine L.val rfl rfl (R.as rfl) ?_
  refine L.nil ?_
  refine N.seq ?_
  refine G.ret1 rfl rfl ?_
  exact h1

theorem refnumber_0 (x : Nat) (w : World) : Meets Try.prog 58 [.int .i64 x, .int .i64 0] w (fun v w' => v = .string (str (be 0 x)) ∧ Ext [] w w') := by
  refine Meets.enter Try.func58 rfl 18 rfl (Nat.le_of_ble_eq_true rfl) ?_
  refine G.seq ?_
  refine G.region ?_
  refine L.val rfl rfl (R.as rfl) ?_
  refine L.nil ?_
  refine N.seq ?_
  refine G.seq ?_
  refine G.seq ?_
  refine G.region ?_
  refine L.val rfl rfl (R.mv rfl) ?_
  refine L.val rfl rfl (R.eqI rfl rfl) ?_
  refine L.nil ?_
  refine N.seq ?_
  refine G.condT rfl ?_
  refine G.seq ?_
  refine G.region ?_
  refine L.val rfl rfl (R.as rfl) ?_
  refine L.nil ?_
  refine N.seq ?_
  refine G.ret1 rfl rfl ?_
  exact ⟨rfl, Ext.refl _ _⟩

theorem refnumber_s (x k : Nat) (w : World) (hx : x ≤ 9223372036854775807) (hk : k ≤ 100) (ih : ∀ (x : Nat) (w : World), x ≤ 9223372036854775807 → Meets Try.prog 58 [.int .i64 x, .int .i64 k] w (fun v w' => v = .string (str (be k x)) ∧ Ext [] w w')) : Meets Try.prog 58 [.int .i64 x, .int .i64 ((k + 1 : Nat) : Int)] w (fun v w' => v = .string (str (be (k + 1) x)) ∧ Ext [] w w') := by
  refine Meets.enter Try.func58 rfl 18 rfl (Nat.le_of_ble_eq_true rfl) ?_
  refine G.seq ?_
  refine G.region ?_
  refine L.val rfl rfl (R.as rfl) ?_
  refine L.nil ?_
  refine N.seq ?_
  refine G.seq ?_
  refine G.seq ?_
  refine G.region ?_
  refine L.val rfl rfl (R.mv rfl) ?_
  refine L.val rfl rfl (R.eqI rfl rfl) ?_
  refine L.nil ?_
  refine N.seq ?_
  refine G.condP rfl (fun h0 => ?_) (fun h0 => ?_)
  · exfalso
    omega
  · refine G.skip ?_
    refine N.seq ?_
    refine G.seq ?_
    refine G.quiet (by decide +kernel) rfl ?_
    refine Q.val rfl rfl rfl rfl (fun w1 hE => R.mv rfl) ?_
    refine Q.val rfl rfl rfl rfl (fun w1 hE => R.quo rfl rfl (by omega) (by omega)) ?_
    refine Q.be 8 rfl (congrArg (Value.int .i64) (show (x : Int) / 256 = ((x / 256 : Nat) : Int) by omega)) ?_
    refine Q.val rfl rfl rfl rfl (fun w1 hE => R.mv rfl) ?_
    refine Q.val rfl rfl rfl rfl (fun w1 hE => R.sub' rfl rfl (by omega)) ?_
    refine Q.be 10 rfl (congrArg (Value.int .i64) (show ((k + 1 : Nat) : Int) - 1 = (k : Int) by omega)) ?_
    refine Q.call (.string (str (be k (x / 256)))) rfl rfl rfl go58 (fun w1 hE => ⟨_, rfl, (ih (x / 256) _ (by omega)).mono (fun _ _ h => h)⟩) ?_
    refine Q.val rfl rfl rfl rfl (fun w1 hE => R.mv rfl) ?_
    refine Q.val rfl rfl rfl rfl (fun w1 hE => R.rem rfl rfl (by omega) (by omega)) ?_
    refine Q.val rfl rfl rfl rfl (fun w1 hE => R.conv rfl ((UInt8.ofNat (x % 256)).toNat : Int) (by simp only [UInt8.toNat_ofNat']; exact (wrap_u8 (by omega)).trans (by omega))) ?_
    refine Q.new (A := IsBs 1 [UInt8.ofNat (x % 256)]) (IsBs.keep _ _) rfl rfl rfl (fun w1 hE => (R.buildA rfl rfl rfl rfl rfl).mono (fun _ _ h => h.bs (l := [UInt8.ofNat (x % 256)]) rfl rfl)) ?_
    refine Q.val rfl rfl rfl rfl (fun w1 hE => fun v hv => by obtain ⟨a2, c2, rfl, _, hb2⟩ := hv; exact R.bytesStr rfl hb2.cells hb2.len) ?_
    refine Q.val rfl rfl rfl rfl (fun w1 hE => R.addStr rfl rfl (by simp [be_length]; omega)) ?_
    refine Q.val rfl rfl rfl rfl (fun w1 hE => R.as rfl) ?_
    refine Q.nil (fun w1 e1 => ?_)
    intro v15 _
    refine N.seq ?_
    refine G.ret1 rfl rfl ?_
    exact ⟨rfl, e1⟩

theorem refnumber_ok : ∀ (k : Nat) (x : Nat) (w : World), k ≤ 100 → x ≤ 9223372036854775807 → Meets Try.prog 58 [.int .i64 x, .int .i64 k] w (fun v w' => v = .string (str (be k x)) ∧ Ext [] w w')
  | 0, x, w, _, _ => refnumber_0 x w
  | k + 1, x, w, hk, hx => refnumber_s x k w hx (by omega) (fun x w hx => refnumber_ok k x w (by omega) hx)

theorem refnumberI_0 (x : Int) (w : World) : Meets Try.prog 58 [.int .i64 x, .int .i64 0] w (fun v w' => v = .string (str (bi 0 x)) ∧ Ext [] w w') := by
  refine Meets.enter Try.func58 rfl 18 rfl (Nat.le_of_ble_eq_true rfl) ?_
  refine G.seq ?_
  refine G.region ?_
  refine L.val rfl rfl (R.as rfl) ?_
  refine L.nil ?_
  refine N.seq ?_
  refine G.seq ?_
  refine G.seq ?_
  refine G.region ?_
  refine L.val rfl rfl (R.mv rfl) ?_
  refine L.val rfl rfl (R.eqI rfl rfl) ?_
  refine L.nil ?_
  refine N.seq ?_
  refine G.condT rfl ?_
  refine G.seq ?_
  refine G.region ?_
  refine L.val rfl rfl (R.as rfl) ?_
  refine L.nil ?_
  refine N.seq ?_
  refine G.ret1 rfl rfl ?_
  exact ⟨rfl, Ext.refl _ _⟩

theorem refnumberI_s (x : Int) (k : Nat) (w : World) (hx : -9223372036854775808 ≤ x ∧ x ≤ 9223372036854775807) (hk : k ≤ 100) (ih : ∀ (x : Int) (w : World), (-9223372036854775808 ≤ x ∧ x ≤ 9223372036854775807) → Meets Try.prog 58 [.int .i64 x, .int .i64 k] w (fun v w' => v = .string (str (bi k x)) ∧ Ext [] w w')) : Meets Try.prog 58 [.int .i64 x, .int .i64 ((k + 1 : Nat) : Int)] w (fun v w' => v = .string (str (bi (k + 1) x)) ∧ Ext [] w w') := by
  refine Meets.enter Try.func58 rfl 18 rfl (Nat.le_of_ble_eq_true rfl) ?_
  refine G.seq ?_
  refine G.region ?_
  refine L.val rfl rfl (R.as rfl) ?_
  refine L.nil ?_
  refine N.seq ?_
  refine G.seq ?_
  refine G.seq ?_
  refine G.region ?_
  refine L.val rfl rfl (R.mv rfl) ?_
  refine L.val rfl rfl (R.eqI rfl rfl) ?_
  refine L.nil ?_
  refine N.seq ?_
  refine G.condP rfl (fun h0 => ?_) (fun h0 => ?_)
  · exfalso
    omega
  · refine G.skip ?_
    refine N.seq ?_
    refine G.seq ?_
    refine G.quiet (by decide +kernel) rfl ?_
    refine Q.val rfl rfl rfl rfl (fun w1 hE => R.mv rfl) ?_
    refine Q.val rfl rfl rfl rfl (fun w1 hE => R.quoW rfl rfl (by decide) _ (wrap_i64 (tdiv_bounds hx))) ?_
    refine Q.val rfl rfl rfl rfl (fun w1 hE => R.mv rfl) ?_
    refine Q.val rfl rfl rfl rfl (fun w1 hE => R.sub' rfl rfl (by omega)) ?_
    refine Q.be 10 rfl (congrArg (Value.int .i64) (show ((k + 1 : Nat) : Int) - 1 = (k : Int) by omega)) ?_
    refine Q.call (.string (str (bi k (x.tdiv 256)))) rfl rfl rfl go58 (fun w1 hE => ⟨_, rfl, (ih (x.tdiv 256) _ (tdiv_bounds hx)).mono (fun _ _ h => h)⟩) ?_
    refine Q.val rfl rfl rfl rfl (fun w1 hE => R.mv rfl) ?_
    refine Q.val rfl rfl rfl rfl (fun w1 hE => R.remW rfl rfl (by decide) _ rfl) ?_
    refine Q.val rfl rfl rfl rfl (fun w1 hE => R.conv rfl _ (byteI_spec x)) ?_
    refine Q.new (A := IsBs 1 [byteI x]) (IsBs.keep _ _) rfl rfl rfl (fun w1 hE => (R.buildA rfl rfl rfl rfl rfl).mono (fun _ _ h => h.bs (l := [byteI x]) rfl rfl)) ?_
    refine Q.val rfl rfl rfl rfl (fun w1 hE => fun v hv => by obtain ⟨a2, c2, rfl, _, hb2⟩ := hv; exact R.bytesStr rfl hb2.cells hb2.len) ?_
    refine Q.val rfl rfl rfl rfl (fun w1 hE => R.addStr rfl rfl (by simp [bi_length]; omega)) ?_
    refine Q.val rfl rfl rfl rfl (fun w1 hE => R.as rfl) ?_
    refine Q.nil (fun w1 e1 => ?_)
    intro v15 _
    refine N.seq ?_
    refine G.ret1 rfl rfl ?_
    exact ⟨rfl, e1⟩

theorem refnumberI_ok : ∀ (k : Nat) (x : Int) (w : World), k ≤ 100 → (-9223372036854775808 ≤ x ∧ x ≤ 9223372036854775807) → Meets Try.prog 58 [.int .i64 x, .int .i64 k] w (fun v w' => v = .string (str (bi k x)) ∧ Ext [] w w')
  | 0, x, w, _, _ => refnumberI_0 x w
  | k + 1, x, w, hk, hx => refnumberI_s x k w hx (by omega) (fun x w hx => refnumberI_ok k x w (by omega) hx)

end Go.Proofs.Ytiiiplhfgblamaa
/-
  The walks of package pack: the scan.
-/
set_option linter.unusedVariables false
namespace Go.Proofs.Ytiiiplhfgblamaa
open Go Brv Brv.Crc Brv.Pack
theorem new_ok (a : Option Addr) (n c : Nat) (l : List UInt8) (w : World) (hb : Bs w a n l) (hn : n ≤ 140737488351232) : Meets Try.prog 60 [.slice a n c] w (fun v w' => ∃ s D, v = .pointer (some ⟨s, 0, none⟩) ∧ ScanAt 156 w' s D l 0 ∧ Ext [] w w' ∧ w.heap.size ≤ s ∧ (∀ d ∈ D, w.heap.size ≤ d) ∧ (∃ cs, Blk w' s cs 156 (0, 0)) ∧ ∀ d ∈ D, ∃ cs, Blk w' d cs 5 (0, 0)) := by
  refine Meets.enter Try.func60 rfl 7 rfl (Nat.le_of_ble_eq_true rfl) ?_
  refine G.seq ?_
  refine G.region ?_
  refine L.val rfl rfl (R.as rfl) ?_
  refine L.nil ?_
  refine N.seq ?_
  refine G.seq ?_
  refine G.region ?_
  refine L.val rfl rfl (R.mv rfl) ?_
  refine L.callF rfl rfl rfl go92 (clone_ok _ _ _ _ _ hb (by omega)) ?_
  rintro _ w1 ⟨a1, c1, M1, rfl, e1, o1, hM1⟩
  refine L.val rfl rfl (R.build rfl rfl) ?_
  refine L.do rfl rfl (R.box rfl) ?_
  rintro _ w2 ⟨b6, rfl, hb6, hs6, e2, B6⟩
  have hls := e1.size
  refine L.val rfl rfl (R.as rfl) ?_
  refine L.nil ?_
  refine N.seq ?_
  refine G.ret1 rfl rfl ?_
  exact ⟨b6, M1, rfl, ⟨a1, n, c1, fun h => by have := o1.lt b6 h; omega, o1.le, fun q hq => by rw [o1.block q hq]; simp, B6, (Bs.of_own o1).ext0 e2⟩, e1.trans0 e2, by omega, hM1, ⟨_, B6⟩, fun d hd => (o1.typ d hd).imp fun _ h => h.ext0 e2⟩

theorem take_ok (s : Nat) (D : List Nat) (l : List UInt8) (e : Int) (y : Int) (w : World) (hs : ScanAt 156 w s D l e) (hl : l.length ≤ 70368744177664) (hy : 0 ≤ y) : Meets Try.prog 93 [.pointer (some ⟨s, 0, none⟩), .int .i64 y] w (fun v w' => Ext [s] w w' ∧ ∃ a c, v = .tuple #[.slice a (takeN l y) c, .bool (decide (y ≤ l.length))] ∧ takeN l y ≤ c ∧ Bs w' a (takeN l y) (l.take (takeN l y)) ∧ (∀ q, a = some q → q.block ∈ D) ∧ ScanAt 156 w' s D (l.drop (takeN l y)) (if y ≤ l.length then e else 20)) := by
  refine Meets.enter Try.func93 rfl 34 rfl (Nat.le_of_ble_eq_true rfl) ?_
  obtain ⟨a, n, c, hsD, hnc, haD, hB, hb⟩ := hs
  have hn := hb.len
  have hlt := hB.lt
  refine G.seq ?_
  refine G.region ?_
  refine L.val rfl rfl (R.as rfl) ?_
  refine L.val rfl rfl (R.as rfl) ?_
  refine L.nil ?_
  refine N.seq ?_
  refine G.seq ?_
  refine G.seq ?_
  refine G.region ?_
  refine L.val rfl rfl (R.mv rfl) ?_
  refine L.val rfl rfl (R.mv rfl) ?_
  refine L.val rfl rfl (R.nilChk rfl) ?_
  refine L.val rfl rfl (R.fld rfl) ?_
  refine L.val rfl rfl (R.ldB rfl hB rfl) ?_
  refine L.val rfl rfl (R.lenS rfl) ?_
  refine L.val rfl rfl (R.gtr rfl rfl) ?_
  refine L.nil ?_
  refine N.seq ?_
  refine G.condP rfl (fun h0 => ?_) (fun h0 => ?_)
  · refine G.seq ?_
    refine G.region ?_
    refine L.val rfl rfl (R.mv rfl) ?_
    refine L.val rfl rfl (R.nilChk rfl) ?_
    refine L.val rfl rfl (R.fld rfl) ?_
    refine L.set rfl (R.st rfl rfl hB (by simp) rfl) ?_
    rintro w1 ⟨e1, hs1, B1⟩
    refine L.nil ?_
    refine N.seq ?_
    refine G.seq ?_
    refine G.region ?_
    refine L.val rfl rfl (R.as rfl) ?_
    refine L.val rfl rfl (R.as rfl) ?_
    refine L.nil ?_
    refine N.seq ?_
    refine G.ret2 rfl rfl rfl ?_
    rw [takeN_no (by omega), if_neg (by omega), decide_eq_false (by omega)]
    exact ⟨e1, none, 0, rfl, Nat.le_refl _, Bs.nil _, (by intro q hq; cases hq), a, n, c, hsD, hnc, haD, B1, hb.ext e1 (fun q hq h => hsD (by rw [← List.mem_singleton.1 h]; exact haD q hq))⟩
  · refine G.skip ?_
    refine N.seq ?_
    refine G.seq ?_
    refine G.region ?_
    refine L.val rfl rfl (R.mv rfl) ?_
    refine L.val rfl rfl (R.nilChk rfl) ?_
    refine L.val rfl rfl (R.fld rfl) ?_
    refine L.val rfl rfl (R.ldB rfl hB rfl) ?_
    refine L.val rfl rfl (R.mv rfl) ?_
    refine L.val rfl rfl (R.mv rfl) ?_
    refine L.val rfl rfl (R.slHM rfl rfl rfl (by omega) (by omega) (by omega)) ?_
    refine L.val rfl rfl (R.as rfl) ?_
    refine L.nil ?_
    refine N.seq ?_
    refine G.seq ?_
    refine G.region ?_
    refine L.val rfl rfl (R.mv rfl) ?_
    refine L.val rfl rfl (R.mv rfl) ?_
    refine L.val rfl rfl (R.nilChk rfl) ?_
    refine L.val rfl rfl (R.fld rfl) ?_
    refine L.val rfl rfl (R.ldB rfl hB rfl) ?_
    refine L.val rfl rfl (R.mv rfl) ?_
    refine L.val rfl rfl (R.slL rfl rfl (by omega) (by omega)) ?_
    refine L.val rfl rfl (R.nilChk rfl) ?_
    refine L.val rfl rfl (R.fld rfl) ?_
    refine L.set rfl (R.st rfl rfl hB (by simp) rfl) ?_
    rintro w1 ⟨e1, hs1, B1⟩
    refine L.nil ?_
    refine N.seq ?_
    refine G.seq ?_
    refine G.region ?_
    refine L.val rfl rfl (R.mv rfl) ?_
    refine L.val rfl rfl (R.as rfl) ?_
    refine L.val rfl rfl (R.as rfl) ?_
    refine L.nil ?_
    refine N.seq ?_
    refine G.ret2 rfl rfl rfl ?_
    rw [takeN_yes (by omega), if_pos (by omega), decide_eq_true (by omega)]
    have hnD : ∀ q, a = some q → q.block ∉ [s] := fun q hq h => hsD (by rw [← List.mem_singleton.1 h]; exact haD q hq)
    have hb1 := hb.ext e1 hnD
    refine ⟨e1, _, _, rfl, Nat.le_refl _, ?_, ?_, ?_⟩
    · rw [subA_zero]; exact hb1.pre _ (by omega)
    · rw [subA_zero]; exact haD
    · exact ⟨_, _, _, hsD, by omega, fun q hq => subA_block haD q hq, B1, hb1.drop _ _ (by omega) hnc⟩

theorem scannum_nil (y : Int) (w : World) : Meets Try.prog 61 [.pointer none, .int .i64 y] w (fun v w' => v = .int .i64 0 ∧ w' = w) := by
  refine Meets.enter Try.func61 rfl 69 rfl (Nat.le_of_ble_eq_true rfl) ?_
  refine G.seq ?_
  refine G.region ?_
  refine L.val rfl rfl (R.as rfl) ?_
  refine L.nil ?_
  refine N.seq ?_
  refine G.seq ?_
  refine G.seq ?_
  refine G.region ?_
  refine L.val rfl rfl (R.mv rfl) ?_
  refine L.val rfl rfl (R.eqNilP rfl rfl) ?_
  refine L.val rfl rfl (R.mv rfl) ?_
  refine L.pass rfl rfl ?_
  refine L.pass rfl rfl ?_
  refine L.pass rfl rfl ?_
  refine L.pass rfl rfl ?_
  refine L.pass rfl rfl ?_
  first | refine L.val rfl rfl (R.pickT rfl rfl) ?_ | refine L.val rfl rfl (R.pickF rfl rfl) ?_
  refine L.nil ?_
  refine N.seq ?_
  refine G.condT rfl ?_
  refine G.seq ?_
  refine G.region ?_
  refine L.val rfl rfl (R.as rfl) ?_
  refine L.nil ?_
  refine N.seq ?_
  refine G.ret1 rfl rfl ?_
  exact ⟨rfl, rfl⟩

theorem scannum_ok (s : Nat) (D : List Nat) (l : List UInt8) (e : Int) (y : Int) (w : World) (hs : ScanAt 156 w s D l e) (hl : l.length ≤ 70368744177664) : Meets Try.prog 61 [.pointer (some ⟨s, 0, none⟩), .int .i64 y] w (fun v w' => v = .int .i64 (numF l e y).1 ∧ ScanAt 156 w' s D (numF l e y).2.1 (numF l e y).2.2 ∧ Ext [s] w w') := by
  refine Meets.enter Try.func61 rfl 69 rfl (Nat.le_of_ble_eq_true rfl) ?_
  have hs0 := hs
  obtain ⟨a, n, c, hsD, hnc, haD, hB, hb⟩ := hs
  have hn := hb.len
  have hlt := hB.lt
  refine G.seq ?_
  refine G.region ?_
  refine L.val rfl rfl (R.as rfl) ?_
  refine L.nil ?_
  refine N.seq ?_
  refine G.seq ?_
  refine G.seq ?_
  refine G.region ?_
  refine L.val rfl rfl (R.mv rfl) ?_
  refine L.val rfl rfl (R.eqNilP rfl rfl) ?_
  refine L.val rfl rfl (R.mv rfl) ?_
  refine L.val rfl rfl (R.mv rfl) ?_
  refine L.val rfl rfl (R.nilChk rfl) ?_
  refine L.val rfl rfl (R.fld rfl) ?_
  refine L.val rfl rfl (R.ldB rfl hB rfl) ?_
  refine L.val rfl rfl (R.neI rfl rfl) ?_
  first | refine L.val rfl rfl (R.pickT rfl rfl) ?_ | refine L.val rfl rfl (R.pickF rfl rfl) ?_
  refine L.nil ?_
  refine N.seq ?_
  refine G.condP rfl (fun h0 => ?_) (fun h0 => ?_)
  · refine G.seq ?_
    refine G.region ?_
    refine L.val rfl rfl (R.as rfl) ?_
    refine L.nil ?_
    refine N.seq ?_
    refine G.ret1 rfl rfl ?_
    rw [numF_err (by omega)]
    exact ⟨rfl, hs0, Ext.refl _ _⟩
  · obtain rfl : e = 0 := by omega
    refine G.skip ?_
    refine N.seq ?_
    refine G.seq ?_
    refine G.seq ?_
    refine G.region ?_
    refine L.val rfl rfl (R.mv rfl) ?_
    refine L.val rfl rfl (R.lss rfl rfl) ?_
    refine L.val rfl rfl (R.mv rfl) ?_
    refine L.caseP 21 rfl (fun hg3_2 => ?_) (fun hg3_2 => ?_)
    · refine L.pass rfl rfl ?_
      refine L.pass rfl rfl ?_
      first | refine L.val rfl rfl (R.pickT rfl rfl) ?_ | refine L.val rfl rfl (R.pickF rfl rfl) ?_
      refine L.val rfl rfl (R.mv rfl) ?_
      refine L.pass rfl rfl ?_
      refine L.pass rfl rfl ?_
      refine L.pass rfl rfl ?_
      refine L.pass rfl rfl ?_
      refine L.pass rfl rfl ?_
      refine L.pass rfl rfl ?_
      refine L.pass rfl rfl ?_
      refine L.pass rfl rfl ?_
      refine L.pass rfl rfl ?_
      refine L.pass rfl rfl ?_
      refine L.pass rfl rfl ?_
      refine L.pass rfl rfl ?_
      refine L.pass rfl rfl ?_
      refine L.pass rfl rfl ?_
      refine L.pass rfl rfl ?_
      refine L.pass rfl rfl ?_
      refine L.pass rfl rfl ?_
      refine L.pass rfl rfl ?_
      refine L.pass rfl rfl ?_
      refine L.pass rfl rfl ?_
      first | refine L.val rfl rfl (R.pickT rfl rfl) ?_ | refine L.val rfl rfl (R.pickF rfl rfl) ?_
      refine L.nil ?_
      refine N.seq ?_
      refine G.condT rfl ?_
      have hno : ¬ okN l y := by
        rintro ⟨h1, h2, h3, h4⟩
        first | omega | (have := h4 (by omega); rw [getD_zero (by omega)] at this; omega)
      refine G.seq ?_
      refine G.region ?_
      refine L.val rfl rfl (R.mv rfl) ?_
      refine L.val rfl rfl (R.nilChk rfl) ?_
      refine L.val rfl rfl (R.fld rfl) ?_
      refine L.set rfl (R.st rfl rfl hB (by simp) rfl) ?_
      rintro w1 ⟨e1, hs1, B1⟩
      refine L.nil ?_
      refine N.seq ?_
      refine G.seq ?_
      refine G.region ?_
      refine L.val rfl rfl (R.as rfl) ?_
      refine L.nil ?_
      refine N.seq ?_
      refine G.ret1 rfl rfl ?_
      first
        | (rw [numF_no hno]; exact ⟨rfl, ⟨a, n, c, hsD, hnc, haD, B1, hb.ext e1 (fun q hq h => hsD (by rw [← List.mem_singleton.1 h]; exact haD q hq))⟩, e1⟩)
        | (rw [hnf]; exact ⟨rfl, hS, e1⟩)
    · refine L.val rfl rfl (R.mv rfl) ?_
      refine L.val rfl rfl (R.gtr rfl rfl) ?_
      first | refine L.val rfl rfl (R.pickT rfl rfl) ?_ | refine L.val rfl rfl (R.pickF rfl rfl) ?_
      refine L.val rfl rfl (R.mv rfl) ?_
      refine L.caseP 25 rfl (fun hg3_6 => ?_) (fun hg3_6 => ?_)
      · refine L.pass rfl rfl ?_
        refine L.pass rfl rfl ?_
        refine L.pass rfl rfl ?_
        refine L.pass rfl rfl ?_
        refine L.pass rfl rfl ?_
        refine L.pass rfl rfl ?_
        refine L.pass rfl rfl ?_
        refine L.pass rfl rfl ?_
        refine L.pass rfl rfl ?_
        refine L.pass rfl rfl ?_
        refine L.pass rfl rfl ?_
        refine L.pass rfl rfl ?_
        refine L.pass rfl rfl ?_
        refine L.pass rfl rfl ?_
        refine L.pass rfl rfl ?_
        refine L.pass rfl rfl ?_
        refine L.pass rfl rfl ?_
        refine L.pass rfl rfl ?_
        refine L.pass rfl rfl ?_
        refine L.pass rfl rfl ?_
        first | refine L.val rfl rfl (R.pickT rfl rfl) ?_ | refine L.val rfl rfl (R.pickF rfl rfl) ?_
        refine L.nil ?_
        refine N.seq ?_
        refine G.condT rfl ?_
        have hno : ¬ okN l y := by
          rintro ⟨h1, h2, h3, h4⟩
          first | omega | (have := h4 (by omega); rw [getD_zero (by omega)] at this; omega)
        refine G.seq ?_
        refine G.region ?_
        refine L.val rfl rfl (R.mv rfl) ?_
        refine L.val rfl rfl (R.nilChk rfl) ?_
        refine L.val rfl rfl (R.fld rfl) ?_
        refine L.set rfl (R.st rfl rfl hB (by simp) rfl) ?_
        rintro w1 ⟨e1, hs1, B1⟩
        refine L.nil ?_
        refine N.seq ?_
        refine G.seq ?_
        refine G.region ?_
        refine L.val rfl rfl (R.as rfl) ?_
        refine L.nil ?_
        refine N.seq ?_
        refine G.ret1 rfl rfl ?_
        first
          | (rw [numF_no hno]; exact ⟨rfl, ⟨a, n, c, hsD, hnc, haD, B1, hb.ext e1 (fun q hq h => hsD (by rw [← List.mem_singleton.1 h]; exact haD q hq))⟩, e1⟩)
          | (rw [hnf]; exact ⟨rfl, hS, e1⟩)
      · refine L.val rfl rfl (R.mv rfl) ?_
        refine L.val rfl rfl (R.nilChk rfl) ?_
        refine L.val rfl rfl (R.fld rfl) ?_
        refine L.val rfl rfl (R.ldB rfl hB rfl) ?_
        refine L.val rfl rfl (R.lenS rfl) ?_
        refine L.val rfl rfl (R.mv rfl) ?_
        refine L.val rfl rfl (R.geq rfl rfl) ?_
        refine L.val rfl rfl (R.mv rfl) ?_
        refine L.caseP 33 rfl (fun hg3_14 => ?_) (fun hg3_14 => ?_)
        · refine L.val rfl rfl (R.mv rfl) ?_
          refine L.val rfl rfl (R.eqI rfl rfl) ?_
          first | refine L.val rfl rfl (R.pickT rfl rfl) ?_ | refine L.val rfl rfl (R.pickF rfl rfl) ?_
          refine L.val rfl rfl (R.mv rfl) ?_
          refine L.caseP 37 rfl (fun hg3_18 => ?_) (fun hg3_18 => ?_)
          · refine L.val rfl rfl (R.mv rfl) ?_
            refine L.val rfl rfl (R.nilChk rfl) ?_
            refine L.val rfl rfl (R.fld rfl) ?_
            refine L.val rfl rfl (R.ldB rfl hB rfl) ?_
            obtain ⟨q, hq, hc0⟩ := hb.at 0 (by omega)
            refine L.val rfl rfl (R.idx rfl rfl (by omega) (by omega) q hq) ?_
            refine L.val rfl rfl (R.ld rfl hc0) ?_
            refine L.val rfl rfl (R.geq rfl rfl) ?_
            first | refine L.val rfl rfl (R.pickT rfl rfl) ?_ | refine L.val rfl rfl (R.pickF rfl rfl) ?_
            first | refine L.val rfl rfl (R.pickT rfl rfl) ?_ | refine L.val rfl rfl (R.pickF rfl rfl) ?_
            refine L.nil ?_
            refine N.seq ?_
            refine G.condP rfl (fun h1 => ?_) (fun h1 => ?_)
            · have hno : ¬ okN l y := by
                rintro ⟨h1, h2, h3, h4⟩
                first | omega | (have := h4 (by omega); rw [getD_zero (by omega)] at this; omega)
              refine G.seq ?_
              refine G.region ?_
              refine L.val rfl rfl (R.mv rfl) ?_
              refine L.val rfl rfl (R.nilChk rfl) ?_
              refine L.val rfl rfl (R.fld rfl) ?_
              refine L.set rfl (R.st rfl rfl hB (by simp) rfl) ?_
              rintro w1 ⟨e1, hs1, B1⟩
              refine L.nil ?_
              refine N.seq ?_
              refine G.seq ?_
              refine G.region ?_
              refine L.val rfl rfl (R.as rfl) ?_
              refine L.nil ?_
              refine N.seq ?_
              refine G.ret1 rfl rfl ?_
              first
                | (rw [numF_no hno]; exact ⟨rfl, ⟨a, n, c, hsD, hnc, haD, B1, hb.ext e1 (fun q hq h => hsD (by rw [← List.mem_singleton.1 h]; exact haD q hq))⟩, e1⟩)
                | (rw [hnf]; exact ⟨rfl, hS, e1⟩)
            · have hok : y ≤ l.length → okN l y := by
                intro hy
                refine ⟨by omega, by omega, hy, fun h8 => ?_⟩
                first | omega | (rw [getD_zero (by omega)]; omega)
              have htl := num_takeN_lt hok
              have htn := takeN_le l y
              have hnf := numF_go hok
              refine G.skip ?_
              refine N.seq ?_
              refine G.seq ?_
              refine G.region ?_
              refine L.val rfl rfl (R.mv rfl) ?_
              refine L.val rfl rfl (R.mv rfl) ?_
              refine L.callF rfl rfl rfl go93 (take_ok _ _ _ _ _ _ hs0 hl (by omega)) ?_
              rintro _ w1 ⟨e1, a1, c1, rfl, hc1, hb1, ha1, hS⟩
              refine L.val rfl rfl (R.mv rfl) ?_
              refine L.val rfl rfl (R.ext rfl rfl) ?_
              refine L.val rfl rfl (R.ext rfl rfl) ?_
              refine L.val rfl rfl (R.as rfl) ?_
              refine L.val rfl rfl (R.as rfl) ?_
              refine L.nil ?_
              refine N.seq ?_
              refine G.seq ?_
              refine G.region ?_
              refine L.val rfl rfl (R.as rfl) ?_
              refine L.nil ?_
              refine N.seq ?_
              refine G.seq ?_
              refine G.seq ?_
              refine G.region ?_
              refine L.val rfl rfl (R.mv rfl) ?_
              refine L.val rfl rfl (R.lenS rfl) ?_
              refine L.val rfl rfl (R.mv rfl) ?_
              refine L.nil ?_
              refine N.seq ?_
              refine G.block ?_
              refine G.loop (X := Nat) (fun k => [(56, .slice a1 (takeN l y) c1), (57, .int .i64 (takeN l y)), (58, .int .i64 (k : Nat)), (7, .int .i64 (num (l.take k)))]) (fun k w' => k ≤ takeN l y ∧ w' = w1) (fun k => takeN l y - k) (0) (Sub.cons rfl (Sub.cons rfl (Sub.cons rfl (Sub.cons rfl (Sub.nil _))))) ⟨by omega, rfl⟩ ?_
              rintro k w2 ⟨hk, rfl⟩
              refine G.seq ?_
              refine G.region ?_
              refine L.val rfl rfl (R.lss rfl rfl) ?_
              refine L.nil ?_
              refine N.seq ?_
              refine G.seq ?_
              refine G.condP rfl (fun h2 => ?_) (fun h2 => ?_)
              · obtain ⟨q, hq, hc0⟩ := hb1.at k (by rw [List.length_take]; omega)
                rw [List.getElem_take] at hc0
                have hns := num_step (l := l) (k := k) (by omega) htn htl
                have hl8 := lt_u8 (l[k]'(by omega))
                refine G.skip ?_
                refine N.seq ?_
                refine G.seq ?_
                refine G.block ?_
                refine G.seq ?_
                refine G.region ?_
                refine L.val rfl rfl (R.idx rfl rfl (by omega) (by omega) q hq) ?_
                refine L.val rfl rfl (R.ld rfl hc0) ?_
                refine L.val rfl rfl (R.as rfl) ?_
                refine L.nil ?_
                refine N.seq ?_
                refine G.region ?_
                refine L.val rfl rfl (R.mv rfl) ?_
                refine L.val rfl rfl (R.shlW rfl rfl (by omega) _ (shl_byte (by omega))) ?_
                refine L.val rfl rfl (R.mv rfl) ?_
                refine L.val rfl rfl (R.conv rfl _ (wrap_i64 (by omega))) ?_
                refine L.val rfl rfl (R.orW rfl rfl _ (or_byte (by omega) hns)) ?_
                refine L.val rfl rfl (R.as rfl) ?_
                refine L.be 7 rfl (congrArg (Value.int .i64) (congrArg Nat.cast (num_take_succ l (by omega)).symm)) ?_
                refine L.nil ?_
                refine N.block ?_
                refine N.seq ?_
                refine G.region ?_
                refine L.val rfl rfl (R.add rfl rfl (by omega)) ?_
                refine L.val rfl rfl (R.mv rfl) ?_
                refine L.nil ?_
                exact N.again (k + 1) (by omega) (Sub.cons rfl (Sub.cons rfl (Sub.cons rfl (Sub.cons rfl (Sub.nil _))))) ⟨by omega, rfl⟩
              · obtain rfl : k = takeN l y := by omega
                refine G.exit _ rfl ?_
                refine N.seq ?_
                refine G.seq ?_
                refine G.region ?_
                refine L.val rfl rfl (R.mv rfl) ?_
                refine L.val rfl rfl (R.as rfl) ?_
                refine L.nil ?_
                refine N.seq ?_
                refine G.ret1 rfl rfl ?_
                first
                  | (rw [numF_no hno]; exact ⟨rfl, ⟨a, n, c, hsD, hnc, haD, B1, hb.ext e1 (fun q hq h => hsD (by rw [← List.mem_singleton.1 h]; exact haD q hq))⟩, e1⟩)
                  | (rw [hnf]; exact ⟨rfl, hS, e1⟩)
          · refine L.pass rfl rfl ?_
            refine L.pass rfl rfl ?_
            refine L.pass rfl rfl ?_
            refine L.pass rfl rfl ?_
            refine L.pass rfl rfl ?_
            refine L.pass rfl rfl ?_
            refine L.pass rfl rfl ?_
            first | refine L.val rfl rfl (R.pickT rfl rfl) ?_ | refine L.val rfl rfl (R.pickF rfl rfl) ?_
            first | refine L.val rfl rfl (R.pickT rfl rfl) ?_ | refine L.val rfl rfl (R.pickF rfl rfl) ?_
            refine L.nil ?_
            refine N.seq ?_
            refine G.condF rfl ?_
            have hok : y ≤ l.length → okN l y := by
              intro hy
              refine ⟨by omega, by omega, hy, fun h8 => ?_⟩
              first | omega | (rw [getD_zero (by omega)]; omega)
            have htl := num_takeN_lt hok
            have htn := takeN_le l y
            have hnf := numF_go hok
            refine G.skip ?_
            refine N.seq ?_
            refine G.seq ?_
            refine G.region ?_
            refine L.val rfl rfl (R.mv rfl) ?_
            refine L.val rfl rfl (R.mv rfl) ?_
            refine L.callF rfl rfl rfl go93 (take_ok _ _ _ _ _ _ hs0 hl (by omega)) ?_
            rintro _ w1 ⟨e1, a1, c1, rfl, hc1, hb1, ha1, hS⟩
            refine L.val rfl rfl (R.mv rfl) ?_
            refine L.val rfl rfl (R.ext rfl rfl) ?_
            refine L.val rfl rfl (R.ext rfl rfl) ?_
            refine L.val rfl rfl (R.as rfl) ?_
            refine L.val rfl rfl (R.as rfl) ?_
            refine L.nil ?_
            refine N.seq ?_
            refine G.seq ?_
            refine G.region ?_
            refine L.val rfl rfl (R.as rfl) ?_
            refine L.nil ?_
            refine N.seq ?_
            refine G.seq ?_
            refine G.seq ?_
            refine G.region ?_
            refine L.val rfl rfl (R.mv rfl) ?_
            refine L.val rfl rfl (R.lenS rfl) ?_
            refine L.val rfl rfl (R.mv rfl) ?_
            refine L.nil ?_
            refine N.seq ?_
            refine G.block ?_
            refine G.loop (X := Nat) (fun k => [(56, .slice a1 (takeN l y) c1), (57, .int .i64 (takeN l y)), (58, .int .i64 (k : Nat)), (7, .int .i64 (num (l.take k)))]) (fun k w' => k ≤ takeN l y ∧ w' = w1) (fun k => takeN l y - k) (0) (Sub.cons rfl (Sub.cons rfl (Sub.cons rfl (Sub.cons rfl (Sub.nil _))))) ⟨by omega, rfl⟩ ?_
            rintro k w2 ⟨hk, rfl⟩
            refine G.seq ?_
            refine G.region ?_
            refine L.val rfl rfl (R.lss rfl rfl) ?_
            refine L.nil ?_
            refine N.seq ?_
            refine G.seq ?_
            refine G.condP rfl (fun h2 => ?_) (fun h2 => ?_)
            · obtain ⟨q, hq, hc0⟩ := hb1.at k (by rw [List.length_take]; omega)
              rw [List.getElem_take] at hc0
              have hns := num_step (l := l) (k := k) (by omega) htn htl
              have hl8 := lt_u8 (l[k]'(by omega))
              refine G.skip ?_
              refine N.seq ?_
              refine G.seq ?_
              refine G.block ?_
              refine G.seq ?_
              refine G.region ?_
              refine L.val rfl rfl (R.idx rfl rfl (by omega) (by omega) q hq) ?_
              refine L.val rfl rfl (R.ld rfl hc0) ?_
              refine L.val rfl rfl (R.as rfl) ?_
              refine L.nil ?_
              refine N.seq ?_
              refine G.region ?_
              refine L.val rfl rfl (R.mv rfl) ?_
              refine L.val rfl rfl (R.shlW rfl rfl (by omega) _ (shl_byte (by omega))) ?_
              refine L.val rfl rfl (R.mv rfl) ?_
              refine L.val rfl rfl (R.conv rfl _ (wrap_i64 (by omega))) ?_
              refine L.val rfl rfl (R.orW rfl rfl _ (or_byte (by omega) hns)) ?_
              refine L.val rfl rfl (R.as rfl) ?_
              refine L.be 7 rfl (congrArg (Value.int .i64) (congrArg Nat.cast (num_take_succ l (by omega)).symm)) ?_
              refine L.nil ?_
              refine N.block ?_
              refine N.seq ?_
              refine G.region ?_
              refine L.val rfl rfl (R.add rfl rfl (by omega)) ?_
              refine L.val rfl rfl (R.mv rfl) ?_
              refine L.nil ?_
              exact N.again (k + 1) (by omega) (Sub.cons rfl (Sub.cons rfl (Sub.cons rfl (Sub.cons rfl (Sub.nil _))))) ⟨by omega, rfl⟩
            · obtain rfl : k = takeN l y := by omega
              refine G.exit _ rfl ?_
              refine N.seq ?_
              refine G.seq ?_
              refine G.region ?_
              refine L.val rfl rfl (R.mv rfl) ?_
              refine L.val rfl rfl (R.as rfl) ?_
              refine L.nil ?_
              refine N.seq ?_
              refine G.ret1 rfl rfl ?_
              first
                | (rw [numF_no hno]; exact ⟨rfl, ⟨a, n, c, hsD, hnc, haD, B1, hb.ext e1 (fun q hq h => hsD (by rw [← List.mem_singleton.1 h]; exact haD q hq))⟩, e1⟩)
                | (rw [hnf]; exact ⟨rfl, hS, e1⟩)
        · refine L.pass rfl rfl ?_
          refine L.pass rfl rfl ?_
          first | refine L.val rfl rfl (R.pickT rfl rfl) ?_ | refine L.val rfl rfl (R.pickF rfl rfl) ?_
          refine L.val rfl rfl (R.mv rfl) ?_
          refine L.pass rfl rfl ?_
          refine L.pass rfl rfl ?_
          refine L.pass rfl rfl ?_
          refine L.pass rfl rfl ?_
          refine L.pass rfl rfl ?_
          refine L.pass rfl rfl ?_
          refine L.pass rfl rfl ?_
          first | refine L.val rfl rfl (R.pickT rfl rfl) ?_ | refine L.val rfl rfl (R.pickF rfl rfl) ?_
          first | refine L.val rfl rfl (R.pickT rfl rfl) ?_ | refine L.val rfl rfl (R.pickF rfl rfl) ?_
          refine L.nil ?_
          refine N.seq ?_
          refine G.condF rfl ?_
          have hok : y ≤ l.length → okN l y := by
            intro hy
            refine ⟨by omega, by omega, hy, fun h8 => ?_⟩
            first | omega | (rw [getD_zero (by omega)]; omega)
          have htl := num_takeN_lt hok
          have htn := takeN_le l y
          have hnf := numF_go hok
          refine G.skip ?_
          refine N.seq ?_
          refine G.seq ?_
          refine G.region ?_
          refine L.val rfl rfl (R.mv rfl) ?_
          refine L.val rfl rfl (R.mv rfl) ?_
          refine L.callF rfl rfl rfl go93 (take_ok _ _ _ _ _ _ hs0 hl (by omega)) ?_
          rintro _ w1 ⟨e1, a1, c1, rfl, hc1, hb1, ha1, hS⟩
          refine L.val rfl rfl (R.mv rfl) ?_
          refine L.val rfl rfl (R.ext rfl rfl) ?_
          refine L.val rfl rfl (R.ext rfl rfl) ?_
          refine L.val rfl rfl (R.as rfl) ?_
          refine L.val rfl rfl (R.as rfl) ?_
          refine L.nil ?_
          refine N.seq ?_
          refine G.seq ?_
          refine G.region ?_
          refine L.val rfl rfl (R.as rfl) ?_
          refine L.nil ?_
          refine N.seq ?_
          refine G.seq ?_
          refine G.seq ?_
          refine G.region ?_
          refine L.val rfl rfl (R.mv rfl) ?_
          refine L.val rfl rfl (R.lenS rfl) ?_
          refine L.val rfl rfl (R.mv rfl) ?_
          refine L.nil ?_
          refine N.seq ?_
          refine G.block ?_
          refine G.loop (X := Nat) (fun k => [(56, .slice a1 (takeN l y) c1), (57, .int .i64 (takeN l y)), (58, .int .i64 (k : Nat)), (7, .int .i64 (num (l.take k)))]) (fun k w' => k ≤ takeN l y ∧ w' = w1) (fun k => takeN l y - k) (0) (Sub.cons rfl (Sub.cons rfl (Sub.cons rfl (Sub.cons rfl (Sub.nil _))))) ⟨by omega, rfl⟩ ?_
          rintro k w2 ⟨hk, rfl⟩
          refine G.seq ?_
          refine G.region ?_
          refine L.val rfl rfl (R.lss rfl rfl) ?_
          refine L.nil ?_
          refine N.seq ?_
          refine G.seq ?_
          refine G.condP rfl (fun h2 => ?_) (fun h2 => ?_)
          · obtain ⟨q, hq, hc0⟩ := hb1.at k (by rw [List.length_take]; omega)
            rw [List.getElem_take] at hc0
            have hns := num_step (l := l) (k := k) (by omega) htn htl
            have hl8 := lt_u8 (l[k]'(by omega))
            refine G.skip ?_
            refine N.seq ?_
            refine G.seq ?_
            refine G.block ?_
            refine G.seq ?_
            refine G.region ?_
            refine L.val rfl rfl (R.idx rfl rfl (by omega) (by omega) q hq) ?_
            refine L.val rfl rfl (R.ld rfl hc0) ?_
            refine L.val rfl rfl (R.as rfl) ?_
            refine L.nil ?_
            refine N.seq ?_
            refine G.region ?_
            refine L.val rfl rfl (R.mv rfl) ?_
            refine L.val rfl rfl (R.shlW rfl rfl (by omega) _ (shl_byte (by omega))) ?_
            refine L.val rfl rfl (R.mv rfl) ?_
            refine L.val rfl rfl (R.conv rfl _ (wrap_i64 (by omega))) ?_
            refine L.val rfl rfl (R.orW rfl rfl _ (or_byte (by omega) hns)) ?_
            refine L.val rfl rfl (R.as rfl) ?_
            refine L.be 7 rfl (congrArg (Value.int .i64) (congrArg Nat.cast (num_take_succ l (by omega)).symm)) ?_
            refine L.nil ?_
            refine N.block ?_
            refine N.seq ?_
            refine G.region ?_
            refine L.val rfl rfl (R.add rfl rfl (by omega)) ?_
            refine L.val rfl rfl (R.mv rfl) ?_
            refine L.nil ?_
            exact N.again (k + 1) (by omega) (Sub.cons rfl (Sub.cons rfl (Sub.cons rfl (Sub.cons rfl (Sub.nil _))))) ⟨by omega, rfl⟩
          · obtain rfl : k = takeN l y := by omega
            refine G.exit _ rfl ?_
            refine N.seq ?_
            refine G.seq ?_
            refine G.region ?_
            refine L.val rfl rfl (R.mv rfl) ?_
            refine L.val rfl rfl (R.as rfl) ?_
            refine L.nil ?_
            refine N.seq ?_
            refine G.ret1 rfl rfl ?_
            first
              | (rw [numF_no hno]; exact ⟨rfl, ⟨a, n, c, hsD, hnc, haD, B1, hb.ext e1 (fun q hq h => hsD (by rw [← List.mem_singleton.1 h]; exact haD q hq))⟩, e1⟩)
              | (rw [hnf]; exact ⟨rfl, hS, e1⟩)

theorem scanerr_nil  (w : World) : Meets Try.prog 64 [.pointer none] w (fun v w' => v = .int .i64 1 ∧ w' = w) := by
  refine Meets.enter Try.func64 rfl 9 rfl (Nat.le_of_ble_eq_true rfl) ?_
  refine G.seq ?_
  refine G.region ?_
  refine L.val rfl rfl (R.as rfl) ?_
  refine L.nil ?_
  refine N.seq ?_
  refine G.seq ?_
  refine G.seq ?_
  refine G.region ?_
  refine L.val rfl rfl (R.mv rfl) ?_
  refine L.val rfl rfl (R.eqNilP rfl rfl) ?_
  refine L.nil ?_
  refine N.seq ?_
  refine G.condT rfl ?_
  refine G.seq ?_
  refine G.region ?_
  refine L.val rfl rfl (R.as rfl) ?_
  refine L.nil ?_
  refine N.seq ?_
  refine G.ret1 rfl rfl ?_
  exact ⟨rfl, rfl⟩

theorem scanerr_ok (s : Nat) (D : List Nat) (l : List UInt8) (e : Int) (w : World) (hs : ScanAt 156 w s D l e) (hl : l.length ≤ 70368744177664) : Meets Try.prog 64 [.pointer (some ⟨s, 0, none⟩)] w (fun v w' => v = .int .i64 e ∧ w' = w) := by
  refine Meets.enter Try.func64 rfl 9 rfl (Nat.le_of_ble_eq_true rfl) ?_
  obtain ⟨a, n, c, hsD, hnc, haD, hB, hb⟩ := hs
  have hn := hb.len
  have hlt := hB.lt
  refine G.seq ?_
  refine G.region ?_
  refine L.val rfl rfl (R.as rfl) ?_
  refine L.nil ?_
  refine N.seq ?_
  refine G.seq ?_
  refine G.seq ?_
  refine G.region ?_
  refine L.val rfl rfl (R.mv rfl) ?_
  refine L.val rfl rfl (R.eqNilP rfl rfl) ?_
  refine L.nil ?_
  refine N.seq ?_
  refine G.condF rfl ?_
  refine G.skip ?_
  refine N.seq ?_
  refine G.seq ?_
  refine G.region ?_
  refine L.val rfl rfl (R.mv rfl) ?_
  refine L.val rfl rfl (R.nilChk rfl) ?_
  refine L.val rfl rfl (R.fld rfl) ?_
  refine L.val rfl rfl (R.ldB rfl hB rfl) ?_
  refine L.val rfl rfl (R.as rfl) ?_
  refine L.nil ?_
  refine N.seq ?_
  refine G.ret1 rfl rfl ?_
  exact ⟨rfl, rfl⟩

theorem scanleft_nil  (w : World) : Meets Try.prog 62 [.pointer none] w (fun v w' => v = .int .i64 0 ∧ w' = w) := by
  refine Meets.enter Try.func62 rfl 10 rfl (Nat.le_of_ble_eq_true rfl) ?_
  refine G.seq ?_
  refine G.region ?_
  refine L.val rfl rfl (R.as rfl) ?_
  refine L.nil ?_
  refine N.seq ?_
  refine G.seq ?_
  refine G.seq ?_
  refine G.region ?_
  refine L.val rfl rfl (R.mv rfl) ?_
  refine L.val rfl rfl (R.eqNilP rfl rfl) ?_
  refine L.nil ?_
  refine N.seq ?_
  refine G.condT rfl ?_
  refine G.seq ?_
  refine G.region ?_
  refine L.val rfl rfl (R.as rfl) ?_
  refine L.nil ?_
  refine N.seq ?_
  refine G.ret1 rfl rfl ?_
  exact ⟨rfl, rfl⟩

theorem scanleft_ok (s : Nat) (D : List Nat) (l : List UInt8) (e : Int) (w : World) (hs : ScanAt 156 w s D l e) (hl : l.length ≤ 70368744177664) : Meets Try.prog 62 [.pointer (some ⟨s, 0, none⟩)] w (fun v w' => v = .int .i64 (l.length : Nat) ∧ w' = w) := by
  refine Meets.enter Try.func62 rfl 10 rfl (Nat.le_of_ble_eq_true rfl) ?_
  obtain ⟨a, n, c, hsD, hnc, haD, hB, hb⟩ := hs
  have hn := hb.len
  have hlt := hB.lt
  refine G.seq ?_
  refine G.region ?_
  refine L.val rfl rfl (R.as rfl) ?_
  refine L.nil ?_
  refine N.seq ?_
  refine G.seq ?_
  refine G.seq ?_
  refine G.region ?_
  refine L.val rfl rfl (R.mv rfl) ?_
  refine L.val rfl rfl (R.eqNilP rfl rfl) ?_
  refine L.nil ?_
  refine N.seq ?_
  refine G.condF rfl ?_
  refine G.skip ?_
  refine N.seq ?_
  refine G.seq ?_
  refine G.region ?_
  refine L.val rfl rfl (R.mv rfl) ?_
  refine L.val rfl rfl (R.nilChk rfl) ?_
  refine L.val rfl rfl (R.fld rfl) ?_
  refine L.val rfl rfl (R.ldB rfl hB rfl) ?_
  refine L.val rfl rfl (R.lenS rfl) ?_
  refine L.val rfl rfl (R.as rfl) ?_
  refine L.nil ?_
  refine N.seq ?_
  refine G.ret1 rfl rfl ?_
  exact ⟨by rw [hn], rfl⟩

theorem refnum_ok (s : Nat) (l : List UInt8) (e : Int) (y : Int) (w : World) (hB : Blk w s #[.string (str l), .int .i64 e] 117 (0, 0)) (hl : l.length ≤ 70368744177664) : Meets Try.prog 65 [.pointer (some ⟨s, 0, none⟩), .int .i64 y] w (fun v w' => v = .int .i64 (numF l e y).1 ∧ Blk w' s #[.string (str (numF l e y).2.1), .int .i64 (numF l e y).2.2] 117 (0, 0) ∧ Ext [s] w w') := by
  refine Meets.enter Try.func65 rfl 67 rfl (Nat.le_of_ble_eq_true rfl) ?_
  have hB0 := hB
  refine G.seq ?_
  refine G.region ?_
  refine L.val rfl rfl (R.as rfl) ?_
  refine L.nil ?_
  refine N.seq ?_
  refine G.seq ?_
  refine G.seq ?_
  refine G.region ?_
  refine L.val rfl rfl (R.mv rfl) ?_
  refine L.val rfl rfl (R.nilChk rfl) ?_
  refine L.val rfl rfl (R.fld rfl) ?_
  refine L.val rfl rfl (R.ldB rfl hB rfl) ?_
  refine L.val rfl rfl (R.neI rfl rfl) ?_
  refine L.nil ?_
  refine N.seq ?_
  refine G.condP rfl (fun h0 => ?_) (fun h0 => ?_)
  · refine G.seq ?_
    refine G.region ?_
    refine L.val rfl rfl (R.as rfl) ?_
    refine L.nil ?_
    refine N.seq ?_
    refine G.ret1 rfl rfl ?_
    first
      | (rw [numF_err (by assumption)]; exact ⟨rfl, hB0, Ext.refl _ _⟩)
      | (rw [numF_no hno]; exact ⟨rfl, B1, e1⟩)
      | (rw [numF_ok hok]; exact ⟨rfl, B1, e1⟩)
  · obtain rfl : e = 0 := by omega
    refine G.skip ?_
    refine N.seq ?_
    refine G.seq ?_
    refine G.seq ?_
    refine G.region ?_
    refine L.val rfl rfl (R.mv rfl) ?_
    refine L.val rfl rfl (R.lss rfl rfl) ?_
    refine L.val rfl rfl (R.mv rfl) ?_
    refine L.caseP 14 rfl (fun hg3_2 => ?_) (fun hg3_2 => ?_)
    · refine L.pass rfl rfl ?_
      refine L.pass rfl rfl ?_
      first | refine L.val rfl rfl (R.pickT rfl rfl) ?_ | refine L.val rfl rfl (R.pickF rfl rfl) ?_
      refine L.val rfl rfl (R.mv rfl) ?_
      refine L.pass rfl rfl ?_
      refine L.pass rfl rfl ?_
      refine L.pass rfl rfl ?_
      refine L.pass rfl rfl ?_
      refine L.pass rfl rfl ?_
      refine L.pass rfl rfl ?_
      refine L.pass rfl rfl ?_
      first | refine L.val rfl rfl (R.pickT rfl rfl) ?_ | refine L.val rfl rfl (R.pickF rfl rfl) ?_
      refine L.val rfl rfl (R.mv rfl) ?_
      refine L.pass rfl rfl ?_
      refine L.pass rfl rfl ?_
      refine L.pass rfl rfl ?_
      refine L.pass rfl rfl ?_
      refine L.pass rfl rfl ?_
      refine L.pass rfl rfl ?_
      refine L.pass rfl rfl ?_
      refine L.pass rfl rfl ?_
      refine L.pass rfl rfl ?_
      refine L.pass rfl rfl ?_
      first | refine L.val rfl rfl (R.pickT rfl rfl) ?_ | refine L.val rfl rfl (R.pickF rfl rfl) ?_
      refine L.nil ?_
      refine N.seq ?_
      refine G.condT rfl ?_
      have hno : ¬ okN l y := by
        rintro ⟨h1, h2, h3, h4⟩
        first | omega | (have := h4 (by omega); rw [getD_zero (by omega)] at this; omega)
      refine G.seq ?_
      refine G.region ?_
      refine L.val rfl rfl (R.mv rfl) ?_
      refine L.val rfl rfl (R.nilChk rfl) ?_
      refine L.val rfl rfl (R.fld rfl) ?_
      refine L.set rfl (R.st rfl rfl hB (by simp) rfl) ?_
      rintro w1 ⟨e1, hs1, B1⟩
      refine L.nil ?_
      refine N.seq ?_
      refine G.seq ?_
      refine G.region ?_
      refine L.val rfl rfl (R.as rfl) ?_
      refine L.nil ?_
      refine N.seq ?_
      refine G.ret1 rfl rfl ?_
      first
        | (rw [numF_err (by assumption)]; exact ⟨rfl, hB0, Ext.refl _ _⟩)
        | (rw [numF_no hno]; exact ⟨rfl, B1, e1⟩)
        | (rw [numF_ok hok]; exact ⟨rfl, B1, e1⟩)
    · refine L.val rfl rfl (R.mv rfl) ?_
      refine L.val rfl rfl (R.gtr rfl rfl) ?_
      first | refine L.val rfl rfl (R.pickT rfl rfl) ?_ | refine L.val rfl rfl (R.pickF rfl rfl) ?_
      refine L.val rfl rfl (R.mv rfl) ?_
      refine L.caseP 18 rfl (fun hg3_6 => ?_) (fun hg3_6 => ?_)
      · refine L.pass rfl rfl ?_
        refine L.pass rfl rfl ?_
        refine L.pass rfl rfl ?_
        refine L.pass rfl rfl ?_
        refine L.pass rfl rfl ?_
        refine L.pass rfl rfl ?_
        refine L.pass rfl rfl ?_
        first | refine L.val rfl rfl (R.pickT rfl rfl) ?_ | refine L.val rfl rfl (R.pickF rfl rfl) ?_
        refine L.val rfl rfl (R.mv rfl) ?_
        refine L.pass rfl rfl ?_
        refine L.pass rfl rfl ?_
        refine L.pass rfl rfl ?_
        refine L.pass rfl rfl ?_
        refine L.pass rfl rfl ?_
        refine L.pass rfl rfl ?_
        refine L.pass rfl rfl ?_
        refine L.pass rfl rfl ?_
        refine L.pass rfl rfl ?_
        refine L.pass rfl rfl ?_
        first | refine L.val rfl rfl (R.pickT rfl rfl) ?_ | refine L.val rfl rfl (R.pickF rfl rfl) ?_
        refine L.nil ?_
        refine N.seq ?_
        refine G.condT rfl ?_
        have hno : ¬ okN l y := by
          rintro ⟨h1, h2, h3, h4⟩
          first | omega | (have := h4 (by omega); rw [getD_zero (by omega)] at this; omega)
        refine G.seq ?_
        refine G.region ?_
        refine L.val rfl rfl (R.mv rfl) ?_
        refine L.val rfl rfl (R.nilChk rfl) ?_
        refine L.val rfl rfl (R.fld rfl) ?_
        refine L.set rfl (R.st rfl rfl hB (by simp) rfl) ?_
        rintro w1 ⟨e1, hs1, B1⟩
        refine L.nil ?_
        refine N.seq ?_
        refine G.seq ?_
        refine G.region ?_
        refine L.val rfl rfl (R.as rfl) ?_
        refine L.nil ?_
        refine N.seq ?_
        refine G.ret1 rfl rfl ?_
        first
          | (rw [numF_err (by assumption)]; exact ⟨rfl, hB0, Ext.refl _ _⟩)
          | (rw [numF_no hno]; exact ⟨rfl, B1, e1⟩)
          | (rw [numF_ok hok]; exact ⟨rfl, B1, e1⟩)
      · refine L.val rfl rfl (R.mv rfl) ?_
        refine L.val rfl rfl (R.nilChk rfl) ?_
        refine L.val rfl rfl (R.fld rfl) ?_
        refine L.val rfl rfl (R.ldB rfl hB rfl) ?_
        refine L.val rfl rfl (R.lenStr rfl) ?_
        refine L.be 23 rfl (congrArg (Value.int .i64) (congrArg Nat.cast (str_size l))) ?_
        refine L.val rfl rfl (R.mv rfl) ?_
        refine L.val rfl rfl (R.lss rfl rfl) ?_
        first | refine L.val rfl rfl (R.pickT rfl rfl) ?_ | refine L.val rfl rfl (R.pickF rfl rfl) ?_
        refine L.val rfl rfl (R.mv rfl) ?_
        refine L.caseP 27 rfl (fun hg3_15 => ?_) (fun hg3_15 => ?_)
        · refine L.pass rfl rfl ?_
          refine L.pass rfl rfl ?_
          refine L.pass rfl rfl ?_
          refine L.pass rfl rfl ?_
          refine L.pass rfl rfl ?_
          refine L.pass rfl rfl ?_
          refine L.pass rfl rfl ?_
          refine L.pass rfl rfl ?_
          refine L.pass rfl rfl ?_
          refine L.pass rfl rfl ?_
          first | refine L.val rfl rfl (R.pickT rfl rfl) ?_ | refine L.val rfl rfl (R.pickF rfl rfl) ?_
          refine L.nil ?_
          refine N.seq ?_
          refine G.condT rfl ?_
          have hno : ¬ okN l y := by
            rintro ⟨h1, h2, h3, h4⟩
            first | omega | (have := h4 (by omega); rw [getD_zero (by omega)] at this; omega)
          refine G.seq ?_
          refine G.region ?_
          refine L.val rfl rfl (R.mv rfl) ?_
          refine L.val rfl rfl (R.nilChk rfl) ?_
          refine L.val rfl rfl (R.fld rfl) ?_
          refine L.set rfl (R.st rfl rfl hB (by simp) rfl) ?_
          rintro w1 ⟨e1, hs1, B1⟩
          refine L.nil ?_
          refine N.seq ?_
          refine G.seq ?_
          refine G.region ?_
          refine L.val rfl rfl (R.as rfl) ?_
          refine L.nil ?_
          refine N.seq ?_
          refine G.ret1 rfl rfl ?_
          first
            | (rw [numF_err (by assumption)]; exact ⟨rfl, hB0, Ext.refl _ _⟩)
            | (rw [numF_no hno]; exact ⟨rfl, B1, e1⟩)
            | (rw [numF_ok hok]; exact ⟨rfl, B1, e1⟩)
        · refine L.val rfl rfl (R.mv rfl) ?_
          refine L.val rfl rfl (R.eqI rfl rfl) ?_
          refine L.val rfl rfl (R.mv rfl) ?_
          refine L.caseP 30 rfl (fun hg3_18 => ?_) (fun hg3_18 => ?_)
          · refine L.val rfl rfl (R.mv rfl) ?_
            refine L.val rfl rfl (R.nilChk rfl) ?_
            refine L.val rfl rfl (R.fld rfl) ?_
            refine L.val rfl rfl (R.ldB rfl hB rfl) ?_
            refine L.val rfl rfl (R.idxStr rfl rfl (by omega) (List.getElem?_eq_getElem (i := 0) (by omega))) ?_
            refine L.val rfl rfl (R.gtr rfl rfl) ?_
            first | refine L.val rfl rfl (R.pickT rfl rfl) ?_ | refine L.val rfl rfl (R.pickF rfl rfl) ?_
            first | refine L.val rfl rfl (R.pickT rfl rfl) ?_ | refine L.val rfl rfl (R.pickF rfl rfl) ?_
            refine L.nil ?_
            refine N.seq ?_
            refine G.condP rfl (fun h1 => ?_) (fun h1 => ?_)
            · have hno : ¬ okN l y := by
                rintro ⟨h1, h2, h3, h4⟩
                first | omega | (have := h4 (by omega); rw [getD_zero (by omega)] at this; omega)
              refine G.seq ?_
              refine G.region ?_
              refine L.val rfl rfl (R.mv rfl) ?_
              refine L.val rfl rfl (R.nilChk rfl) ?_
              refine L.val rfl rfl (R.fld rfl) ?_
              refine L.set rfl (R.st rfl rfl hB (by simp) rfl) ?_
              rintro w1 ⟨e1, hs1, B1⟩
              refine L.nil ?_
              refine N.seq ?_
              refine G.seq ?_
              refine G.region ?_
              refine L.val rfl rfl (R.as rfl) ?_
              refine L.nil ?_
              refine N.seq ?_
              refine G.ret1 rfl rfl ?_
              first
                | (rw [numF_err (by assumption)]; exact ⟨rfl, hB0, Ext.refl _ _⟩)
                | (rw [numF_no hno]; exact ⟨rfl, B1, e1⟩)
                | (rw [numF_ok hok]; exact ⟨rfl, B1, e1⟩)
            · have hok : okN l y := by
                refine ⟨by omega, by omega, by omega, fun h8 => ?_⟩
                first | omega | (rw [getD_zero (by omega)]; omega)
              have htl := okN_lt hok
              have hy0 : y = (y.toNat : Int) := by omega
              refine G.skip ?_
              refine N.seq ?_
              refine G.seq ?_
              refine G.region ?_
              refine L.val rfl rfl (R.as rfl) ?_
              refine L.nil ?_
              refine N.seq ?_
              refine G.seq ?_
              refine G.seq ?_
              refine G.region ?_
              refine L.val rfl rfl (R.as rfl) ?_
              refine L.nil ?_
              refine N.seq ?_
              refine G.block ?_
              refine G.loop (X := Nat) (fun k => [(0, .pointer (some ⟨s, 0, none⟩)), (1, .int .i64 y), (5, .int .i64 (num (l.take k))), (6, .int .i64 (k : Nat))]) (fun k w' => k ≤ y.toNat ∧ w' = w) (fun k => y.toNat - k) (0) (Sub.cons rfl (Sub.cons rfl (Sub.cons rfl (Sub.cons rfl (Sub.nil _))))) ⟨by omega, rfl⟩ ?_
              rintro k w' ⟨hk, hw⟩
              obtain rfl := hw.symm
              refine G.seq ?_
              refine G.seq ?_
              refine G.region ?_
              refine L.val rfl rfl (R.mv rfl) ?_
              refine L.val rfl rfl (R.mv rfl) ?_
              refine L.val rfl rfl (R.lss rfl rfl) ?_
              refine L.nil ?_
              refine N.seq ?_
              refine G.condP rfl (fun h2 => ?_) (fun h2 => ?_)
              · have hns := num_step (l := l) (k := k) (m := y.toNat) (by omega) (by omega) htl
                have hl8 := lt_u8 (l[k]'(by omega))
                refine G.skip ?_
                refine N.seq ?_
                refine G.seq ?_
                refine G.block ?_
                refine G.region ?_
                refine L.val rfl rfl (R.mv rfl) ?_
                refine L.val rfl rfl (R.mul rfl rfl (by omega)) ?_
                refine L.val rfl rfl (R.mv rfl) ?_
                refine L.val rfl rfl (R.nilChk rfl) ?_
                refine L.val rfl rfl (R.fld rfl) ?_
                refine L.val rfl rfl (R.ldB rfl hB rfl) ?_
                refine L.val rfl rfl (R.mv rfl) ?_
                refine L.val rfl rfl (R.idxStr rfl rfl (by omega) (List.getElem?_eq_getElem (i := k) (by omega))) ?_
                refine L.val rfl rfl (R.conv rfl _ (wrap_i64 (by omega))) ?_
                refine L.val rfl rfl (R.add rfl rfl (by omega)) ?_
                refine L.val rfl rfl (R.as rfl) ?_
                refine L.be 5 rfl (congrArg (Value.int .i64) (show _ = ((num (l.take (k + 1)) : Nat) : Int) by rw [num_take_succ l (by omega)]; omega)) ?_
                refine L.nil ?_
                refine N.block ?_
                refine N.seq ?_
                refine G.region ?_
                refine L.val rfl rfl (R.mv rfl) ?_
                refine L.val rfl rfl (R.add rfl rfl (by omega)) ?_
                refine L.val rfl rfl (R.as rfl) ?_
                refine L.nil ?_
                exact N.again (k + 1) (by omega) (Sub.cons rfl (Sub.cons rfl (Sub.cons rfl (Sub.cons rfl (Sub.nil _))))) ⟨by omega, rfl⟩
              · obtain rfl : k = y.toNat := by omega
                refine G.exit _ rfl ?_
                refine N.seq ?_
                refine G.seq ?_
                refine G.region ?_
                refine L.val rfl rfl (R.mv rfl) ?_
                refine L.val rfl rfl (R.mv rfl) ?_
                refine L.val rfl rfl (R.nilChk rfl) ?_
                refine L.val rfl rfl (R.fld rfl) ?_
                refine L.val rfl rfl (R.ldB rfl hB rfl) ?_
                refine L.val rfl rfl (R.mv rfl) ?_
                refine L.val rfl rfl (R.slStrL rfl rfl (by omega) (by omega)) ?_
                refine L.val rfl rfl (R.nilChk rfl) ?_
                refine L.val rfl rfl (R.fld rfl) ?_
                refine L.set rfl (R.st rfl rfl hB (by simp) rfl) ?_
                rintro w1 ⟨e1, hs1, B1⟩
                refine L.nil ?_
                refine N.seq ?_
                refine G.seq ?_
                refine G.region ?_
                refine L.val rfl rfl (R.mv rfl) ?_
                refine L.val rfl rfl (R.as rfl) ?_
                refine L.nil ?_
                refine N.seq ?_
                refine G.ret1 rfl rfl ?_
                first
                  | (rw [numF_err (by assumption)]; exact ⟨rfl, hB0, Ext.refl _ _⟩)
                  | (rw [numF_no hno]; exact ⟨rfl, B1, e1⟩)
                  | (rw [numF_ok hok]; exact ⟨rfl, B1, e1⟩)
          · refine L.pass rfl rfl ?_
            refine L.pass rfl rfl ?_
            refine L.pass rfl rfl ?_
            refine L.pass rfl rfl ?_
            refine L.pass rfl rfl ?_
            refine L.pass rfl rfl ?_
            first | refine L.val rfl rfl (R.pickT rfl rfl) ?_ | refine L.val rfl rfl (R.pickF rfl rfl) ?_
            first | refine L.val rfl rfl (R.pickT rfl rfl) ?_ | refine L.val rfl rfl (R.pickF rfl rfl) ?_
            refine L.nil ?_
            refine N.seq ?_
            refine G.condF rfl ?_
            have hok : okN l y := by
              refine ⟨by omega, by omega, by omega, fun h8 => ?_⟩
              first | omega | (rw [getD_zero (by omega)]; omega)
            have htl := okN_lt hok
            have hy0 : y = (y.toNat : Int) := by omega
            refine G.skip ?_
            refine N.seq ?_
            refine G.seq ?_
            refine G.region ?_
            refine L.val rfl rfl (R.as rfl) ?_
            refine L.nil ?_
            refine N.seq ?_
            refine G.seq ?_
            refine G.seq ?_
            refine G.region ?_
            refine L.val rfl rfl (R.as rfl) ?_
            refine L.nil ?_
            refine N.seq ?_
            refine G.block ?_
            refine G.loop (X := Nat) (fun k => [(0, .pointer (some ⟨s, 0, none⟩)), (1, .int .i64 y), (5, .int .i64 (num (l.take k))), (6, .int .i64 (k : Nat))]) (fun k w' => k ≤ y.toNat ∧ w' = w) (fun k => y.toNat - k) (0) (Sub.cons rfl (Sub.cons rfl (Sub.cons rfl (Sub.cons rfl (Sub.nil _))))) ⟨by omega, rfl⟩ ?_
            rintro k w' ⟨hk, hw⟩
            obtain rfl := hw.symm
            refine G.seq ?_
            refine G.seq ?_
            refine G.region ?_
            refine L.val rfl rfl (R.mv rfl) ?_
            refine L.val rfl rfl (R.mv rfl) ?_
            refine L.val rfl rfl (R.lss rfl rfl) ?_
            refine L.nil ?_
            refine N.seq ?_
            refine G.condP rfl (fun h2 => ?_) (fun h2 => ?_)
            · have hns := num_step (l := l) (k := k) (m := y.toNat) (by omega) (by omega) htl
              have hl8 := lt_u8 (l[k]'(by omega))
              refine G.skip ?_
              refine N.seq ?_
              refine G.seq ?_
              refine G.block ?_
              refine G.region ?_
              refine L.val rfl rfl (R.mv rfl) ?_
              refine L.val rfl rfl (R.mul rfl rfl (by omega)) ?_
              refine L.val rfl rfl (R.mv rfl) ?_
              refine L.val rfl rfl (R.nilChk rfl) ?_
              refine L.val rfl rfl (R.fld rfl) ?_
              refine L.val rfl rfl (R.ldB rfl hB rfl) ?_
              refine L.val rfl rfl (R.mv rfl) ?_
              refine L.val rfl rfl (R.idxStr rfl rfl (by omega) (List.getElem?_eq_getElem (i := k) (by omega))) ?_
              refine L.val rfl rfl (R.conv rfl _ (wrap_i64 (by omega))) ?_
              refine L.val rfl rfl (R.add rfl rfl (by omega)) ?_
              refine L.val rfl rfl (R.as rfl) ?_
              refine L.be 5 rfl (congrArg (Value.int .i64) (show _ = ((num (l.take (k + 1)) : Nat) : Int) by rw [num_take_succ l (by omega)]; omega)) ?_
              refine L.nil ?_
              refine N.block ?_
              refine N.seq ?_
              refine G.region ?_
              refine L.val rfl rfl (R.mv rfl) ?_
              refine L.val rfl rfl (R.add rfl rfl (by omega)) ?_
              refine L.val rfl rfl (R.as rfl) ?_
              refine L.nil ?_
              exact N.again (k + 1) (by omega) (Sub.cons rfl (Sub.cons rfl (Sub.cons rfl (Sub.cons rfl (Sub.nil _))))) ⟨by omega, rfl⟩
            · obtain rfl : k = y.toNat := by omega
              refine G.exit _ rfl ?_
              refine N.seq ?_
              refine G.seq ?_
              refine G.region ?_
              refine L.val rfl rfl (R.mv rfl) ?_
              refine L.val rfl rfl (R.mv rfl) ?_
              refine L.val rfl rfl (R.nilChk rfl) ?_
              refine L.val rfl rfl (R.fld rfl) ?_
              refine L.val rfl rfl (R.ldB rfl hB rfl) ?_
              refine L.val rfl rfl (R.mv rfl) ?_
              refine L.val rfl rfl (R.slStrL rfl rfl (by omega) (by omega)) ?_
              refine L.val rfl rfl (R.nilChk rfl) ?_
              refine L.val rfl rfl (R.fld rfl) ?_
              refine L.set rfl (R.st rfl rfl hB (by simp) rfl) ?_
              rintro w1 ⟨e1, hs1, B1⟩
              refine L.nil ?_
              refine N.seq ?_
              refine G.seq ?_
              refine G.region ?_
              refine L.val rfl rfl (R.mv rfl) ?_
              refine L.val rfl rfl (R.as rfl) ?_
              refine L.nil ?_
              refine N.seq ?_
              refine G.ret1 rfl rfl ?_
              first
                | (rw [numF_err (by assumption)]; exact ⟨rfl, hB0, Ext.refl _ _⟩)
                | (rw [numF_no hno]; exact ⟨rfl, B1, e1⟩)
                | (rw [numF_ok hok]; exact ⟨rfl, B1, e1⟩)

end Go.Proofs.Ytiiiplhfgblamaa
/-
  The walks of package record.
-/
set_option linter.unusedVariables false
set_option linter.unusedSimpArgs false
set_option maxRecDepth 4000
namespace Go.Proofs.Ytiiiplhfgblamaa
open Go Brv Brv.Pack
def partF (l : List UInt8) : Option ((Int × List UInt8) × List UInt8) := if 66 ≤ l.length ∧ l[0]? = some 0 then some ((((l[1]?.getD 0).toNat : Int), (l.drop 2).take 64), l.drop 66) else none
def partsF : Nat → List UInt8 → Option (List (Int × List UInt8) × List UInt8)
  | 0, l => some ([], l)
  | n + 1, l => match partF l with
    | none => none
    | some (x, r) => (partsF n r).map fun p => (x :: p.1, p.2)
theorem partsF_yes {n : Nat} {l : List UInt8} (h : 66 ≤ l.length ∧ l[0]? = some 0) : partsF (n + 1) l = (partsF n (l.drop 66)).map fun p => ((((l[1]?.getD 0).toNat : Int), (l.drop 2).take 64) :: p.1, p.2) := by
  simp only [partsF, partF]
  rw [if_pos h]
theorem partsF_no {n : Nat} {l : List UInt8} (h : ¬ (66 ≤ l.length ∧ l[0]? = some 0)) : partsF (n + 1) l = none := by
  simp only [partsF, partF]
  rw [if_neg h]
/-- The head of a record: kind, timeline, number, what is left, the error. -/
def hdN (l : List UInt8) : (Int × Int × Int) × List UInt8 × Int :=
  if ((numF l 0 1).1 : Int) = 2 then ((((numF l 0 1).1 : Int), 0, 0), (numF l 0 1).2.1, (numF l 0 1).2.2)
  else ((((numF l 0 1).1 : Int), ((numF (numF l 0 1).2.1 (numF l 0 1).2.2 4).1 : Int), ((numF (numF (numF l 0 1).2.1 (numF l 0 1).2.2 4).2.1 (numF (numF l 0 1).2.1 (numF l 0 1).2.2 4).2.2 8).1 : Int)), (numF (numF (numF l 0 1).2.1 (numF l 0 1).2.2 4).2.1 (numF (numF l 0 1).2.1 (numF l 0 1).2.2 4).2.2 8).2.1, (numF (numF (numF l 0 1).2.1 (numF l 0 1).2.2 4).2.1 (numF (numF l 0 1).2.1 (numF l 0 1).2.2 4).2.2 8).2.2)
open Classical in
noncomputable def endR (h : Int × Int × Int) (ws : List (Int × List UInt8)) (left : List UInt8) (e : Int) : Option ((Int × Int × Int) × List (Int × List UInt8)) := if e = 0 ∧ left.length = 0 ∧ okR h.1 h.2.1 h.2.2 ws then some (h, ws) else none
noncomputable def getR (l : List UInt8) : Option ((Int × Int × Int) × List (Int × List UInt8)) :=
  if (hdN l).1.1 = 3 then
    match partsF (numF (hdN l).2.1 (hdN l).2.2 2).1 (l.drop (l.length - (numF (hdN l).2.1 (hdN l).2.2 2).2.1.length)) with
    | none => none
    | some (ws, q) => endR (hdN l).1 ws q (numF (hdN l).2.1 (hdN l).2.2 2).2.2
  else endR (hdN l).1 [] (l.drop (l.length - (hdN l).2.1.length)) (hdN l).2.2

end Go.Proofs.Ytiiiplhfgblamaa
/-
  The walks of package record.
-/
set_option linter.unusedVariables false
set_option linter.unusedSimpArgs false
set_option maxRecDepth 4000
namespace Go.Proofs.Ytiiiplhfgblamaa
open Go Brv Brv.Pack
/-- The document's loop over the writes of a record. -/
def refP : Nat → List UInt8 → Int → List (Int × List UInt8) × List UInt8 × Int
  | 0, l, e => ([], l, e)
  | n + 1, l, e => if e ≠ 0 then ([], l, e) else
    if (numF l e 2).2.1.length < 64 then ([], (numF l e 2).2.1, 20)
    else ((((numF l e 2).1 : Int), (numF l e 2).2.1.take 64) :: (refP n ((numF l e 2).2.1.drop 64) (numF l e 2).2.2).1, (refP n ((numF l e 2).2.1.drop 64) (numF l e 2).2.2).2)
theorem numF_two {l : List UInt8} {b0 b1 : UInt8} {r : List UInt8} (h : l = b0 :: b1 :: r) : numF l 0 2 = (b0.toNat * 256 + b1.toNat, r, 0) := by
  subst h
  unfold numF
  rw [if_pos rfl, if_pos (by unfold Brv.Pack.okN; simp; omega)]
  simp [num]
  omega
theorem numF_short {l : List UInt8} (h : l.length < 2) : numF l 0 2 = (0, l, 20) := by
  unfold numF
  rw [if_pos rfl, if_neg (by unfold Brv.Pack.okN; simp; omega)]
theorem refP_of : ∀ (n : Nat) (l : List UInt8), (∀ ws q, partsF n l = some (ws, q) → refP n l 0 = (ws, q, 0)) ∧ (partsF n l = none → (refP n l 0).2.2 ≠ 0 ∨ ∃ x ∈ (refP n l 0).1, 256 ≤ x.1)
  | 0, l => ⟨fun ws q h => by simp only [partsF, Option.some.injEq, Prod.mk.injEq] at h; rw [← h.1, ← h.2]; rfl, fun h => by simp [partsF] at h⟩
  | n + 1, l => by
    by_cases hs : l.length < 2
    · have hp : partsF (n + 1) l = none := partsF_no (by omega)
      refine ⟨fun ws q h => (by rw [hp] at h; cases h), fun _ => .inl ?_⟩
      simp only [refP, numF_short hs]
      rw [if_neg (by simp), if_pos (by omega)]
      show (20 : Int) ≠ 0
      decide
    · obtain ⟨b0, b1, r, rfl⟩ : ∃ b0 b1 r, l = b0 :: b1 :: r := by
        match l, hs with
        | b0 :: b1 :: r, _ => exact ⟨b0, b1, r, rfl⟩
        | [], hs => simp at hs
        | [_], hs => simp at hs
      have hn := numF_two (r := r) (b0 := b0) (b1 := b1) rfl
      by_cases hl : r.length < 64
      · have hp : partsF (n + 1) (b0 :: b1 :: r) = none := partsF_no (by simp; omega)
        refine ⟨fun ws q h => (by rw [hp] at h; cases h), fun _ => .inl ?_⟩
        simp only [refP, hn]
        simp [hl]
      · have hr : refP (n + 1) (b0 :: b1 :: r) 0 = ((((b0.toNat * 256 + b1.toNat : Nat) : Int), r.take 64) :: (refP n (r.drop 64) 0).1, (refP n (r.drop 64) 0).2) := by
          simp only [refP, hn]
          simp [hl]
        rw [hr]
        by_cases h0 : b0 = 0
        · subst h0
          have ih := refP_of n (r.drop 64)
          have hp := partsF_yes (n := n) (l := 0 :: b1 :: r) ⟨by simp; omega, rfl⟩
          have hd : (0 :: b1 :: r : List UInt8).drop 66 = r.drop 64 := rfl
          rw [hd] at hp
          rw [hp]
          constructor
          · intro ws q h
            cases hq : partsF n (r.drop 64) with
            | none => rw [hq] at h; cases h
            | some p =>
              rw [hq] at h
              simp only [Option.map_some, Option.some.injEq, Prod.mk.injEq] at h
              have h2 := ih.1 p.1 p.2 hq
              rw [h2, ← h.1, ← h.2]
              simp
          · intro h
            cases hq : partsF n (r.drop 64) with
            | some p => rw [hq] at h; cases h
            | none => rcases ih.2 hq with h2 | ⟨x, hx, h2⟩
                      · exact .inl h2
                      · exact .inr ⟨x, List.mem_cons_of_mem _ hx, h2⟩
        · have hp : partsF (n + 1) (b0 :: b1 :: r) = none := partsF_no (fun h => h0 (by simpa using h.2))
          refine ⟨fun ws q h => (by rw [hp] at h; cases h), fun _ => .inr ⟨_, List.mem_cons_self, ?_⟩⟩
          have : b0.toNat ≠ 0 := fun h => h0 (UInt8.toNat_inj.1 (by simpa using h))
          show (256 : Int) ≤ ((b0.toNat * 256 + b1.toNat : Nat) : Int)
          omega

theorem numF_suf (l : List UInt8) (e y : Int) : (numF l e y).2.1 <:+ l := by
  unfold numF
  split
  · split
    · exact List.drop_suffix _ _
    · exact List.suffix_refl _
  · exact List.suffix_refl _
theorem numF_err {l : List UInt8} {e y : Int} (h : (numF l e y).2.2 ≠ 0) : (numF l e y).1 = 0 := by
  unfold numF at h ⊢
  split at h
  · rename_i h1
    rw [if_pos h1]
    split at h
    · exact absurd rfl h
    · rename_i h2
      rw [if_neg h2]
  · rename_i h1
    rw [if_neg h1]
theorem hdN_suf (l : List UInt8) : (hdN l).2.1 <:+ l := by
  unfold hdN
  split
  · exact numF_suf _ _ _
  · exact (numF_suf _ _ _).trans ((numF_suf _ _ _).trans (numF_suf _ _ _))
/-- What the document's Get comes to. -/
noncomputable def refG (l : List UInt8) : Option ((Int × Int × Int) × List (Int × List UInt8)) :=
  if (hdN l).1.1 = 3 then
    endR (hdN l).1 (refP (numF (hdN l).2.1 (hdN l).2.2 2).1 (numF (hdN l).2.1 (hdN l).2.2 2).2.1 (numF (hdN l).2.1 (hdN l).2.2 2).2.2).1 (refP (numF (hdN l).2.1 (hdN l).2.2 2).1 (numF (hdN l).2.1 (hdN l).2.2 2).2.1 (numF (hdN l).2.1 (hdN l).2.2 2).2.2).2.1 (refP (numF (hdN l).2.1 (hdN l).2.2 2).1 (numF (hdN l).2.1 (hdN l).2.2 2).2.1 (numF (hdN l).2.1 (hdN l).2.2 2).2.2).2.2
  else endR (hdN l).1 [] (hdN l).2.1 (hdN l).2.2
theorem endR_no {h : Int × Int × Int} {ws : List (Int × List UInt8)} {q : List UInt8} {e : Int} (hn : ¬ (e = 0 ∧ q.length = 0 ∧ okR h.1 h.2.1 h.2.2 ws)) : endR h ws q e = none := by unfold endR; exact if_neg hn
theorem refG_eq (l : List UInt8) : refG l = getR l := by
  have hs := hdN_suf l
  have hx := numF_suf (hdN l).2.1 (hdN l).2.2 2
  unfold refG getR
  rw [← List.suffix_iff_eq_drop.1 hs, ← List.suffix_iff_eq_drop.1 (hx.trans hs)]
  by_cases h3 : (hdN l).1.1 = 3
  · rw [if_pos h3, if_pos h3]
    obtain ⟨x, hxe⟩ : ∃ x, x = numF (hdN l).2.1 (hdN l).2.2 2 := ⟨_, rfl⟩
    have herr : x.2.2 ≠ 0 → x.1 = 0 := by rw [hxe]; exact numF_err
    rw [← hxe]
    by_cases he : x.2.2 = 0
    · rw [he]
      have h := refP_of x.1 x.2.1
      cases hp : partsF x.1 x.2.1 with
      | some p => rw [h.1 p.1 p.2 hp]
      | none =>
        refine endR_no fun hn => ?_
        rcases h.2 hp with h1 | ⟨z, hz, h1⟩
        · exact h1 hn.1
        · rcases hn.2.2 with h2 | h2 | h2
          · omega
          · omega
          · obtain ⟨i, hi, hzi⟩ := List.mem_iff_getElem.1 hz
            have := (h2.2.2.2 i z (by rw [List.getElem?_eq_getElem hi, hzi])).1.2
            omega
    · rw [herr he]
      rfl
  · rw [if_neg h3, if_neg h3]

end Go.Proofs.Ytiiiplhfgblamaa
/-
  The walks of package crc.
-/
set_option linter.unusedVariables false
namespace Go.Proofs.Ytiiiplhfgblamaa
open Go Brv Brv.Crc
end Go.Proofs.Ytiiiplhfgblamaa
/-
  Plain laws on package frame.
-/
set_option linter.unusedVariables false
namespace Brv.Frame
open Go Brv Brv.Crc Brv.Pack

/-- Is it a right frame? -/
def okFrame (lsn epoch index count : Int) (l : List UInt8) : Prop := (0 ≤ lsn ∧ lsn ≤ 4611686018427387903) ∧ (0 ≤ epoch ∧ epoch ≤ 4294967295) ∧ (1 ≤ count ∧ count ≤ 65535) ∧ (0 ≤ index ∧ index ≤ count - 1) ∧ l.length ≤ 40
instance (a b c d : Int) (l : List UInt8) : Decidable (okFrame a b c d l) := by unfold okFrame; infer_instance
/-- The sector of a frame. -/
def frameF (lsn epoch index count : Int) (l : List UInt8) : List UInt8 :=
  markF (padF 64 ([0xb7, 0x1e] ++ be 8 lsn.toNat ++ be 4 epoch.toNat ++ be 2 index.toNat ++ be 2 count.toNat ++ textF l))
/-- What is marked. -/
def frameB (p q i k : Int) (l : List UInt8) : List UInt8 := [0xb7, 0x1e] ++ be 8 p.toNat ++ be 4 q.toNat ++ be 2 i.toNat ++ be 2 k.toNat ++ textF l
theorem frameB_length (p q i k : Int) (l : List UInt8) : (frameB p q i k l).length = 20 + l.length := by simp [frameB, be_length, textF]; omega
theorem frame_pad (p q i k : Int) (l : List UInt8) (h : l.length ≤ 40) : (padF 64 (frameB p q i k l)).length = 64 := by
  unfold padF
  rw [if_neg (by decide), List.length_append, List.length_replicate, frameB_length]
  unfold padN
  have : (20 + l.length) % (64 : Int).toNat = 20 + l.length := Nat.mod_eq_of_lt (by show 20 + l.length < 64; omega)
  rw [this]
  have : ((64 : Int).toNat - (20 + l.length)) % (64 : Int).toNat = 64 - (20 + l.length) := Nat.mod_eq_of_lt (by show 64 - (20 + l.length) < 64; omega)
  rw [this]; omega
end Brv.Frame
/-
  The walks of package frame.
-/
set_option linter.unusedVariables false
set_option linter.unusedSimpArgs false
namespace Go.Proofs.Ytiiiplhfgblamaa
open Go Brv Brv.Crc Brv.Pack Brv.Frame
theorem _root_.Brv.Grown.freshLt {S S' : List Nat} {s : Nat} {a b : World} (h : Grown S S' a b) (hs : ∀ g ∈ S, s < g) (ha : s < a.heap.size) : ∀ g ∈ S', s < g := fun g hg => (h.2 g hg).elim (hs g) (Nat.lt_of_lt_of_le ha)
end Go.Proofs.Ytiiiplhfgblamaa
/-
  Plain laws on package frame: what a sector tells, that a frame is told again, bodies over sectors.
-/
set_option linter.unusedVariables false
namespace Brv.Frame
open Go Brv Brv.Crc Brv.Pack

abbrev FrV := Int × Int × Int × Int × List UInt8
def okV (f : FrV) : Prop := okFrame f.1 f.2.1 f.2.2.1 f.2.2.2.1 f.2.2.2.2
instance (f : FrV) : Decidable (okV f) := by unfold okV; infer_instance
def secV (f : FrV) : List UInt8 := frameF f.1 f.2.1 f.2.2.1 f.2.2.2.1 f.2.2.2.2
def putV (f : FrV) : List UInt8 := if okV f then secV f else []
def zeroV : FrV := (0, 0, 0, 0, [])
/-- What a scan reads behind the magic number. -/
def parse (l : List UInt8) : FrV × Int :=
  let a := numF l 0 8
  let b := numF a.2.1 a.2.2 4
  let c := numF b.2.1 b.2.2 2
  let d := numF c.2.1 c.2.2 2
  let t := txtF d.2.1 d.2.2 40
  (((a.1 : Int), (b.1 : Int), (c.1 : Int), (d.1 : Int), t.1), t.2.2)
/-- The frame of a sector; the error. -/
def getF (l : List UInt8) : FrV × Int :=
  if l.length = 64 ∧ num (l.take 2) = 46878 then
    (if goodF l = true then (if (parse (l.drop 2)).2 = 0 ∧ putV (parse (l.drop 2)).1 = l then ((parse (l.drop 2)).1, 0) else (zeroV, 20)) else (zeroV, 21))
  else (zeroV, 20)
theorem getF_size {l : List UInt8} (h : ¬ (l.length = 64 ∧ num (l.take 2) = 46878)) : getF l = (zeroV, 20) := if_neg h
theorem getF_sum {l : List UInt8} (h : l.length = 64 ∧ num (l.take 2) = 46878) (hg : goodF l = false) : getF l = (zeroV, 21) := by
  unfold getF; rw [if_pos h, if_neg (by rw [hg]; simp)]
theorem getF_form {l : List UInt8} (h : l.length = 64 ∧ num (l.take 2) = 46878) (hg : goodF l = true) (hf : ¬ ((parse (l.drop 2)).2 = 0 ∧ putV (parse (l.drop 2)).1 = l)) : getF l = (zeroV, 20) := by
  unfold getF; rw [if_pos h, if_pos hg, if_neg hf]
theorem getF_yes {l : List UInt8} (h : l.length = 64 ∧ num (l.take 2) = 46878) (hg : goodF l = true) (hf : (parse (l.drop 2)).2 = 0 ∧ putV (parse (l.drop 2)).1 = l) : getF l = ((parse (l.drop 2)).1, 0) := by
  unfold getF; rw [if_pos h, if_pos hg, if_pos hf]
theorem getF_ok {l : List UInt8} (h : (getF l).2 = 0) : okV (getF l).1 ∧ secV (getF l).1 = l := by
  by_cases h1 : l.length = 64 ∧ num (l.take 2) = 46878
  · cases hg : goodF l with
    | false => rw [getF_sum h1 hg] at h; cases h
    | true =>
      by_cases hf : (parse (l.drop 2)).2 = 0 ∧ putV (parse (l.drop 2)).1 = l
      · rw [getF_yes h1 hg hf]
        have := hf.2
        unfold putV at this
        split at this
        · rename_i hok; exact ⟨hok, this⟩
        · rw [← this] at h1; simp at h1
      · rw [getF_form h1 hg hf] at h; cases h
  · rw [getF_size h1] at h; cases h

theorem numF_be {y x : Nat} {r : List UInt8} (h1 : 1 ≤ y) (h8 : y ≤ 8) (hx : x < 256 ^ y) (h63 : y = 8 → x < 9223372036854775808) : numF (be y x ++ r) 0 (y : Int) = (x, r, 0) := by
  have hl := be_length y x
  have ok : okN (be y x ++ r) (y : Int) := by
    refine ⟨by omega, by omega, by rw [List.length_append, hl]; omega, fun e => ?_⟩
    obtain rfl : y = 8 := by omega
    have h0 := be_get 8 x 0 (by decide)
    have hx8 := h63 rfl
    rw [List.getD_eq_getElem?_getD, List.getElem?_append_left (by rw [hl]; decide), h0]
    show (UInt8.ofNat (x / 72057594037927936 % 256)).toNat < 128
    have : x / 72057594037927936 < 128 := by omega
    rw [UInt8.toNat_ofNat']
    omega
  rw [numF_ok ok, Int.toNat_natCast, List.take_left' hl, List.drop_left' hl, num_be y x hx]
theorem txtF_text {l r : List UInt8} {most : Int} (h : (l.length : Int) ≤ most) (h2 : l.length < 65536) : txtF (textF l ++ r) 0 most = (l, r, 0) := by
  have hl := be_length 2 l.length
  have e : textF l ++ r = be 2 l.length ++ (l ++ r) := by simp [textF]
  have hn : num ((textF l ++ r).take 2) = l.length := by rw [e, List.take_left' hl, num_be 2 _ h2]
  have hd : (textF l ++ r).drop 2 = l ++ r := by rw [e, List.drop_left' hl]
  have ok : okT (textF l ++ r) most := by
    refine ⟨by rw [e, List.length_append, hl]; omega, by rw [hn]; exact h, ?_⟩
    rw [hn, e, List.length_append, List.length_append, hl]; omega
  unfold txtF
  rw [if_pos rfl, if_pos ok, hn, hd, List.take_left' rfl, List.drop_left' rfl]
theorem frame_split {p q i k : Int} {l : List UInt8} (h : l.length ≤ 40) : ∃ R, frameF p q i k l = [0xb7, 0x1e] ++ (be 8 p.toNat ++ (be 4 q.toNat ++ (be 2 i.toNat ++ (be 2 k.toNat ++ (textF l ++ R))))) := by
  have hP := frame_pad p q i k l h
  have hB := frameB_length p q i k l
  unfold frameF
  have e : ([0xb7, 0x1e] ++ be 8 p.toNat ++ be 4 q.toNat ++ be 2 i.toNat ++ be 2 k.toNat ++ textF l) = frameB p q i k l := rfl
  rw [e]
  unfold markF
  rw [if_neg (by omega), hP]
  have e2 : padF 64 (frameB p q i k l) = frameB p q i k l ++ List.replicate (padN (64 : Int).toNat (frameB p q i k l).length) 0 := by unfold padF; rw [if_neg (by decide)]
  rw [e2, List.take_append, List.take_of_length_le (by omega)]
  refine ⟨List.take (64 - 4 - (frameB p q i k l).length) (List.replicate (padN (64 : Int).toNat (frameB p q i k l).length) 0) ++ fourF (joinF 0 (frameB p q i k l ++ List.take (64 - 4 - (frameB p q i k l).length) (List.replicate (padN (64 : Int).toNat (frameB p q i k l).length) 0))), ?_⟩
  conv => lhs; rw [show frameB p q i k l ++ List.take (64 - 4 - (frameB p q i k l).length) (List.replicate (padN (64 : Int).toNat (frameB p q i k l).length) 0) ++ fourF _ = frameB p q i k l ++ (List.take (64 - 4 - (frameB p q i k l).length) (List.replicate (padN (64 : Int).toNat (frameB p q i k l).length) 0) ++ fourF _) from List.append_assoc ..]
  simp only [frameB, List.append_assoc, List.cons_append, List.nil_append]
theorem secV_length {f : FrV} (h : okV f) : (secV f).length = 64 := by
  obtain ⟨p, q, i, k, l⟩ := f
  show (frameF p q i k l).length = 64
  unfold frameF
  rw [markF_length]
  exact frame_pad p q i k l h.2.2.2.2
theorem putV_le (f : FrV) : (putV f).length ≤ 64 := by
  unfold putV
  split
  · rename_i h; rw [secV_length h]; exact Nat.le_refl _
  · simp
theorem toNat_cast {x : Int} (h : 0 ≤ x) : ((x.toNat : Nat) : Int) = x := by omega
/-- A right frame is got as it was put. -/
theorem get_put {f : FrV} (h : okV f) : getF (secV f) = (f, 0) := by
  have hlen := secV_length h
  obtain ⟨p, q, i, k, l⟩ := f
  have hok := h
  obtain ⟨⟨o1, o2⟩, ⟨o3, o4⟩, ⟨o5, o6⟩, ⟨o7, o8⟩, o9⟩ := h
  dsimp only at o1 o2 o3 o4 o5 o6 o7 o8 o9
  obtain ⟨R, hR⟩ := frame_split (p := p) (q := q) (i := i) (k := k) o9
  have hs : secV (p, q, i, k, l) = _ := hR
  have hg : goodF (secV (p, q, i, k, l)) = true := by
    show goodF (frameF p q i k l) = true
    unfold frameF
    exact good_mark (by have := frame_pad p q i k l o9; unfold frameB at this; omega)
  have hp : parse ((secV (p, q, i, k, l)).drop 2) = ((p, q, i, k, l), 0) := by
    rw [hs]
    show parse (be 8 p.toNat ++ (be 4 q.toNat ++ (be 2 i.toNat ++ (be 2 k.toNat ++ (textF l ++ R))))) = _
    have n1 := numF_be (y := 8) (x := p.toNat) (r := be 4 q.toNat ++ (be 2 i.toNat ++ (be 2 k.toNat ++ (textF l ++ R)))) (by decide) (by decide) (show p.toNat < 18446744073709551616 by omega) (fun _ => by omega)
    have n2 := numF_be (y := 4) (x := q.toNat) (r := be 2 i.toNat ++ (be 2 k.toNat ++ (textF l ++ R))) (by decide) (by decide) (show q.toNat < 4294967296 by omega) (fun e => by cases e)
    have n3 := numF_be (y := 2) (x := i.toNat) (r := be 2 k.toNat ++ (textF l ++ R)) (by decide) (by decide) (show i.toNat < 65536 by omega) (fun e => by cases e)
    have n4 := numF_be (y := 2) (x := k.toNat) (r := textF l ++ R) (by decide) (by decide) (show k.toNat < 65536 by omega) (fun e => by cases e)
    have n5 := txtF_text (l := l) (r := R) (most := 40) (by omega) (by omega)
    unfold parse
    simp only [show ((8 : Nat) : Int) = 8 from rfl, show ((4 : Nat) : Int) = 4 from rfl, show ((2 : Nat) : Int) = 2 from rfl] at n1 n2 n3 n4
    rw [n1]
    dsimp only
    rw [n2]
    dsimp only
    rw [n3]
    dsimp only
    rw [n4]
    dsimp only
    rw [n5, toNat_cast o1, toNat_cast o3, toNat_cast o7, toNat_cast (by omega)]
  have h1 : (secV (p, q, i, k, l)).length = 64 ∧ num ((secV (p, q, i, k, l)).take 2) = 46878 := ⟨hlen, by rw [hs]; rfl⟩
  have h2 := getF_yes h1 hg (by rw [hp]; exact ⟨rfl, if_pos hok⟩)
  rw [h2, hp]
theorem secV_inj {f g : FrV} (hf : okV f) (hg : okV g) : secV f = secV g ↔ f = g := by
  constructor
  · intro e
    have h1 := get_put hf
    have h2 := get_put hg
    rw [e, h2] at h1
    exact (Prod.mk.inj h1).1.symm
  · intro e; rw [e]
theorem numF_lt (l : List UInt8) (e y : Int) : (numF l e y).1 < 9223372036854775808 := by
  unfold numF
  split
  · split
    · rename_i h; exact okN_lt h
    · show 0 < _; decide
  · show 0 < _; decide
theorem num_two (l : List UInt8) : num (l.take 2) < 65536 := by
  have := num_lt (l.take 2)
  have h2 : (l.take 2).length ≤ 2 := by rw [List.length_take]; omega
  exact Nat.lt_of_lt_of_le this (Nat.le_trans (Nat.pow_le_pow_right (by decide) h2) (by decide))
theorem num_two_eq {l : List UInt8} (h : 2 ≤ l.length) : num (l.take 2) = 46878 ↔ l[0] = 183 ∧ l[1] = 30 := by
  match l, h with
  | x :: y :: r, _ =>
    have hx := x.toNat_lt
    have hy := y.toNat_lt
    show num [x, y] = 46878 ↔ x = 183 ∧ y = 30
    have e : num [x, y] = 256 * x.toNat + y.toNat := by simp [num]
    rw [e]
    constructor
    · intro h
      exact ⟨UInt8.toNat_inj.1 (show x.toNat = 183 by omega), UInt8.toNat_inj.1 (show y.toNat = 30 by omega)⟩
    · rintro ⟨rfl, rfl⟩; rfl
theorem txtF_most (l : List UInt8) (e : Int) : (txtF l e 40).1.length ≤ 40 := by
  unfold txtF
  split
  · split
    · rename_i h
      rw [List.length_take]
      have := h.2.1
      omega
    · simp
  · simp

/-! ## Bodies over sectors -/
/-- The i-th part of a body. -/
def bodyF (l : List UInt8) (i : Nat) : List UInt8 := (l.drop (40 * i)).take 40
def secN (l : List UInt8) : Nat := if l.length ≤ 40 then 1 else (l.length + 39) / 40
def frV (p q : Int) (l : List UInt8) (i : Nat) : FrV := (p + i, q, i, secN l, bodyF l i)
def spreadN (p q : Int) (l : List UInt8) (i : Nat) : List UInt8 := ((List.range i).map (fun j => secV (frV p q l j))).flatten
theorem spreadN_succ (p q : Int) (l : List UInt8) (i : Nat) : spreadN p q l (i + 1) = spreadN p q l i ++ secV (frV p q l i) := by
  simp [spreadN, List.range_succ]
theorem part_length (l : List UInt8) (i : Nat) : (bodyF l i).length = min 40 (l.length - 40 * i) := by simp [bodyF]
theorem parts_join (l : List UInt8) (i : Nat) : ((List.range i).map (bodyF l)).flatten = l.take (40 * i) := by
  induction i with
  | zero => simp
  | succ i ih =>
    rw [List.range_succ, List.map_append, List.flatten_append, ih]
    simp only [List.map_cons, List.map_nil, List.flatten_cons, List.flatten_nil, List.append_nil, bodyF]
    rw [show 40 * (i + 1) = 40 * i + 40 by omega, List.take_add]
end Brv.Frame
namespace Brv.Frame
open Go Brv Brv.Crc Brv.Pack
/-! ## Gathering -/
def badG (lsn : Int) (at' : Nat) (q k : Int) (f : FrV) : Prop := (f.2.2.1 + 1 < f.2.2.2.1 ∧ (f.2.2.2.2.length : Int) < 40) ∨ (0 < f.2.2.1 ∧ (f.2.2.2.2.length : Int) = 0) ∨ f.1 ≠ lsn + at' ∨ f.2.2.1 ≠ at' ∨ f.2.1 ≠ q ∨ f.2.2.2.1 ≠ k
instance (lsn : Int) (at' : Nat) (q k : Int) (f : FrV) : Decidable (badG lsn at' q k f) := by unfold badG; infer_instance
def qG (at' : Nat) (q : Int) (f : FrV) : Int := if at' = 0 then f.2.1 else q
def kG (at' : Nat) (k : Int) (f : FrV) : Int := if at' = 0 then f.2.2.2.1 else k
def takeE (lsn : Int) (at' : Nat) (q k : Int) (l : List UInt8) : Int := if (getF l).2 ≠ 0 then (getF l).2 else if badG lsn at' (qG at' q (getF l).1) (kG at' k (getF l).1) (getF l).1 then 20 else 0
theorem takeE_err {lsn : Int} {at' : Nat} {q k : Int} {l : List UInt8} (h : (getF l).2 ≠ 0) : takeE lsn at' q k l = (getF l).2 := if_pos h
theorem takeE_bad {lsn : Int} {at' : Nat} {q k : Int} {l : List UInt8} (h : (getF l).2 = 0) (hb : badG lsn at' (qG at' q (getF l).1) (kG at' k (getF l).1) (getF l).1) : takeE lsn at' q k l = 20 := by unfold takeE; rw [if_neg (by simp [h]), if_pos hb]
theorem takeE_ok {lsn : Int} {at' : Nat} {q k : Int} {l : List UInt8} (h : (getF l).2 = 0) (hb : ¬ badG lsn at' (qG at' q (getF l).1) (kG at' k (getF l).1) (getF l).1) : takeE lsn at' q k l = 0 := by unfold takeE; rw [if_neg (by simp [h]), if_neg hb]
/-- How many sectors are asked for; the body, how many, the error. -/
def gathN (lsn : Int) (sec : Nat → List UInt8) : Nat → Nat → Int → Int → List UInt8 → Nat × List UInt8 × Int × Int
  | 0, i, _, _, _ => (i, [], 0, 20)
  | m + 1, i, q, k, body => if takeE lsn i q k (sec i) ≠ 0 then (i + 1, [], 0, takeE lsn i q k (sec i))
      else if ((i : Int) + 1) = kG i k (getF (sec i)).1 then (i + 1, body ++ (getF (sec i)).1.2.2.2.2, (i : Int) + 1, 0)
      else gathN lsn sec m (i + 1) (qG i q (getF (sec i)).1) (kG i k (getF (sec i)).1) (body ++ (getF (sec i)).1.2.2.2.2)
theorem gathN_err {lsn : Int} {sec : Nat → List UInt8} {m i : Nat} {q k : Int} {body : List UInt8} (h : takeE lsn i q k (sec i) ≠ 0) : gathN lsn sec (m + 1) i q k body = (i + 1, [], 0, takeE lsn i q k (sec i)) := by unfold gathN; rw [if_pos h]
theorem gathN_last {lsn : Int} {sec : Nat → List UInt8} {m i : Nat} {q k : Int} {body : List UInt8} (h : takeE lsn i q k (sec i) = 0) (h2 : ((i : Int) + 1) = kG i k (getF (sec i)).1) : gathN lsn sec (m + 1) i q k body = (i + 1, body ++ (getF (sec i)).1.2.2.2.2, (i : Int) + 1, 0) := by unfold gathN; rw [if_neg (by simp [h]), if_pos h2]
theorem gathN_next {lsn : Int} {sec : Nat → List UInt8} {m i : Nat} {q k : Int} {body : List UInt8} (h : takeE lsn i q k (sec i) = 0) (h2 : ¬ ((i : Int) + 1) = kG i k (getF (sec i)).1) :
    gathN lsn sec (m + 1) i q k body = gathN lsn sec m (i + 1) (qG i q (getF (sec i)).1) (kG i k (getF (sec i)).1) (body ++ (getF (sec i)).1.2.2.2.2) := by conv => lhs; unfold gathN; rw [if_neg (by simp [h]), if_neg h2]
theorem okV_frV {p q : Int} {l : List UInt8} {i : Nat} (hp : 0 ≤ p) (hpn : p + secN l ≤ 4611686018427387904) (hq : 0 ≤ q ∧ q ≤ 4294967295) (hl : l.length ≤ 2621400) (hi : i < secN l) : okV (frV p q l i) := by
  have hs : secN l ≤ 65535 := by unfold secN; split <;> omega
  refine ⟨⟨?_, ?_⟩, hq, ⟨?_, ?_⟩, ⟨?_, ?_⟩, ?_⟩
  · show 0 ≤ p + (i : Int); omega
  · show p + (i : Int) ≤ _; omega
  · show 1 ≤ (secN l : Int); omega
  · show (secN l : Int) ≤ _; omega
  · show 0 ≤ (i : Int); omega
  · show (i : Int) ≤ (secN l : Int) - 1; omega
  · show (bodyF l i).length ≤ 40; rw [part_length]; omega
theorem spread_length {p q : Int} {l : List UInt8} (hp : 0 ≤ p) (hpn : p + secN l ≤ 4611686018427387904) (hq : 0 ≤ q ∧ q ≤ 4294967295) (hl : l.length ≤ 2621400) : ∀ i, i ≤ secN l → (spreadN p q l i).length = 64 * i
  | 0, _ => rfl
  | i + 1, h => by
    rw [spreadN_succ, List.length_append, spread_length hp hpn hq hl i (by omega), secV_length (okV_frV hp hpn hq hl (by omega))]
    omega
/-- The sectors of what is spread. -/
theorem spread_sec {p q : Int} {l : List UInt8} (hp : 0 ≤ p) (hpn : p + secN l ≤ 4611686018427387904) (hq : 0 ≤ q ∧ q ≤ 4294967295) (hl : l.length ≤ 2621400) : ∀ m, m ≤ secN l → ∀ i, i < m → ((spreadN p q l m).drop (64 * i)).take 64 = secV (frV p q l i)
  | 0, _, i, hi => by omega
  | m + 1, hm, i, hi => by
    have hlen := spread_length hp hpn hq hl m (by omega)
    have h64 := secV_length (okV_frV hp hpn hq hl (show m < secN l by omega))
    rw [spreadN_succ]
    rcases Nat.lt_or_ge i m with h | h
    · rw [List.drop_append_of_le_length (by omega), List.take_append_of_le_length (by rw [List.length_drop]; omega)]
      exact spread_sec hp hpn hq hl m (by omega) i h
    · obtain rfl : i = m := by omega
      rw [List.drop_left' (by omega), List.take_of_length_le (by omega)]
theorem secN_body (l : List UInt8) : 40 * (secN l - 1) ≤ l.length ∧ l.length ≤ 40 * secN l ∧ 1 ≤ secN l ∧ (secN l ≠ 1 → 40 * (secN l - 1) < l.length) := by unfold secN; split <;> omega
/-- What is spread is gathered. -/
theorem gath_spread {p : Int} {q : Int} {l : List UInt8} {sec : Nat → List UInt8} (hp : 0 ≤ p) (hpn : p + secN l ≤ 4611686018427387904) (hq : 0 ≤ q ∧ q ≤ 4294967295) (hl : l.length ≤ 2621400) (hsec : ∀ i, i < secN l → sec i = secV (frV p q l i)) :
    ∀ (m i : Nat) (q1 k1 : Int), m + i = secN l → 0 < m → (i ≠ 0 → q1 = q ∧ k1 = secN l) → gathN p sec m i q1 k1 (l.take (40 * i)) = (secN l, l, (secN l : Int), 0)
  | 0, i, _, _, _, h, _ => by omega
  | m + 1, i, q1, k1, hmi, _, hqk => by
    have hi : i < secN l := by omega
    have hok := okV_frV hp hpn hq hl hi
    have hg : getF (sec i) = (frV p q l i, 0) := by rw [hsec i hi]; exact get_put hok
    have hq' : qG i q1 (frV p q l i) = q := by
      unfold qG; split
      · rfl
      · rename_i h; exact (hqk h).1
    have hk' : kG i k1 (frV p q l i) = secN l := by
      unfold kG; split
      · rfl
      · rename_i h; exact (hqk h).2
    obtain ⟨b1, b2, b3, b4⟩ := secN_body l
    have hpl := part_length l i
    have ht : takeE p i q1 k1 (sec i) = 0 := by
      refine takeE_ok (by rw [hg]) ?_
      rw [hg]
      show ¬ badG p i (qG i q1 (frV p q l i)) (kG i k1 (frV p q l i)) (frV p q l i)
      rw [hq', hk']
      unfold badG
      show ¬ (((i : Int) + 1 < (secN l : Int) ∧ ((bodyF l i).length : Int) < 40) ∨ (0 < (i : Int) ∧ ((bodyF l i).length : Int) = 0) ∨ p + (i : Int) ≠ p + (i : Int) ∨ (i : Int) ≠ (i : Int) ∨ q ≠ q ∨ (secN l : Int) ≠ (secN l : Int))
      rw [hpl]
      rintro (⟨h1, h2⟩ | ⟨h1, h2⟩ | h | h | h | h)
      · omega
      · have := b4 (by omega); omega
      · exact h rfl
      · exact h rfl
      · exact h rfl
      · exact h rfl
    have hbody : l.take (40 * i) ++ bodyF l i = l.take (40 * (i + 1)) := by rw [show 40 * (i + 1) = 40 * i + 40 by omega, List.take_add]; rfl
    by_cases hlast : i + 1 = secN l
    · rw [gathN_last ht (by rw [hg]; show (i : Int) + 1 = kG i k1 (frV p q l i); rw [hk']; omega), hg]
      show (i + 1, l.take (40 * i) ++ bodyF l i, (i : Int) + 1, (0 : Int)) = _
      rw [hbody, List.take_of_length_le (by omega), hlast, show (i : Int) + 1 = (secN l : Int) by omega]
    · rw [gathN_next ht (by rw [hg]; show ¬ (i : Int) + 1 = kG i k1 (frV p q l i); rw [hk']; omega), hg]
      show gathN p sec m (i + 1) (qG i q1 (frV p q l i)) (kG i k1 (frV p q l i)) (l.take (40 * i) ++ bodyF l i) = _
      rw [hbody, hq', hk']
      exact gath_spread hp hpn hq hl hsec m (i + 1) q (secN l) (by omega) (by omega) (fun _ => ⟨rfl, rfl⟩)
end Brv.Frame
namespace Brv.Frame
theorem part_eq (l : List UInt8) (i : Nat) : (l.drop (40 * i)).take (bodyF l i).length = bodyF l i := by
  unfold bodyF
  rw [List.length_take, List.take_eq_take_iff]
  omega
end Brv.Frame
namespace Brv.Frame
open Go Brv Brv.Crc Brv.Pack
theorem takeE_zero {lsn : Int} {at' : Nat} {q k : Int} {l : List UInt8} (h : takeE lsn at' q k l = 0) : (getF l).2 = 0 ∧ (getF l).1.2.2.2.2.length ≤ 40 := by
  by_cases h0 : (getF l).2 = 0
  · exact ⟨h0, (getF_ok h0).1.2.2.2.2⟩
  · rw [takeE_err h0] at h; exact absurd h h0
end Brv.Frame
namespace Brv.Frame
open Go Brv Brv.Crc Brv.Pack
/-- A sector laid over another one. -/
def overL (l : List UInt8) (o : Nat) (s : List UInt8) : List UInt8 := l.take o ++ s ++ l.drop (o + s.length)
theorem overL_length {l s : List UInt8} {o : Nat} (h : o + s.length ≤ l.length) : (overL l o s).length = l.length := by simp [overL]; omega
theorem over_sec {l s : List UInt8} {i j : Nat} (hs : s.length = 64) (h : 64 * i + 64 ≤ l.length) : ((overL l (64 * i) s).drop (64 * j)).take 64 = if j = i then s else (l.drop (64 * j)).take 64 := by
  refine List.ext_getElem? (fun n => ?_)
  rw [List.getElem?_take]
  by_cases hn : n < 64
  · rw [if_pos hn, List.getElem?_drop]
    have e : (overL l (64 * i) s)[64 * j + n]? = if 64 * j + n < 64 * i then l[64 * j + n]? else if 64 * j + n < 64 * i + 64 then s[64 * j + n - 64 * i]? else l[64 * j + n]? := by
      unfold overL
      rw [List.append_assoc]
      split
      · rename_i h1
        rw [List.getElem?_append_left (by rw [List.length_take]; omega), List.getElem?_take, if_pos h1]
      · rename_i h1
        rw [List.getElem?_append_right (by rw [List.length_take]; omega), List.length_take, Nat.min_eq_left (by omega)]
        split
        · rw [List.getElem?_append_left (by omega)]
        · rw [List.getElem?_append_right (by omega), List.getElem?_drop, hs]
          congr 1
          omega
    rw [e]
    by_cases hj : j = i
    · subst hj
      rw [if_neg (by omega), if_pos (by omega), if_pos rfl]
      congr 1
      omega
    · rw [if_neg hj, List.getElem?_take, if_pos hn, List.getElem?_drop]
      split
      · rfl
      · rw [if_neg (by omega)]
  · rw [if_neg hn]
    split
    · rw [List.getElem?_eq_none (by omega)]
    · rw [List.getElem?_take, if_neg hn]
/-- A sector of another epoch among them: they aren't gathered, unless it is the only one. -/
theorem gath_mixed {p q q' : Int} {l : List UInt8} {sec : Nat → List UInt8} {i : Nat} (hp : 0 ≤ p) (hpn : p + secN l ≤ 4611686018427387904) (hq : 0 ≤ q ∧ q ≤ 4294967295) (hq' : 0 ≤ q' ∧ q' ≤ 4294967295) (hne : q' ≠ q) (hl : l.length ≤ 2621400) (h2 : 2 ≤ secN l) (hi : i < secN l)
    (hsec : ∀ j, j < secN l → sec j = secV (frV p (if j = i then q' else q) l j)) :
    ∀ (m j : Nat) (q1 k1 : Int) (body : List UInt8), m + j = secN l → 0 < m → (j = 0 ∨ (j = 1 ∧ i = 0 ∧ q1 = q' ∧ k1 = secN l) ∨ (0 < j ∧ j ≤ i ∧ q1 = q ∧ k1 = secN l)) → (gathN p sec m j q1 k1 body).2.2.2 = 20
  | 0, j, _, _, _, _, h, _ => by omega
  | m + 1, j, q1, k1, body, hmj, _, hst => by
    have hj : j < secN l := by omega
    have hok : okV (frV p (if j = i then q' else q) l j) := by
      split
      · exact okV_frV hp hpn hq' hl hj
      · exact okV_frV hp hpn hq hl hj
    have hg : getF (sec j) = (frV p (if j = i then q' else q) l j, 0) := by rw [hsec j hj]; exact get_put hok
    by_cases hbad : badG p j (qG j q1 (getF (sec j)).1) (kG j k1 (getF (sec j)).1) (getF (sec j)).1
    · have ht := takeE_bad (lsn := p) (at' := j) (q := q1) (k := k1) (l := sec j) (by rw [hg]) hbad
      rw [gathN_err (by rw [ht]; decide), ht]
    · have ht := takeE_ok (lsn := p) (at' := j) (q := q1) (k := k1) (l := sec j) (by rw [hg]) hbad
      rw [hg] at hbad
      have hk1 : kG j k1 (frV p (if j = i then q' else q) l j) = (secN l : Int) := by
        unfold kG
        split
        · rfl
        · rename_i h0
          rcases hst with h | ⟨_, _, _, h⟩ | ⟨_, _, _, h⟩
          · exact absurd h h0
          · exact h
          · exact h
      have hqq : qG j q1 (frV p (if j = i then q' else q) l j) = (if j = i then q' else q) := by
        refine Classical.byContradiction fun h => hbad ?_
        refine .inr (.inr (.inr (.inr (.inl ?_))))
        exact fun e => h e.symm
      have hlt : ¬ ((j : Int) + 1) = kG j k1 (getF (sec j)).1 := by
        rw [hg]
        show ¬ ((j : Int) + 1) = kG j k1 (frV p (if j = i then q' else q) l j)
        rw [hk1]
        intro he
        rcases hst with h | ⟨h1, h3, h4, _⟩ | ⟨h1, h3, h4, _⟩
        · omega
        · have hz : j ≠ 0 := by omega
          unfold qG at hqq
          rw [if_neg hz, if_neg (by omega), h4] at hqq
          exact hne hqq
        · have hz : j ≠ 0 := by omega
          have hji : j = i := by omega
          unfold qG at hqq
          rw [if_neg hz, if_pos hji, h4] at hqq
          exact hne hqq.symm
      rw [gathN_next ht hlt, hg]
      show (gathN p sec m (j + 1) (qG j q1 (frV p (if j = i then q' else q) l j)) (kG j k1 (frV p (if j = i then q' else q) l j)) _).2.2.2 = 20
      rw [hk1, hqq]
      refine gath_mixed hp hpn hq hq' hne hl h2 hi hsec m (j + 1) _ _ _ (by omega) (by rw [hg] at hlt; have hh : ¬ ((j : Int) + 1) = kG j k1 (frV p (if j = i then q' else q) l j) := hlt; rw [hk1] at hh; omega) ?_
      rcases hst with h | ⟨h1, h3, h4, _⟩ | ⟨h1, h3, h4, _⟩
      · by_cases hi0 : i = 0
        · exact .inr (.inl ⟨by omega, hi0, if_pos (by omega), rfl⟩)
        · exact .inr (.inr ⟨by omega, by omega, if_neg (by omega), rfl⟩)
      · have hz : j ≠ 0 := by omega
        unfold qG at hqq
        rw [if_neg hz, if_neg (by omega), h4] at hqq
        exact absurd hqq hne
      · have hz : j ≠ 0 := by omega
        by_cases hji : j = i
        · unfold qG at hqq
          rw [if_neg hz, if_pos hji, h4] at hqq
          exact absurd hqq.symm hne
        · exact .inr (.inr ⟨by omega, by omega, if_neg hji, rfl⟩)
end Brv.Frame
/-
  The walks of package frame: Get.
-/
set_option linter.unusedVariables false
set_option linter.unusedSimpArgs false
namespace Go.Proofs.Ytiiiplhfgblamaa
open Go Brv Brv.Crc Brv.Pack Brv.Frame
def frC (f : FrV) (a : Option Addr) (c : Nat) : Array Value := #[.int .i64 f.1, .int .i64 f.2.1, .int .i64 f.2.2.1, .int .i64 f.2.2.2.1, .slice a f.2.2.2.2.length c]
structure InV (f : FrV) : Prop where
  p : -9223372036854775808 ≤ f.1 ∧ f.1 ≤ 9223372036854775807
  q : -9223372036854775808 ≤ f.2.1 ∧ f.2.1 ≤ 9223372036854775807
  i : -9223372036854775808 ≤ f.2.2.1 ∧ f.2.2.1 ≤ 9223372036854775807
  k : -9223372036854775808 ≤ f.2.2.2.1 ∧ f.2.2.2.1 ≤ 9223372036854775807
  l : f.2.2.2.2.length ≤ 140737488351232
theorem frC_one (f : FrV) (a : Option Addr) (c : Nat) : ∀ u ∈ (frC f a c).toList, u.oneCell' = true := by
  intro u hu
  simp only [frC, List.mem_cons, List.not_mem_nil, or_false] at hu
  rcases hu with rfl | rfl | rfl | rfl | rfl <;> rfl
theorem InV.of {f : FrV} (h : okV f) : InV f := by
  obtain ⟨⟨o1, o2⟩, ⟨o3, o4⟩, ⟨o5, o6⟩, ⟨o7, o8⟩, o9⟩ := h
  exact ⟨by omega, by omega, by omega, by omega, by omega⟩
theorem InV.parse (l : List UInt8) : InV (parse l).1 := by
  have h1 := numF_lt l 0 8
  have h2 := numF_lt (numF l 0 8).2.1 (numF l 0 8).2.2 4
  have h3 := numF_lt (numF (numF l 0 8).2.1 (numF l 0 8).2.2 4).2.1 (numF (numF l 0 8).2.1 (numF l 0 8).2.2 4).2.2 2
  have h4 := numF_lt (numF (numF (numF l 0 8).2.1 (numF l 0 8).2.2 4).2.1 (numF (numF l 0 8).2.1 (numF l 0 8).2.2 4).2.2 2).2.1 (numF (numF (numF l 0 8).2.1 (numF l 0 8).2.2 4).2.1 (numF (numF l 0 8).2.1 (numF l 0 8).2.2 4).2.2 2).2.2 2
  have h5 : (Frame.parse l).1.2.2.2.2.length ≤ 40 := txtF_most _ _
  exact ⟨⟨by show (-9223372036854775808 : Int) ≤ ((numF l 0 8).1 : Int); omega, by show ((numF l 0 8).1 : Int) ≤ _; omega⟩, ⟨by show (-9223372036854775808 : Int) ≤ ((numF _ _ 4).1 : Int); omega, by show ((numF (numF l 0 8).2.1 (numF l 0 8).2.2 4).1 : Int) ≤ _; omega⟩,
    ⟨by show (-9223372036854775808 : Int) ≤ ((numF _ _ 2).1 : Int); omega, by show ((numF (numF (numF l 0 8).2.1 (numF l 0 8).2.2 4).2.1 (numF (numF l 0 8).2.1 (numF l 0 8).2.2 4).2.2 2).1 : Int) ≤ _; omega⟩,
    ⟨by show (-9223372036854775808 : Int) ≤ ((numF _ _ 2).1 : Int); omega, by show ((numF (numF (numF (numF l 0 8).2.1 (numF l 0 8).2.2 4).2.1 (numF (numF l 0 8).2.1 (numF l 0 8).2.2 4).2.2 2).2.1 (numF (numF (numF l 0 8).2.1 (numF l 0 8).2.2 4).2.1 (numF (numF l 0 8).2.1 (numF l 0 8).2.2 4).2.2 2).2.2 2).1 : Int) ≤ _; omega⟩, Nat.le_trans h5 (by decide)⟩

theorem sameV_last {f g : FrV} (h1 : f.1 = g.1) (h2 : f.2.1 = g.2.1) (h3 : f.2.2.1 = g.2.2.1) (h4 : f.2.2.2.1 = g.2.2.2.1) : decide (f.2.2.2.2 = g.2.2.2.2) = decide (f = g) := by
  obtain ⟨f1, f2, f3, f4, f5⟩ := f
  obtain ⟨g1, g2, g3, g4, g5⟩ := g
  dsimp only at h1 h2 h3 h4
  subst h1; subst h2; subst h3; subst h4
  simp

end Go.Proofs.Ytiiiplhfgblamaa
/-
  The walks of package frame: Spread, Gather.
-/
set_option linter.unusedVariables false
set_option linter.unusedSimpArgs false
namespace Go.Proofs.Ytiiiplhfgblamaa
open Go Brv Brv.Crc Brv.Pack Brv.Frame
theorem fsecN_ok (l : List UInt8) (w : World) (hl : l.length ≤ 2621400) : Meets Try.prog 70 [.int .i64 (l.length : Int)] w (fun v w' => v = .int .i64 ((secN l : Nat) : Int) ∧ w' = w) := by
  refine Meets.enter Try.func70 rfl 20 rfl (Nat.le_of_ble_eq_true rfl) ?_
  have hs : secN l ≤ 65535 := by unfold secN; split <;> omega
  refine G.seq ?_
  refine G.region ?_
  refine L.val rfl rfl (R.as rfl) ?_
  refine L.nil ?_
  refine N.seq ?_
  refine G.seq ?_
  refine G.region ?_
  refine L.val rfl rfl (R.mv rfl) ?_
  refine L.val rfl rfl (R.add rfl rfl (by omega)) ?_
  refine L.val rfl rfl (R.sub' rfl rfl (by omega)) ?_
  refine L.val rfl rfl (R.quo rfl rfl (by omega) (by omega)) ?_
  refine L.val rfl rfl (R.max rfl rfl ((secN l : Nat) : Int) (by unfold secN; split <;> split <;> omega)) ?_
  refine L.val rfl rfl (R.as rfl) ?_
  refine L.nil ?_
  refine N.seq ?_
  refine G.seq ?_
  refine G.seq ?_
  refine G.region ?_
  refine L.val rfl rfl (R.mv rfl) ?_
  refine L.val rfl rfl (R.lss rfl rfl) ?_
  refine L.val rfl rfl (R.mv rfl) ?_
  refine L.caseP 11 rfl (fun hg2_2 => ?_) (fun hg2_2 => ?_)
  · refine L.pass rfl rfl ?_
    refine L.pass rfl rfl ?_
    first | refine L.val rfl rfl (R.pickT rfl rfl) ?_ | refine L.val rfl rfl (R.pickF rfl rfl) ?_
    refine L.val rfl rfl (R.mv rfl) ?_
    refine L.pass rfl rfl ?_
    refine L.pass rfl rfl ?_
    first | refine L.val rfl rfl (R.pickT rfl rfl) ?_ | refine L.val rfl rfl (R.pickF rfl rfl) ?_
    refine L.nil ?_
    refine N.seq ?_
    refine G.condT rfl ?_
    refine G.seq ?_
    refine G.region ?_
    refine L.val rfl rfl (R.as rfl) ?_
    refine L.nil ?_
    refine N.seq ?_
    refine G.ret1 rfl rfl ?_
    first
      | exact ⟨rfl, rfl⟩
      | (exfalso; omega)
  · refine L.val rfl rfl (R.mv rfl) ?_
    refine L.val rfl rfl (R.gtr rfl rfl) ?_
    first | refine L.val rfl rfl (R.pickT rfl rfl) ?_ | refine L.val rfl rfl (R.pickF rfl rfl) ?_
    refine L.val rfl rfl (R.mv rfl) ?_
    refine L.caseP 15 rfl (fun hg2_6 => ?_) (fun hg2_6 => ?_)
    · refine L.pass rfl rfl ?_
      refine L.pass rfl rfl ?_
      first | refine L.val rfl rfl (R.pickT rfl rfl) ?_ | refine L.val rfl rfl (R.pickF rfl rfl) ?_
      refine L.nil ?_
      refine N.seq ?_
      refine G.condT rfl ?_
      refine G.seq ?_
      refine G.region ?_
      refine L.val rfl rfl (R.as rfl) ?_
      refine L.nil ?_
      refine N.seq ?_
      refine G.ret1 rfl rfl ?_
      first
        | exact ⟨rfl, rfl⟩
        | (exfalso; omega)
    · refine L.val rfl rfl (R.mv rfl) ?_
      refine L.val rfl rfl (R.gtr rfl rfl) ?_
      first | refine L.val rfl rfl (R.pickT rfl rfl) ?_ | refine L.val rfl rfl (R.pickF rfl rfl) ?_
      refine L.nil ?_
      refine N.seq ?_
      refine G.condP rfl (fun h0 => ?_) (fun h0 => ?_)
      · refine G.seq ?_
        refine G.region ?_
        refine L.val rfl rfl (R.as rfl) ?_
        refine L.nil ?_
        refine N.seq ?_
        refine G.ret1 rfl rfl ?_
        first
          | exact ⟨rfl, rfl⟩
          | (exfalso; omega)
      · refine G.skip ?_
        refine N.seq ?_
        refine G.seq ?_
        refine G.region ?_
        refine L.val rfl rfl (R.mv rfl) ?_
        refine L.val rfl rfl (R.as rfl) ?_
        refine L.nil ?_
        refine N.seq ?_
        refine G.ret1 rfl rfl ?_
        first
          | exact ⟨rfl, rfl⟩
          | (exfalso; omega)

structure SpSt where
  i : Nat
  a1 : Option Addr
  c1 : Nat
  M : List Nat

end Go.Proofs.Ytiiiplhfgblamaa
/-
  The walks of package record.
-/
set_option linter.unusedVariables false
set_option linter.unusedSimpArgs false
set_option maxRecDepth 4000
namespace Go.Proofs.Ytiiiplhfgblamaa
open Go Brv Brv.Pack Brv.Frame
structure GtSt where
  i : Nat
  la : Option Addr
  ln : Nat
  lc : Nat
  ll : List UInt8
  os : List WriteV
  ra : Option Addr
  rc : Nat
  MB : List Nat
  CB : List Nat
theorem rowNil (w : World) : RowW.ok w ⟨none, 0, 0, []⟩ := ⟨⟨Nat.le_refl _, by decide⟩, ⟨fun j v hj => (by cases hj), rfl, (by intro x hx; cases hx)⟩, (by intro o ho; cases ho)⟩

theorem rget7_ok (a : Option Addr) (n c : Nat) (l : List UInt8) (w : World) (hb : Bs w a n l) (hnc : n ≤ c) (hn : n ≤ 2621400) : Meets Try.prog 17 [.slice a n c] w (fun v w' => (getR l = none → v = .tuple #[.agg #[.int .i64 0, .int .i64 0, .int .i64 0, .slice none 0 0], .int .i64 20]) ∧ (∀ h ws, getR l = some (h, ws) → ∃ r : RowW, v = .tuple #[.agg #[.int .i64 h.1, .int .i64 h.2.1, .int .i64 h.2.2, .slice r.a r.n r.c], .int .i64 0] ∧ r.ok w' ∧ r.os.map wv = ws) ∧ Ext [] w w') := by
  refine Meets.enter Try.func17 rfl 79 rfl (Nat.le_of_ble_eq_true rfl) ?_
  have E := Ext.refl [] w
  have hln := hb.len
  refine G.seq ?_
  refine G.region ?_
  refine L.do rfl rfl (R.alloc) ?_
  rintro _ w1 ⟨b2, rfl, hb2, hs2, e1, B2⟩
  replace B2 : Blk w1 b2 #[.int .i64 0, .int .i64 0, .int .i64 0, .slice none 0 0] 24 (0, 0) := B2
  replace E := E.trans0 e1
  refine L.val rfl rfl (R.as rfl) ?_
  refine L.nil ?_
  refine N.seq ?_
  refine G.seq ?_
  refine G.region ?_
  refine L.val rfl rfl (R.mv rfl) ?_
  refine L.callF rfl rfl rfl go60 (new_ok a n c l _ (hb.ext0 E) (by omega)) ?_
  rintro _ w2 ⟨s, D, rfl, S0, e2, hss, hD2, _, hDc⟩
  have hDl : ∀ d ∈ D, d < w2.heap.size := fun d hd => (hDc d hd).elim fun _ h => h.lt
  have hE1 := E.size
  have l2 := B2.lt
  replace E := E.trans0 e2
  replace B2 := B2.ext0 e2
  have hsl := S0.lt
  refine L.val rfl rfl (R.as rfl) ?_
  refine L.nil ?_
  refine N.seq ?_
  refine G.seq ?_
  refine G.region ?_
  refine L.val rfl rfl (R.mv rfl) ?_
  refine L.callF rfl rfl rfl go61 (scannum_ok _ _ _ _ 1 _ S0 (by omega)) ?_
  rintro _ w3 ⟨rfl, S1, e3⟩
  have hEs3 := E.size
  replace E := E.trans e3 (M := []) (by simp) (by intro x hx; rw [List.mem_singleton.1 hx]; exact .inr (by omega))
  replace B2 := B2.ext e3 (by simp; omega)
  have hsz3 := e3.size
  obtain ⟨x1, hx1⟩ : ∃ x, x = numF l 0 1 := ⟨_, rfl⟩
  rw [← hx1] at S1 ⊢
  have z1 : x1.2.1.length ≤ l.length := by rw [hx1]; exact Nat.le_trans (numF_length _ _ _) (Nat.le_refl _)
  replace S0 := S1
  clear S1
  refine L.val rfl rfl (R.build (cs := #[.int .i64 (x1.1 : Int), .int .i64 0, .int .i64 0, .slice none 0 0]) rfl rfl) ?_
  refine L.do rfl rfl (R.alloc) ?_
  rintro _ w4 ⟨b5, rfl, hb5, hs5, e4, B5⟩
  replace B5 : Blk w4 b5 #[.int .i64 0, .int .i64 0, .int .i64 0, .slice none 0 0] 24 (0, 0) := B5
  have hE3 := E.size
  replace E := E.trans0 e4
  replace B2 := B2.ext0 e4
  replace S0 := S0.ext0 e4
  refine L.set rfl (R.stN rfl rfl B5 rfl (Nat.le_refl 4) (by intro u hu; simp at hu; rcases hu with rfl | rfl | rfl | rfl <;> rfl)) ?_
  rintro w5 ⟨e5, hs5, B5⟩
  replace B5 : Blk w5 b5 #[.int .i64 (x1.1 : Int), .int .i64 0, .int .i64 0, .slice none 0 0] 24 (0, 0) := B5
  replace S0 := S0.ext e5 (by simp; omega) (fun d hd h => by have := hDl d hd; rw [List.mem_singleton.1 h] at this; omega)
  replace B2 := B2.ext e5 (by simp; omega)
  replace E := E.trans e5 (M := []) (by simp) (by intro x hx; rw [List.mem_singleton.1 hx]; exact .inr (by omega))
  refine L.nil ?_
  refine N.seq ?_
  refine G.seq ?_
  refine G.seq ?_
  refine G.region ?_
  refine L.val rfl rfl (R.fld rfl) ?_
  refine L.val rfl rfl (R.ldB (v := .int .i64 (x1.1 : Int)) rfl B5 rfl) ?_
  refine L.val rfl rfl (R.neI rfl rfl) ?_
  refine L.nil ?_
  refine N.seq ?_
  refine G.condP rfl (fun h0 => ?_) (fun h0 => ?_)
  · refine G.region ?_
    refine L.val rfl rfl (R.mv rfl) ?_
    refine L.callF rfl rfl rfl go61 (scannum_ok _ _ _ _ 4 _ S0 (by omega)) ?_
    rintro _ w6 ⟨rfl, S1, e6⟩
    have hEs6 := E.size
    replace E := E.trans e6 (M := []) (by simp) (by intro x hx; rw [List.mem_singleton.1 hx]; exact .inr (by omega))
    replace B2 := B2.ext e6 (by simp; omega)
    replace B5 := B5.ext e6 (by simp; omega)
    have hsz6 := e6.size
    obtain ⟨x2, hx2⟩ : ∃ x, x = numF x1.2.1 x1.2.2 4 := ⟨_, rfl⟩
    rw [← hx2] at S1 ⊢
    have z2 : x2.2.1.length ≤ l.length := by rw [hx2]; exact Nat.le_trans (numF_length _ _ _) z1
    replace S0 := S1
    clear S1
    refine L.val rfl rfl (R.mv rfl) ?_
    refine L.callF rfl rfl rfl go61 (scannum_ok _ _ _ _ 8 _ S0 (by omega)) ?_
    rintro _ w7 ⟨rfl, S1, e7⟩
    have hEs7 := E.size
    replace E := E.trans e7 (M := []) (by simp) (by intro x hx; rw [List.mem_singleton.1 hx]; exact .inr (by omega))
    replace B2 := B2.ext e7 (by simp; omega)
    replace B5 := B5.ext e7 (by simp; omega)
    have hsz7 := e7.size
    obtain ⟨x3, hx3⟩ : ∃ x, x = numF x2.2.1 x2.2.2 8 := ⟨_, rfl⟩
    rw [← hx3] at S1 ⊢
    have z3 : x3.2.1.length ≤ l.length := by rw [hx3]; exact Nat.le_trans (numF_length _ _ _) z2
    replace S0 := S1
    clear S1
    refine L.val rfl rfl (R.fld rfl) ?_
    refine L.set rfl (R.st rfl rfl B5 (by show 1 < 4; decide) rfl) ?_
    rintro w8 ⟨e8, hs8, B5⟩
    replace B5 : Blk w8 b5 #[.int .i64 (x1.1 : Int), .int .i64 (x2.1 : Int), .int .i64 0, .slice none 0 0] 24 (0, 0) := B5
    replace S0 := S0.ext e8 (by simp; omega) (fun d hd h => by have := hDl d hd; rw [List.mem_singleton.1 h] at this; omega)
    replace B2 := B2.ext e8 (by simp; omega)
    replace E := E.trans e8 (M := []) (by simp) (by intro x hx; rw [List.mem_singleton.1 hx]; exact .inr (by omega))
    refine L.val rfl rfl (R.fld rfl) ?_
    refine L.set rfl (R.st rfl rfl B5 (by show 2 < 4; decide) rfl) ?_
    rintro w9 ⟨e9, hs9, B5⟩
    replace B5 : Blk w9 b5 #[.int .i64 (x1.1 : Int), .int .i64 (x2.1 : Int), .int .i64 (x3.1 : Int), .slice none 0 0] 24 (0, 0) := B5
    replace S0 := S0.ext e9 (by simp; omega) (fun d hd h => by have := hDl d hd; rw [List.mem_singleton.1 h] at this; omega)
    replace B2 := B2.ext e9 (by simp; omega)
    replace E := E.trans e9 (M := []) (by simp) (by intro x hx; rw [List.mem_singleton.1 hx]; exact .inr (by omega))
    obtain ⟨kd, hkd⟩ : ∃ k : Int, k = (x1.1 : Int) := ⟨_, rfl⟩
    obtain ⟨tl, htl⟩ : ∃ k : Int, k = (x2.1 : Int) := ⟨_, rfl⟩
    obtain ⟨nu, hnu⟩ : ∃ k : Int, k = (x3.1 : Int) := ⟨_, rfl⟩
    obtain ⟨xr, hxr⟩ : ∃ y, y = x3.2.1 := ⟨_, rfl⟩
    obtain ⟨er, her⟩ : ∃ y, y = x3.2.2 := ⟨_, rfl⟩
    rw [← hxr, ← her] at S0
    rw [← hkd, ← htl, ← hnu] at B5
    have zr : xr.length ≤ l.length := by rw [hxr]; exact z3
    have hhd : hdN l = ((kd, tl, nu), xr, er) := by unfold hdN; rw [← hx1, if_neg h0, ← hx2, ← hx3, hkd, htl, hnu, hxr, her]
    refine L.nil ?_
    refine N.seq ?_
    refine G.seq ?_
    refine G.region ?_
    refine L.val rfl rfl (R.mv rfl) ?_
    refine L.val rfl rfl (R.mv rfl) ?_
    refine L.val rfl rfl (R.lenS rfl) ?_
    refine L.val rfl rfl (R.mv rfl) ?_
    refine L.callF rfl rfl rfl go62 (scanleft_ok _ _ _ _ _ S0 (by omega)) ?_
    rintro _ _ ⟨rfl, hw⟩
    obtain rfl := hw.symm
    refine L.val rfl rfl (R.sub' rfl rfl (by omega)) ?_
    refine L.val rfl rfl (R.slL rfl rfl (by omega) (by omega)) ?_
    refine L.be 31 rfl (show _ = Value.slice (subA a (n - xr.length) c 1) xr.length (c - (n - xr.length)) by rw [show ((n : Int) - (xr.length : Nat)).toNat = n - xr.length by omega, show n - (n - xr.length) = xr.length by omega]) ?_
    have hbl := hb.sub (n - xr.length) c xr.length (by omega) (by omega)
    rw [List.take_of_length_le (by rw [List.length_drop]; omega)] at hbl
    have hdl : (l.drop (n - xr.length)).length = xr.length := by rw [List.length_drop]; omega
    refine L.val rfl rfl (R.as rfl) ?_
    refine L.nil ?_
    refine N.seq ?_
    refine G.seq ?_
    refine G.seq ?_
    refine G.region ?_
    refine L.val rfl rfl (R.fld rfl) ?_
    refine L.val rfl rfl (R.ldB (v := .int .i64 kd) rfl B5 rfl) ?_
    refine L.val rfl rfl (R.eqI rfl rfl) ?_
    refine L.nil ?_
    refine N.seq ?_
    refine G.condP rfl (fun h1 => ?_) (fun h1 => ?_)
    · refine G.seq ?_
      refine G.region ?_
      refine L.val rfl rfl (R.mv rfl) ?_
      refine L.callF rfl rfl rfl go61 (scannum_ok _ _ _ _ 2 _ S0 (by omega)) ?_
      rintro _ w10 ⟨rfl, S1, e10⟩
      have hEs10 := E.size
      replace E := E.trans e10 (M := []) (by simp) (by intro x hx; rw [List.mem_singleton.1 hx]; exact .inr (by omega))
      replace B2 := B2.ext e10 (by simp; omega)
      replace B5 := B5.ext e10 (by simp; omega)
      have hsz10 := e10.size
      obtain ⟨x4, hx4⟩ : ∃ x, x = numF xr er 2 := ⟨_, rfl⟩
      rw [← hx4] at S1 ⊢
      have z4 : x4.2.1.length ≤ l.length := by rw [hx4]; exact Nat.le_trans (numF_length _ _ _) zr
      replace S0 := S1
      clear S1
      refine L.val rfl rfl (R.as rfl) ?_
      refine L.nil ?_
      refine N.seq ?_
      refine G.seq ?_
      refine G.region ?_
      refine L.val rfl rfl (R.mv rfl) ?_
      refine L.val rfl rfl (R.mv rfl) ?_
      refine L.val rfl rfl (R.lenS rfl) ?_
      refine L.val rfl rfl (R.mv rfl) ?_
      refine L.callF rfl rfl rfl go62 (scanleft_ok _ _ _ _ _ S0 (by omega)) ?_
      rintro _ _ ⟨rfl, hw⟩
      obtain rfl := hw.symm
      refine L.val rfl rfl (R.sub' rfl rfl (by omega)) ?_
      refine L.val rfl rfl (R.slL rfl rfl (by omega) (by omega)) ?_
      refine L.be 43 rfl (show _ = Value.slice (subA a (n - x4.2.1.length) c 1) x4.2.1.length (c - (n - x4.2.1.length)) by rw [show ((n : Int) - (x4.2.1.length : Nat)).toNat = n - x4.2.1.length by omega, show n - (n - x4.2.1.length) = x4.2.1.length by omega]) ?_
      have hb4 := hb.sub (n - x4.2.1.length) c x4.2.1.length (by omega) (by omega)
      rw [List.take_of_length_le (by rw [List.length_drop]; omega)] at hb4
      have hp0 : getR l = (match partsF x4.1 (l.drop (l.length - x4.2.1.length)) with | none => none | some (ws, q) => endR (kd, tl, nu) ws q x4.2.2) := by unfold getR; rw [hhd, if_pos h1]; simp only [← hx4]; try rfl
      rw [← hln] at hp0
      have hb5n : b5 ≠ b2 := by omega
      have hDb5 : b5 ∉ D := fun h => by have := hDl _ h; omega
      have hwb5 : w.heap.size ≤ b5 := by omega
      have hlb5 := B5.lt
      have hlb2 := B2.lt
      have hls := S0.lt
      have hsb5 : s ≠ b5 := by omega
      have hxb := numF_lt xr er 2
      rw [← hx4] at hxb
      refine L.val rfl rfl (R.as rfl) ?_
      refine L.nil ?_
      refine N.seq ?_
      refine G.seq ?_
      refine G.region ?_
      refine L.val rfl rfl (R.mv rfl) ?_
      refine L.val rfl rfl (R.mv rfl) ?_
      refine L.nil ?_
      refine N.seq ?_
      refine G.block ?_
      refine G.loop (X := GtSt) (fun st => [(2, .pointer (some ⟨b2, 0, none⟩)), (4, .pointer (some ⟨s, 0, none⟩)), (5, .pointer (some ⟨b5, 0, none⟩)), (6, .slice st.la st.ln st.lc), (44, .int .i64 (x4.1 : Int)), (45, .int .i64 (st.i : Int))]) (fun st w' => st.i ≤ x4.1 ∧ Bs w st.la st.ln st.ll ∧ st.ln ≤ st.lc ∧ 66 * st.os.length + st.ln ≤ n ∧ partsF x4.1 (l.drop (n - x4.2.1.length)) = (partsF (x4.1 - st.i) st.ll).map (fun p => (st.os.map wv ++ p.1, p.2)) ∧ Blk w' b2 #[.int .i64 0, .int .i64 0, .int .i64 0, .slice none 0 0] 24 (0, 0) ∧ Blk w' b5 #[.int .i64 kd, .int .i64 tl, .int .i64 nu, .slice st.ra st.os.length st.rc] 24 (0, 0) ∧ Own w' 40 2 st.ra st.os.length st.rc (cellsW st.os) st.MB ∧ OkF w' st.CB st.os ∧ (∀ g ∈ st.MB ++ st.CB, w.heap.size ≤ g ∧ g < w'.heap.size ∧ g ≠ b2 ∧ g ≠ b5 ∧ g ≠ s ∧ g ∉ D) ∧ (∀ g ∈ st.MB, g ∉ st.CB) ∧ ScanAt 156 w' s D x4.2.1 x4.2.2 ∧ (∀ d ∈ D, d < w'.heap.size) ∧ Ext [] w w') (fun st => x4.1 - st.i) (⟨0, subA a (n - x4.2.1.length) c 1, x4.2.1.length, c - (n - x4.2.1.length), l.drop (n - x4.2.1.length), [], none, 0, [], []⟩) (Sub.cons rfl (Sub.cons rfl (Sub.cons rfl (Sub.cons rfl (Sub.cons rfl (Sub.cons rfl (Sub.nil _))))))) ⟨Nat.zero_le _, hb4, by show x4.2.1.length ≤ c - (n - x4.2.1.length); omega, by show 66 * 0 + x4.2.1.length ≤ n; omega, (by simp), B2, B5, Own.nil _ _ _, (fun _ _ _ _ o ho => by cases ho), (by simp), (by simp), S0, (fun d hd => by have := hDl d hd; omega), E⟩ ?_
      rintro ⟨i, la, ln, lc, ll, os, ra, rc, MB, CB⟩ w11 ⟨hi, hbl, hlc, h66, hpart, B2, B5, o, hok, hMC, hdj, S0, hDl, E⟩
      dsimp only at hi hbl hlc h66 hpart B5 o hok hMC hdj
      refine G.sub [(2, .pointer (some ⟨b2, 0, none⟩)), (4, .pointer (some ⟨s, 0, none⟩)), (5, .pointer (some ⟨b5, 0, none⟩)), (6, .slice la ln lc), (44, .int .i64 (x4.1 : Int)), (45, .int .i64 (i : Int))] (Sub.cons rfl (Sub.cons rfl (Sub.cons rfl (Sub.cons rfl (Sub.cons rfl (Sub.cons rfl (Sub.nil _))))))) ?_
      have hlln := hbl.len
      have hlb5 := B5.lt
      have hlb2 := B2.lt
      have hls := S0.lt
      have hlo := o.lt
      refine G.seq ?_
      refine G.region ?_
      refine L.val rfl rfl (R.lss rfl rfl) ?_
      refine L.nil ?_
      refine N.seq ?_
      refine G.seq ?_
      refine G.condP rfl (fun h2 => ?_) (fun h2 => ?_)
      · refine G.skip ?_
        refine N.seq ?_
        refine G.seq ?_
        refine G.block ?_
        refine G.seq ?_
        by_cases hp9 : 66 ≤ ll.length ∧ ll[0]? = some 0
        · refine G.region ?_
          refine L.val rfl rfl (R.mv rfl) ?_
          refine L.callF rfl rfl rfl go63 (part_ok la ln lc ll _ (hbl.ext0 E) hlc (by omega)) ?_
          rintro v w12 ⟨_, hy9, e12⟩
          obtain ⟨o9, MC, rfl, hw9, oc9, hn9, hMC9⟩ := hy9 hp9
          have hlc9 := oc9.lt
          have hE11 := E.size
          have hsz12 := e12.size
          replace E := E.trans0 e12
          replace B2 := B2.ext0 e12
          replace B5 := B5.ext0 e12
          replace o := o.ext0 e12
          replace S0 := S0.ext0 e12
          replace hok := hok.ext e12 (by simp)
          refine L.val rfl rfl (R.mv rfl) ?_
          refine L.val rfl rfl (R.ext rfl rfl) ?_
          refine L.val rfl rfl (R.ext rfl rfl) ?_
          refine L.val rfl rfl (R.ext rfl rfl) ?_
          refine L.do rfl rfl (R.alloc) ?_
          rintro _ w13 ⟨b8, rfl, hb8, hs8, e13, B8⟩
          have hE8 := E.size
          have hlw8 := e13.size
          replace E := E.trans0 e13
          replace B2 := B2.ext0 e13
          replace B5 := B5.ext0 e13
          replace o := o.ext0 e13
          replace S0 := S0.ext0 e13
          replace hok := hok.ext e13 (by simp)
          replace oc9 := oc9.ext0 e13
          refine L.set rfl (R.stN rfl rfl B8 rfl (Nat.le_refl 2) (WriteV.cells.one o9)) ?_
          rintro w14 ⟨e14, hs14, B8⟩
          replace B8 : Blk w14 b8 o9.cells.toArray 40 (0, 0) := B8
          replace E := E.trans e14 (M := []) (by simp) (by intro x hx; rw [List.mem_singleton.1 hx]; exact .inr (by omega))
          have h8 : ∀ g, g < b8 → g ∉ [b8] := fun g hg h => by rw [List.mem_singleton.1 h] at hg; omega
          replace B2 := B2.ext e14 (h8 _ (by omega))
          replace B5 := B5.ext e14 (h8 _ (by omega))
          replace S0 := S0.ext e14 (h8 _ (by omega)) (fun d hd => h8 _ (by have := hDl d hd; omega))
          replace o := o.ext e14 (fun g hg => h8 _ (by have := hlo g hg; omega))
          replace hok := hok.ext e14 (fun g hg hc => h8 _ (by have := (hMC g (List.mem_append_right _ hc)).2.1; omega) hg)
          replace oc9 := oc9.ext e14 (fun g hg => h8 _ (by have := hlc9 g hg; omega))
          refine L.val rfl rfl (R.as rfl) ?_
          refine L.val rfl rfl (R.as rfl) ?_
          refine L.nil ?_
          refine N.seq ?_
          refine G.seq ?_
          refine G.seq ?_
          refine G.region ?_
          refine L.val rfl rfl (R.mv rfl) ?_
          refine L.val rfl rfl (R.not rfl) ?_
          refine L.nil ?_
          refine N.seq ?_
          refine G.condF rfl ?_
          refine G.skip ?_
          refine N.seq ?_
          refine G.region ?_
          refine L.val rfl rfl (R.fld rfl) ?_
          refine L.val rfl rfl (R.ldB (v := .slice ra os.length rc) rfl B5 rfl) ?_
          refine L.val rfl rfl (R.ldBN rfl B8 rfl) ?_
          refine L.do rfl rfl (R.buildA rfl rfl rfl rfl rfl) ?_
          rintro _ w15 ⟨b59, rfl, hb59, hs59, e15, B59⟩
          have hE14 := E.size
          replace E := E.trans0 e15
          replace oc9 := oc9.ext0 e15
          have hsz15 := e15.size
          have hsz14 := e14.size
          replace B2 := B2.ext0 e15
          replace B5 := B5.ext0 e15
          replace o := o.ext0 e15
          replace S0 := S0.ext0 e15
          replace hok := hok.ext e15 (by simp)
          refine L.do rfl rfl (R.app rfl rfl o (show Cells w15 (some ⟨b59, 0, none⟩) (WriteV.cells o9) from Cells.of_blk B59 0 _ (fun j u hj => by simpa [cellsOf, Value.cells] using hj)) rfl (fun u hu => WriteV.cells.one o9 u (by simpa using hu)) (by simp [maxLen]; omega) (by omega)) ?_
          rintro _ w16 ⟨a3, c3, M3, rfl, e16, hM3, o3⟩
          have hE15 := E.size
          have hsz16 := e16.size
          refine L.val rfl rfl (R.mv rfl) ?_
          refine L.val rfl rfl (R.fld rfl) ?_
          refine L.set rfl (R.st rfl rfl (B5.ext e16 (fun h => (hMC _ (List.mem_append_left _ h)).2.2.2.1 rfl)) (by show 3 < 4; decide) rfl) ?_
          rintro w17 ⟨e17, hs17, B5⟩
          replace B5 : Blk w17 b5 #[.int .i64 kd, .int .i64 tl, .int .i64 nu, .slice a3 (os.length + 1) c3] 24 (0, 0) := B5
          have hML : ∀ g ∈ MB, w.heap.size ≤ g ∧ g < w11.heap.size ∧ g ≠ b2 ∧ g ≠ b5 ∧ g ≠ s ∧ g ∉ D := fun g hg => hMC g (List.mem_append_left _ hg)
          have hb5M : b5 ∉ M3 := fun h => (hM3 _ h).elim (fun h => (hML _ h).2.2.2.1 rfl) (fun h => by omega)
          replace o3 := o3.ext e17 (fun g hg h => hb5M (by rw [← List.mem_singleton.1 h]; exact hg))
          replace B2 := (B2.ext e16 (fun h => (hML _ h).2.2.1 rfl)).ext e17 (fun h => hb5n (List.mem_singleton.1 h).symm)
          replace S0 := (S0.ext e16 (fun h => (hML _ h).2.2.2.2.1 rfl) (fun d hd h => (hML _ h).2.2.2.2.2 hd)).ext e17 (fun h => hsb5 (List.mem_singleton.1 h)) (fun d hd h => hDb5 (by rw [← List.mem_singleton.1 h]; exact hd))
          replace oc9 := (oc9.ext e16 (fun g hg h => by have := hlo g h; have := hMC9 g hg; omega)).ext e17 (fun g hg h => by rw [List.mem_singleton.1 h] at hg; have := hMC9 _ hg; omega)
          replace hok := (hok.ext e16 (fun g hg hc => hdj g hg hc)).ext e17 (fun g hg hc => by rw [List.mem_singleton.1 hg] at hc; exact (hMC _ (List.mem_append_right _ hc)).2.2.2.1 rfl)
          have hob : o9.B' = (ll.drop 2).take 64 := congrArg Prod.snd hw9
          rw [← hob] at oc9
          have hol9 : o9.B'.length = 64 := by rw [hob, List.length_take, List.length_drop]; omega
          have hokn := ClV.okF (s := 0) (z := o9) ⟨rfl, oc9, hn9.trans hol9.symm, fun _ _ => Nat.zero_le _⟩ (by omega)
          have hok2 : OkF w17 (CB ++ MC) (os ++ [o9]) := fun M9 w9 e9 hm9 x hx => (List.mem_append.1 hx).elim (hok M9 w9 e9 (fun g hg hc => hm9 g hg (List.mem_append_left _ hc)) x) (hokn M9 w9 e9 (fun g hg hc => hm9 g hg (List.mem_append_right _ hc)) x)
          have hlo3 := o3.lt
          have hlm := oc9.lt
          have hsz17 := e17.size
          have hMCn : ∀ g ∈ M3 ++ (CB ++ MC), w.heap.size ≤ g ∧ g < w17.heap.size ∧ g ≠ b2 ∧ g ≠ b5 ∧ g ≠ s ∧ g ∉ D := by
            intro g hg
            have new : w11.heap.size ≤ g → g < w17.heap.size → w.heap.size ≤ g ∧ g < w17.heap.size ∧ g ≠ b2 ∧ g ≠ b5 ∧ g ≠ s ∧ g ∉ D := fun h1 h2 => ⟨by omega, h2, by omega, by omega, by omega, fun h => by have := hDl _ h; omega⟩
            rcases List.mem_append.1 hg with h | h
            · exact (hM3 g h).elim (fun h9 => ⟨(hML g h9).1, hlo3 g h, (hML g h9).2.2⟩) (fun h9 => new (by omega) (hlo3 g h))
            · rcases List.mem_append.1 h with h | h
              · have h9 := hMC g (List.mem_append_right _ h); exact ⟨h9.1, by omega, h9.2.2⟩
              · exact new (hMC9 g h) (hlm g h)
          have hdjn : ∀ g ∈ M3, g ∉ CB ++ MC := by
            intro g hg hc
            rcases List.mem_append.1 hc with hc | hc
            · exact (hM3 g hg).elim (fun h9 => hdj g h9 hc) (fun h9 => by have := (hMC g (List.mem_append_right _ hc)).2.1; omega)
            · exact (hM3 g hg).elim (fun h9 => by have := hlo g h9; have := hMC9 g hc; omega) (fun h9 => by have := hlc9 g hc; omega)
          replace E := (E.trans e16 (M := []) (by simp) (fun g hg => .inr (hML g hg).1)).trans e17 (M := []) (by simp) (fun g hg => .inr (by rw [List.mem_singleton.1 hg]; exact hwb5))
          refine L.val rfl rfl (R.as rfl) ?_
          refine L.nil ?_
          refine N.block ?_
          refine N.seq ?_
          refine G.region ?_
          refine L.val rfl rfl (R.add rfl rfl (by omega)) ?_
          refine L.val rfl rfl (R.mv rfl) ?_
          refine L.nil ?_
          exact N.again (X := GtSt) ⟨i + 1, subA la 66 lc 1, ln - 66, lc - 66, ll.drop 66, os ++ [o9], a3, c3, M3, CB ++ MC⟩ (by show x4.1 - (i + 1) < x4.1 - i; omega) (Sub.cons rfl (Sub.cons rfl (Sub.cons rfl (Sub.cons rfl (Sub.cons rfl (Sub.cons rfl (Sub.nil _))))))) ⟨by show i + 1 ≤ x4.1; omega, by have h9 := hbl.sub 66 lc (ln - 66) (by omega) (by omega); rwa [List.take_of_length_le (by rw [List.length_drop]; omega)] at h9, by show ln - 66 ≤ lc - 66; omega, by show 66 * (os ++ [o9]).length + (ln - 66) ≤ n; rw [List.length_append, List.length_singleton]; omega, by show partsF x4.1 (l.drop (n - x4.2.1.length)) = (partsF (x4.1 - (i + 1)) (ll.drop 66)).map (fun p => ((os ++ [o9]).map wv ++ p.1, p.2)); rw [hpart, show x4.1 - i = (x4.1 - (i + 1)) + 1 by omega, partsF_yes hp9, Option.map_map]; congr 1; funext p; simp [hw9], B2, by show Blk _ b5 #[.int .i64 kd, .int .i64 tl, .int .i64 nu, .slice a3 (os ++ [o9]).length c3] _ _; rw [List.length_append]; exact B5, by show Own _ _ 2 a3 (os ++ [o9]).length c3 (cellsW (os ++ [o9])) M3; rw [List.length_append, cellsW_append, show cellsW [o9] = o9.cells from List.append_nil _]; exact o3, hok2, hMCn, hdjn, S0, fun d hd => by have := hDl d hd; omega, E⟩
        · refine G.region ?_
          refine L.val rfl rfl (R.mv rfl) ?_
          refine L.callF rfl rfl rfl go63 (part_ok la ln lc ll _ (hbl.ext0 E) hlc (by omega)) ?_
          rintro v w12 ⟨hn9, _, e12⟩
          obtain rfl := hn9 (by rcases Nat.lt_or_ge ll.length 66 with h9 | h9; exact .inl h9; exact .inr (fun h8 => hp9 ⟨h9, h8⟩))
          have hsz12 := e12.size
          replace E := E.trans0 e12
          replace B2 := B2.ext0 e12
          replace B5 := B5.ext0 e12
          replace o := o.ext0 e12
          replace S0 := S0.ext0 e12
          replace hok := hok.ext e12 (by simp)
          refine L.val rfl rfl (R.mv rfl) ?_
          refine L.val rfl rfl (R.ext rfl rfl) ?_
          refine L.val rfl rfl (R.ext rfl rfl) ?_
          refine L.val rfl rfl (R.ext rfl rfl) ?_
          refine L.do rfl rfl (R.alloc) ?_
          rintro _ w13 ⟨b8, rfl, hb8, hs8, e13, B8⟩
          have hE8 := E.size
          have hlw8 := e13.size
          replace E := E.trans0 e13
          replace B2 := B2.ext0 e13
          replace B5 := B5.ext0 e13
          replace o := o.ext0 e13
          replace S0 := S0.ext0 e13
          replace hok := hok.ext e13 (by simp)
          refine L.set rfl (R.stN rfl rfl B8 rfl (Nat.le_refl 2) (by intro u hu; simp at hu; rcases hu with rfl | rfl <;> rfl)) ?_
          rintro w14 ⟨e14, hs14, B8⟩
          replace B8 : Blk w14 b8 #[.int .i64 0, .slice none 0 0] 40 (0, 0) := B8
          replace E := E.trans e14 (M := []) (by simp) (by intro x hx; rw [List.mem_singleton.1 hx]; exact .inr (by omega))
          have h8 : ∀ g, g < b8 → g ∉ [b8] := fun g hg h => by rw [List.mem_singleton.1 h] at hg; omega
          replace B2 := B2.ext e14 (h8 _ (by omega))
          replace B5 := B5.ext e14 (h8 _ (by omega))
          replace S0 := S0.ext e14 (h8 _ (by omega)) (fun d hd => h8 _ (by have := hDl d hd; omega))
          replace o := o.ext e14 (fun g hg => h8 _ (by have := hlo g hg; omega))
          replace hok := hok.ext e14 (fun g hg hc => h8 _ (by have := (hMC g (List.mem_append_right _ hc)).2.1; omega) hg)
          refine L.val rfl rfl (R.as rfl) ?_
          refine L.val rfl rfl (R.as rfl) ?_
          refine L.nil ?_
          refine N.seq ?_
          refine G.seq ?_
          refine G.seq ?_
          refine G.region ?_
          refine L.val rfl rfl (R.mv rfl) ?_
          refine L.val rfl rfl (R.not rfl) ?_
          refine L.nil ?_
          refine N.seq ?_
          refine G.condT rfl ?_
          refine G.seq ?_
          refine G.region ?_
          refine L.val rfl rfl (R.build (cs := #[.int .i64 0, .int .i64 0, .int .i64 0, .slice none 0 0]) rfl rfl) ?_
          refine L.set rfl (R.stN rfl rfl B2 rfl (Nat.le_refl 4) (by intro u hu; simp at hu; rcases hu with rfl | rfl | rfl | rfl <;> rfl)) ?_
          rintro w40 ⟨e40, hs40, B2⟩
          replace B2 : Blk w40 b2 #[.int .i64 0, .int .i64 0, .int .i64 0, .slice none 0 0] 24 (0, 0) := B2
          replace E := E.trans e40 (M := []) (by simp) (by intro x hx; rw [List.mem_singleton.1 hx]; exact .inr (by omega))
          have hpn : partsF x4.1 (l.drop (n - x4.2.1.length)) = none := by rw [hpart, show x4.1 - i = (x4.1 - i - 1) + 1 by omega, partsF_no hp9]; rfl
          have hn9 : getR l = none := by rw [hp0, hpn]
          refine L.val rfl rfl (R.as rfl) ?_
          refine L.nil ?_
          refine N.seq ?_
          refine G.retCT rfl rfl rfl (B2) rfl ?_
          first
            | exact ⟨fun _ => rfl, fun h ws hq => (by rw [hn9] at hq; cases hq), E⟩
            | (have hn9 : getR l = none := by rw [hget]; unfold endR; exact if_neg hno
               exact ⟨fun _ => rfl, fun h ws hq => (by rw [hn9] at hq; cases hq), E⟩)
            | (have hs9 : getR l = some ((kd, tl, nu), rr.os.map wv) := by rw [hget]; unfold endR; exact if_pos hyes
               exact ⟨fun hq => (by rw [hs9] at hq; cases hq), fun h ws hq => by rw [hs9] at hq; cases hq; exact ⟨rr, rfl, hrok, rfl⟩, E⟩)
      · have hix : i = x4.1 := by omega
        rw [hix, Nat.sub_self] at hpart
        obtain ⟨rr, hrr⟩ : ∃ r : RowW, r = ⟨ra, os.length, rc, os⟩ := ⟨_, rfl⟩
        have hrok : rr.ok w11 := by subst hrr; exact ⟨⟨o.le, by show os.length ≤ _; omega⟩, tabW o.cells rfl, fun x hx => hok [] _ (Ext.refl _ _) (by simp) x hx⟩
        obtain ⟨e9, he9⟩ : ∃ y, y = x4.2.2 := ⟨_, rfl⟩
        have hget : getR l = endR (kd, tl, nu) (rr.os.map wv) ll e9 := by rw [hp0, hpart]; subst hrr; simp [partsF, he9]
        rw [← he9] at S0
        replace B5 : Blk w11 b5 #[.int .i64 kd, .int .i64 tl, .int .i64 nu, .slice rr.a rr.n rr.c] 24 (0, 0) := by subst hrr; exact B5
        refine G.exit _ rfl ?_
        refine N.seq ?_
        refine G.seq ?_
        refine G.seq ?_
        refine G.region ?_
        refine L.val rfl rfl (R.mv rfl) ?_
        refine L.callF rfl rfl rfl go64 (scanerr_ok _ _ _ _ _ S0 (by omega)) ?_
        rintro _ _ ⟨rfl, hw⟩
        obtain rfl := hw.symm
        refine L.val rfl rfl (R.neI rfl rfl) ?_
        refine L.val rfl rfl (R.mv rfl) ?_
        refine L.caseP 67 rfl (fun hg16_3 => ?_) (fun hg16_3 => ?_)
        · have hno : ¬ (e9 = 0 ∧ ll.length = 0 ∧ okR kd tl nu (rr.os.map wv)) := fun h => hg16_3 h.1
          refine L.pass rfl rfl ?_
          refine L.pass rfl rfl ?_
          refine L.pass rfl rfl ?_
          first | refine L.val rfl rfl (R.pickT rfl rfl) ?_ | refine L.val rfl rfl (R.pickF rfl rfl) ?_
          refine L.val rfl rfl (R.mv rfl) ?_
          refine L.pass rfl rfl ?_
          refine L.pass rfl rfl ?_
          refine L.pass rfl rfl ?_
          first | refine L.val rfl rfl (R.pickT rfl rfl) ?_ | refine L.val rfl rfl (R.pickF rfl rfl) ?_
          refine L.nil ?_
          refine N.seq ?_
          refine G.condT rfl ?_
          refine G.seq ?_
          refine G.region ?_
          refine L.val rfl rfl (R.build (cs := #[.int .i64 0, .int .i64 0, .int .i64 0, .slice none 0 0]) rfl rfl) ?_
          refine L.set rfl (R.stN rfl rfl B2 rfl (Nat.le_refl 4) (by intro u hu; simp at hu; rcases hu with rfl | rfl | rfl | rfl <;> rfl)) ?_
          rintro w40 ⟨e40, hs40, B2⟩
          replace B2 : Blk w40 b2 #[.int .i64 0, .int .i64 0, .int .i64 0, .slice none 0 0] 24 (0, 0) := B2
          replace E := E.trans e40 (M := []) (by simp) (by intro x hx; rw [List.mem_singleton.1 hx]; exact .inr (by omega))
          refine L.val rfl rfl (R.as rfl) ?_
          refine L.nil ?_
          refine N.seq ?_
          refine G.retCT rfl rfl rfl (B2) rfl ?_
          first
            | exact ⟨fun _ => rfl, fun h ws hq => (by rw [hn9] at hq; cases hq), E⟩
            | (have hn9 : getR l = none := by rw [hget]; unfold endR; exact if_neg hno
               exact ⟨fun _ => rfl, fun h ws hq => (by rw [hn9] at hq; cases hq), E⟩)
            | (have hs9 : getR l = some ((kd, tl, nu), rr.os.map wv) := by rw [hget]; unfold endR; exact if_pos hyes
               exact ⟨fun hq => (by rw [hs9] at hq; cases hq), fun h ws hq => by rw [hs9] at hq; cases hq; exact ⟨rr, rfl, hrok, rfl⟩, E⟩)
        · refine L.val rfl rfl (R.mv rfl) ?_
          refine L.val rfl rfl (R.lenS rfl) ?_
          refine L.val rfl rfl (R.gtr rfl rfl) ?_
          first | refine L.val rfl rfl (R.pickT rfl rfl) ?_ | refine L.val rfl rfl (R.pickF rfl rfl) ?_
          refine L.val rfl rfl (R.mv rfl) ?_
          refine L.caseP 72 rfl (fun hg16_8 => ?_) (fun hg16_8 => ?_)
          · have hno : ¬ (e9 = 0 ∧ ll.length = 0 ∧ okR kd tl nu (rr.os.map wv)) := fun h => by have := h.2.1; omega
            refine L.pass rfl rfl ?_
            refine L.pass rfl rfl ?_
            refine L.pass rfl rfl ?_
            first | refine L.val rfl rfl (R.pickT rfl rfl) ?_ | refine L.val rfl rfl (R.pickF rfl rfl) ?_
            refine L.nil ?_
            refine N.seq ?_
            refine G.condT rfl ?_
            refine G.seq ?_
            refine G.region ?_
            refine L.val rfl rfl (R.build (cs := #[.int .i64 0, .int .i64 0, .int .i64 0, .slice none 0 0]) rfl rfl) ?_
            refine L.set rfl (R.stN rfl rfl B2 rfl (Nat.le_refl 4) (by intro u hu; simp at hu; rcases hu with rfl | rfl | rfl | rfl <;> rfl)) ?_
            rintro w40 ⟨e40, hs40, B2⟩
            replace B2 : Blk w40 b2 #[.int .i64 0, .int .i64 0, .int .i64 0, .slice none 0 0] 24 (0, 0) := B2
            replace E := E.trans e40 (M := []) (by simp) (by intro x hx; rw [List.mem_singleton.1 hx]; exact .inr (by omega))
            refine L.val rfl rfl (R.as rfl) ?_
            refine L.nil ?_
            refine N.seq ?_
            refine G.retCT rfl rfl rfl (B2) rfl ?_
            first
              | exact ⟨fun _ => rfl, fun h ws hq => (by rw [hn9] at hq; cases hq), E⟩
              | (have hn9 : getR l = none := by rw [hget]; unfold endR; exact if_neg hno
                 exact ⟨fun _ => rfl, fun h ws hq => (by rw [hn9] at hq; cases hq), E⟩)
              | (have hs9 : getR l = some ((kd, tl, nu), rr.os.map wv) := by rw [hget]; unfold endR; exact if_pos hyes
                 exact ⟨fun hq => (by rw [hs9] at hq; cases hq), fun h ws hq => by rw [hs9] at hq; cases hq; exact ⟨rr, rfl, hrok, rfl⟩, E⟩)
          · refine L.val rfl rfl (R.ldBN (cs := #[.int .i64 kd, .int .i64 tl, .int .i64 nu, .slice rr.a rr.n rr.c]) rfl B5 rfl) ?_
            refine L.callF rfl rfl rfl go19 (rright_ok kd tl nu rr _ hrok) ?_
            rintro _ w30 ⟨bR, rfl, hbR, e30⟩
            replace E := E.trans0 e30
            replace B5 := B5.ext0 e30
            replace B2 := B2.ext0 e30
            replace hrok := hrok.ext0 e30
            replace o := o.ext0 e30
            replace hok := hok.ext e30 (by simp)
            refine L.val rfl rfl (R.not rfl) ?_
            first | refine L.val rfl rfl (R.pickT rfl rfl) ?_ | refine L.val rfl rfl (R.pickF rfl rfl) ?_
            refine L.nil ?_
            refine N.seq ?_
            refine G.condB rfl (fun h4 => ?_) (fun h4 => ?_)
            · have hno : ¬ (e9 = 0 ∧ ll.length = 0 ∧ okR kd tl nu (rr.os.map wv)) := fun h => by have := hbR.2 h.2.2; rw [this] at h4; cases h4
              refine G.seq ?_
              refine G.region ?_
              refine L.val rfl rfl (R.build (cs := #[.int .i64 0, .int .i64 0, .int .i64 0, .slice none 0 0]) rfl rfl) ?_
              refine L.set rfl (R.stN rfl rfl B2 rfl (Nat.le_refl 4) (by intro u hu; simp at hu; rcases hu with rfl | rfl | rfl | rfl <;> rfl)) ?_
              rintro w40 ⟨e40, hs40, B2⟩
              replace B2 : Blk w40 b2 #[.int .i64 0, .int .i64 0, .int .i64 0, .slice none 0 0] 24 (0, 0) := B2
              replace E := E.trans e40 (M := []) (by simp) (by intro x hx; rw [List.mem_singleton.1 hx]; exact .inr (by omega))
              refine L.val rfl rfl (R.as rfl) ?_
              refine L.nil ?_
              refine N.seq ?_
              refine G.retCT rfl rfl rfl (B2) rfl ?_
              first
                | exact ⟨fun _ => rfl, fun h ws hq => (by rw [hn9] at hq; cases hq), E⟩
                | (have hn9 : getR l = none := by rw [hget]; unfold endR; exact if_neg hno
                   exact ⟨fun _ => rfl, fun h ws hq => (by rw [hn9] at hq; cases hq), E⟩)
                | (have hs9 : getR l = some ((kd, tl, nu), rr.os.map wv) := by rw [hget]; unfold endR; exact if_pos hyes
                   exact ⟨fun hq => (by rw [hs9] at hq; cases hq), fun h ws hq => by rw [hs9] at hq; cases hq; exact ⟨rr, rfl, hrok, rfl⟩, E⟩)
            · have hyes : e9 = 0 ∧ ll.length = 0 ∧ okR kd tl nu (rr.os.map wv) := ⟨Classical.not_not.1 hg16_3, by omega, hbR.1 (by simpa using h4)⟩
              have hrf : ∀ M : List Nat, True := fun _ => trivial
              have hrr0 := hrr
              refine G.skip ?_
              refine N.seq ?_
              refine G.seq ?_
              refine G.region ?_
              refine L.val rfl rfl (R.ldBN (cs := #[.int .i64 kd, .int .i64 tl, .int .i64 nu, .slice rr.a rr.n rr.c]) rfl B5 rfl) ?_
              refine L.set rfl (R.stN rfl rfl B2 rfl (Nat.le_refl 4) (by intro u hu; simp at hu; rcases hu with rfl | rfl | rfl | rfl <;> rfl)) ?_
              rintro w40 ⟨e40, hs40, B2⟩
              replace B2 : Blk w40 b2 #[.int .i64 kd, .int .i64 tl, .int .i64 nu, .slice rr.a rr.n rr.c] 24 (0, 0) := B2
              replace E := E.trans e40 (M := []) (by simp) (by intro x hx; rw [List.mem_singleton.1 hx]; exact .inr (by omega))
              replace hrok : rr.ok w40 := by subst hrr; exact ⟨⟨o.le, by show os.length ≤ _; omega⟩, tabW (o.ext e40 (fun g hg h => (hMC _ (List.mem_append_left _ hg)).2.2.1 (List.mem_singleton.1 h))).cells rfl, fun x hx => hok [b2] w40 e40 (fun g hg hc => (hMC _ (List.mem_append_right _ hc)).2.2.1 (List.mem_singleton.1 hg)) x hx⟩
              refine L.val rfl rfl (R.as rfl) ?_
              refine L.nil ?_
              refine N.seq ?_
              refine G.retCT rfl rfl rfl (B2) rfl ?_
              first
                | exact ⟨fun _ => rfl, fun h ws hq => (by rw [hn9] at hq; cases hq), E⟩
                | (have hn9 : getR l = none := by rw [hget]; unfold endR; exact if_neg hno
                   exact ⟨fun _ => rfl, fun h ws hq => (by rw [hn9] at hq; cases hq), E⟩)
                | (have hs9 : getR l = some ((kd, tl, nu), rr.os.map wv) := by rw [hget]; unfold endR; exact if_pos hyes
                   exact ⟨fun hq => (by rw [hs9] at hq; cases hq), fun h ws hq => by rw [hs9] at hq; cases hq; exact ⟨rr, rfl, hrok, rfl⟩, E⟩)
    · have hb5n : b5 ≠ b2 := by omega
      obtain ⟨rr, hrr⟩ : ∃ r : RowW, r = ⟨none, 0, 0, []⟩ := ⟨_, rfl⟩
      have hrok : rr.ok w := by subst hrr; exact rowNil _
      have hrm : rr.os.map wv = [] := by subst hrr; rfl
      obtain ⟨e9, he9⟩ : ∃ y, y = er := ⟨_, rfl⟩
      obtain ⟨ll, hll⟩ : ∃ y, y = l.drop (l.length - xr.length) := ⟨_, rfl⟩
      have hl9 : ll.length = xr.length := by rw [hll, ← hln]; exact hdl
      have hget : getR l = endR (kd, tl, nu) (rr.os.map wv) ll e9 := by unfold getR; rw [hhd, if_neg h1, hrm, he9, hll]
      rw [← he9] at S0
      replace B5 : Blk w9 b5 #[.int .i64 kd, .int .i64 tl, .int .i64 nu, .slice rr.a rr.n rr.c] 24 (0, 0) := by subst hrr; exact B5
      replace hrok := hrok.ext0 E
      have hlb2 := B2.lt
      refine G.skip ?_
      refine N.seq ?_
      refine G.seq ?_
      refine G.seq ?_
      refine G.region ?_
      refine L.val rfl rfl (R.mv rfl) ?_
      refine L.callF rfl rfl rfl go64 (scanerr_ok _ _ _ _ _ S0 (by omega)) ?_
      rintro _ _ ⟨rfl, hw⟩
      obtain rfl := hw.symm
      refine L.val rfl rfl (R.neI rfl rfl) ?_
      refine L.val rfl rfl (R.mv rfl) ?_
      refine L.caseP 67 rfl (fun hg16_3 => ?_) (fun hg16_3 => ?_)
      · have hno : ¬ (e9 = 0 ∧ ll.length = 0 ∧ okR kd tl nu (rr.os.map wv)) := fun h => hg16_3 h.1
        refine L.pass rfl rfl ?_
        refine L.pass rfl rfl ?_
        refine L.pass rfl rfl ?_
        first | refine L.val rfl rfl (R.pickT rfl rfl) ?_ | refine L.val rfl rfl (R.pickF rfl rfl) ?_
        refine L.val rfl rfl (R.mv rfl) ?_
        refine L.pass rfl rfl ?_
        refine L.pass rfl rfl ?_
        refine L.pass rfl rfl ?_
        first | refine L.val rfl rfl (R.pickT rfl rfl) ?_ | refine L.val rfl rfl (R.pickF rfl rfl) ?_
        refine L.nil ?_
        refine N.seq ?_
        refine G.condT rfl ?_
        refine G.seq ?_
        refine G.region ?_
        refine L.val rfl rfl (R.build (cs := #[.int .i64 0, .int .i64 0, .int .i64 0, .slice none 0 0]) rfl rfl) ?_
        refine L.set rfl (R.stN rfl rfl B2 rfl (Nat.le_refl 4) (by intro u hu; simp at hu; rcases hu with rfl | rfl | rfl | rfl <;> rfl)) ?_
        rintro w40 ⟨e40, hs40, B2⟩
        replace B2 : Blk w40 b2 #[.int .i64 0, .int .i64 0, .int .i64 0, .slice none 0 0] 24 (0, 0) := B2
        replace E := E.trans e40 (M := []) (by simp) (by intro x hx; rw [List.mem_singleton.1 hx]; exact .inr (by omega))
        refine L.val rfl rfl (R.as rfl) ?_
        refine L.nil ?_
        refine N.seq ?_
        refine G.retCT rfl rfl rfl (B2) rfl ?_
        first
          | exact ⟨fun _ => rfl, fun h ws hq => (by rw [hn9] at hq; cases hq), E⟩
          | (have hn9 : getR l = none := by rw [hget]; unfold endR; exact if_neg hno
             exact ⟨fun _ => rfl, fun h ws hq => (by rw [hn9] at hq; cases hq), E⟩)
          | (have hs9 : getR l = some ((kd, tl, nu), rr.os.map wv) := by rw [hget]; unfold endR; exact if_pos hyes
             exact ⟨fun hq => (by rw [hs9] at hq; cases hq), fun h ws hq => by rw [hs9] at hq; cases hq; exact ⟨rr, rfl, hrok, rfl⟩, E⟩)
      · refine L.val rfl rfl (R.mv rfl) ?_
        refine L.val rfl rfl (R.lenS rfl) ?_
        refine L.val rfl rfl (R.gtr rfl rfl) ?_
        first | refine L.val rfl rfl (R.pickT rfl rfl) ?_ | refine L.val rfl rfl (R.pickF rfl rfl) ?_
        refine L.val rfl rfl (R.mv rfl) ?_
        refine L.caseP 72 rfl (fun hg16_8 => ?_) (fun hg16_8 => ?_)
        · have hno : ¬ (e9 = 0 ∧ ll.length = 0 ∧ okR kd tl nu (rr.os.map wv)) := fun h => by have := h.2.1; omega
          refine L.pass rfl rfl ?_
          refine L.pass rfl rfl ?_
          refine L.pass rfl rfl ?_
          first | refine L.val rfl rfl (R.pickT rfl rfl) ?_ | refine L.val rfl rfl (R.pickF rfl rfl) ?_
          refine L.nil ?_
          refine N.seq ?_
          refine G.condT rfl ?_
          refine G.seq ?_
          refine G.region ?_
          refine L.val rfl rfl (R.build (cs := #[.int .i64 0, .int .i64 0, .int .i64 0, .slice none 0 0]) rfl rfl) ?_
          refine L.set rfl (R.stN rfl rfl B2 rfl (Nat.le_refl 4) (by intro u hu; simp at hu; rcases hu with rfl | rfl | rfl | rfl <;> rfl)) ?_
          rintro w40 ⟨e40, hs40, B2⟩
          replace B2 : Blk w40 b2 #[.int .i64 0, .int .i64 0, .int .i64 0, .slice none 0 0] 24 (0, 0) := B2
          replace E := E.trans e40 (M := []) (by simp) (by intro x hx; rw [List.mem_singleton.1 hx]; exact .inr (by omega))
          refine L.val rfl rfl (R.as rfl) ?_
          refine L.nil ?_
          refine N.seq ?_
          refine G.retCT rfl rfl rfl (B2) rfl ?_
          first
            | exact ⟨fun _ => rfl, fun h ws hq => (by rw [hn9] at hq; cases hq), E⟩
            | (have hn9 : getR l = none := by rw [hget]; unfold endR; exact if_neg hno
               exact ⟨fun _ => rfl, fun h ws hq => (by rw [hn9] at hq; cases hq), E⟩)
            | (have hs9 : getR l = some ((kd, tl, nu), rr.os.map wv) := by rw [hget]; unfold endR; exact if_pos hyes
               exact ⟨fun hq => (by rw [hs9] at hq; cases hq), fun h ws hq => by rw [hs9] at hq; cases hq; exact ⟨rr, rfl, hrok, rfl⟩, E⟩)
        · refine L.val rfl rfl (R.ldBN (cs := #[.int .i64 kd, .int .i64 tl, .int .i64 nu, .slice rr.a rr.n rr.c]) rfl B5 rfl) ?_
          refine L.callF rfl rfl rfl go19 (rright_ok kd tl nu rr _ hrok) ?_
          rintro _ w30 ⟨bR, rfl, hbR, e30⟩
          replace E := E.trans0 e30
          replace B5 := B5.ext0 e30
          replace B2 := B2.ext0 e30
          replace hrok := hrok.ext0 e30
          refine L.val rfl rfl (R.not rfl) ?_
          first | refine L.val rfl rfl (R.pickT rfl rfl) ?_ | refine L.val rfl rfl (R.pickF rfl rfl) ?_
          refine L.nil ?_
          refine N.seq ?_
          refine G.condB rfl (fun h4 => ?_) (fun h4 => ?_)
          · have hno : ¬ (e9 = 0 ∧ ll.length = 0 ∧ okR kd tl nu (rr.os.map wv)) := fun h => by have := hbR.2 h.2.2; rw [this] at h4; cases h4
            refine G.seq ?_
            refine G.region ?_
            refine L.val rfl rfl (R.build (cs := #[.int .i64 0, .int .i64 0, .int .i64 0, .slice none 0 0]) rfl rfl) ?_
            refine L.set rfl (R.stN rfl rfl B2 rfl (Nat.le_refl 4) (by intro u hu; simp at hu; rcases hu with rfl | rfl | rfl | rfl <;> rfl)) ?_
            rintro w40 ⟨e40, hs40, B2⟩
            replace B2 : Blk w40 b2 #[.int .i64 0, .int .i64 0, .int .i64 0, .slice none 0 0] 24 (0, 0) := B2
            replace E := E.trans e40 (M := []) (by simp) (by intro x hx; rw [List.mem_singleton.1 hx]; exact .inr (by omega))
            refine L.val rfl rfl (R.as rfl) ?_
            refine L.nil ?_
            refine N.seq ?_
            refine G.retCT rfl rfl rfl (B2) rfl ?_
            first
              | exact ⟨fun _ => rfl, fun h ws hq => (by rw [hn9] at hq; cases hq), E⟩
              | (have hn9 : getR l = none := by rw [hget]; unfold endR; exact if_neg hno
                 exact ⟨fun _ => rfl, fun h ws hq => (by rw [hn9] at hq; cases hq), E⟩)
              | (have hs9 : getR l = some ((kd, tl, nu), rr.os.map wv) := by rw [hget]; unfold endR; exact if_pos hyes
                 exact ⟨fun hq => (by rw [hs9] at hq; cases hq), fun h ws hq => by rw [hs9] at hq; cases hq; exact ⟨rr, rfl, hrok, rfl⟩, E⟩)
          · have hyes : e9 = 0 ∧ ll.length = 0 ∧ okR kd tl nu (rr.os.map wv) := ⟨Classical.not_not.1 hg16_3, by omega, hbR.1 (by simpa using h4)⟩
            have hrf : ∀ M : List Nat, True := fun _ => trivial
            have hrr0 := hrr
            refine G.skip ?_
            refine N.seq ?_
            refine G.seq ?_
            refine G.region ?_
            refine L.val rfl rfl (R.ldBN (cs := #[.int .i64 kd, .int .i64 tl, .int .i64 nu, .slice rr.a rr.n rr.c]) rfl B5 rfl) ?_
            refine L.set rfl (R.stN rfl rfl B2 rfl (Nat.le_refl 4) (by intro u hu; simp at hu; rcases hu with rfl | rfl | rfl | rfl <;> rfl)) ?_
            rintro w40 ⟨e40, hs40, B2⟩
            replace B2 : Blk w40 b2 #[.int .i64 kd, .int .i64 tl, .int .i64 nu, .slice rr.a rr.n rr.c] 24 (0, 0) := B2
            replace E := E.trans e40 (M := []) (by simp) (by intro x hx; rw [List.mem_singleton.1 hx]; exact .inr (by omega))
            replace hrok : rr.ok w40 := by subst hrr; exact rowNil _
            refine L.val rfl rfl (R.as rfl) ?_
            refine L.nil ?_
            refine N.seq ?_
            refine G.retCT rfl rfl rfl (B2) rfl ?_
            first
              | exact ⟨fun _ => rfl, fun h ws hq => (by rw [hn9] at hq; cases hq), E⟩
              | (have hn9 : getR l = none := by rw [hget]; unfold endR; exact if_neg hno
                 exact ⟨fun _ => rfl, fun h ws hq => (by rw [hn9] at hq; cases hq), E⟩)
              | (have hs9 : getR l = some ((kd, tl, nu), rr.os.map wv) := by rw [hget]; unfold endR; exact if_pos hyes
                 exact ⟨fun hq => (by rw [hs9] at hq; cases hq), fun h ws hq => by rw [hs9] at hq; cases hq; exact ⟨rr, rfl, hrok, rfl⟩, E⟩)
  · obtain ⟨kd, hkd⟩ : ∃ k : Int, k = (x1.1 : Int) := ⟨_, rfl⟩
    obtain ⟨tl, htl⟩ : ∃ k : Int, k = 0 := ⟨_, rfl⟩
    obtain ⟨nu, hnu⟩ : ∃ k : Int, k = 0 := ⟨_, rfl⟩
    obtain ⟨xr, hxr⟩ : ∃ y, y = x1.2.1 := ⟨_, rfl⟩
    obtain ⟨er, her⟩ : ∃ y, y = x1.2.2 := ⟨_, rfl⟩
    rw [← hxr, ← her] at S0
    rw [← hkd] at B5
    have zr : xr.length ≤ l.length := by rw [hxr]; exact z1
    have hhd : hdN l = ((kd, tl, nu), xr, er) := by unfold hdN; rw [← hx1, if_pos (Classical.not_not.1 h0), hkd, htl, hnu, hxr, her]
    have hk2 : kd = 2 := by omega
    have B5b : Blk w5 b5 #[.int .i64 kd, .int .i64 tl, .int .i64 nu, .slice none 0 0] 24 (0, 0) := by rw [htl, hnu]; exact B5
    replace B5 := B5b
    refine G.skip ?_
    refine N.seq ?_
    refine G.seq ?_
    refine G.region ?_
    refine L.val rfl rfl (R.mv rfl) ?_
    refine L.val rfl rfl (R.mv rfl) ?_
    refine L.val rfl rfl (R.lenS rfl) ?_
    refine L.val rfl rfl (R.mv rfl) ?_
    refine L.callF rfl rfl rfl go62 (scanleft_ok _ _ _ _ _ S0 (by omega)) ?_
    rintro _ _ ⟨rfl, hw⟩
    obtain rfl := hw.symm
    refine L.val rfl rfl (R.sub' rfl rfl (by omega)) ?_
    refine L.val rfl rfl (R.slL rfl rfl (by omega) (by omega)) ?_
    refine L.be 31 rfl (show _ = Value.slice (subA a (n - xr.length) c 1) xr.length (c - (n - xr.length)) by rw [show ((n : Int) - (xr.length : Nat)).toNat = n - xr.length by omega, show n - (n - xr.length) = xr.length by omega]) ?_
    have hbl := hb.sub (n - xr.length) c xr.length (by omega) (by omega)
    rw [List.take_of_length_le (by rw [List.length_drop]; omega)] at hbl
    have hdl : (l.drop (n - xr.length)).length = xr.length := by rw [List.length_drop]; omega
    refine L.val rfl rfl (R.as rfl) ?_
    refine L.nil ?_
    refine N.seq ?_
    refine G.seq ?_
    refine G.seq ?_
    refine G.region ?_
    refine L.val rfl rfl (R.fld rfl) ?_
    refine L.val rfl rfl (R.ldB (v := .int .i64 kd) rfl B5 rfl) ?_
    refine L.val rfl rfl (R.eqI rfl rfl) ?_
    refine L.nil ?_
    refine N.seq ?_
    refine G.condP rfl (fun h1 => ?_) (fun h1 => ?_)
    · exfalso; omega
    · have hb5n : b5 ≠ b2 := by omega
      obtain ⟨rr, hrr⟩ : ∃ r : RowW, r = ⟨none, 0, 0, []⟩ := ⟨_, rfl⟩
      have hrok : rr.ok w := by subst hrr; exact rowNil _
      have hrm : rr.os.map wv = [] := by subst hrr; rfl
      obtain ⟨e9, he9⟩ : ∃ y, y = er := ⟨_, rfl⟩
      obtain ⟨ll, hll⟩ : ∃ y, y = l.drop (l.length - xr.length) := ⟨_, rfl⟩
      have hl9 : ll.length = xr.length := by rw [hll, ← hln]; exact hdl
      have hget : getR l = endR (kd, tl, nu) (rr.os.map wv) ll e9 := by unfold getR; rw [hhd, if_neg h1, hrm, he9, hll]
      rw [← he9] at S0
      replace B5 : Blk w5 b5 #[.int .i64 kd, .int .i64 tl, .int .i64 nu, .slice rr.a rr.n rr.c] 24 (0, 0) := by subst hrr; exact B5
      replace hrok := hrok.ext0 E
      have hlb2 := B2.lt
      refine G.skip ?_
      refine N.seq ?_
      refine G.seq ?_
      refine G.seq ?_
      refine G.region ?_
      refine L.val rfl rfl (R.mv rfl) ?_
      refine L.callF rfl rfl rfl go64 (scanerr_ok _ _ _ _ _ S0 (by omega)) ?_
      rintro _ _ ⟨rfl, hw⟩
      obtain rfl := hw.symm
      refine L.val rfl rfl (R.neI rfl rfl) ?_
      refine L.val rfl rfl (R.mv rfl) ?_
      refine L.caseP 67 rfl (fun hg16_3 => ?_) (fun hg16_3 => ?_)
      · have hno : ¬ (e9 = 0 ∧ ll.length = 0 ∧ okR kd tl nu (rr.os.map wv)) := fun h => hg16_3 h.1
        refine L.pass rfl rfl ?_
        refine L.pass rfl rfl ?_
        refine L.pass rfl rfl ?_
        first | refine L.val rfl rfl (R.pickT rfl rfl) ?_ | refine L.val rfl rfl (R.pickF rfl rfl) ?_
        refine L.val rfl rfl (R.mv rfl) ?_
        refine L.pass rfl rfl ?_
        refine L.pass rfl rfl ?_
        refine L.pass rfl rfl ?_
        first | refine L.val rfl rfl (R.pickT rfl rfl) ?_ | refine L.val rfl rfl (R.pickF rfl rfl) ?_
        refine L.nil ?_
        refine N.seq ?_
        refine G.condT rfl ?_
        refine G.seq ?_
        refine G.region ?_
        refine L.val rfl rfl (R.build (cs := #[.int .i64 0, .int .i64 0, .int .i64 0, .slice none 0 0]) rfl rfl) ?_
        refine L.set rfl (R.stN rfl rfl B2 rfl (Nat.le_refl 4) (by intro u hu; simp at hu; rcases hu with rfl | rfl | rfl | rfl <;> rfl)) ?_
        rintro w40 ⟨e40, hs40, B2⟩
        replace B2 : Blk w40 b2 #[.int .i64 0, .int .i64 0, .int .i64 0, .slice none 0 0] 24 (0, 0) := B2
        replace E := E.trans e40 (M := []) (by simp) (by intro x hx; rw [List.mem_singleton.1 hx]; exact .inr (by omega))
        refine L.val rfl rfl (R.as rfl) ?_
        refine L.nil ?_
        refine N.seq ?_
        refine G.retCT rfl rfl rfl (B2) rfl ?_
        first
          | exact ⟨fun _ => rfl, fun h ws hq => (by rw [hn9] at hq; cases hq), E⟩
          | (have hn9 : getR l = none := by rw [hget]; unfold endR; exact if_neg hno
             exact ⟨fun _ => rfl, fun h ws hq => (by rw [hn9] at hq; cases hq), E⟩)
          | (have hs9 : getR l = some ((kd, tl, nu), rr.os.map wv) := by rw [hget]; unfold endR; exact if_pos hyes
             exact ⟨fun hq => (by rw [hs9] at hq; cases hq), fun h ws hq => by rw [hs9] at hq; cases hq; exact ⟨rr, rfl, hrok, rfl⟩, E⟩)
      · refine L.val rfl rfl (R.mv rfl) ?_
        refine L.val rfl rfl (R.lenS rfl) ?_
        refine L.val rfl rfl (R.gtr rfl rfl) ?_
        first | refine L.val rfl rfl (R.pickT rfl rfl) ?_ | refine L.val rfl rfl (R.pickF rfl rfl) ?_
        refine L.val rfl rfl (R.mv rfl) ?_
        refine L.caseP 72 rfl (fun hg16_8 => ?_) (fun hg16_8 => ?_)
        · have hno : ¬ (e9 = 0 ∧ ll.length = 0 ∧ okR kd tl nu (rr.os.map wv)) := fun h => by have := h.2.1; omega
          refine L.pass rfl rfl ?_
          refine L.pass rfl rfl ?_
          refine L.pass rfl rfl ?_
          first | refine L.val rfl rfl (R.pickT rfl rfl) ?_ | refine L.val rfl rfl (R.pickF rfl rfl) ?_
          refine L.nil ?_
          refine N.seq ?_
          refine G.condT rfl ?_
          refine G.seq ?_
          refine G.region ?_
          refine L.val rfl rfl (R.build (cs := #[.int .i64 0, .int .i64 0, .int .i64 0, .slice none 0 0]) rfl rfl) ?_
          refine L.set rfl (R.stN rfl rfl B2 rfl (Nat.le_refl 4) (by intro u hu; simp at hu; rcases hu with rfl | rfl | rfl | rfl <;> rfl)) ?_
          rintro w40 ⟨e40, hs40, B2⟩
          replace B2 : Blk w40 b2 #[.int .i64 0, .int .i64 0, .int .i64 0, .slice none 0 0] 24 (0, 0) := B2
          replace E := E.trans e40 (M := []) (by simp) (by intro x hx; rw [List.mem_singleton.1 hx]; exact .inr (by omega))
          refine L.val rfl rfl (R.as rfl) ?_
          refine L.nil ?_
          refine N.seq ?_
          refine G.retCT rfl rfl rfl (B2) rfl ?_
          first
            | exact ⟨fun _ => rfl, fun h ws hq => (by rw [hn9] at hq; cases hq), E⟩
            | (have hn9 : getR l = none := by rw [hget]; unfold endR; exact if_neg hno
               exact ⟨fun _ => rfl, fun h ws hq => (by rw [hn9] at hq; cases hq), E⟩)
            | (have hs9 : getR l = some ((kd, tl, nu), rr.os.map wv) := by rw [hget]; unfold endR; exact if_pos hyes
               exact ⟨fun hq => (by rw [hs9] at hq; cases hq), fun h ws hq => by rw [hs9] at hq; cases hq; exact ⟨rr, rfl, hrok, rfl⟩, E⟩)
        · refine L.val rfl rfl (R.ldBN (cs := #[.int .i64 kd, .int .i64 tl, .int .i64 nu, .slice rr.a rr.n rr.c]) rfl B5 rfl) ?_
          refine L.callF rfl rfl rfl go19 (rright_ok kd tl nu rr _ hrok) ?_
          rintro _ w30 ⟨bR, rfl, hbR, e30⟩
          replace E := E.trans0 e30
          replace B5 := B5.ext0 e30
          replace B2 := B2.ext0 e30
          replace hrok := hrok.ext0 e30
          refine L.val rfl rfl (R.not rfl) ?_
          first | refine L.val rfl rfl (R.pickT rfl rfl) ?_ | refine L.val rfl rfl (R.pickF rfl rfl) ?_
          refine L.nil ?_
          refine N.seq ?_
          refine G.condB rfl (fun h4 => ?_) (fun h4 => ?_)
          · have hno : ¬ (e9 = 0 ∧ ll.length = 0 ∧ okR kd tl nu (rr.os.map wv)) := fun h => by have := hbR.2 h.2.2; rw [this] at h4; cases h4
            refine G.seq ?_
            refine G.region ?_
            refine L.val rfl rfl (R.build (cs := #[.int .i64 0, .int .i64 0, .int .i64 0, .slice none 0 0]) rfl rfl) ?_
            refine L.set rfl (R.stN rfl rfl B2 rfl (Nat.le_refl 4) (by intro u hu; simp at hu; rcases hu with rfl | rfl | rfl | rfl <;> rfl)) ?_
            rintro w40 ⟨e40, hs40, B2⟩
            replace B2 : Blk w40 b2 #[.int .i64 0, .int .i64 0, .int .i64 0, .slice none 0 0] 24 (0, 0) := B2
            replace E := E.trans e40 (M := []) (by simp) (by intro x hx; rw [List.mem_singleton.1 hx]; exact .inr (by omega))
            refine L.val rfl rfl (R.as rfl) ?_
            refine L.nil ?_
            refine N.seq ?_
            refine G.retCT rfl rfl rfl (B2) rfl ?_
            first
              | exact ⟨fun _ => rfl, fun h ws hq => (by rw [hn9] at hq; cases hq), E⟩
              | (have hn9 : getR l = none := by rw [hget]; unfold endR; exact if_neg hno
                 exact ⟨fun _ => rfl, fun h ws hq => (by rw [hn9] at hq; cases hq), E⟩)
              | (have hs9 : getR l = some ((kd, tl, nu), rr.os.map wv) := by rw [hget]; unfold endR; exact if_pos hyes
                 exact ⟨fun hq => (by rw [hs9] at hq; cases hq), fun h ws hq => by rw [hs9] at hq; cases hq; exact ⟨rr, rfl, hrok, rfl⟩, E⟩)
          · have hyes : e9 = 0 ∧ ll.length = 0 ∧ okR kd tl nu (rr.os.map wv) := ⟨Classical.not_not.1 hg16_3, by omega, hbR.1 (by simpa using h4)⟩
            have hrf : ∀ M : List Nat, True := fun _ => trivial
            have hrr0 := hrr
            refine G.skip ?_
            refine N.seq ?_
            refine G.seq ?_
            refine G.region ?_
            refine L.val rfl rfl (R.ldBN (cs := #[.int .i64 kd, .int .i64 tl, .int .i64 nu, .slice rr.a rr.n rr.c]) rfl B5 rfl) ?_
            refine L.set rfl (R.stN rfl rfl B2 rfl (Nat.le_refl 4) (by intro u hu; simp at hu; rcases hu with rfl | rfl | rfl | rfl <;> rfl)) ?_
            rintro w40 ⟨e40, hs40, B2⟩
            replace B2 : Blk w40 b2 #[.int .i64 kd, .int .i64 tl, .int .i64 nu, .slice rr.a rr.n rr.c] 24 (0, 0) := B2
            replace E := E.trans e40 (M := []) (by simp) (by intro x hx; rw [List.mem_singleton.1 hx]; exact .inr (by omega))
            replace hrok : rr.ok w40 := by subst hrr; exact rowNil _
            refine L.val rfl rfl (R.as rfl) ?_
            refine L.nil ?_
            refine N.seq ?_
            refine G.retCT rfl rfl rfl (B2) rfl ?_
            first
              | exact ⟨fun _ => rfl, fun h ws hq => (by rw [hn9] at hq; cases hq), E⟩
              | (have hn9 : getR l = none := by rw [hget]; unfold endR; exact if_neg hno
                 exact ⟨fun _ => rfl, fun h ws hq => (by rw [hn9] at hq; cases hq), E⟩)
              | (have hs9 : getR l = some ((kd, tl, nu), rr.os.map wv) := by rw [hget]; unfold endR; exact if_pos hyes
                 exact ⟨fun hq => (by rw [hs9] at hq; cases hq), fun h ws hq => by rw [hs9] at hq; cases hq; exact ⟨rr, rfl, hrok, rfl⟩, E⟩)

end Go.Proofs.Ytiiiplhfgblamaa
