/-
  The walks of package pack: the scan.
-/
import Derived.Test.YthpolibakkmmeaaPack
set_option linter.unusedVariables false
namespace Go.Proofs.Ythpolibakkmmeaa
open Go Brv Brv.Crc Brv.Pack
theorem new_ok (a : Option Addr) (n c : Nat) (l : List UInt8) (w : World) (hb : Bs w a n l) (hn : n ≤ 140737488351232) : Meets Try.prog 133 [.slice a n c] w (fun v w' => ∃ s D, v = .pointer (some ⟨s, 0, none⟩) ∧ ScanAt 287 w' s D l 0 ∧ Ext [] w w' ∧ w.heap.size ≤ s ∧ (∀ d ∈ D, w.heap.size ≤ d) ∧ (∃ cs, Blk w' s cs 287 (0, 0)) ∧ ∀ d ∈ D, ∃ cs, Blk w' d cs 5 (0, 0)) := by
  refine Meets.enter Try.func133 rfl 7 rfl (Nat.le_of_ble_eq_true rfl) ?_
  refine G.seq ?_
  refine G.region ?_
  refine L.val rfl rfl (R.as rfl) ?_
  refine L.nil ?_
  refine N.seq ?_
  refine G.seq ?_
  refine G.region ?_
  refine L.val rfl rfl (R.mv rfl) ?_
  refine L.callF rfl rfl rfl go143 (clone_ok _ _ _ _ _ hb (by omega)) ?_
  rintro _ w1 ⟨a1, c1, M1, rfl, e1, o1, hM1⟩
  refine L.val rfl rfl (R.build rfl rfl) ?_
  refine L.do rfl rfl (R.box rfl) ?_
  rintro _ w2 ⟨b6, rfl, hb6, hs6, e2, B6⟩
  have hls := e1.size
  refine L.val rfl rfl (R.as rfl) ?_
  refine L.nil ?_
  refine N.seq ?_
  refine G.ret1 rfl rfl ?_
  exact ⟨b6, M1, rfl, ⟨a1, n, c1, fun h => by have := o1.lt b6 h; omega, o1.le, fun q hq => by rw [o1.block q hq]; simp, B6, (Bs.of_own o1).ext0 e2⟩, e1.trans0 e2, by omega, hM1, ⟨_, B6⟩, fun d hd => (o1.typ d hd).imp fun _ h => h.ext0 e2⟩

theorem take_ok (s : Nat) (D : List Nat) (l : List UInt8) (e : Int) (y : Int) (w : World) (hs : ScanAt 287 w s D l e) (hl : l.length ≤ 70368744177664) (hy : 0 ≤ y) : Meets Try.prog 191 [.pointer (some ⟨s, 0, none⟩), .int .i64 y] w (fun v w' => Ext [s] w w' ∧ ∃ a c, v = .tuple #[.slice a (takeN l y) c, .bool (decide (y ≤ l.length))] ∧ takeN l y ≤ c ∧ Bs w' a (takeN l y) (l.take (takeN l y)) ∧ (∀ q, a = some q → q.block ∈ D) ∧ ScanAt 287 w' s D (l.drop (takeN l y)) (if y ≤ l.length then e else 20)) := by
  refine Meets.enter Try.func191 rfl 34 rfl (Nat.le_of_ble_eq_true rfl) ?_
  obtain ⟨a, n, c, hsD, hnc, haD, hB, hb⟩ := hs
  have hn := hb.len
  have hlt := hB.lt
  refine G.seq ?_
  refine G.region ?_
  refine L.val rfl rfl (R.as rfl) ?_
  refine L.val rfl rfl (R.as rfl) ?_
  refine L.nil ?_
  refine N.seq ?_
  refine G.seq ?_
  refine G.seq ?_
  refine G.region ?_
  refine L.val rfl rfl (R.mv rfl) ?_
  refine L.val rfl rfl (R.mv rfl) ?_
  refine L.val rfl rfl (R.nilChk rfl) ?_
  refine L.val rfl rfl (R.fld rfl) ?_
  refine L.val rfl rfl (R.ldB rfl hB rfl) ?_
  refine L.val rfl rfl (R.lenS rfl) ?_
  refine L.val rfl rfl (R.gtr rfl rfl) ?_
  refine L.nil ?_
  refine N.seq ?_
  refine G.condP rfl (fun h0 => ?_) (fun h0 => ?_)
  · refine G.seq ?_
    refine G.region ?_
    refine L.val rfl rfl (R.mv rfl) ?_
    refine L.val rfl rfl (R.nilChk rfl) ?_
    refine L.val rfl rfl (R.fld rfl) ?_
    refine L.set rfl (R.st rfl rfl hB (by simp) rfl) ?_
    rintro w1 ⟨e1, hs1, B1⟩
    refine L.nil ?_
    refine N.seq ?_
    refine G.seq ?_
    refine G.region ?_
    refine L.val rfl rfl (R.as rfl) ?_
    refine L.val rfl rfl (R.as rfl) ?_
    refine L.nil ?_
    refine N.seq ?_
    refine G.ret2 rfl rfl rfl ?_
    rw [takeN_no (by omega), if_neg (by omega), decide_eq_false (by omega)]
    exact ⟨e1, none, 0, rfl, Nat.le_refl _, Bs.nil _, (by intro q hq; cases hq), a, n, c, hsD, hnc, haD, B1, hb.ext e1 (fun q hq h => hsD (by rw [← List.mem_singleton.1 h]; exact haD q hq))⟩
  · refine G.skip ?_
    refine N.seq ?_
    refine G.seq ?_
    refine G.region ?_
    refine L.val rfl rfl (R.mv rfl) ?_
    refine L.val rfl rfl (R.nilChk rfl) ?_
    refine L.val rfl rfl (R.fld rfl) ?_
    refine L.val rfl rfl (R.ldB rfl hB rfl) ?_
    refine L.val rfl rfl (R.mv rfl) ?_
    refine L.val rfl rfl (R.mv rfl) ?_
    refine L.val rfl rfl (R.slHM rfl rfl rfl (by omega) (by omega) (by omega)) ?_
    refine L.val rfl rfl (R.as rfl) ?_
    refine L.nil ?_
    refine N.seq ?_
    refine G.seq ?_
    refine G.region ?_
    refine L.val rfl rfl (R.mv rfl) ?_
    refine L.val rfl rfl (R.mv rfl) ?_
    refine L.val rfl rfl (R.nilChk rfl) ?_
    refine L.val rfl rfl (R.fld rfl) ?_
    refine L.val rfl rfl (R.ldB rfl hB rfl) ?_
    refine L.val rfl rfl (R.mv rfl) ?_
    refine L.val rfl rfl (R.slL rfl rfl (by omega) (by omega)) ?_
    refine L.val rfl rfl (R.nilChk rfl) ?_
    refine L.val rfl rfl (R.fld rfl) ?_
    refine L.set rfl (R.st rfl rfl hB (by simp) rfl) ?_
    rintro w1 ⟨e1, hs1, B1⟩
    refine L.nil ?_
    refine N.seq ?_
    refine G.seq ?_
    refine G.region ?_
    refine L.val rfl rfl (R.mv rfl) ?_
    refine L.val rfl rfl (R.as rfl) ?_
    refine L.val rfl rfl (R.as rfl) ?_
    refine L.nil ?_
    refine N.seq ?_
    refine G.ret2 rfl rfl rfl ?_
    rw [takeN_yes (by omega), if_pos (by omega), decide_eq_true (by omega)]
    have hnD : ∀ q, a = some q → q.block ∉ [s] := fun q hq h => hsD (by rw [← List.mem_singleton.1 h]; exact haD q hq)
    have hb1 := hb.ext e1 hnD
    refine ⟨e1, _, _, rfl, Nat.le_refl _, ?_, ?_, ?_⟩
    · rw [subA_zero]; exact hb1.pre _ (by omega)
    · rw [subA_zero]; exact haD
    · exact ⟨_, _, _, hsD, by omega, fun q hq => subA_block haD q hq, B1, hb1.drop _ _ (by omega) hnc⟩

theorem scannum_nil (y : Int) (w : World) : Meets Try.prog 134 [.pointer none, .int .i64 y] w (fun v w' => v = .int .i64 0 ∧ w' = w) := by
  refine Meets.enter Try.func134 rfl 69 rfl (Nat.le_of_ble_eq_true rfl) ?_
  refine G.seq ?_
  refine G.region ?_
  refine L.val rfl rfl (R.as rfl) ?_
  refine L.nil ?_
  refine N.seq ?_
  refine G.seq ?_
  refine G.seq ?_
  refine G.region ?_
  refine L.val rfl rfl (R.mv rfl) ?_
  refine L.val rfl rfl (R.eqNilP rfl rfl) ?_
  refine L.val rfl rfl (R.mv rfl) ?_
  refine L.pass rfl rfl ?_
  refine L.pass rfl rfl ?_
  refine L.pass rfl rfl ?_
  refine L.pass rfl rfl ?_
  refine L.pass rfl rfl ?_
  first | refine L.val rfl rfl (R.pickT rfl rfl) ?_ | refine L.val rfl rfl (R.pickF rfl rfl) ?_
  refine L.nil ?_
  refine N.seq ?_
  refine G.condT rfl ?_
  refine G.seq ?_
  refine G.region ?_
  refine L.val rfl rfl (R.as rfl) ?_
  refine L.nil ?_
  refine N.seq ?_
  refine G.ret1 rfl rfl ?_
  exact ⟨rfl, rfl⟩

theorem scannum_ok (s : Nat) (D : List Nat) (l : List UInt8) (e : Int) (y : Int) (w : World) (hs : ScanAt 287 w s D l e) (hl : l.length ≤ 70368744177664) : Meets Try.prog 134 [.pointer (some ⟨s, 0, none⟩), .int .i64 y] w (fun v w' => v = .int .i64 (numF l e y).1 ∧ ScanAt 287 w' s D (numF l e y).2.1 (numF l e y).2.2 ∧ Ext [s] w w') := by
  refine Meets.enter Try.func134 rfl 69 rfl (Nat.le_of_ble_eq_true rfl) ?_
  have hs0 := hs
  obtain ⟨a, n, c, hsD, hnc, haD, hB, hb⟩ := hs
  have hn := hb.len
  have hlt := hB.lt
  refine G.seq ?_
  refine G.region ?_
  refine L.val rfl rfl (R.as rfl) ?_
  refine L.nil ?_
  refine N.seq ?_
  refine G.seq ?_
  refine G.seq ?_
  refine G.region ?_
  refine L.val rfl rfl (R.mv rfl) ?_
  refine L.val rfl rfl (R.eqNilP rfl rfl) ?_
  refine L.val rfl rfl (R.mv rfl) ?_
  refine L.val rfl rfl (R.mv rfl) ?_
  refine L.val rfl rfl (R.nilChk rfl) ?_
  refine L.val rfl rfl (R.fld rfl) ?_
  refine L.val rfl rfl (R.ldB rfl hB rfl) ?_
  refine L.val rfl rfl (R.neI rfl rfl) ?_
  first | refine L.val rfl rfl (R.pickT rfl rfl) ?_ | refine L.val rfl rfl (R.pickF rfl rfl) ?_
  refine L.nil ?_
  refine N.seq ?_
  refine G.condP rfl (fun h0 => ?_) (fun h0 => ?_)
  · refine G.seq ?_
    refine G.region ?_
    refine L.val rfl rfl (R.as rfl) ?_
    refine L.nil ?_
    refine N.seq ?_
    refine G.ret1 rfl rfl ?_
    rw [numF_err (by omega)]
    exact ⟨rfl, hs0, Ext.refl _ _⟩
  · obtain rfl : e = 0 := by omega
    refine G.skip ?_
    refine N.seq ?_
    refine G.seq ?_
    refine G.seq ?_
    refine G.region ?_
    refine L.val rfl rfl (R.mv rfl) ?_
    refine L.val rfl rfl (R.lss rfl rfl) ?_
    refine L.val rfl rfl (R.mv rfl) ?_
    refine L.caseP 21 rfl (fun hg3_2 => ?_) (fun hg3_2 => ?_)
    · refine L.pass rfl rfl ?_
      refine L.pass rfl rfl ?_
      first | refine L.val rfl rfl (R.pickT rfl rfl) ?_ | refine L.val rfl rfl (R.pickF rfl rfl) ?_
      refine L.val rfl rfl (R.mv rfl) ?_
      refine L.pass rfl rfl ?_
      refine L.pass rfl rfl ?_
      refine L.pass rfl rfl ?_
      refine L.pass rfl rfl ?_
      refine L.pass rfl rfl ?_
      refine L.pass rfl rfl ?_
      refine L.pass rfl rfl ?_
      refine L.pass rfl rfl ?_
      refine L.pass rfl rfl ?_
      refine L.pass rfl rfl ?_
      refine L.pass rfl rfl ?_
      refine L.pass rfl rfl ?_
      refine L.pass rfl rfl ?_
      refine L.pass rfl rfl ?_
      refine L.pass rfl rfl ?_
      refine L.pass rfl rfl ?_
      refine L.pass rfl rfl ?_
      refine L.pass rfl rfl ?_
      refine L.pass rfl rfl ?_
      refine L.pass rfl rfl ?_
      first | refine L.val rfl rfl (R.pickT rfl rfl) ?_ | refine L.val rfl rfl (R.pickF rfl rfl) ?_
      refine L.nil ?_
      refine N.seq ?_
      refine G.condT rfl ?_
      have hno : ¬ okN l y := by
        rintro ⟨h1, h2, h3, h4⟩
        first | omega | (have := h4 (by omega); rw [getD_zero (by omega)] at this; omega)
      refine G.seq ?_
      refine G.region ?_
      refine L.val rfl rfl (R.mv rfl) ?_
      refine L.val rfl rfl (R.nilChk rfl) ?_
      refine L.val rfl rfl (R.fld rfl) ?_
      refine L.set rfl (R.st rfl rfl hB (by simp) rfl) ?_
      rintro w1 ⟨e1, hs1, B1⟩
      refine L.nil ?_
      refine N.seq ?_
      refine G.seq ?_
      refine G.region ?_
      refine L.val rfl rfl (R.as rfl) ?_
      refine L.nil ?_
      refine N.seq ?_
      refine G.ret1 rfl rfl ?_
      first
        | (rw [numF_no hno]; exact ⟨rfl, ⟨a, n, c, hsD, hnc, haD, B1, hb.ext e1 (fun q hq h => hsD (by rw [← List.mem_singleton.1 h]; exact haD q hq))⟩, e1⟩)
        | (rw [hnf]; exact ⟨rfl, hS, e1⟩)
    · refine L.val rfl rfl (R.mv rfl) ?_
      refine L.val rfl rfl (R.gtr rfl rfl) ?_
      first | refine L.val rfl rfl (R.pickT rfl rfl) ?_ | refine L.val rfl rfl (R.pickF rfl rfl) ?_
      refine L.val rfl rfl (R.mv rfl) ?_
      refine L.caseP 25 rfl (fun hg3_6 => ?_) (fun hg3_6 => ?_)
      · refine L.pass rfl rfl ?_
        refine L.pass rfl rfl ?_
        refine L.pass rfl rfl ?_
        refine L.pass rfl rfl ?_
        refine L.pass rfl rfl ?_
        refine L.pass rfl rfl ?_
        refine L.pass rfl rfl ?_
        refine L.pass rfl rfl ?_
        refine L.pass rfl rfl ?_
        refine L.pass rfl rfl ?_
        refine L.pass rfl rfl ?_
        refine L.pass rfl rfl ?_
        refine L.pass rfl rfl ?_
        refine L.pass rfl rfl ?_
        refine L.pass rfl rfl ?_
        refine L.pass rfl rfl ?_
        refine L.pass rfl rfl ?_
        refine L.pass rfl rfl ?_
        refine L.pass rfl rfl ?_
        refine L.pass rfl rfl ?_
        first | refine L.val rfl rfl (R.pickT rfl rfl) ?_ | refine L.val rfl rfl (R.pickF rfl rfl) ?_
        refine L.nil ?_
        refine N.seq ?_
        refine G.condT rfl ?_
        have hno : ¬ okN l y := by
          rintro ⟨h1, h2, h3, h4⟩
          first | omega | (have := h4 (by omega); rw [getD_zero (by omega)] at this; omega)
        refine G.seq ?_
        refine G.region ?_
        refine L.val rfl rfl (R.mv rfl) ?_
        refine L.val rfl rfl (R.nilChk rfl) ?_
        refine L.val rfl rfl (R.fld rfl) ?_
        refine L.set rfl (R.st rfl rfl hB (by simp) rfl) ?_
        rintro w1 ⟨e1, hs1, B1⟩
        refine L.nil ?_
        refine N.seq ?_
        refine G.seq ?_
        refine G.region ?_
        refine L.val rfl rfl (R.as rfl) ?_
        refine L.nil ?_
        refine N.seq ?_
        refine G.ret1 rfl rfl ?_
        first
          | (rw [numF_no hno]; exact ⟨rfl, ⟨a, n, c, hsD, hnc, haD, B1, hb.ext e1 (fun q hq h => hsD (by rw [← List.mem_singleton.1 h]; exact haD q hq))⟩, e1⟩)
          | (rw [hnf]; exact ⟨rfl, hS, e1⟩)
      · refine L.val rfl rfl (R.mv rfl) ?_
        refine L.val rfl rfl (R.nilChk rfl) ?_
        refine L.val rfl rfl (R.fld rfl) ?_
        refine L.val rfl rfl (R.ldB rfl hB rfl) ?_
        refine L.val rfl rfl (R.lenS rfl) ?_
        refine L.val rfl rfl (R.mv rfl) ?_
        refine L.val rfl rfl (R.geq rfl rfl) ?_
        refine L.val rfl rfl (R.mv rfl) ?_
        refine L.caseP 33 rfl (fun hg3_14 => ?_) (fun hg3_14 => ?_)
        · refine L.val rfl rfl (R.mv rfl) ?_
          refine L.val rfl rfl (R.eqI rfl rfl) ?_
          first | refine L.val rfl rfl (R.pickT rfl rfl) ?_ | refine L.val rfl rfl (R.pickF rfl rfl) ?_
          refine L.val rfl rfl (R.mv rfl) ?_
          refine L.caseP 37 rfl (fun hg3_18 => ?_) (fun hg3_18 => ?_)
          · refine L.val rfl rfl (R.mv rfl) ?_
            refine L.val rfl rfl (R.nilChk rfl) ?_
            refine L.val rfl rfl (R.fld rfl) ?_
            refine L.val rfl rfl (R.ldB rfl hB rfl) ?_
            obtain ⟨q, hq, hc0⟩ := hb.at 0 (by omega)
            refine L.val rfl rfl (R.idx rfl rfl (by omega) (by omega) q hq) ?_
            refine L.val rfl rfl (R.ld rfl hc0) ?_
            refine L.val rfl rfl (R.geq rfl rfl) ?_
            first | refine L.val rfl rfl (R.pickT rfl rfl) ?_ | refine L.val rfl rfl (R.pickF rfl rfl) ?_
            first | refine L.val rfl rfl (R.pickT rfl rfl) ?_ | refine L.val rfl rfl (R.pickF rfl rfl) ?_
            refine L.nil ?_
            refine N.seq ?_
            refine G.condP rfl (fun h1 => ?_) (fun h1 => ?_)
            · have hno : ¬ okN l y := by
                rintro ⟨h1, h2, h3, h4⟩
                first | omega | (have := h4 (by omega); rw [getD_zero (by omega)] at this; omega)
              refine G.seq ?_
              refine G.region ?_
              refine L.val rfl rfl (R.mv rfl) ?_
              refine L.val rfl rfl (R.nilChk rfl) ?_
              refine L.val rfl rfl (R.fld rfl) ?_
              refine L.set rfl (R.st rfl rfl hB (by simp) rfl) ?_
              rintro w1 ⟨e1, hs1, B1⟩
              refine L.nil ?_
              refine N.seq ?_
              refine G.seq ?_
              refine G.region ?_
              refine L.val rfl rfl (R.as rfl) ?_
              refine L.nil ?_
              refine N.seq ?_
              refine G.ret1 rfl rfl ?_
              first
                | (rw [numF_no hno]; exact ⟨rfl, ⟨a, n, c, hsD, hnc, haD, B1, hb.ext e1 (fun q hq h => hsD (by rw [← List.mem_singleton.1 h]; exact haD q hq))⟩, e1⟩)
                | (rw [hnf]; exact ⟨rfl, hS, e1⟩)
            · have hok : y ≤ l.length → okN l y := by
                intro hy
                refine ⟨by omega, by omega, hy, fun h8 => ?_⟩
                first | omega | (rw [getD_zero (by omega)]; omega)
              have htl := num_takeN_lt hok
              have htn := takeN_le l y
              have hnf := numF_go hok
              refine G.skip ?_
              refine N.seq ?_
              refine G.seq ?_
              refine G.region ?_
              refine L.val rfl rfl (R.mv rfl) ?_
              refine L.val rfl rfl (R.mv rfl) ?_
              refine L.callF rfl rfl rfl go191 (take_ok _ _ _ _ _ _ hs0 hl (by omega)) ?_
              rintro _ w1 ⟨e1, a1, c1, rfl, hc1, hb1, ha1, hS⟩
              refine L.val rfl rfl (R.mv rfl) ?_
              refine L.val rfl rfl (R.ext rfl rfl) ?_
              refine L.val rfl rfl (R.ext rfl rfl) ?_
              refine L.val rfl rfl (R.as rfl) ?_
              refine L.val rfl rfl (R.as rfl) ?_
              refine L.nil ?_
              refine N.seq ?_
              refine G.seq ?_
              refine G.region ?_
              refine L.val rfl rfl (R.as rfl) ?_
              refine L.nil ?_
              refine N.seq ?_
              refine G.seq ?_
              refine G.seq ?_
              refine G.region ?_
              refine L.val rfl rfl (R.mv rfl) ?_
              refine L.val rfl rfl (R.lenS rfl) ?_
              refine L.val rfl rfl (R.mv rfl) ?_
              refine L.nil ?_
              refine N.seq ?_
              refine G.block ?_
              refine G.loop (X := Nat) (fun k => [(56, .slice a1 (takeN l y) c1), (57, .int .i64 (takeN l y)), (58, .int .i64 (k : Nat)), (7, .int .i64 (num (l.take k)))]) (fun k w' => k ≤ takeN l y ∧ w' = w1) (fun k => takeN l y - k) (0) (Sub.cons rfl (Sub.cons rfl (Sub.cons rfl (Sub.cons rfl (Sub.nil _))))) ⟨by omega, rfl⟩ ?_
              rintro k w2 ⟨hk, rfl⟩
              refine G.seq ?_
              refine G.region ?_
              refine L.val rfl rfl (R.lss rfl rfl) ?_
              refine L.nil ?_
              refine N.seq ?_
              refine G.seq ?_
              refine G.condP rfl (fun h2 => ?_) (fun h2 => ?_)
              · obtain ⟨q, hq, hc0⟩ := hb1.at k (by rw [List.length_take]; omega)
                rw [List.getElem_take] at hc0
                have hns := num_step (l := l) (k := k) (by omega) htn htl
                have hl8 := lt_u8 (l[k]'(by omega))
                refine G.skip ?_
                refine N.seq ?_
                refine G.seq ?_
                refine G.block ?_
                refine G.seq ?_
                refine G.region ?_
                refine L.val rfl rfl (R.idx rfl rfl (by omega) (by omega) q hq) ?_
                refine L.val rfl rfl (R.ld rfl hc0) ?_
                refine L.val rfl rfl (R.as rfl) ?_
                refine L.nil ?_
                refine N.seq ?_
                refine G.region ?_
                refine L.val rfl rfl (R.mv rfl) ?_
                refine L.val rfl rfl (R.shlW rfl rfl (by omega) _ (shl_byte (by omega))) ?_
                refine L.val rfl rfl (R.mv rfl) ?_
                refine L.val rfl rfl (R.conv rfl _ (wrap_i64 (by omega))) ?_
                refine L.val rfl rfl (R.orW rfl rfl _ (or_byte (by omega) hns)) ?_
                refine L.val rfl rfl (R.as rfl) ?_
                refine L.be 7 rfl (congrArg (Value.int .i64) (congrArg Nat.cast (num_take_succ l (by omega)).symm)) ?_
                refine L.nil ?_
                refine N.block ?_
                refine N.seq ?_
                refine G.region ?_
                refine L.val rfl rfl (R.add rfl rfl (by omega)) ?_
                refine L.val rfl rfl (R.mv rfl) ?_
                refine L.nil ?_
                exact N.again (k + 1) (by omega) (Sub.cons rfl (Sub.cons rfl (Sub.cons rfl (Sub.cons rfl (Sub.nil _))))) ⟨by omega, rfl⟩
              · obtain rfl : k = takeN l y := by omega
                refine G.exit _ rfl ?_
                refine N.seq ?_
                refine G.seq ?_
                refine G.region ?_
                refine L.val rfl rfl (R.mv rfl) ?_
                refine L.val rfl rfl (R.as rfl) ?_
                refine L.nil ?_
                refine N.seq ?_
                refine G.ret1 rfl rfl ?_
                first
                  | (rw [numF_no hno]; exact ⟨rfl, ⟨a, n, c, hsD, hnc, haD, B1, hb.ext e1 (fun q hq h => hsD (by rw [← List.mem_singleton.1 h]; exact haD q hq))⟩, e1⟩)
                  | (rw [hnf]; exact ⟨rfl, hS, e1⟩)
          · refine L.pass rfl rfl ?_
            refine L.pass rfl rfl ?_
            refine L.pass rfl rfl ?_
            refine L.pass rfl rfl ?_
            refine L.pass rfl rfl ?_
            refine L.pass rfl rfl ?_
            refine L.pass rfl rfl ?_
            first | refine L.val rfl rfl (R.pickT rfl rfl) ?_ | refine L.val rfl rfl (R.pickF rfl rfl) ?_
            first | refine L.val rfl rfl (R.pickT rfl rfl) ?_ | refine L.val rfl rfl (R.pickF rfl rfl) ?_
            refine L.nil ?_
            refine N.seq ?_
            refine G.condF rfl ?_
            have hok : y ≤ l.length → okN l y := by
              intro hy
              refine ⟨by omega, by omega, hy, fun h8 => ?_⟩
              first | omega | (rw [getD_zero (by omega)]; omega)
            have htl := num_takeN_lt hok
            have htn := takeN_le l y
            have hnf := numF_go hok
            refine G.skip ?_
            refine N.seq ?_
            refine G.seq ?_
            refine G.region ?_
            refine L.val rfl rfl (R.mv rfl) ?_
            refine L.val rfl rfl (R.mv rfl) ?_
            refine L.callF rfl rfl rfl go191 (take_ok _ _ _ _ _ _ hs0 hl (by omega)) ?_
            rintro _ w1 ⟨e1, a1, c1, rfl, hc1, hb1, ha1, hS⟩
            refine L.val rfl rfl (R.mv rfl) ?_
            refine L.val rfl rfl (R.ext rfl rfl) ?_
            refine L.val rfl rfl (R.ext rfl rfl) ?_
            refine L.val rfl rfl (R.as rfl) ?_
            refine L.val rfl rfl (R.as rfl) ?_
            refine L.nil ?_
            refine N.seq ?_
            refine G.seq ?_
            refine G.region ?_
            refine L.val rfl rfl (R.as rfl) ?_
            refine L.nil ?_
            refine N.seq ?_
            refine G.seq ?_
            refine G.seq ?_
            refine G.region ?_
            refine L.val rfl rfl (R.mv rfl) ?_
            refine L.val rfl rfl (R.lenS rfl) ?_
            refine L.val rfl rfl (R.mv rfl) ?_
            refine L.nil ?_
            refine N.seq ?_
            refine G.block ?_
            refine G.loop (X := Nat) (fun k => [(56, .slice a1 (takeN l y) c1), (57, .int .i64 (takeN l y)), (58, .int .i64 (k : Nat)), (7, .int .i64 (num (l.take k)))]) (fun k w' => k ≤ takeN l y ∧ w' = w1) (fun k => takeN l y - k) (0) (Sub.cons rfl (Sub.cons rfl (Sub.cons rfl (Sub.cons rfl (Sub.nil _))))) ⟨by omega, rfl⟩ ?_
            rintro k w2 ⟨hk, rfl⟩
            refine G.seq ?_
            refine G.region ?_
            refine L.val rfl rfl (R.lss rfl rfl) ?_
            refine L.nil ?_
            refine N.seq ?_
            refine G.seq ?_
            refine G.condP rfl (fun h2 => ?_) (fun h2 => ?_)
            · obtain ⟨q, hq, hc0⟩ := hb1.at k (by rw [List.length_take]; omega)
              rw [List.getElem_take] at hc0
              have hns := num_step (l := l) (k := k) (by omega) htn htl
              have hl8 := lt_u8 (l[k]'(by omega))
              refine G.skip ?_
              refine N.seq ?_
              refine G.seq ?_
              refine G.block ?_
              refine G.seq ?_
              refine G.region ?_
              refine L.val rfl rfl (R.idx rfl rfl (by omega) (by omega) q hq) ?_
              refine L.val rfl rfl (R.ld rfl hc0) ?_
              refine L.val rfl rfl (R.as rfl) ?_
              refine L.nil ?_
              refine N.seq ?_
              refine G.region ?_
              refine L.val rfl rfl (R.mv rfl) ?_
              refine L.val rfl rfl (R.shlW rfl rfl (by omega) _ (shl_byte (by omega))) ?_
              refine L.val rfl rfl (R.mv rfl) ?_
              refine L.val rfl rfl (R.conv rfl _ (wrap_i64 (by omega))) ?_
              refine L.val rfl rfl (R.orW rfl rfl _ (or_byte (by omega) hns)) ?_
              refine L.val rfl rfl (R.as rfl) ?_
              refine L.be 7 rfl (congrArg (Value.int .i64) (congrArg Nat.cast (num_take_succ l (by omega)).symm)) ?_
              refine L.nil ?_
              refine N.block ?_
              refine N.seq ?_
              refine G.region ?_
              refine L.val rfl rfl (R.add rfl rfl (by omega)) ?_
              refine L.val rfl rfl (R.mv rfl) ?_
              refine L.nil ?_
              exact N.again (k + 1) (by omega) (Sub.cons rfl (Sub.cons rfl (Sub.cons rfl (Sub.cons rfl (Sub.nil _))))) ⟨by omega, rfl⟩
            · obtain rfl : k = takeN l y := by omega
              refine G.exit _ rfl ?_
              refine N.seq ?_
              refine G.seq ?_
              refine G.region ?_
              refine L.val rfl rfl (R.mv rfl) ?_
              refine L.val rfl rfl (R.as rfl) ?_
              refine L.nil ?_
              refine N.seq ?_
              refine G.ret1 rfl rfl ?_
              first
                | (rw [numF_no hno]; exact ⟨rfl, ⟨a, n, c, hsD, hnc, haD, B1, hb.ext e1 (fun q hq h => hsD (by rw [← List.mem_singleton.1 h]; exact haD q hq))⟩, e1⟩)
                | (rw [hnf]; exact ⟨rfl, hS, e1⟩)
        · refine L.pass rfl rfl ?_
          refine L.pass rfl rfl ?_
          first | refine L.val rfl rfl (R.pickT rfl rfl) ?_ | refine L.val rfl rfl (R.pickF rfl rfl) ?_
          refine L.val rfl rfl (R.mv rfl) ?_
          refine L.pass rfl rfl ?_
          refine L.pass rfl rfl ?_
          refine L.pass rfl rfl ?_
          refine L.pass rfl rfl ?_
          refine L.pass rfl rfl ?_
          refine L.pass rfl rfl ?_
          refine L.pass rfl rfl ?_
          first | refine L.val rfl rfl (R.pickT rfl rfl) ?_ | refine L.val rfl rfl (R.pickF rfl rfl) ?_
          first | refine L.val rfl rfl (R.pickT rfl rfl) ?_ | refine L.val rfl rfl (R.pickF rfl rfl) ?_
          refine L.nil ?_
          refine N.seq ?_
          refine G.condF rfl ?_
          have hok : y ≤ l.length → okN l y := by
            intro hy
            refine ⟨by omega, by omega, hy, fun h8 => ?_⟩
            first | omega | (rw [getD_zero (by omega)]; omega)
          have htl := num_takeN_lt hok
          have htn := takeN_le l y
          have hnf := numF_go hok
          refine G.skip ?_
          refine N.seq ?_
          refine G.seq ?_
          refine G.region ?_
          refine L.val rfl rfl (R.mv rfl) ?_
          refine L.val rfl rfl (R.mv rfl) ?_
          refine L.callF rfl rfl rfl go191 (take_ok _ _ _ _ _ _ hs0 hl (by omega)) ?_
          rintro _ w1 ⟨e1, a1, c1, rfl, hc1, hb1, ha1, hS⟩
          refine L.val rfl rfl (R.mv rfl) ?_
          refine L.val rfl rfl (R.ext rfl rfl) ?_
          refine L.val rfl rfl (R.ext rfl rfl) ?_
          refine L.val rfl rfl (R.as rfl) ?_
          refine L.val rfl rfl (R.as rfl) ?_
          refine L.nil ?_
          refine N.seq ?_
          refine G.seq ?_
          refine G.region ?_
          refine L.val rfl rfl (R.as rfl) ?_
          refine L.nil ?_
          refine N.seq ?_
          refine G.seq ?_
          refine G.seq ?_
          refine G.region ?_
          refine L.val rfl rfl (R.mv rfl) ?_
          refine L.val rfl rfl (R.lenS rfl) ?_
          refine L.val rfl rfl (R.mv rfl) ?_
          refine L.nil ?_
          refine N.seq ?_
          refine G.block ?_
          refine G.loop (X := Nat) (fun k => [(56, .slice a1 (takeN l y) c1), (57, .int .i64 (takeN l y)), (58, .int .i64 (k : Nat)), (7, .int .i64 (num (l.take k)))]) (fun k w' => k ≤ takeN l y ∧ w' = w1) (fun k => takeN l y - k) (0) (Sub.cons rfl (Sub.cons rfl (Sub.cons rfl (Sub.cons rfl (Sub.nil _))))) ⟨by omega, rfl⟩ ?_
          rintro k w2 ⟨hk, rfl⟩
          refine G.seq ?_
          refine G.region ?_
          refine L.val rfl rfl (R.lss rfl rfl) ?_
          refine L.nil ?_
          refine N.seq ?_
          refine G.seq ?_
          refine G.condP rfl (fun h2 => ?_) (fun h2 => ?_)
          · obtain ⟨q, hq, hc0⟩ := hb1.at k (by rw [List.length_take]; omega)
            rw [List.getElem_take] at hc0
            have hns := num_step (l := l) (k := k) (by omega) htn htl
            have hl8 := lt_u8 (l[k]'(by omega))
            refine G.skip ?_
            refine N.seq ?_
            refine G.seq ?_
            refine G.block ?_
            refine G.seq ?_
            refine G.region ?_
            refine L.val rfl rfl (R.idx rfl rfl (by omega) (by omega) q hq) ?_
            refine L.val rfl rfl (R.ld rfl hc0) ?_
            refine L.val rfl rfl (R.as rfl) ?_
            refine L.nil ?_
            refine N.seq ?_
            refine G.region ?_
            refine L.val rfl rfl (R.mv rfl) ?_
            refine L.val rfl rfl (R.shlW rfl rfl (by omega) _ (shl_byte (by omega))) ?_
            refine L.val rfl rfl (R.mv rfl) ?_
            refine L.val rfl rfl (R.conv rfl _ (wrap_i64 (by omega))) ?_
            refine L.val rfl rfl (R.orW rfl rfl _ (or_byte (by omega) hns)) ?_
            refine L.val rfl rfl (R.as rfl) ?_
            refine L.be 7 rfl (congrArg (Value.int .i64) (congrArg Nat.cast (num_take_succ l (by omega)).symm)) ?_
            refine L.nil ?_
            refine N.block ?_
            refine N.seq ?_
            refine G.region ?_
            refine L.val rfl rfl (R.add rfl rfl (by omega)) ?_
            refine L.val rfl rfl (R.mv rfl) ?_
            refine L.nil ?_
            exact N.again (k + 1) (by omega) (Sub.cons rfl (Sub.cons rfl (Sub.cons rfl (Sub.cons rfl (Sub.nil _))))) ⟨by omega, rfl⟩
          · obtain rfl : k = takeN l y := by omega
            refine G.exit _ rfl ?_
            refine N.seq ?_
            refine G.seq ?_
            refine G.region ?_
            refine L.val rfl rfl (R.mv rfl) ?_
            refine L.val rfl rfl (R.as rfl) ?_
            refine L.nil ?_
            refine N.seq ?_
            refine G.ret1 rfl rfl ?_
            first
              | (rw [numF_no hno]; exact ⟨rfl, ⟨a, n, c, hsD, hnc, haD, B1, hb.ext e1 (fun q hq h => hsD (by rw [← List.mem_singleton.1 h]; exact haD q hq))⟩, e1⟩)
              | (rw [hnf]; exact ⟨rfl, hS, e1⟩)

theorem scantext_nil (y : Int) (w : World) : Meets Try.prog 189 [.pointer none, .int .i64 y] w (fun v w' => v = .slice none 0 0 ∧ w' = w) := by
  refine Meets.enter Try.func189 rfl 54 rfl (Nat.le_of_ble_eq_true rfl) ?_
  refine G.seq ?_
  refine G.region ?_
  refine L.val rfl rfl (R.as rfl) ?_
  refine L.nil ?_
  refine N.seq ?_
  refine G.seq ?_
  refine G.seq ?_
  refine G.region ?_
  refine L.val rfl rfl (R.mv rfl) ?_
  refine L.val rfl rfl (R.eqNilP rfl rfl) ?_
  refine L.val rfl rfl (R.mv rfl) ?_
  refine L.pass rfl rfl ?_
  refine L.pass rfl rfl ?_
  refine L.pass rfl rfl ?_
  refine L.pass rfl rfl ?_
  refine L.pass rfl rfl ?_
  first | refine L.val rfl rfl (R.pickT rfl rfl) ?_ | refine L.val rfl rfl (R.pickF rfl rfl) ?_
  refine L.nil ?_
  refine N.seq ?_
  refine G.condT rfl ?_
  refine G.seq ?_
  refine G.region ?_
  refine L.val rfl rfl (R.as rfl) ?_
  refine L.nil ?_
  refine N.seq ?_
  refine G.ret1 rfl rfl ?_
  exact ⟨rfl, rfl⟩

theorem scantext_ok (s : Nat) (D : List Nat) (l : List UInt8) (e : Int) (y : Int) (w : World) (hs : ScanAt 287 w s D l e) (hl : l.length ≤ 70368744177664) : Meets Try.prog 189 [.pointer (some ⟨s, 0, none⟩), .int .i64 y] w (fun v w' => ∃ a c, v = .slice a (txtF l e y).1.length c ∧ (txtF l e y).1.length ≤ c ∧ Bs w' a (txtF l e y).1.length (txtF l e y).1 ∧ (∀ q, a = some q → q.block ∈ D) ∧ ScanAt 287 w' s D (txtF l e y).2.1 (txtF l e y).2.2 ∧ Ext [s] w w') := by
  refine Meets.enter Try.func189 rfl 54 rfl (Nat.le_of_ble_eq_true rfl) ?_
  have hs0 := hs
  obtain ⟨a, n, c, hsD, hnc, haD, hB, hb⟩ := hs
  have hn := hb.len
  have hlt := hB.lt
  have hnD : ∀ q, a = some q → q.block ∉ [s] := fun q hq h => hsD (by rw [← List.mem_singleton.1 h]; exact haD q hq)
  refine G.seq ?_
  refine G.region ?_
  refine L.val rfl rfl (R.as rfl) ?_
  refine L.nil ?_
  refine N.seq ?_
  refine G.seq ?_
  refine G.seq ?_
  refine G.region ?_
  refine L.val rfl rfl (R.mv rfl) ?_
  refine L.val rfl rfl (R.eqNilP rfl rfl) ?_
  refine L.val rfl rfl (R.mv rfl) ?_
  refine L.val rfl rfl (R.mv rfl) ?_
  refine L.val rfl rfl (R.nilChk rfl) ?_
  refine L.val rfl rfl (R.fld rfl) ?_
  refine L.val rfl rfl (R.ldB rfl hB rfl) ?_
  refine L.val rfl rfl (R.neI rfl rfl) ?_
  first | refine L.val rfl rfl (R.pickT rfl rfl) ?_ | refine L.val rfl rfl (R.pickF rfl rfl) ?_
  refine L.nil ?_
  refine N.seq ?_
  refine G.condP rfl (fun h0 => ?_) (fun h0 => ?_)
  · refine G.seq ?_
    refine G.region ?_
    refine L.val rfl rfl (R.as rfl) ?_
    refine L.nil ?_
    refine N.seq ?_
    refine G.ret1 rfl rfl ?_
    rw [txtF_err (by omega)]
    exact ⟨none, 0, rfl, Nat.le_refl _, Bs.nil _, (by intro q hq; cases hq), hs0, Ext.refl _ _⟩
  · obtain rfl : e = 0 := by omega
    refine G.skip ?_
    refine N.seq ?_
    refine G.seq ?_
    refine G.region ?_
    refine L.val rfl rfl (R.mv rfl) ?_
    refine L.val rfl rfl (R.nilChk rfl) ?_
    refine L.val rfl rfl (R.fld rfl) ?_
    refine L.val rfl rfl (R.ldB rfl hB rfl) ?_
    refine L.val rfl rfl (R.as rfl) ?_
    refine L.nil ?_
    refine N.seq ?_
    refine G.seq ?_
    refine G.region ?_
    refine L.val rfl rfl (R.mv rfl) ?_
    refine L.callF rfl rfl rfl go134 (scannum_ok _ _ _ _ _ _ hs0 hl) ?_
    rintro _ w1 ⟨rfl, hS, Gs⟩
    obtain ⟨m2, l2, e2, hq⟩ : ∃ m l' e', numF l 0 2 = (m, l', e') := ⟨_, _, _, rfl⟩
    rw [hq] at hS
    dsimp only at hS
    have hS1 := hS
    obtain ⟨a2, n2, c2, _, hnc2, haD2, hB2, hb2⟩ := hS
    have hn2 := hb2.len
    have htwo := numF_two hq
    have hl2 : l2.length ≤ 70368744177664 := by rcases htwo with ⟨_, _, _, rfl⟩ | ⟨_, _, _, rfl⟩ <;> (try rw [List.length_drop]) <;> omega
    have he2 : e2 = 0 ∨ e2 = 20 := by exact htwo.imp (fun h => h.2.1) (fun h => h.2.1)
    refine L.be 23 rfl (show _ = Value.int .i64 (m2 : Int) by rw [hq]) ?_
    refine L.val rfl rfl (R.as rfl) ?_
    refine L.nil ?_
    refine N.seq ?_
    refine G.seq ?_
    refine G.seq ?_
    refine G.region ?_
    refine L.val rfl rfl (R.mv rfl) ?_
    refine L.val rfl rfl (R.nilChk rfl) ?_
    refine L.val rfl rfl (R.fld rfl) ?_
    refine L.val rfl rfl (R.ldB rfl hB2 rfl) ?_
    refine L.val rfl rfl (R.eqI rfl rfl) ?_
    refine L.val rfl rfl (R.mv rfl) ?_
    refine L.caseP 29 rfl (fun hg5_5 => ?_) (fun hg5_5 => ?_)
    · refine L.val rfl rfl (R.mv rfl) ?_
      refine L.val rfl rfl (R.mv rfl) ?_
      refine L.val rfl rfl (R.gtr rfl rfl) ?_
      first | refine L.val rfl rfl (R.pickT rfl rfl) ?_ | refine L.val rfl rfl (R.pickF rfl rfl) ?_
      refine L.nil ?_
      refine N.seq ?_
      refine G.condP rfl (fun h1 => ?_) (fun h1 => ?_)
      · refine G.region ?_
        refine L.val rfl rfl (R.mv rfl) ?_
        refine L.val rfl rfl (R.nilChk rfl) ?_
        refine L.val rfl rfl (R.fld rfl) ?_
        refine L.set rfl (R.st rfl rfl hB2 (by simp) rfl) ?_
        rintro w2 ⟨e3, hs3, hB2⟩
        replace Gs := Gs.trans1 e3
        refine L.nil ?_
        refine N.seq ?_
        refine G.seq ?_
        refine G.seq ?_
        refine G.region ?_
        refine L.val rfl rfl (R.mv rfl) ?_
        refine L.val rfl rfl (R.nilChk rfl) ?_
        refine L.val rfl rfl (R.fld rfl) ?_
        refine L.val rfl rfl (R.ldB rfl hB2 rfl) ?_
        refine L.val rfl rfl (R.eqI rfl rfl) ?_
        refine L.nil ?_
        refine N.seq ?_
        refine G.condP rfl (fun h2 => ?_) (fun h2 => ?_)
        · exfalso; omega
        · refine G.skip ?_
          refine N.seq ?_
          refine G.seq ?_
          refine G.region ?_
          refine L.val rfl rfl (R.mv rfl) ?_
          refine L.val rfl rfl (R.mv rfl) ?_
          refine L.val rfl rfl (R.nilChk rfl) ?_
          refine L.val rfl rfl (R.fld rfl) ?_
          refine L.set rfl (R.st rfl rfl hB2 (by simp) rfl) ?_
          rintro w5 ⟨e5, hs5, B5⟩
          replace Gs := Gs.trans1 e5
          refine L.nil ?_
          refine N.seq ?_
          refine G.seq ?_
          refine G.region ?_
          refine L.val rfl rfl (R.as rfl) ?_
          refine L.nil ?_
          refine N.seq ?_
          refine G.ret1 rfl rfl ?_
          rw [txtF_no hq (by omega)]
          exact ⟨none, 0, rfl, Nat.le_refl _, Bs.nil _, (by intro q hq; cases hq), ⟨a, n, c, hsD, hnc, haD, B5, hb.ext Gs hnD⟩, Gs⟩
      · refine G.skip ?_
        refine N.seq ?_
        refine G.seq ?_
        refine G.seq ?_
        refine G.region ?_
        refine L.val rfl rfl (R.mv rfl) ?_
        refine L.val rfl rfl (R.nilChk rfl) ?_
        refine L.val rfl rfl (R.fld rfl) ?_
        refine L.val rfl rfl (R.ldB rfl hB2 rfl) ?_
        refine L.val rfl rfl (R.eqI rfl rfl) ?_
        refine L.nil ?_
        refine N.seq ?_
        refine G.condP rfl (fun h2 => ?_) (fun h2 => ?_)
        · refine G.seq ?_
          refine G.region ?_
          refine L.val rfl rfl (R.mv rfl) ?_
          refine L.val rfl rfl (R.mv rfl) ?_
          refine L.callF rfl rfl rfl go191 (take_ok _ _ _ _ _ _ hS1 hl2 (by omega)) ?_
          rintro _ w2 ⟨e3, a3, c3, rfl, hc3, hb3, ha3, hS3⟩
          replace Gs := Gs.trans1 e3
          refine L.val rfl rfl (R.mv rfl) ?_
          refine L.val rfl rfl (R.ext rfl rfl) ?_
          refine L.val rfl rfl (R.ext rfl rfl) ?_
          refine L.val rfl rfl (R.as rfl) ?_
          refine L.val rfl rfl (R.as rfl) ?_
          refine L.nil ?_
          refine N.seq ?_
          refine G.seq ?_
          refine G.region ?_
          refine L.val rfl rfl (R.mv rfl) ?_
          refine L.nil ?_
          refine N.seq ?_
          refine G.condP rfl (fun h3 => ?_) (fun h3 => ?_)
          · rw [takeN_yes (by omega)] at *
            rw [if_pos (by omega)] at hS3
            refine G.seq ?_
            refine G.region ?_
            refine L.val rfl rfl (R.mv rfl) ?_
            refine L.val rfl rfl (R.as rfl) ?_
            refine L.nil ?_
            refine N.seq ?_
            refine G.ret1 rfl rfl ?_
            rw [txtF_yes hq (by omega) (by omega) (by omega)]
            have hlt2 : (l2.take m2).length = m2 := by rw [List.length_take]; omega
            obtain rfl : e2 = 0 := by omega
            dsimp only
            rw [hlt2]
            exact ⟨a3, c3, rfl, hc3, hb3, ha3, hS3, Gs⟩
          · rw [if_neg (by omega)] at hS3
            obtain ⟨a4, n4, c4, _, hnc4, haD4, hB2, hb4⟩ := hS3
            refine G.skip ?_
            refine N.seq ?_
            refine G.seq ?_
            refine G.region ?_
            refine L.val rfl rfl (R.mv rfl) ?_
            refine L.val rfl rfl (R.mv rfl) ?_
            refine L.val rfl rfl (R.nilChk rfl) ?_
            refine L.val rfl rfl (R.fld rfl) ?_
            refine L.set rfl (R.st rfl rfl hB2 (by simp) rfl) ?_
            rintro w5 ⟨e5, hs5, B5⟩
            replace Gs := Gs.trans1 e5
            refine L.nil ?_
            refine N.seq ?_
            refine G.seq ?_
            refine G.region ?_
            refine L.val rfl rfl (R.as rfl) ?_
            refine L.nil ?_
            refine N.seq ?_
            refine G.ret1 rfl rfl ?_
            rw [txtF_no hq (by omega)]
            exact ⟨none, 0, rfl, Nat.le_refl _, Bs.nil _, (by intro q hq; cases hq), ⟨a, n, c, hsD, hnc, haD, B5, hb.ext Gs hnD⟩, Gs⟩
        · exfalso; omega
    · refine L.pass rfl rfl ?_
      refine L.pass rfl rfl ?_
      refine L.pass rfl rfl ?_
      first | refine L.val rfl rfl (R.pickT rfl rfl) ?_ | refine L.val rfl rfl (R.pickF rfl rfl) ?_
      refine L.nil ?_
      refine N.seq ?_
      refine G.condF rfl ?_
      refine G.skip ?_
      refine N.seq ?_
      refine G.seq ?_
      refine G.seq ?_
      refine G.region ?_
      refine L.val rfl rfl (R.mv rfl) ?_
      refine L.val rfl rfl (R.nilChk rfl) ?_
      refine L.val rfl rfl (R.fld rfl) ?_
      refine L.val rfl rfl (R.ldB rfl hB2 rfl) ?_
      refine L.val rfl rfl (R.eqI rfl rfl) ?_
      refine L.nil ?_
      refine N.seq ?_
      refine G.condP rfl (fun h2 => ?_) (fun h2 => ?_)
      · exfalso; omega
      · refine G.skip ?_
        refine N.seq ?_
        refine G.seq ?_
        refine G.region ?_
        refine L.val rfl rfl (R.mv rfl) ?_
        refine L.val rfl rfl (R.mv rfl) ?_
        refine L.val rfl rfl (R.nilChk rfl) ?_
        refine L.val rfl rfl (R.fld rfl) ?_
        refine L.set rfl (R.st rfl rfl hB2 (by simp) rfl) ?_
        rintro w5 ⟨e5, hs5, B5⟩
        replace Gs := Gs.trans1 e5
        refine L.nil ?_
        refine N.seq ?_
        refine G.seq ?_
        refine G.region ?_
        refine L.val rfl rfl (R.as rfl) ?_
        refine L.nil ?_
        refine N.seq ?_
        refine G.ret1 rfl rfl ?_
        obtain rfl : e2 = 20 := by omega
        rw [txtF_no hq (by omega)]
        exact ⟨none, 0, rfl, Nat.le_refl _, Bs.nil _, (by intro q hq; cases hq), ⟨a, n, c, hsD, hnc, haD, B5, hb.ext Gs hnD⟩, Gs⟩

theorem scanerr_nil  (w : World) : Meets Try.prog 135 [.pointer none] w (fun v w' => v = .int .i64 1 ∧ w' = w) := by
  refine Meets.enter Try.func135 rfl 9 rfl (Nat.le_of_ble_eq_true rfl) ?_
  refine G.seq ?_
  refine G.region ?_
  refine L.val rfl rfl (R.as rfl) ?_
  refine L.nil ?_
  refine N.seq ?_
  refine G.seq ?_
  refine G.seq ?_
  refine G.region ?_
  refine L.val rfl rfl (R.mv rfl) ?_
  refine L.val rfl rfl (R.eqNilP rfl rfl) ?_
  refine L.nil ?_
  refine N.seq ?_
  refine G.condT rfl ?_
  refine G.seq ?_
  refine G.region ?_
  refine L.val rfl rfl (R.as rfl) ?_
  refine L.nil ?_
  refine N.seq ?_
  refine G.ret1 rfl rfl ?_
  exact ⟨rfl, rfl⟩

theorem scanerr_ok (s : Nat) (D : List Nat) (l : List UInt8) (e : Int) (w : World) (hs : ScanAt 287 w s D l e) (hl : l.length ≤ 70368744177664) : Meets Try.prog 135 [.pointer (some ⟨s, 0, none⟩)] w (fun v w' => v = .int .i64 e ∧ w' = w) := by
  refine Meets.enter Try.func135 rfl 9 rfl (Nat.le_of_ble_eq_true rfl) ?_
  obtain ⟨a, n, c, hsD, hnc, haD, hB, hb⟩ := hs
  have hn := hb.len
  have hlt := hB.lt
  refine G.seq ?_
  refine G.region ?_
  refine L.val rfl rfl (R.as rfl) ?_
  refine L.nil ?_
  refine N.seq ?_
  refine G.seq ?_
  refine G.seq ?_
  refine G.region ?_
  refine L.val rfl rfl (R.mv rfl) ?_
  refine L.val rfl rfl (R.eqNilP rfl rfl) ?_
  refine L.nil ?_
  refine N.seq ?_
  refine G.condF rfl ?_
  refine G.skip ?_
  refine N.seq ?_
  refine G.seq ?_
  refine G.region ?_
  refine L.val rfl rfl (R.mv rfl) ?_
  refine L.val rfl rfl (R.nilChk rfl) ?_
  refine L.val rfl rfl (R.fld rfl) ?_
  refine L.val rfl rfl (R.ldB rfl hB rfl) ?_
  refine L.val rfl rfl (R.as rfl) ?_
  refine L.nil ?_
  refine N.seq ?_
  refine G.ret1 rfl rfl ?_
  exact ⟨rfl, rfl⟩

theorem scanleft_nil  (w : World) : Meets Try.prog 136 [.pointer none] w (fun v w' => v = .int .i64 0 ∧ w' = w) := by
  refine Meets.enter Try.func136 rfl 10 rfl (Nat.le_of_ble_eq_true rfl) ?_
  refine G.seq ?_
  refine G.region ?_
  refine L.val rfl rfl (R.as rfl) ?_
  refine L.nil ?_
  refine N.seq ?_
  refine G.seq ?_
  refine G.seq ?_
  refine G.region ?_
  refine L.val rfl rfl (R.mv rfl) ?_
  refine L.val rfl rfl (R.eqNilP rfl rfl) ?_
  refine L.nil ?_
  refine N.seq ?_
  refine G.condT rfl ?_
  refine G.seq ?_
  refine G.region ?_
  refine L.val rfl rfl (R.as rfl) ?_
  refine L.nil ?_
  refine N.seq ?_
  refine G.ret1 rfl rfl ?_
  exact ⟨rfl, rfl⟩

theorem scanleft_ok (s : Nat) (D : List Nat) (l : List UInt8) (e : Int) (w : World) (hs : ScanAt 287 w s D l e) (hl : l.length ≤ 70368744177664) : Meets Try.prog 136 [.pointer (some ⟨s, 0, none⟩)] w (fun v w' => v = .int .i64 (l.length : Nat) ∧ w' = w) := by
  refine Meets.enter Try.func136 rfl 10 rfl (Nat.le_of_ble_eq_true rfl) ?_
  obtain ⟨a, n, c, hsD, hnc, haD, hB, hb⟩ := hs
  have hn := hb.len
  have hlt := hB.lt
  refine G.seq ?_
  refine G.region ?_
  refine L.val rfl rfl (R.as rfl) ?_
  refine L.nil ?_
  refine N.seq ?_
  refine G.seq ?_
  refine G.seq ?_
  refine G.region ?_
  refine L.val rfl rfl (R.mv rfl) ?_
  refine L.val rfl rfl (R.eqNilP rfl rfl) ?_
  refine L.nil ?_
  refine N.seq ?_
  refine G.condF rfl ?_
  refine G.skip ?_
  refine N.seq ?_
  refine G.seq ?_
  refine G.region ?_
  refine L.val rfl rfl (R.mv rfl) ?_
  refine L.val rfl rfl (R.nilChk rfl) ?_
  refine L.val rfl rfl (R.fld rfl) ?_
  refine L.val rfl rfl (R.ldB rfl hB rfl) ?_
  refine L.val rfl rfl (R.lenS rfl) ?_
  refine L.val rfl rfl (R.as rfl) ?_
  refine L.nil ?_
  refine N.seq ?_
  refine G.ret1 rfl rfl ?_
  exact ⟨by rw [hn], rfl⟩

theorem refnum_ok (s : Nat) (l : List UInt8) (e : Int) (y : Int) (w : World) (hB : Blk w s #[.string (str l), .int .i64 e] 224 (0, 0)) (hl : l.length ≤ 70368744177664) : Meets Try.prog 138 [.pointer (some ⟨s, 0, none⟩), .int .i64 y] w (fun v w' => v = .int .i64 (numF l e y).1 ∧ Blk w' s #[.string (str (numF l e y).2.1), .int .i64 (numF l e y).2.2] 224 (0, 0) ∧ Ext [s] w w') := by
  refine Meets.enter Try.func138 rfl 67 rfl (Nat.le_of_ble_eq_true rfl) ?_
  have hB0 := hB
  refine G.seq ?_
  refine G.region ?_
  refine L.val rfl rfl (R.as rfl) ?_
  refine L.nil ?_
  refine N.seq ?_
  refine G.seq ?_
  refine G.seq ?_
  refine G.region ?_
  refine L.val rfl rfl (R.mv rfl) ?_
  refine L.val rfl rfl (R.nilChk rfl) ?_
  refine L.val rfl rfl (R.fld rfl) ?_
  refine L.val rfl rfl (R.ldB rfl hB rfl) ?_
  refine L.val rfl rfl (R.neI rfl rfl) ?_
  refine L.nil ?_
  refine N.seq ?_
  refine G.condP rfl (fun h0 => ?_) (fun h0 => ?_)
  · refine G.seq ?_
    refine G.region ?_
    refine L.val rfl rfl (R.as rfl) ?_
    refine L.nil ?_
    refine N.seq ?_
    refine G.ret1 rfl rfl ?_
    first
      | (rw [numF_err (by assumption)]; exact ⟨rfl, hB0, Ext.refl _ _⟩)
      | (rw [numF_no hno]; exact ⟨rfl, B1, e1⟩)
      | (rw [numF_ok hok]; exact ⟨rfl, B1, e1⟩)
  · obtain rfl : e = 0 := by omega
    refine G.skip ?_
    refine N.seq ?_
    refine G.seq ?_
    refine G.seq ?_
    refine G.region ?_
    refine L.val rfl rfl (R.mv rfl) ?_
    refine L.val rfl rfl (R.lss rfl rfl) ?_
    refine L.val rfl rfl (R.mv rfl) ?_
    refine L.caseP 14 rfl (fun hg3_2 => ?_) (fun hg3_2 => ?_)
    · refine L.pass rfl rfl ?_
      refine L.pass rfl rfl ?_
      first | refine L.val rfl rfl (R.pickT rfl rfl) ?_ | refine L.val rfl rfl (R.pickF rfl rfl) ?_
      refine L.val rfl rfl (R.mv rfl) ?_
      refine L.pass rfl rfl ?_
      refine L.pass rfl rfl ?_
      refine L.pass rfl rfl ?_
      refine L.pass rfl rfl ?_
      refine L.pass rfl rfl ?_
      refine L.pass rfl rfl ?_
      refine L.pass rfl rfl ?_
      first | refine L.val rfl rfl (R.pickT rfl rfl) ?_ | refine L.val rfl rfl (R.pickF rfl rfl) ?_
      refine L.val rfl rfl (R.mv rfl) ?_
      refine L.pass rfl rfl ?_
      refine L.pass rfl rfl ?_
      refine L.pass rfl rfl ?_
      refine L.pass rfl rfl ?_
      refine L.pass rfl rfl ?_
      refine L.pass rfl rfl ?_
      refine L.pass rfl rfl ?_
      refine L.pass rfl rfl ?_
      refine L.pass rfl rfl ?_
      refine L.pass rfl rfl ?_
      first | refine L.val rfl rfl (R.pickT rfl rfl) ?_ | refine L.val rfl rfl (R.pickF rfl rfl) ?_
      refine L.nil ?_
      refine N.seq ?_
      refine G.condT rfl ?_
      have hno : ¬ okN l y := by
        rintro ⟨h1, h2, h3, h4⟩
        first | omega | (have := h4 (by omega); rw [getD_zero (by omega)] at this; omega)
      refine G.seq ?_
      refine G.region ?_
      refine L.val rfl rfl (R.mv rfl) ?_
      refine L.val rfl rfl (R.nilChk rfl) ?_
      refine L.val rfl rfl (R.fld rfl) ?_
      refine L.set rfl (R.st rfl rfl hB (by simp) rfl) ?_
      rintro w1 ⟨e1, hs1, B1⟩
      refine L.nil ?_
      refine N.seq ?_
      refine G.seq ?_
      refine G.region ?_
      refine L.val rfl rfl (R.as rfl) ?_
      refine L.nil ?_
      refine N.seq ?_
      refine G.ret1 rfl rfl ?_
      first
        | (rw [numF_err (by assumption)]; exact ⟨rfl, hB0, Ext.refl _ _⟩)
        | (rw [numF_no hno]; exact ⟨rfl, B1, e1⟩)
        | (rw [numF_ok hok]; exact ⟨rfl, B1, e1⟩)
    · refine L.val rfl rfl (R.mv rfl) ?_
      refine L.val rfl rfl (R.gtr rfl rfl) ?_
      first | refine L.val rfl rfl (R.pickT rfl rfl) ?_ | refine L.val rfl rfl (R.pickF rfl rfl) ?_
      refine L.val rfl rfl (R.mv rfl) ?_
      refine L.caseP 18 rfl (fun hg3_6 => ?_) (fun hg3_6 => ?_)
      · refine L.pass rfl rfl ?_
        refine L.pass rfl rfl ?_
        refine L.pass rfl rfl ?_
        refine L.pass rfl rfl ?_
        refine L.pass rfl rfl ?_
        refine L.pass rfl rfl ?_
        refine L.pass rfl rfl ?_
        first | refine L.val rfl rfl (R.pickT rfl rfl) ?_ | refine L.val rfl rfl (R.pickF rfl rfl) ?_
        refine L.val rfl rfl (R.mv rfl) ?_
        refine L.pass rfl rfl ?_
        refine L.pass rfl rfl ?_
        refine L.pass rfl rfl ?_
        refine L.pass rfl rfl ?_
        refine L.pass rfl rfl ?_
        refine L.pass rfl rfl ?_
        refine L.pass rfl rfl ?_
        refine L.pass rfl rfl ?_
        refine L.pass rfl rfl ?_
        refine L.pass rfl rfl ?_
        first | refine L.val rfl rfl (R.pickT rfl rfl) ?_ | refine L.val rfl rfl (R.pickF rfl rfl) ?_
        refine L.nil ?_
        refine N.seq ?_
        refine G.condT rfl ?_
        have hno : ¬ okN l y := by
          rintro ⟨h1, h2, h3, h4⟩
          first | omega | (have := h4 (by omega); rw [getD_zero (by omega)] at this; omega)
        refine G.seq ?_
        refine G.region ?_
        refine L.val rfl rfl (R.mv rfl) ?_
        refine L.val rfl rfl (R.nilChk rfl) ?_
        refine L.val rfl rfl (R.fld rfl) ?_
        refine L.set rfl (R.st rfl rfl hB (by simp) rfl) ?_
        rintro w1 ⟨e1, hs1, B1⟩
        refine L.nil ?_
        refine N.seq ?_
        refine G.seq ?_
        refine G.region ?_
        refine L.val rfl rfl (R.as rfl) ?_
        refine L.nil ?_
        refine N.seq ?_
        refine G.ret1 rfl rfl ?_
        first
          | (rw [numF_err (by assumption)]; exact ⟨rfl, hB0, Ext.refl _ _⟩)
          | (rw [numF_no hno]; exact ⟨rfl, B1, e1⟩)
          | (rw [numF_ok hok]; exact ⟨rfl, B1, e1⟩)
      · refine L.val rfl rfl (R.mv rfl) ?_
        refine L.val rfl rfl (R.nilChk rfl) ?_
        refine L.val rfl rfl (R.fld rfl) ?_
        refine L.val rfl rfl (R.ldB rfl hB rfl) ?_
        refine L.val rfl rfl (R.lenStr rfl) ?_
        refine L.be 23 rfl (congrArg (Value.int .i64) (congrArg Nat.cast (str_size l))) ?_
        refine L.val rfl rfl (R.mv rfl) ?_
        refine L.val rfl rfl (R.lss rfl rfl) ?_
        first | refine L.val rfl rfl (R.pickT rfl rfl) ?_ | refine L.val rfl rfl (R.pickF rfl rfl) ?_
        refine L.val rfl rfl (R.mv rfl) ?_
        refine L.caseP 27 rfl (fun hg3_15 => ?_) (fun hg3_15 => ?_)
        · refine L.pass rfl rfl ?_
          refine L.pass rfl rfl ?_
          refine L.pass rfl rfl ?_
          refine L.pass rfl rfl ?_
          refine L.pass rfl rfl ?_
          refine L.pass rfl rfl ?_
          refine L.pass rfl rfl ?_
          refine L.pass rfl rfl ?_
          refine L.pass rfl rfl ?_
          refine L.pass rfl rfl ?_
          first | refine L.val rfl rfl (R.pickT rfl rfl) ?_ | refine L.val rfl rfl (R.pickF rfl rfl) ?_
          refine L.nil ?_
          refine N.seq ?_
          refine G.condT rfl ?_
          have hno : ¬ okN l y := by
            rintro ⟨h1, h2, h3, h4⟩
            first | omega | (have := h4 (by omega); rw [getD_zero (by omega)] at this; omega)
          refine G.seq ?_
          refine G.region ?_
          refine L.val rfl rfl (R.mv rfl) ?_
          refine L.val rfl rfl (R.nilChk rfl) ?_
          refine L.val rfl rfl (R.fld rfl) ?_
          refine L.set rfl (R.st rfl rfl hB (by simp) rfl) ?_
          rintro w1 ⟨e1, hs1, B1⟩
          refine L.nil ?_
          refine N.seq ?_
          refine G.seq ?_
          refine G.region ?_
          refine L.val rfl rfl (R.as rfl) ?_
          refine L.nil ?_
          refine N.seq ?_
          refine G.ret1 rfl rfl ?_
          first
            | (rw [numF_err (by assumption)]; exact ⟨rfl, hB0, Ext.refl _ _⟩)
            | (rw [numF_no hno]; exact ⟨rfl, B1, e1⟩)
            | (rw [numF_ok hok]; exact ⟨rfl, B1, e1⟩)
        · refine L.val rfl rfl (R.mv rfl) ?_
          refine L.val rfl rfl (R.eqI rfl rfl) ?_
          refine L.val rfl rfl (R.mv rfl) ?_
          refine L.caseP 30 rfl (fun hg3_18 => ?_) (fun hg3_18 => ?_)
          · refine L.val rfl rfl (R.mv rfl) ?_
            refine L.val rfl rfl (R.nilChk rfl) ?_
            refine L.val rfl rfl (R.fld rfl) ?_
            refine L.val rfl rfl (R.ldB rfl hB rfl) ?_
            refine L.val rfl rfl (R.idxStr rfl rfl (by omega) (List.getElem?_eq_getElem (i := 0) (by omega))) ?_
            refine L.val rfl rfl (R.gtr rfl rfl) ?_
            first | refine L.val rfl rfl (R.pickT rfl rfl) ?_ | refine L.val rfl rfl (R.pickF rfl rfl) ?_
            first | refine L.val rfl rfl (R.pickT rfl rfl) ?_ | refine L.val rfl rfl (R.pickF rfl rfl) ?_
            refine L.nil ?_
            refine N.seq ?_
            refine G.condP rfl (fun h1 => ?_) (fun h1 => ?_)
            · have hno : ¬ okN l y := by
                rintro ⟨h1, h2, h3, h4⟩
                first | omega | (have := h4 (by omega); rw [getD_zero (by omega)] at this; omega)
              refine G.seq ?_
              refine G.region ?_
              refine L.val rfl rfl (R.mv rfl) ?_
              refine L.val rfl rfl (R.nilChk rfl) ?_
              refine L.val rfl rfl (R.fld rfl) ?_
              refine L.set rfl (R.st rfl rfl hB (by simp) rfl) ?_
              rintro w1 ⟨e1, hs1, B1⟩
              refine L.nil ?_
              refine N.seq ?_
              refine G.seq ?_
              refine G.region ?_
              refine L.val rfl rfl (R.as rfl) ?_
              refine L.nil ?_
              refine N.seq ?_
              refine G.ret1 rfl rfl ?_
              first
                | (rw [numF_err (by assumption)]; exact ⟨rfl, hB0, Ext.refl _ _⟩)
                | (rw [numF_no hno]; exact ⟨rfl, B1, e1⟩)
                | (rw [numF_ok hok]; exact ⟨rfl, B1, e1⟩)
            · have hok : okN l y := by
                refine ⟨by omega, by omega, by omega, fun h8 => ?_⟩
                first | omega | (rw [getD_zero (by omega)]; omega)
              have htl := okN_lt hok
              have hy0 : y = (y.toNat : Int) := by omega
              refine G.skip ?_
              refine N.seq ?_
              refine G.seq ?_
              refine G.region ?_
              refine L.val rfl rfl (R.as rfl) ?_
              refine L.nil ?_
              refine N.seq ?_
              refine G.seq ?_
              refine G.seq ?_
              refine G.region ?_
              refine L.val rfl rfl (R.as rfl) ?_
              refine L.nil ?_
              refine N.seq ?_
              refine G.block ?_
              refine G.loop (X := Nat) (fun k => [(0, .pointer (some ⟨s, 0, none⟩)), (1, .int .i64 y), (5, .int .i64 (num (l.take k))), (6, .int .i64 (k : Nat))]) (fun k w' => k ≤ y.toNat ∧ w' = w) (fun k => y.toNat - k) (0) (Sub.cons rfl (Sub.cons rfl (Sub.cons rfl (Sub.cons rfl (Sub.nil _))))) ⟨by omega, rfl⟩ ?_
              rintro k w' ⟨hk, hw⟩
              obtain rfl := hw.symm
              refine G.seq ?_
              refine G.seq ?_
              refine G.region ?_
              refine L.val rfl rfl (R.mv rfl) ?_
              refine L.val rfl rfl (R.mv rfl) ?_
              refine L.val rfl rfl (R.lss rfl rfl) ?_
              refine L.nil ?_
              refine N.seq ?_
              refine G.condP rfl (fun h2 => ?_) (fun h2 => ?_)
              · have hns := num_step (l := l) (k := k) (m := y.toNat) (by omega) (by omega) htl
                have hl8 := lt_u8 (l[k]'(by omega))
                refine G.skip ?_
                refine N.seq ?_
                refine G.seq ?_
                refine G.block ?_
                refine G.region ?_
                refine L.val rfl rfl (R.mv rfl) ?_
                refine L.val rfl rfl (R.mul rfl rfl (by omega)) ?_
                refine L.val rfl rfl (R.mv rfl) ?_
                refine L.val rfl rfl (R.nilChk rfl) ?_
                refine L.val rfl rfl (R.fld rfl) ?_
                refine L.val rfl rfl (R.ldB rfl hB rfl) ?_
                refine L.val rfl rfl (R.mv rfl) ?_
                refine L.val rfl rfl (R.idxStr rfl rfl (by omega) (List.getElem?_eq_getElem (i := k) (by omega))) ?_
                refine L.val rfl rfl (R.conv rfl _ (wrap_i64 (by omega))) ?_
                refine L.val rfl rfl (R.add rfl rfl (by omega)) ?_
                refine L.val rfl rfl (R.as rfl) ?_
                refine L.be 5 rfl (congrArg (Value.int .i64) (show _ = ((num (l.take (k + 1)) : Nat) : Int) by rw [num_take_succ l (by omega)]; omega)) ?_
                refine L.nil ?_
                refine N.block ?_
                refine N.seq ?_
                refine G.region ?_
                refine L.val rfl rfl (R.mv rfl) ?_
                refine L.val rfl rfl (R.add rfl rfl (by omega)) ?_
                refine L.val rfl rfl (R.as rfl) ?_
                refine L.nil ?_
                exact N.again (k + 1) (by omega) (Sub.cons rfl (Sub.cons rfl (Sub.cons rfl (Sub.cons rfl (Sub.nil _))))) ⟨by omega, rfl⟩
              · obtain rfl : k = y.toNat := by omega
                refine G.exit _ rfl ?_
                refine N.seq ?_
                refine G.seq ?_
                refine G.region ?_
                refine L.val rfl rfl (R.mv rfl) ?_
                refine L.val rfl rfl (R.mv rfl) ?_
                refine L.val rfl rfl (R.nilChk rfl) ?_
                refine L.val rfl rfl (R.fld rfl) ?_
                refine L.val rfl rfl (R.ldB rfl hB rfl) ?_
                refine L.val rfl rfl (R.mv rfl) ?_
                refine L.val rfl rfl (R.slStrL rfl rfl (by omega) (by omega)) ?_
                refine L.val rfl rfl (R.nilChk rfl) ?_
                refine L.val rfl rfl (R.fld rfl) ?_
                refine L.set rfl (R.st rfl rfl hB (by simp) rfl) ?_
                rintro w1 ⟨e1, hs1, B1⟩
                refine L.nil ?_
                refine N.seq ?_
                refine G.seq ?_
                refine G.region ?_
                refine L.val rfl rfl (R.mv rfl) ?_
                refine L.val rfl rfl (R.as rfl) ?_
                refine L.nil ?_
                refine N.seq ?_
                refine G.ret1 rfl rfl ?_
                first
                  | (rw [numF_err (by assumption)]; exact ⟨rfl, hB0, Ext.refl _ _⟩)
                  | (rw [numF_no hno]; exact ⟨rfl, B1, e1⟩)
                  | (rw [numF_ok hok]; exact ⟨rfl, B1, e1⟩)
          · refine L.pass rfl rfl ?_
            refine L.pass rfl rfl ?_
            refine L.pass rfl rfl ?_
            refine L.pass rfl rfl ?_
            refine L.pass rfl rfl ?_
            refine L.pass rfl rfl ?_
            first | refine L.val rfl rfl (R.pickT rfl rfl) ?_ | refine L.val rfl rfl (R.pickF rfl rfl) ?_
            first | refine L.val rfl rfl (R.pickT rfl rfl) ?_ | refine L.val rfl rfl (R.pickF rfl rfl) ?_
            refine L.nil ?_
            refine N.seq ?_
            refine G.condF rfl ?_
            have hok : okN l y := by
              refine ⟨by omega, by omega, by omega, fun h8 => ?_⟩
              first | omega | (rw [getD_zero (by omega)]; omega)
            have htl := okN_lt hok
            have hy0 : y = (y.toNat : Int) := by omega
            refine G.skip ?_
            refine N.seq ?_
            refine G.seq ?_
            refine G.region ?_
            refine L.val rfl rfl (R.as rfl) ?_
            refine L.nil ?_
            refine N.seq ?_
            refine G.seq ?_
            refine G.seq ?_
            refine G.region ?_
            refine L.val rfl rfl (R.as rfl) ?_
            refine L.nil ?_
            refine N.seq ?_
            refine G.block ?_
            refine G.loop (X := Nat) (fun k => [(0, .pointer (some ⟨s, 0, none⟩)), (1, .int .i64 y), (5, .int .i64 (num (l.take k))), (6, .int .i64 (k : Nat))]) (fun k w' => k ≤ y.toNat ∧ w' = w) (fun k => y.toNat - k) (0) (Sub.cons rfl (Sub.cons rfl (Sub.cons rfl (Sub.cons rfl (Sub.nil _))))) ⟨by omega, rfl⟩ ?_
            rintro k w' ⟨hk, hw⟩
            obtain rfl := hw.symm
            refine G.seq ?_
            refine G.seq ?_
            refine G.region ?_
            refine L.val rfl rfl (R.mv rfl) ?_
            refine L.val rfl rfl (R.mv rfl) ?_
            refine L.val rfl rfl (R.lss rfl rfl) ?_
            refine L.nil ?_
            refine N.seq ?_
            refine G.condP rfl (fun h2 => ?_) (fun h2 => ?_)
            · have hns := num_step (l := l) (k := k) (m := y.toNat) (by omega) (by omega) htl
              have hl8 := lt_u8 (l[k]'(by omega))
              refine G.skip ?_
              refine N.seq ?_
              refine G.seq ?_
              refine G.block ?_
              refine G.region ?_
              refine L.val rfl rfl (R.mv rfl) ?_
              refine L.val rfl rfl (R.mul rfl rfl (by omega)) ?_
              refine L.val rfl rfl (R.mv rfl) ?_
              refine L.val rfl rfl (R.nilChk rfl) ?_
              refine L.val rfl rfl (R.fld rfl) ?_
              refine L.val rfl rfl (R.ldB rfl hB rfl) ?_
              refine L.val rfl rfl (R.mv rfl) ?_
              refine L.val rfl rfl (R.idxStr rfl rfl (by omega) (List.getElem?_eq_getElem (i := k) (by omega))) ?_
              refine L.val rfl rfl (R.conv rfl _ (wrap_i64 (by omega))) ?_
              refine L.val rfl rfl (R.add rfl rfl (by omega)) ?_
              refine L.val rfl rfl (R.as rfl) ?_
              refine L.be 5 rfl (congrArg (Value.int .i64) (show _ = ((num (l.take (k + 1)) : Nat) : Int) by rw [num_take_succ l (by omega)]; omega)) ?_
              refine L.nil ?_
              refine N.block ?_
              refine N.seq ?_
              refine G.region ?_
              refine L.val rfl rfl (R.mv rfl) ?_
              refine L.val rfl rfl (R.add rfl rfl (by omega)) ?_
              refine L.val rfl rfl (R.as rfl) ?_
              refine L.nil ?_
              exact N.again (k + 1) (by omega) (Sub.cons rfl (Sub.cons rfl (Sub.cons rfl (Sub.cons rfl (Sub.nil _))))) ⟨by omega, rfl⟩
            · obtain rfl : k = y.toNat := by omega
              refine G.exit _ rfl ?_
              refine N.seq ?_
              refine G.seq ?_
              refine G.region ?_
              refine L.val rfl rfl (R.mv rfl) ?_
              refine L.val rfl rfl (R.mv rfl) ?_
              refine L.val rfl rfl (R.nilChk rfl) ?_
              refine L.val rfl rfl (R.fld rfl) ?_
              refine L.val rfl rfl (R.ldB rfl hB rfl) ?_
              refine L.val rfl rfl (R.mv rfl) ?_
              refine L.val rfl rfl (R.slStrL rfl rfl (by omega) (by omega)) ?_
              refine L.val rfl rfl (R.nilChk rfl) ?_
              refine L.val rfl rfl (R.fld rfl) ?_
              refine L.set rfl (R.st rfl rfl hB (by simp) rfl) ?_
              rintro w1 ⟨e1, hs1, B1⟩
              refine L.nil ?_
              refine N.seq ?_
              refine G.seq ?_
              refine G.region ?_
              refine L.val rfl rfl (R.mv rfl) ?_
              refine L.val rfl rfl (R.as rfl) ?_
              refine L.nil ?_
              refine N.seq ?_
              refine G.ret1 rfl rfl ?_
              first
                | (rw [numF_err (by assumption)]; exact ⟨rfl, hB0, Ext.refl _ _⟩)
                | (rw [numF_no hno]; exact ⟨rfl, B1, e1⟩)
                | (rw [numF_ok hok]; exact ⟨rfl, B1, e1⟩)

theorem reftxt_ok (s : Nat) (l : List UInt8) (e : Int) (y : Int) (w : World) (hB : Blk w s #[.string (str l), .int .i64 e] 224 (0, 0)) (hl : l.length ≤ 70368744177664) : Meets Try.prog 192 [.pointer (some ⟨s, 0, none⟩), .int .i64 y] w (fun v w' => v = .string (str (txtF l e y).1) ∧ Blk w' s #[.string (str (txtF l e y).2.1), .int .i64 (txtF l e y).2.2] 224 (0, 0) ∧ Ext [s] w w') := by
  refine Meets.enter Try.func192 rfl 54 rfl (Nat.le_of_ble_eq_true rfl) ?_
  refine G.seq ?_
  refine G.region ?_
  refine L.val rfl rfl (R.as rfl) ?_
  refine L.nil ?_
  refine N.seq ?_
  refine G.seq ?_
  refine G.region ?_
  refine L.val rfl rfl (R.mv rfl) ?_
  refine L.val rfl rfl (R.nilChk rfl) ?_
  refine L.val rfl rfl (R.fld rfl) ?_
  refine L.val rfl rfl (R.ldB rfl hB rfl) ?_
  refine L.val rfl rfl (R.as rfl) ?_
  refine L.nil ?_
  refine N.seq ?_
  refine G.seq ?_
  refine G.region ?_
  refine L.val rfl rfl (R.mv rfl) ?_
  refine L.callF rfl rfl rfl go138 (refnum_ok _ _ _ _ _ hB hl) ?_
  rintro _ w1 ⟨rfl, hB1, Gs⟩
  obtain ⟨m2, l2, e2, hq⟩ : ∃ m l' e', numF l e 2 = (m, l', e') := ⟨_, _, _, rfl⟩
  rw [hq] at hB1
  dsimp only at hB1
  refine L.be 13 rfl (show _ = Value.int .i64 (m2 : Int) by rw [hq]) ?_
  refine L.val rfl rfl (R.as rfl) ?_
  refine L.nil ?_
  refine N.seq ?_
  refine G.seq ?_
  refine G.seq ?_
  refine G.region ?_
  refine L.val rfl rfl (R.mv rfl) ?_
  refine L.val rfl rfl (R.nilChk rfl) ?_
  refine L.val rfl rfl (R.fld rfl) ?_
  refine L.val rfl rfl (R.ldB rfl hB1 rfl) ?_
  refine L.val rfl rfl (R.neI rfl rfl) ?_
  refine L.nil ?_
  refine N.seq ?_
  refine G.condP rfl (fun h0 => ?_) (fun h0 => ?_)
  · refine G.seq ?_
    refine G.region ?_
    refine L.val rfl rfl (R.as rfl) ?_
    refine L.nil ?_
    refine N.seq ?_
    refine G.ret1 rfl rfl ?_
    first
      | (rw [txtF_first hq (by assumption)]; exact ⟨rfl, hB1, Gs⟩)
      | (rw [txtF_no hq (by omega)]; exact ⟨rfl, B3, Gs⟩)
      | (rw [txtF_yes hq (by omega) (by omega) (by omega)]; exact ⟨rfl, B2, Gs⟩)
  · obtain rfl : e2 = 0 := by omega
    obtain rfl := numF_zero hq
    have htwo := numF_two hq
    have hl2 : l2.length ≤ 70368744177664 := by rcases htwo with ⟨_, _, _, rfl⟩ | ⟨_, _, _, rfl⟩ <;> (try rw [List.length_drop]) <;> omega
    refine G.skip ?_
    refine N.seq ?_
    refine G.seq ?_
    refine G.seq ?_
    refine G.region ?_
    refine L.val rfl rfl (R.mv rfl) ?_
    refine L.val rfl rfl (R.mv rfl) ?_
    refine L.val rfl rfl (R.gtr rfl rfl) ?_
    refine L.val rfl rfl (R.mv rfl) ?_
    refine L.caseP 22 rfl (fun hg5_3 => ?_) (fun hg5_3 => ?_)
    · refine L.pass rfl rfl ?_
      refine L.pass rfl rfl ?_
      refine L.pass rfl rfl ?_
      refine L.pass rfl rfl ?_
      refine L.pass rfl rfl ?_
      refine L.pass rfl rfl ?_
      refine L.pass rfl rfl ?_
      first | refine L.val rfl rfl (R.pickT rfl rfl) ?_ | refine L.val rfl rfl (R.pickF rfl rfl) ?_
      refine L.nil ?_
      refine N.seq ?_
      refine G.condT rfl ?_
      refine G.seq ?_
      refine G.region ?_
      refine L.val rfl rfl (R.mv rfl) ?_
      refine L.val rfl rfl (R.mv rfl) ?_
      refine L.val rfl rfl (R.nilChk rfl) ?_
      refine L.val rfl rfl (R.fld rfl) ?_
      refine L.set rfl (R.st rfl rfl hB1 (by simp) rfl) ?_
      rintro w2 ⟨e3, hs3, B2⟩
      replace Gs := Gs.trans1 e3
      refine L.nil ?_
      refine N.seq ?_
      refine G.seq ?_
      refine G.region ?_
      refine L.val rfl rfl (R.mv rfl) ?_
      refine L.val rfl rfl (R.nilChk rfl) ?_
      refine L.val rfl rfl (R.fld rfl) ?_
      refine L.set rfl (R.st rfl rfl B2 (by simp) rfl) ?_
      rintro w3 ⟨e4, hs4, B3⟩
      replace Gs := Gs.trans1 e4
      refine L.nil ?_
      refine N.seq ?_
      refine G.seq ?_
      refine G.region ?_
      refine L.val rfl rfl (R.as rfl) ?_
      refine L.nil ?_
      refine N.seq ?_
      refine G.ret1 rfl rfl ?_
      first
        | (rw [txtF_first hq (by assumption)]; exact ⟨rfl, hB1, Gs⟩)
        | (rw [txtF_no hq (by omega)]; exact ⟨rfl, B3, Gs⟩)
        | (rw [txtF_yes hq (by omega) (by omega) (by omega)]; exact ⟨rfl, B2, Gs⟩)
    · refine L.val rfl rfl (R.mv rfl) ?_
      refine L.val rfl rfl (R.mv rfl) ?_
      refine L.val rfl rfl (R.nilChk rfl) ?_
      refine L.val rfl rfl (R.fld rfl) ?_
      refine L.val rfl rfl (R.ldB rfl hB1 rfl) ?_
      refine L.val rfl rfl (R.lenStr rfl) ?_
      refine L.be 28 rfl (congrArg (Value.int .i64) (congrArg Nat.cast (str_size l2))) ?_
      refine L.val rfl rfl (R.gtr rfl rfl) ?_
      first | refine L.val rfl rfl (R.pickT rfl rfl) ?_ | refine L.val rfl rfl (R.pickF rfl rfl) ?_
      refine L.nil ?_
      refine N.seq ?_
      refine G.condP rfl (fun h1 => ?_) (fun h1 => ?_)
      · refine G.seq ?_
        refine G.region ?_
        refine L.val rfl rfl (R.mv rfl) ?_
        refine L.val rfl rfl (R.mv rfl) ?_
        refine L.val rfl rfl (R.nilChk rfl) ?_
        refine L.val rfl rfl (R.fld rfl) ?_
        refine L.set rfl (R.st rfl rfl hB1 (by simp) rfl) ?_
        rintro w2 ⟨e3, hs3, B2⟩
        replace Gs := Gs.trans1 e3
        refine L.nil ?_
        refine N.seq ?_
        refine G.seq ?_
        refine G.region ?_
        refine L.val rfl rfl (R.mv rfl) ?_
        refine L.val rfl rfl (R.nilChk rfl) ?_
        refine L.val rfl rfl (R.fld rfl) ?_
        refine L.set rfl (R.st rfl rfl B2 (by simp) rfl) ?_
        rintro w3 ⟨e4, hs4, B3⟩
        replace Gs := Gs.trans1 e4
        refine L.nil ?_
        refine N.seq ?_
        refine G.seq ?_
        refine G.region ?_
        refine L.val rfl rfl (R.as rfl) ?_
        refine L.nil ?_
        refine N.seq ?_
        refine G.ret1 rfl rfl ?_
        first
          | (rw [txtF_first hq (by assumption)]; exact ⟨rfl, hB1, Gs⟩)
          | (rw [txtF_no hq (by omega)]; exact ⟨rfl, B3, Gs⟩)
          | (rw [txtF_yes hq (by omega) (by omega) (by omega)]; exact ⟨rfl, B2, Gs⟩)
      · refine G.skip ?_
        refine N.seq ?_
        refine G.seq ?_
        refine G.region ?_
        refine L.val rfl rfl (R.mv rfl) ?_
        refine L.val rfl rfl (R.nilChk rfl) ?_
        refine L.val rfl rfl (R.fld rfl) ?_
        refine L.val rfl rfl (R.ldB rfl hB1 rfl) ?_
        refine L.val rfl rfl (R.mv rfl) ?_
        refine L.val rfl rfl (R.slStrH rfl rfl (by omega) (by omega)) ?_
        refine L.val rfl rfl (R.as rfl) ?_
        refine L.nil ?_
        refine N.seq ?_
        refine G.seq ?_
        refine G.region ?_
        refine L.val rfl rfl (R.mv rfl) ?_
        refine L.val rfl rfl (R.mv rfl) ?_
        refine L.val rfl rfl (R.nilChk rfl) ?_
        refine L.val rfl rfl (R.fld rfl) ?_
        refine L.val rfl rfl (R.ldB rfl hB1 rfl) ?_
        refine L.val rfl rfl (R.mv rfl) ?_
        refine L.val rfl rfl (R.slStrL rfl rfl (by omega) (by omega)) ?_
        refine L.val rfl rfl (R.nilChk rfl) ?_
        refine L.val rfl rfl (R.fld rfl) ?_
        refine L.set rfl (R.st rfl rfl hB1 (by simp) rfl) ?_
        rintro w2 ⟨e3, hs3, B2⟩
        replace Gs := Gs.trans1 e3
        refine L.nil ?_
        refine N.seq ?_
        refine G.seq ?_
        refine G.region ?_
        refine L.val rfl rfl (R.mv rfl) ?_
        refine L.val rfl rfl (R.as rfl) ?_
        refine L.nil ?_
        refine N.seq ?_
        refine G.ret1 rfl rfl ?_
        first
          | (rw [txtF_first hq (by assumption)]; exact ⟨rfl, hB1, Gs⟩)
          | (rw [txtF_no hq (by omega)]; exact ⟨rfl, B3, Gs⟩)
          | (rw [txtF_yes hq (by omega) (by omega) (by omega)]; exact ⟨rfl, B2, Gs⟩)

end Go.Proofs.Ythpolibakkmmeaa
