/-
  The walks of package dev.
-/
import Derived.Test.YthpolibakkmmeaaDevPure
import Derived.Test.YthpolibakkmmeaaStd3
import Derived.Test.YthpolibakkmmeaaC9
set_option linter.unusedVariables false
set_option linter.unusedSimpArgs false
namespace Go.Proofs.Ythpolibakkmmeaa
open Go Brv Brv.Image Brv.Dev
def waitC (x : Nat × List UInt8) : List Value := .int .i64 (x.1 : Int) :: vbs x.2
theorem waitC_length {x : Nat × List UInt8} (h : x.2.length = 64) : (waitC x).length = 65 := by simp [waitC, vbs_length, h]
theorem waitC_one (x : Nat × List UInt8) : ∀ u ∈ waitC x, u.oneCell' = true := by
  intro u hu
  rcases List.mem_cons.1 hu with rfl | hu
  · rfl
  · exact vbs_one _ u hu
def waitsC (wt : List (Nat × List UInt8)) : List Value := (wt.map waitC).flatten
theorem waitsC_append (a b : List (Nat × List UInt8)) : waitsC (a ++ b) = waitsC a ++ waitsC b := by simp [waitsC]
theorem waitsC_one (wt : List (Nat × List UInt8)) : waitsC [] = [] := rfl
structure DevL (w : World) (d : Nat) (v : DevV) (sz : Nat) (sa : Option Addr) (sc : Nat) (wa : Option Addr) (wc : Nat) (Ms Mw : List Nat) : Prop where
  hd : Blk w d #[.slice sa v.stay.length sc, .slice wa v.wt.length wc, .int .i64 v.calls, .int .i64 v.left, .bool v.off] 234 (0, 0)
  wf : v.Wf sz
  hN : 1 ≤ sz ∧ sz ≤ 4096
  st : Own w 5 1 sa v.stay.length sc (vbs v.stay) Ms
  wt : Own w 238 65 wa v.wt.length wc (waitsC v.wt) Mw
theorem DevL.ext {w w' : World} {d : Nat} {v : DevV} {sz : Nat} {sa : Option Addr} {sc : Nat} {wa : Option Addr} {wc : Nat} {Ms Mw M : List Nat} (h : DevL w d v sz sa sc wa wc Ms Mw) (he : Ext M w w') (hM : ∀ y ∈ d :: (Ms ++ Mw), y ∉ M) : DevL w' d v sz sa sc wa wc Ms Mw :=
  ⟨h.hd.ext he (hM d (by simp)), h.wf, h.hN, h.st.ext he (fun g hg => hM g (by simp [hg])), h.wt.ext he (fun g hg => hM g (by simp [hg]))⟩
theorem DevL.ext0 {w w' : World} {d : Nat} {v : DevV} {sz : Nat} {sa : Option Addr} {sc : Nat} {wa : Option Addr} {wc : Nat} {Ms Mw : List Nat} (h : DevL w d v sz sa sc wa wc Ms Mw) (he : Ext [] w w') : DevL w' d v sz sa sc wa wc Ms Mw := h.ext he (by simp)
theorem DevL.tab {w : World} {d : Nat} {v : DevV} {sz : Nat} {sa : Option Addr} {sc : Nat} {wa : Option Addr} {wc : Nat} {Ms Mw : List Nat} (h : DevL w d v sz sa sc wa wc Ms Mw) : Tab w wa v.wt.length 65 (v.wt.map waitC) :=
  ⟨h.wt.cells, by rw [List.length_map], fun vs hv => by obtain ⟨x, hx, rfl⟩ := List.mem_map.1 hv; exact waitC_length (h.wf.wt x hx).2⟩
theorem DevL.lt {w : World} {d : Nat} {v : DevV} {sz : Nat} {sa : Option Addr} {sc : Nat} {wa : Option Addr} {wc : Nat} {Ms Mw : List Nat} (h : DevL w d v sz sa sc wa wc Ms Mw) : ∀ y ∈ d :: (Ms ++ Mw), y < w.heap.size := by
  intro y hy
  rcases List.mem_cons.1 hy with rfl | hy
  · exact h.hd.lt
  · exact (List.mem_append.1 hy).elim (h.st.lt y) (h.wt.lt y)
theorem DevL.apart {w : World} {d : Nat} {v : DevV} {sz : Nat} {sa : Option Addr} {sc : Nat} {wa : Option Addr} {wc : Nat} {Ms Mw : List Nat} (h : DevL w d v sz sa sc wa wc Ms Mw) : d ∉ Ms ∧ d ∉ Mw ∧ (∀ g ∈ Ms, g ∉ Mw) :=
  ⟨fun hm => by obtain ⟨_, hb⟩ := h.st.typ d hm; exact h.hd.ne hb (by decide) rfl, fun hm => by obtain ⟨_, hb⟩ := h.wt.typ d hm; exact h.hd.ne hb (by decide) rfl,
    fun g hg hm => by obtain ⟨_, hb⟩ := h.st.typ g hg; obtain ⟨_, hb2⟩ := h.wt.typ g hm; exact hb.ne hb2 (by decide) rfl⟩
/-- A device at d; its blocks. -/
def DevAt (w : World) (d : Nat) (v : DevV) (sz : Nat) (S : List Nat) : Prop := ∃ sa sc wa wc Ms Mw, DevL w d v sz sa sc wa wc Ms Mw ∧ S = d :: (Ms ++ Mw)
theorem DevAt.ext {w w' : World} {d : Nat} {v : DevV} {sz : Nat} {S M : List Nat} (h : DevAt w d v sz S) (he : Ext M w w') (hM : ∀ y ∈ S, y ∉ M) : DevAt w' d v sz S := by
  obtain ⟨sa, sc, wa, wc, Ms, Mw, D, rfl⟩ := h
  exact ⟨sa, sc, wa, wc, Ms, Mw, D.ext he hM, rfl⟩
theorem DevAt.ext0 {w w' : World} {d : Nat} {v : DevV} {sz : Nat} {S : List Nat} (h : DevAt w d v sz S) (he : Ext [] w w') : DevAt w' d v sz S := h.ext he (by simp)
theorem DevAt.lt {w : World} {d : Nat} {v : DevV} {sz : Nat} {S : List Nat} (h : DevAt w d v sz S) : ∀ y ∈ S, y < w.heap.size := by
  obtain ⟨sa, sc, wa, wc, Ms, Mw, D, rfl⟩ := h
  exact D.lt
theorem DevAt.wf {w : World} {d : Nat} {v : DevV} {sz : Nat} {S : List Nat} (h : DevAt w d v sz S) : v.Wf sz ∧ 1 ≤ sz ∧ sz ≤ 4096 := by
  obtain ⟨sa, sc, wa, wc, Ms, Mw, D, rfl⟩ := h
  exact ⟨D.wf, D.hN⟩

theorem dnew_ok (n : Nat) (w : World) (h1 : 1 ≤ n) (h2 : n ≤ 4096) : Meets Try.prog 78 [.int .i64 (n : Int)] w (fun v w' => ∃ d S, v = .tuple #[ptr d, .int .i64 0] ∧ Ext [] w w' ∧ DevAt w' d (newV n) n S ∧ ∀ g ∈ S, w.heap.size ≤ g) := by
  refine Meets.enter Try.func78 rfl 15 rfl (Nat.le_of_ble_eq_true rfl) ?_
  have E := Ext.refl [] w
  refine G.seq ?_
  refine G.region ?_
  refine L.val rfl rfl (R.as rfl) ?_
  refine L.val rfl rfl (R.as rfl) ?_
  refine L.nil ?_
  refine N.seq ?_
  refine G.seq ?_
  refine G.seq ?_
  refine G.region ?_
  refine L.val rfl rfl (R.mv rfl) ?_
  refine L.val rfl rfl (R.lss rfl rfl) ?_
  refine L.val rfl rfl (R.mv rfl) ?_
  refine L.caseP 6 rfl (fun hg1_2 => ?_) (fun hg1_2 => ?_)
  · exfalso; omega
  · refine L.val rfl rfl (R.mv rfl) ?_
    refine L.val rfl rfl (R.gtr rfl rfl) ?_
    first | refine L.val rfl rfl (R.pickT rfl rfl) ?_ | refine L.val rfl rfl (R.pickF rfl rfl) ?_
    refine L.nil ?_
    refine N.seq ?_
    refine G.condP rfl (fun h0 => ?_) (fun h0 => ?_)
    · exfalso; omega
    · refine G.skip ?_
      refine N.seq ?_
      refine G.seq ?_
      refine G.region ?_
      refine L.val rfl rfl (R.mv rfl) ?_
      refine L.val rfl rfl (R.mul rfl rfl (by omega)) ?_
      refine L.do rfl rfl (R.make rfl rfl (by omega) (by omega) (by omega) (by omega)) ?_
      rintro _ w1 ⟨b12, rfl, hb12, hs1, e1, B12⟩
      replace E := E.trans0 e1
      obtain ⟨cs, hcs⟩ : ∃ cs : Array Value, cs = madeCells (Value.int .u8 0).cells (((n : Int) * 64).toNat * 1) := ⟨_, rfl⟩
      rw [← hcs] at B12
      have hcl : cs.toList = vbs (List.replicate (64 * n) 0) := by rw [hcs, show ((n : Int) * 64).toNat * 1 = 64 * n by omega]; exact madeCells_bytes _
      have hcz : cs.size = 64 * n := by rw [← Array.length_toList, hcl, vbs_length, List.length_replicate]
      refine L.be 12 rfl (show _ = Value.slice (some ⟨b12, 0, none⟩) (64 * n) (64 * n) by rw [show ((n : Int) * 64).toNat = 64 * n by omega]) ?_
      refine L.val rfl rfl (R.build (cs := #[.slice (some ⟨b12, 0, none⟩) (64 * n) (64 * n), .slice none 0 0, .int .i64 0, .int .i64 (-1), .bool false]) rfl rfl) ?_
      refine L.do rfl rfl (R.box rfl) ?_
      rintro _ w2 ⟨d, rfl, hd, hs2, e2, B2⟩
      replace E := E.trans0 e2
      have o1 := Own.blk (n := 64 * n) (size := 1) (B12.ext0 e2) (by omega) (by simp [maxLen]; omega)
      rw [hcl] at o1
      refine L.val rfl rfl (R.as rfl) ?_
      refine L.val rfl rfl (R.as rfl) ?_
      refine L.nil ?_
      refine N.seq ?_
      refine G.ret2 rfl rfl rfl ?_
      exact ⟨d, _, rfl, E, ⟨some ⟨b12, 0, none⟩, 64 * n, none, 0, [b12], [], ⟨by simpa [newV, Value.cells] using B2, newV_wf n, ⟨h1, h2⟩, by simpa [newV] using o1, Own.nil _ _ _⟩, rfl⟩, by intro g hg; simp at hg; omega⟩

theorem dnew_err (n : Int) (w : World) (h : ¬ (1 ≤ n ∧ n ≤ 4096)) : Meets Try.prog 78 [.int .i64 n] w (fun v w' => v = .tuple #[.pointer none, .int .i64 2] ∧ w' = w) := by
  refine Meets.enter Try.func78 rfl 15 rfl (Nat.le_of_ble_eq_true rfl) ?_
  refine G.seq ?_
  refine G.region ?_
  refine L.val rfl rfl (R.as rfl) ?_
  refine L.val rfl rfl (R.as rfl) ?_
  refine L.nil ?_
  refine N.seq ?_
  refine G.seq ?_
  refine G.seq ?_
  refine G.region ?_
  refine L.val rfl rfl (R.mv rfl) ?_
  refine L.val rfl rfl (R.lss rfl rfl) ?_
  refine L.val rfl rfl (R.mv rfl) ?_
  refine L.caseP 6 rfl (fun hg1_2 => ?_) (fun hg1_2 => ?_)
  · refine L.pass rfl rfl ?_
    refine L.pass rfl rfl ?_
    first | refine L.val rfl rfl (R.pickT rfl rfl) ?_ | refine L.val rfl rfl (R.pickF rfl rfl) ?_
    refine L.nil ?_
    refine N.seq ?_
    refine G.condT rfl ?_
    refine G.seq ?_
    refine G.region ?_
    refine L.val rfl rfl (R.as rfl) ?_
    refine L.val rfl rfl (R.as rfl) ?_
    refine L.nil ?_
    refine N.seq ?_
    refine G.ret2 rfl rfl rfl ?_
    exact ⟨rfl, rfl⟩
  · refine L.val rfl rfl (R.mv rfl) ?_
    refine L.val rfl rfl (R.gtr rfl rfl) ?_
    first | refine L.val rfl rfl (R.pickT rfl rfl) ?_ | refine L.val rfl rfl (R.pickF rfl rfl) ?_
    refine L.nil ?_
    refine N.seq ?_
    refine G.condP rfl (fun h0 => ?_) (fun h0 => ?_)
    · refine G.seq ?_
      refine G.region ?_
      refine L.val rfl rfl (R.as rfl) ?_
      refine L.val rfl rfl (R.as rfl) ?_
      refine L.nil ?_
      refine N.seq ?_
      refine G.ret2 rfl rfl rfl ?_
      exact ⟨rfl, rfl⟩
    · exfalso; omega

theorem dsize_ok (d : Nat) (v : DevV) (sz : Nat) (S : List Nat) (w : World) (hd : DevAt w d v sz S) : Meets Try.prog 144 [.pointer (some ⟨d, 0, none⟩)] w (fun r w' => r = .int .i64 (sz : Int) ∧ w' = w) := by
  refine Meets.enter Try.func144 rfl 11 rfl (Nat.le_of_ble_eq_true rfl) ?_
  obtain ⟨sa, sc, wa, wc, Ms, Mw, D, rfl⟩ := hd
  have hl := D.wf.len
  have hN := D.hN
  refine G.seq ?_
  refine G.region ?_
  refine L.val rfl rfl (R.as rfl) ?_
  refine L.nil ?_
  refine N.seq ?_
  refine G.seq ?_
  refine G.seq ?_
  refine G.region ?_
  refine L.val rfl rfl (R.mv rfl) ?_
  refine L.val rfl rfl (R.eqNilP rfl rfl) ?_
  refine L.nil ?_
  refine N.seq ?_
  refine G.condF rfl ?_
  refine G.skip ?_
  refine N.seq ?_
  refine G.seq ?_
  refine G.region ?_
  refine L.val rfl rfl (R.mv rfl) ?_
  refine L.val rfl rfl (R.nilChk rfl) ?_
  refine L.val rfl rfl (R.fld rfl) ?_
  refine L.val rfl rfl (R.ldB rfl D.hd rfl) ?_
  refine L.val rfl rfl (R.lenS rfl) ?_
  refine L.val rfl rfl (R.quo rfl rfl (by omega) (by omega)) ?_
  refine L.be 10 rfl (show _ = Value.int .i64 (sz : Int) by congr 1; omega) ?_
  refine L.val rfl rfl (R.as rfl) ?_
  refine L.nil ?_
  refine N.seq ?_
  refine G.ret1 rfl rfl ?_
  exact ⟨rfl, rfl⟩

theorem dsize_nil  (w : World) : Meets Try.prog 144 [.pointer none] w (fun r w' => r = .int .i64 0 ∧ w' = w) := by
  refine Meets.enter Try.func144 rfl 11 rfl (Nat.le_of_ble_eq_true rfl) ?_
  refine G.seq ?_
  refine G.region ?_
  refine L.val rfl rfl (R.as rfl) ?_
  refine L.nil ?_
  refine N.seq ?_
  refine G.seq ?_
  refine G.seq ?_
  refine G.region ?_
  refine L.val rfl rfl (R.mv rfl) ?_
  refine L.val rfl rfl (R.eqNilP rfl rfl) ?_
  refine L.nil ?_
  refine N.seq ?_
  refine G.condT rfl ?_
  refine G.seq ?_
  refine G.region ?_
  refine L.val rfl rfl (R.as rfl) ?_
  refine L.nil ?_
  refine N.seq ?_
  refine G.ret1 rfl rfl ?_
  exact ⟨rfl, rfl⟩

theorem dthere_ok (d : Nat) (v : DevV) (sz : Nat) (S : List Nat) (p n : Int) (w : World) (hd : DevAt w d v sz S) : Meets Try.prog 200 [.pointer (some ⟨d, 0, none⟩), .int .i64 p, .int .i64 n] w (fun r w' => r = .bool (decide (thereP sz p n)) ∧ w' = w) := by
  refine Meets.enter Try.func200 rfl 27 rfl (Nat.le_of_ble_eq_true rfl) ?_
  have hN := hd.wf.2
  refine G.seq ?_
  refine G.region ?_
  refine L.val rfl rfl (R.as rfl) ?_
  refine L.nil ?_
  refine N.seq ?_
  refine G.seq ?_
  refine G.region ?_
  refine L.val rfl rfl (R.mv rfl) ?_
  refine L.val rfl rfl (R.geq rfl rfl) ?_
  refine L.val rfl rfl (R.mv rfl) ?_
  refine L.caseP 9 rfl (fun hg1_2 => ?_) (fun hg1_2 => ?_)
  · refine L.val rfl rfl (R.mv rfl) ?_
    refine L.val rfl rfl (R.geq rfl rfl) ?_
    first | refine L.val rfl rfl (R.pickT rfl rfl) ?_ | refine L.val rfl rfl (R.pickF rfl rfl) ?_
    refine L.val rfl rfl (R.mv rfl) ?_
    refine L.caseP 13 rfl (fun hg1_6 => ?_) (fun hg1_6 => ?_)
    · refine L.val rfl rfl (R.mv rfl) ?_
      refine L.val rfl rfl (R.mv rfl) ?_
      refine L.callF rfl rfl rfl go144 (dsize_ok d v sz S _ hd) ?_
      rintro _ _ ⟨rfl, hw⟩
      obtain rfl := hw.symm
      refine L.val rfl rfl (R.leq rfl rfl) ?_
      first | refine L.val rfl rfl (R.pickT rfl rfl) ?_ | refine L.val rfl rfl (R.pickF rfl rfl) ?_
      refine L.val rfl rfl (R.mv rfl) ?_
      refine L.caseP 19 rfl (fun hg1_12 => ?_) (fun hg1_12 => ?_)
      · refine L.val rfl rfl (R.mv rfl) ?_
        refine L.val rfl rfl (R.mv rfl) ?_
        refine L.callF rfl rfl rfl go144 (dsize_ok d v sz S _ hd) ?_
        rintro _ _ ⟨rfl, hw⟩
        obtain rfl := hw.symm
        refine L.val rfl rfl (R.mv rfl) ?_
        refine L.val rfl rfl (R.sub' rfl rfl (by omega)) ?_
        refine L.val rfl rfl (R.leq rfl rfl) ?_
        first | refine L.val rfl rfl (R.pickT rfl rfl) ?_ | refine L.val rfl rfl (R.pickF rfl rfl) ?_
        refine L.val rfl rfl (R.as rfl) ?_
        refine L.nil ?_
        refine N.seq ?_
        refine G.ret1 rfl rfl ?_
        first | exact ⟨congrArg Value.bool (decide_eq_decide.2 (by unfold thereP; omega)), rfl⟩ | exact ⟨congrArg Value.bool (decide_eq_false (by unfold thereP; omega)).symm, rfl⟩
      · refine L.pass rfl rfl ?_
        refine L.pass rfl rfl ?_
        refine L.pass rfl rfl ?_
        refine L.pass rfl rfl ?_
        refine L.pass rfl rfl ?_
        refine L.pass rfl rfl ?_
        first | refine L.val rfl rfl (R.pickT rfl rfl) ?_ | refine L.val rfl rfl (R.pickF rfl rfl) ?_
        refine L.val rfl rfl (R.as rfl) ?_
        refine L.nil ?_
        refine N.seq ?_
        refine G.ret1 rfl rfl ?_
        first | exact ⟨congrArg Value.bool (decide_eq_decide.2 (by unfold thereP; omega)), rfl⟩ | exact ⟨congrArg Value.bool (decide_eq_false (by unfold thereP; omega)).symm, rfl⟩
    · refine L.pass rfl rfl ?_
      refine L.pass rfl rfl ?_
      refine L.pass rfl rfl ?_
      refine L.pass rfl rfl ?_
      first | refine L.val rfl rfl (R.pickT rfl rfl) ?_ | refine L.val rfl rfl (R.pickF rfl rfl) ?_
      refine L.val rfl rfl (R.mv rfl) ?_
      refine L.pass rfl rfl ?_
      refine L.pass rfl rfl ?_
      refine L.pass rfl rfl ?_
      refine L.pass rfl rfl ?_
      refine L.pass rfl rfl ?_
      refine L.pass rfl rfl ?_
      first | refine L.val rfl rfl (R.pickT rfl rfl) ?_ | refine L.val rfl rfl (R.pickF rfl rfl) ?_
      refine L.val rfl rfl (R.as rfl) ?_
      refine L.nil ?_
      refine N.seq ?_
      refine G.ret1 rfl rfl ?_
      first | exact ⟨congrArg Value.bool (decide_eq_decide.2 (by unfold thereP; omega)), rfl⟩ | exact ⟨congrArg Value.bool (decide_eq_false (by unfold thereP; omega)).symm, rfl⟩
  · refine L.pass rfl rfl ?_
    refine L.pass rfl rfl ?_
    first | refine L.val rfl rfl (R.pickT rfl rfl) ?_ | refine L.val rfl rfl (R.pickF rfl rfl) ?_
    refine L.val rfl rfl (R.mv rfl) ?_
    refine L.pass rfl rfl ?_
    refine L.pass rfl rfl ?_
    refine L.pass rfl rfl ?_
    refine L.pass rfl rfl ?_
    first | refine L.val rfl rfl (R.pickT rfl rfl) ?_ | refine L.val rfl rfl (R.pickF rfl rfl) ?_
    refine L.val rfl rfl (R.mv rfl) ?_
    refine L.pass rfl rfl ?_
    refine L.pass rfl rfl ?_
    refine L.pass rfl rfl ?_
    refine L.pass rfl rfl ?_
    refine L.pass rfl rfl ?_
    refine L.pass rfl rfl ?_
    first | refine L.val rfl rfl (R.pickT rfl rfl) ?_ | refine L.val rfl rfl (R.pickF rfl rfl) ?_
    refine L.val rfl rfl (R.as rfl) ?_
    refine L.nil ?_
    refine N.seq ?_
    refine G.ret1 rfl rfl ?_
    first | exact ⟨congrArg Value.bool (decide_eq_decide.2 (by unfold thereP; omega)), rfl⟩ | exact ⟨congrArg Value.bool (decide_eq_false (by unfold thereP; omega)).symm, rfl⟩

theorem dable_ok (d : Nat) (v : DevV) (sz : Nat) (S : List Nat) (w : World) (hd : DevAt w d v sz S) : Meets Try.prog 199 [.pointer (some ⟨d, 0, none⟩)] w (fun r w' => r = .int .i64 (if v.off then 10 else 0) ∧ w' = w) := by
  refine Meets.enter Try.func199 rfl 11 rfl (Nat.le_of_ble_eq_true rfl) ?_
  obtain ⟨sa, sc, wa, wc, Ms, Mw, D, rfl⟩ := hd
  refine G.seq ?_
  refine G.region ?_
  refine L.val rfl rfl (R.as rfl) ?_
  refine L.nil ?_
  refine N.seq ?_
  refine G.seq ?_
  refine G.block ?_
  refine G.seq ?_
  refine G.region ?_
  refine L.val rfl rfl (R.mv rfl) ?_
  refine L.val rfl rfl (R.eqNilP rfl rfl) ?_
  refine L.val rfl rfl (R.as rfl) ?_
  refine L.nil ?_
  refine N.seq ?_
  refine G.condF rfl ?_
  refine G.seq ?_
  refine G.region ?_
  refine L.val rfl rfl (R.mv rfl) ?_
  refine L.val rfl rfl (R.nilChk rfl) ?_
  refine L.val rfl rfl (R.fld rfl) ?_
  refine L.val rfl rfl (R.ldB rfl D.hd rfl) ?_
  refine L.val rfl rfl (R.as rfl) ?_
  refine L.nil ?_
  refine N.seq ?_
  refine G.condB rfl (fun h1 => ?_) (fun h1 => ?_)
  · refine G.seq ?_
    refine G.region ?_
    refine L.val rfl rfl (R.as rfl) ?_
    refine L.nil ?_
    refine N.seq ?_
    refine G.ret1 rfl rfl ?_
    exact ⟨by rw [if_pos h1], rfl⟩
  · refine G.skip ?_
    refine N.block ?_
    refine N.seq ?_
    refine G.seq ?_
    refine G.region ?_
    refine L.val rfl rfl (R.as rfl) ?_
    refine L.nil ?_
    refine N.seq ?_
    refine G.ret1 rfl rfl ?_
    exact ⟨by rw [if_neg (by simp [h1])], rfl⟩

theorem dable_nil  (w : World) : Meets Try.prog 199 [.pointer none] w (fun r w' => r = .int .i64 1 ∧ w' = w) := by
  refine Meets.enter Try.func199 rfl 11 rfl (Nat.le_of_ble_eq_true rfl) ?_
  refine G.seq ?_
  refine G.region ?_
  refine L.val rfl rfl (R.as rfl) ?_
  refine L.nil ?_
  refine N.seq ?_
  refine G.seq ?_
  refine G.block ?_
  refine G.seq ?_
  refine G.region ?_
  refine L.val rfl rfl (R.mv rfl) ?_
  refine L.val rfl rfl (R.eqNilP rfl rfl) ?_
  refine L.val rfl rfl (R.as rfl) ?_
  refine L.nil ?_
  refine N.seq ?_
  refine G.condT rfl ?_
  refine G.seq ?_
  refine G.region ?_
  refine L.val rfl rfl (R.as rfl) ?_
  refine L.nil ?_
  refine N.seq ?_
  refine G.ret1 rfl rfl ?_
  exact ⟨rfl, rfl⟩







theorem dimage_ok (d : Nat) (v : DevV) (sz : Nat) (S : List Nat) (w : World) (hd : DevAt w d v sz S) : Meets Try.prog 79 [.pointer (some ⟨d, 0, none⟩)] w (Cloned w 5 1 v.stay.length (vbs v.stay)) := by
  refine Meets.enter Try.func79 rfl 10 rfl (Nat.le_of_ble_eq_true rfl) ?_
  obtain ⟨sa, sc, wa, wc, Ms, Mw, D, rfl⟩ := hd
  have hl := D.wf.len
  have hN := D.hN
  refine G.seq ?_
  refine G.region ?_
  refine L.val rfl rfl (R.as rfl) ?_
  refine L.nil ?_
  refine N.seq ?_
  refine G.seq ?_
  refine G.seq ?_
  refine G.region ?_
  refine L.val rfl rfl (R.mv rfl) ?_
  refine L.val rfl rfl (R.eqNilP rfl rfl) ?_
  refine L.nil ?_
  refine N.seq ?_
  refine G.condF rfl ?_
  refine G.skip ?_
  refine N.seq ?_
  refine G.seq ?_
  refine G.region ?_
  refine L.val rfl rfl (R.mv rfl) ?_
  refine L.val rfl rfl (R.nilChk rfl) ?_
  refine L.val rfl rfl (R.fld rfl) ?_
  refine L.val rfl rfl (R.ldB rfl D.hd rfl) ?_
  refine L.callF rfl rfl rfl go143 (clone_ok _ _ _ _ _ (Bs.of_own D.st) (by omega)) ?_
  rintro _ w1 h1
  refine L.val rfl rfl (R.as rfl) ?_
  refine L.nil ?_
  refine N.seq ?_
  refine G.ret1 rfl rfl ?_
  exact h1

theorem dimage_nil  (w : World) : Meets Try.prog 79 [.pointer none] w (fun r w' => r = .slice none 0 0 ∧ w' = w) := by
  refine Meets.enter Try.func79 rfl 10 rfl (Nat.le_of_ble_eq_true rfl) ?_
  refine G.seq ?_
  refine G.region ?_
  refine L.val rfl rfl (R.as rfl) ?_
  refine L.nil ?_
  refine N.seq ?_
  refine G.seq ?_
  refine G.seq ?_
  refine G.region ?_
  refine L.val rfl rfl (R.mv rfl) ?_
  refine L.val rfl rfl (R.eqNilP rfl rfl) ?_
  refine L.nil ?_
  refine N.seq ?_
  refine G.condT rfl ?_
  refine G.seq ?_
  refine G.region ?_
  refine L.val rfl rfl (R.as rfl) ?_
  refine L.nil ?_
  refine N.seq ?_
  refine G.ret1 rfl rfl ?_
  exact ⟨rfl, rfl⟩

end Go.Proofs.Ythpolibakkmmeaa
