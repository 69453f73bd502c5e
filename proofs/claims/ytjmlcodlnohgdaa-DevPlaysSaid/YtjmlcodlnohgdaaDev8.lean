/-
  The walks of package dev.
-/
import Derived.Test.YtjmlcodlnohgdaaDevPure
import Derived.Test.YtjmlcodlnohgdaaStd3
import Derived.Test.YtjmlcodlnohgdaaC15
set_option linter.unusedVariables false
set_option linter.unusedSimpArgs false
namespace Go.Proofs.Ytjmlcodlnohgdaa
open Go Brv Brv.Image Brv.Dev
def rdC (v : DevV) (wa : Option Addr) (wc : Nat) : Array Value := #[.string (str v.stay), .slice wa v.wt.length wc, .int .i64 v.calls, .int .i64 v.left, .bool v.off]
theorem rdC_one (v : DevV) (wa : Option Addr) (wc : Nat) : ∀ u ∈ (rdC v wa wc).toList, u.oneCell' = true := by
  intro u hu
  simp only [rdC, List.mem_cons, List.not_mem_nil, or_false] at hu
  rcases hu with rfl | rfl | rfl | rfl | rfl <;> rfl
def rwC (x : Nat × List UInt8) : List Value := [.int .i64 (x.1 : Int), .string (str x.2)]
def rwsC (wt : List (Nat × List UInt8)) : List Value := (wt.map rwC).flatten
theorem rwsC_append (a b : List (Nat × List UInt8)) : rwsC (a ++ b) = rwsC a ++ rwsC b := by simp [rwsC]
theorem rwsC_length (wt : List (Nat × List UInt8)) : (rwsC wt).length = wt.length * 2 := by
  induction wt with
  | nil => rfl
  | cons x r ih => simp only [rwsC, List.map_cons, List.flatten_cons, List.length_append, List.length_cons] at ih ⊢; rw [ih]; simp [rwC]; omega
theorem rwC_one (x : Nat × List UInt8) : ∀ u ∈ rwC x, u.oneCell' = true := by
  intro u hu
  simp only [rwC, List.mem_cons, List.not_mem_nil, or_false] at hu
  rcases hu with rfl | rfl <;> rfl
theorem rwsC_one (wt : List (Nat × List UInt8)) : ∀ u ∈ rwsC wt, u.oneCell' = true := by
  intro u hu
  obtain ⟨cs, hcs, hu⟩ := List.mem_flatten.1 hu
  obtain ⟨x, _, rfl⟩ := List.mem_map.1 hcs
  exact rwC_one x u hu
/-- What waits, of a reference's device. -/
def RefAt (w : World) (wt : List (Nat × List UInt8)) (wa : Option Addr) : Prop := Tab w wa wt.length 2 (wt.map rwC) ∧ ∀ p, wa = some p → ∃ cs, Blk w p.block cs 134 (0, 0)
theorem RefAt.ext {w w' : World} {wt : List (Nat × List UInt8)} {wa : Option Addr} {M : List Nat} (h : RefAt w wt wa) (he : Ext M w w') (hM : ∀ g ∈ M, ∀ cs, ¬ Blk w g cs 134 (0, 0)) : RefAt w' wt wa := by
  have hn : ∀ p, wa = some p → p.block ∉ M := fun p hp hm => let ⟨cs, hb⟩ := h.2 p hp; hM _ hm cs hb
  exact ⟨⟨h.1.cells.ext he hn, h.1.len, h.1.each⟩, fun p hp => let ⟨cs, hb⟩ := h.2 p hp; ⟨cs, hb.ext he (hn p hp)⟩⟩
theorem RefAt.ext0 {w w' : World} {wt : List (Nat × List UInt8)} {wa : Option Addr} (h : RefAt w wt wa) (he : Ext [] w w') : RefAt w' wt wa := h.ext he (by simp)
theorem RefAt.nil (w : World) : RefAt w [] none := ⟨⟨Cells.nil _ _, rfl, by simp⟩, by simp⟩
theorem RefAt.of {w : World} {wt : List (Nat × List UInt8)} {a : Option Addr} {n c : Nat} {M : List Nat} (h : Own w 134 2 a n c (rwsC wt) M) (hn : n = wt.length) : RefAt w wt a :=
  ⟨⟨h.cells, by rw [List.length_map], fun vs hv => by obtain ⟨x, _, rfl⟩ := List.mem_map.1 hv; rfl⟩, fun p hp => h.typ _ (h.mem p hp).1⟩
theorem RefAt.elem {w : World} {wt : List (Nat × List UInt8)} {wa : Option Addr} (h : RefAt w wt wa) {k : Nat} {x : Nat × List UInt8} (hx : wt[k]? = some x) : ∃ q, wa = some q ∧ Cells w (some (q.add (k * 2))) (rwC x) := by
  have hk := (List.getElem?_eq_some_iff.1 hx).1
  obtain ⟨q, hq, hc⟩ := h.1.at (by decide) k (by rw [List.length_map]; exact hk)
  rw [List.getElem_map, show wt[k] = x from (List.getElem?_eq_some_iff.1 hx).2] at hc
  exact ⟨q, hq, hc⟩

theorem rdnew_ok (n : Nat) (w : World) (hn : n ≤ 4096) : Meets Try.prog 45 [.int .i64 (n : Int)] w (fun r w' => r = .agg (rdC (newV n) none 0) ∧ Ext [] w w') := by
  refine Meets.enter Try.func45 rfl 8 rfl (Nat.le_of_ble_eq_true rfl) ?_
  have E := Ext.refl [] w
  refine G.seq ?_
  refine G.region ?_
  refine L.do rfl rfl (R.alloc) ?_
  rintro _ w1 ⟨b2, rfl, hz2, hs1, e1, B2⟩
  replace E := E.trans0 e1
  refine L.nil ?_
  refine N.seq ?_
  refine G.seq ?_
  refine G.region ?_
  refine L.val rfl rfl (R.mv rfl) ?_
  refine L.val rfl rfl (R.mul rfl rfl (by omega)) ?_
  refine L.do rfl rfl (R.make rfl rfl (by omega) (by omega) (by omega) (by omega)) ?_
  rintro _ w2 ⟨b5, rfl, hb5, hs5, e2, B5⟩
  replace E := E.trans0 e2
  replace B2 := B2.ext0 e2
  have L5 := Bs.of_blk B5 (List.replicate (64 * n) 0) (by rw [show (64 * (n : Int)).toNat * 1 = 64 * n by omega]; exact madeCells_bytes _) (64 * (n : Int)).toNat (by rw [List.length_replicate]; omega)
  refine L.val rfl rfl (R.bytesStr rfl L5.cells L5.len) ?_
  refine L.val rfl rfl (R.build (cs := rdC (newV n) none 0) rfl rfl) ?_
  refine L.set rfl (R.stN rfl rfl B2 rfl (Nat.le_refl 5) (rdC_one _ _ _)) ?_
  rintro w3 ⟨e3, hs3, B2⟩
  replace B2 : Blk w3 b2 (rdC (newV n) none 0) 73 (0, 0) := B2
  replace E := E.news2 e3 (by omega)
  refine L.nil ?_
  refine N.seq ?_
  refine G.retC rfl rfl (B2) rfl ?_
  exact ⟨rfl, E⟩

theorem rdthere_ok (v : DevV) (sz : Nat) (wa : Option Addr) (wc : Nat) (p n : Int) (w : World) (hwf : v.Wf sz) (hz : sz ≤ 4096) (hn9 : -9223372036854775808 ≤ n ∧ n ≤ 9223372036854775807) : Meets Try.prog 82 [.agg (rdC v wa wc), .int .i64 p, .int .i64 n] w (fun r w' => r = .bool (decide (thereP sz p n)) ∧ Ext [] w w') := by
  refine Meets.enter Try.func82 rfl 30 rfl (Nat.le_of_ble_eq_true rfl) ?_
  have E := Ext.refl [] w
  have hl := hwf.len
  refine G.seq ?_
  refine G.region ?_
  refine L.do rfl rfl (R.box rfl) ?_
  rintro _ w1 ⟨b3, rfl, hz3, hs1, e1, B3⟩
  replace B3 : Blk w1 b3 (rdC v wa wc) 73 (0, 0) := B3
  replace E := E.trans0 e1
  refine L.val rfl rfl (R.as rfl) ?_
  refine L.nil ?_
  refine N.seq ?_
  refine G.seq ?_
  refine G.region ?_
  refine L.val rfl rfl (R.fld rfl) ?_
  refine L.val rfl rfl (R.ldB rfl B3 rfl) ?_
  refine L.val rfl rfl (R.lenT rfl) ?_
  refine L.val rfl rfl (R.quo rfl rfl (by omega) (by omega)) ?_
  refine L.be 11 rfl (show _ = Value.int .i64 (sz : Int) by congr 1; omega) ?_
  refine L.val rfl rfl (R.as rfl) ?_
  refine L.nil ?_
  refine N.seq ?_
  refine G.seq ?_
  refine G.region ?_
  refine L.val rfl rfl (R.mv rfl) ?_
  refine L.val rfl rfl (R.geq rfl rfl) ?_
  refine L.val rfl rfl (R.mv rfl) ?_
  refine L.caseP 14 rfl (fun hg2_2 => ?_) (fun hg2_2 => ?_)
  · refine L.val rfl rfl (R.mv rfl) ?_
    refine L.val rfl rfl (R.geq rfl rfl) ?_
    first | refine L.val rfl rfl (R.pickT rfl rfl) ?_ | refine L.val rfl rfl (R.pickF rfl rfl) ?_
    refine L.val rfl rfl (R.mv rfl) ?_
    refine L.caseP 18 rfl (fun hg2_6 => ?_) (fun hg2_6 => ?_)
    · refine L.val rfl rfl (R.mv rfl) ?_
      refine L.val rfl rfl (R.mv rfl) ?_
      refine L.val rfl rfl (R.leq rfl rfl) ?_
      first | refine L.val rfl rfl (R.pickT rfl rfl) ?_ | refine L.val rfl rfl (R.pickF rfl rfl) ?_
      refine L.val rfl rfl (R.mv rfl) ?_
      refine L.caseP 23 rfl (fun hg2_11 => ?_) (fun hg2_11 => ?_)
      · refine L.val rfl rfl (R.mv rfl) ?_
        refine L.val rfl rfl (R.mv rfl) ?_
        refine L.val rfl rfl (R.mv rfl) ?_
        refine L.val rfl rfl (R.sub' rfl rfl (by omega)) ?_
        refine L.val rfl rfl (R.leq rfl rfl) ?_
        first | refine L.val rfl rfl (R.pickT rfl rfl) ?_ | refine L.val rfl rfl (R.pickF rfl rfl) ?_
        refine L.val rfl rfl (R.as rfl) ?_
        refine L.nil ?_
        refine N.seq ?_
        refine G.ret1 rfl rfl ?_
        first | exact ⟨congrArg Value.bool (decide_eq_decide.2 (by unfold thereP; omega)), E⟩ | exact ⟨congrArg Value.bool (decide_eq_false (by unfold thereP; omega)).symm, E⟩
      · refine L.pass rfl rfl ?_
        refine L.pass rfl rfl ?_
        refine L.pass rfl rfl ?_
        refine L.pass rfl rfl ?_
        refine L.pass rfl rfl ?_
        first | refine L.val rfl rfl (R.pickT rfl rfl) ?_ | refine L.val rfl rfl (R.pickF rfl rfl) ?_
        refine L.val rfl rfl (R.as rfl) ?_
        refine L.nil ?_
        refine N.seq ?_
        refine G.ret1 rfl rfl ?_
        first | exact ⟨congrArg Value.bool (decide_eq_decide.2 (by unfold thereP; omega)), E⟩ | exact ⟨congrArg Value.bool (decide_eq_false (by unfold thereP; omega)).symm, E⟩
    · refine L.pass rfl rfl ?_
      refine L.pass rfl rfl ?_
      refine L.pass rfl rfl ?_
      first | refine L.val rfl rfl (R.pickT rfl rfl) ?_ | refine L.val rfl rfl (R.pickF rfl rfl) ?_
      refine L.val rfl rfl (R.mv rfl) ?_
      refine L.pass rfl rfl ?_
      refine L.pass rfl rfl ?_
      refine L.pass rfl rfl ?_
      refine L.pass rfl rfl ?_
      refine L.pass rfl rfl ?_
      first | refine L.val rfl rfl (R.pickT rfl rfl) ?_ | refine L.val rfl rfl (R.pickF rfl rfl) ?_
      refine L.val rfl rfl (R.as rfl) ?_
      refine L.nil ?_
      refine N.seq ?_
      refine G.ret1 rfl rfl ?_
      first | exact ⟨congrArg Value.bool (decide_eq_decide.2 (by unfold thereP; omega)), E⟩ | exact ⟨congrArg Value.bool (decide_eq_false (by unfold thereP; omega)).symm, E⟩
  · refine L.pass rfl rfl ?_
    refine L.pass rfl rfl ?_
    first | refine L.val rfl rfl (R.pickT rfl rfl) ?_ | refine L.val rfl rfl (R.pickF rfl rfl) ?_
    refine L.val rfl rfl (R.mv rfl) ?_
    refine L.pass rfl rfl ?_
    refine L.pass rfl rfl ?_
    refine L.pass rfl rfl ?_
    first | refine L.val rfl rfl (R.pickT rfl rfl) ?_ | refine L.val rfl rfl (R.pickF rfl rfl) ?_
    refine L.val rfl rfl (R.mv rfl) ?_
    refine L.pass rfl rfl ?_
    refine L.pass rfl rfl ?_
    refine L.pass rfl rfl ?_
    refine L.pass rfl rfl ?_
    refine L.pass rfl rfl ?_
    first | refine L.val rfl rfl (R.pickT rfl rfl) ?_ | refine L.val rfl rfl (R.pickF rfl rfl) ?_
    refine L.val rfl rfl (R.as rfl) ?_
    refine L.nil ?_
    refine N.seq ?_
    refine G.ret1 rfl rfl ?_
    first | exact ⟨congrArg Value.bool (decide_eq_decide.2 (by unfold thereP; omega)), E⟩ | exact ⟨congrArg Value.bool (decide_eq_false (by unfold thereP; omega)).symm, E⟩

theorem rdlaid_ok (s b : List UInt8) (k : Nat) (w : World) (hs : 64 * k + 64 ≤ s.length) (hs2 : s.length ≤ 1000000) (hb : b.length ≤ 1000) : Meets Try.prog 83 [.string (str s), .int .i64 (k : Int), .string (str b)] w (fun r w' => r = .string (str (laid s k b)) ∧ Ext [] w w') := by
  refine Meets.enter Try.func83 rfl 19 rfl (Nat.le_of_ble_eq_true rfl) ?_
  have E := Ext.refl [] w
  refine G.seq ?_
  refine G.region ?_
  refine L.val rfl rfl (R.as rfl) ?_
  refine L.nil ?_
  refine N.seq ?_
  refine G.seq ?_
  refine G.quiet (by decide +kernel) rfl ?_
  refine Q.val rfl rfl rfl rfl (fun w1 hE => R.mv rfl) ?_
  refine Q.val rfl rfl rfl rfl (fun w1 hE => R.mv rfl) ?_
  refine Q.val rfl rfl rfl rfl (fun w1 hE => R.mul rfl rfl (by omega)) ?_
  refine Q.val rfl rfl rfl rfl (fun w1 hE => R.slStrH rfl rfl (by omega) (by omega)) ?_
  refine Q.val rfl rfl rfl rfl (fun w1 hE => R.mv rfl) ?_
  refine Q.val rfl rfl rfl rfl (fun w1 hE => R.addStr rfl rfl (by rw [List.length_take]; omega)) ?_
  refine Q.val rfl rfl rfl rfl (fun w1 hE => R.mv rfl) ?_
  refine Q.val rfl rfl rfl rfl (fun w1 hE => R.mv rfl) ?_
  refine Q.val rfl rfl rfl rfl (fun w1 hE => R.mul rfl rfl (by omega)) ?_
  refine Q.val rfl rfl rfl rfl (fun w1 hE => R.add rfl rfl (by omega)) ?_
  refine Q.val rfl rfl rfl rfl (fun w1 hE => R.slStrL rfl rfl (by omega) (by omega)) ?_
  refine Q.val rfl rfl rfl rfl (fun w1 hE => R.addStr rfl rfl (by simp only [List.length_append, List.length_take, List.length_drop]; omega)) ?_
  refine Q.be 18 rfl (show _ = Value.string (str (laid s k b)) by rw [show (64 * (k : Int)).toNat = 64 * k by omega, show (64 * (k : Int) + 64).toNat = 64 * k + 64 by omega]; rfl) ?_
  refine Q.val rfl rfl rfl rfl (fun w1 hE => R.as rfl) ?_
  refine Q.nil (fun w1 e1 => ?_)
  replace E := E.trans0 e1
  refine N.seq ?_
  refine G.ret1 rfl rfl ?_
  exact ⟨rfl, E⟩

theorem rdcall_ok (v : DevV) (sz : Nat) (wa : Option Addr) (wc : Nat) (w : World) (hwf : v.Wf sz) (hz : sz ≤ 4096) (hcb : 0 ≤ v.calls ∧ v.calls ≤ 1000000000) : Meets Try.prog 84 [.agg (rdC v wa wc)] w (fun r w' => r = .tuple #[.agg (rdC (callV v).1 wa wc), .bool (callV v).2] ∧ Ext [] w w') := by
  refine Meets.enter Try.func84 rfl 21 rfl (Nat.le_of_ble_eq_true rfl) ?_
  have E := Ext.refl [] w
  have hlf := hwf.left
  refine G.seq ?_
  refine G.region ?_
  refine L.do rfl rfl (R.box rfl) ?_
  rintro _ w1 ⟨b1, rfl, hzb1, hs1, e1, B1⟩
  replace B1 : Blk w1 b1 (rdC v wa wc) 73 (0, 0) := B1
  replace E := E.trans0 e1
  refine L.do rfl rfl (R.alloc) ?_
  rintro _ w2 ⟨b2, rfl, hzb2, hs2, e2, B2⟩
  replace E := E.trans0 e2
  replace B1 := B1.ext0 e2
  refine L.val rfl rfl (R.as rfl) ?_
  refine L.nil ?_
  refine N.seq ?_
  refine G.seq ?_
  refine G.seq ?_
  refine G.region ?_
  refine L.val rfl rfl (R.fld rfl) ?_
  refine L.val rfl rfl (R.ldB rfl B1 rfl) ?_
  refine L.val rfl rfl (R.eqI rfl rfl) ?_
  refine L.nil ?_
  refine N.seq ?_
  refine G.condP rfl (fun h0 => ?_) (fun h0 => ?_)
  · have hcv : callV v = ({ v with off := true }, false) := if_pos h0
    refine G.seq ?_
    refine G.region ?_
    refine L.val rfl rfl (R.fld rfl) ?_
    refine L.set rfl (R.st rfl rfl B1 (by show 4 < 5; decide) rfl) ?_
    rintro w3 ⟨e3, hs3, B1⟩
    replace B1 : Blk w3 b1 (rdC ({ v with off := true } : DevV) wa wc) 73 (0, 0) := B1
    replace E := E.news2 e3 (by omega)
    replace B2 := B2.ext e3 (by simp; omega)
    refine L.nil ?_
    refine N.seq ?_
    refine G.seq ?_
    refine G.region ?_
    refine L.val rfl rfl (R.ldBN rfl B1 rfl) ?_
    refine L.set rfl (R.stN rfl rfl B2 rfl (Nat.le_refl 5) (rdC_one _ _ _)) ?_
    rintro w4 ⟨e4, hs4, B2⟩
    replace B2 : Blk w4 b2 (rdC ({ v with off := true } : DevV) wa wc) 73 (0, 0) := B2
    replace E := E.news2 e4 (by omega)
    refine L.val rfl rfl (R.as rfl) ?_
    refine L.nil ?_
    refine N.seq ?_
    refine G.retCT rfl rfl rfl (B2) rfl ?_
    rw [hcv]; exact ⟨rfl, E⟩
  · refine G.skip ?_
    refine N.seq ?_
    refine G.seq ?_
    refine G.seq ?_
    refine G.region ?_
    refine L.val rfl rfl (R.fld rfl) ?_
    refine L.val rfl rfl (R.ldB rfl B1 rfl) ?_
    refine L.val rfl rfl (R.gtr rfl rfl) ?_
    refine L.nil ?_
    refine N.seq ?_
    refine G.condP rfl (fun h1 => ?_) (fun h1 => ?_)
    · have hcv : callV v = ({ v with left := v.left - 1, calls := v.calls + 1 }, true) := by unfold callV; rw [if_neg h0, if_pos h1]
      refine G.region ?_
      refine L.val rfl rfl (R.fld rfl) ?_
      refine L.val rfl rfl (R.ldB rfl B1 rfl) ?_
      refine L.val rfl rfl (R.sub' rfl rfl (by omega)) ?_
      refine L.val rfl rfl (R.fld rfl) ?_
      refine L.set rfl (R.st rfl rfl B1 (by show 3 < 5; decide) rfl) ?_
      rintro w5 ⟨e5, hs5, B1⟩
      replace B1 : Blk w5 b1 (rdC ({ v with left := v.left - 1 } : DevV) wa wc) 73 (0, 0) := B1
      replace E := E.news2 e5 (by omega)
      replace B2 := B2.ext e5 (by simp; omega)
      refine L.nil ?_
      refine N.seq ?_
      refine G.seq ?_
      refine G.region ?_
      refine L.val rfl rfl (R.fld rfl) ?_
      refine L.val rfl rfl (R.ldB rfl B1 rfl) ?_
      refine L.be 17 rfl (show _ = Value.int .i64 v.calls from rfl) ?_
      refine L.val rfl rfl (R.add rfl rfl (by omega)) ?_
      refine L.val rfl rfl (R.fld rfl) ?_
      refine L.set rfl (R.st rfl rfl B1 (by show 2 < 5; decide) rfl) ?_
      rintro w6 ⟨e6, hs6, B1⟩
      replace B1 : Blk w6 b1 (rdC ({ v with left := v.left - 1, calls := v.calls + 1 } : DevV) wa wc) 73 (0, 0) := B1
      replace E := E.news2 e6 (by omega)
      replace B2 := B2.ext e6 (by simp; omega)
      refine L.nil ?_
      refine N.seq ?_
      refine G.seq ?_
      refine G.region ?_
      refine L.val rfl rfl (R.ldBN rfl B1 rfl) ?_
      refine L.set rfl (R.stN rfl rfl B2 rfl (Nat.le_refl 5) (rdC_one _ _ _)) ?_
      rintro w7 ⟨e7, hs7, B2⟩
      replace B2 : Blk w7 b2 (rdC ({ v with left := v.left - 1, calls := v.calls + 1 } : DevV) wa wc) 73 (0, 0) := B2
      replace E := E.news2 e7 (by omega)
      refine L.val rfl rfl (R.as rfl) ?_
      refine L.nil ?_
      refine N.seq ?_
      refine G.retCT rfl rfl rfl (B2) rfl ?_
      rw [hcv]; exact ⟨rfl, E⟩
    · have hcv : callV v = ({ v with left := v.left, calls := v.calls + 1 }, true) := by unfold callV; rw [if_neg h0, if_neg h1]
      refine G.skip ?_
      refine N.seq ?_
      refine G.seq ?_
      refine G.region ?_
      refine L.val rfl rfl (R.fld rfl) ?_
      refine L.val rfl rfl (R.ldB rfl B1 rfl) ?_
      refine L.be 17 rfl (show _ = Value.int .i64 v.calls from rfl) ?_
      refine L.val rfl rfl (R.add rfl rfl (by omega)) ?_
      refine L.val rfl rfl (R.fld rfl) ?_
      refine L.set rfl (R.st rfl rfl B1 (by show 2 < 5; decide) rfl) ?_
      rintro w6 ⟨e6, hs6, B1⟩
      replace B1 : Blk w6 b1 (rdC ({ v with left := v.left, calls := v.calls + 1 } : DevV) wa wc) 73 (0, 0) := B1
      replace E := E.news2 e6 (by omega)
      replace B2 := B2.ext e6 (by simp; omega)
      refine L.nil ?_
      refine N.seq ?_
      refine G.seq ?_
      refine G.region ?_
      refine L.val rfl rfl (R.ldBN rfl B1 rfl) ?_
      refine L.set rfl (R.stN rfl rfl B2 rfl (Nat.le_refl 5) (rdC_one _ _ _)) ?_
      rintro w7 ⟨e7, hs7, B2⟩
      replace B2 : Blk w7 b2 (rdC ({ v with left := v.left, calls := v.calls + 1 } : DevV) wa wc) 73 (0, 0) := B2
      replace E := E.news2 e7 (by omega)
      refine L.val rfl rfl (R.as rfl) ?_
      refine L.nil ?_
      refine N.seq ?_
      refine G.retCT rfl rfl rfl (B2) rfl ?_
      rw [hcv]; exact ⟨rfl, E⟩

theorem rdread_ok (v : DevV) (sz : Nat) (wa : Option Addr) (wc : Nat) (p n : Int) (w : World) (hwf : v.Wf sz) (hz : sz ≤ 4096) (hr : RefAt w v.wt wa) (hn9 : -9223372036854775808 ≤ n ∧ n ≤ 9223372036854775807) (hwb : v.wt.length ≤ 1000000) : Meets Try.prog 46 [.agg (rdC v wa wc), .int .i64 p, .int .i64 n] w (fun r w' => r = .tuple #[.string (str (readV v sz p n).1), .int .i64 (readV v sz p n).2] ∧ Ext [] w w') := by
  refine Meets.enter Try.func46 rfl 42 rfl (Nat.le_of_ble_eq_true rfl) ?_
  have E := Ext.refl [] w
  have hl := hwf.len
  have hr0 := hr
  refine G.seq ?_
  refine G.region ?_
  refine L.do rfl rfl (R.box rfl) ?_
  rintro _ w1 ⟨b3, rfl, hz3, hs1, e1, B3⟩
  replace B3 : Blk w1 b3 (rdC v wa wc) 73 (0, 0) := B3
  replace E := E.trans0 e1
  refine L.val rfl rfl (R.as rfl) ?_
  refine L.val rfl rfl (R.as rfl) ?_
  refine L.nil ?_
  refine N.seq ?_
  refine G.seq ?_
  refine G.seq ?_
  refine G.region ?_
  refine L.val rfl rfl (R.fld rfl) ?_
  refine L.val rfl rfl (R.ldB rfl B3 rfl) ?_
  refine L.nil ?_
  refine N.seq ?_
  refine G.condB rfl (fun h0 => ?_) (fun h0 => ?_)
  · have ho : v.off = true := h0
    have hf : readV v sz p n = ([], 10) := if_pos ho
    refine G.seq ?_
    refine G.region ?_
    refine L.val rfl rfl (R.as rfl) ?_
    refine L.val rfl rfl (R.as rfl) ?_
    refine L.nil ?_
    refine N.seq ?_
    refine G.ret2 rfl rfl rfl ?_
    rw [hf]; exact ⟨rfl, E⟩
  · have ho : ¬ v.off = true := by simpa using h0
    refine G.skip ?_
    refine N.seq ?_
    refine G.seq ?_
    refine G.seq ?_
    refine G.region ?_
    refine L.val rfl rfl (R.ldBN rfl B3 rfl) ?_
    refine L.val rfl rfl (R.mv rfl) ?_
    refine L.val rfl rfl (R.mv rfl) ?_
    refine L.callF rfl rfl rfl go82 (rdthere_ok v sz wa wc p n _ hwf hz hn9) ?_
    rintro _ w2 ⟨rfl, e2⟩
    replace E := E.trans0 e2
    replace B3 := B3.ext0 e2
    refine L.val rfl rfl (R.not rfl) ?_
    refine L.be 17 rfl (show _ = Value.bool (decide (¬ thereP sz p n)) by simp) ?_
    refine L.nil ?_
    refine N.seq ?_
    refine G.condP rfl (fun h1 => ?_) (fun h1 => ?_)
    · have hf : readV v sz p n = ([], 11) := by unfold readV; rw [if_neg ho, if_neg h1]
      refine G.seq ?_
      refine G.region ?_
      refine L.val rfl rfl (R.as rfl) ?_
      refine L.val rfl rfl (R.as rfl) ?_
      refine L.nil ?_
      refine N.seq ?_
      refine G.ret2 rfl rfl rfl ?_
      rw [hf]; exact ⟨rfl, E⟩
    · have ht : thereP sz p n := Classical.not_not.1 h1
      have ht2 := ht
      unfold thereP at ht2
      obtain ⟨i, rfl⟩ := Int.eq_ofNat_of_zero_le ht2.1
      obtain ⟨m, rfl⟩ := Int.eq_ofNat_of_zero_le ht2.2.1
      have him : i + m ≤ sz := by omega
      have hf : readV v sz (i : Int) (m : Int) = (win (laidAll v.stay v.wt) i m, 0) := by unfold readV; rw [if_neg ho, if_pos ht]; rfl
      refine G.skip ?_
      refine N.seq ?_
      refine G.seq ?_
      refine G.region ?_
      refine L.val rfl rfl (R.fld rfl) ?_
      refine L.val rfl rfl (R.ldB rfl B3 rfl) ?_
      refine L.val rfl rfl (R.as rfl) ?_
      refine L.nil ?_
      refine N.seq ?_
      refine G.seq ?_
      refine G.seq ?_
      refine G.region ?_
      refine L.val rfl rfl (R.fld rfl) ?_
      refine L.val rfl rfl (R.ldB rfl B3 rfl) ?_
      refine L.val rfl rfl (R.lenS rfl) ?_
      refine L.val rfl rfl (R.mv rfl) ?_
      refine L.nil ?_
      refine N.seq ?_
      refine G.block ?_
      refine G.loop (X := Nat) (fun k => [(1, .int .i64 (i : Int)), (2, .int .i64 (m : Int)), (8, .string (str (laidAll v.stay (v.wt.take k)))), (21, .slice wa v.wt.length wc), (22, .int .i64 (v.wt.length : Int)), (23, .int .i64 (k : Int))]) (fun k w' => k ≤ v.wt.length ∧ Ext [] w w') (fun k => v.wt.length - k) (0) (Sub.cons rfl (Sub.cons rfl (Sub.cons rfl (Sub.cons rfl (Sub.cons rfl (Sub.cons rfl (Sub.nil _))))))) ⟨Nat.zero_le _, E⟩ ?_
      rintro k w3 ⟨hk, E⟩
      have hr := hr0.ext0 E
      refine G.seq ?_
      refine G.region ?_
      refine L.val rfl rfl (R.lss rfl rfl) ?_
      refine L.nil ?_
      refine N.seq ?_
      refine G.seq ?_
      refine G.condP rfl (fun h2 => ?_) (fun h2 => ?_)
      · have hk2 : k < v.wt.length := by omega
        obtain ⟨x, hx⟩ : ∃ x, v.wt[k]? = some x := ⟨_, List.getElem?_eq_getElem hk2⟩
        obtain ⟨q9, hq9, hcl⟩ := hr.elem hx
        have hxw := hwf.wt x (List.mem_of_getElem? hx)
        have hlk := laidAll_length (s := []) hwf.len (fun y hy => hwf.wt y (List.mem_of_mem_take hy) : ∀ y ∈ v.wt.take k, _)
        refine G.skip ?_
        refine N.seq ?_
        refine G.seq ?_
        refine G.block ?_
        refine G.seq ?_
        refine G.region ?_
        refine L.val rfl rfl (R.idx rfl rfl (by omega) (by omega) q9 hq9) ?_
        refine L.val rfl rfl (R.ldN rfl hcl rfl) ?_
        refine L.do rfl rfl (R.alloc) ?_
        rintro _ w4 ⟨b10, rfl, hb10, hs4, e4, B10⟩
        have hEk := E.size
        refine L.set rfl (R.stN rfl rfl B10 rfl (Nat.le_refl 2) (rwC_one x)) ?_
        rintro w5 ⟨e5, hs5, B10⟩
        replace B10 : Blk w5 b10 (rwC x).toArray 134 (0, 0) := B10
        have n5 := e4.news2 e5 (by omega)
        replace E := E.trans0 n5
        refine L.nil ?_
        refine N.seq ?_
        refine G.region ?_
        refine L.val rfl rfl (R.mv rfl) ?_
        refine L.val rfl rfl (R.fld rfl) ?_
        refine L.val rfl rfl (R.ldB rfl B10 rfl) ?_
        refine L.val rfl rfl (R.fld rfl) ?_
        refine L.val rfl rfl (R.ldB rfl B10 rfl) ?_
        refine L.callF rfl rfl rfl go83 (rdlaid_ok (laidAll v.stay (v.wt.take k)) x.2 x.1 _ (by omega) (by omega) (by omega)) ?_
        rintro _ w7 ⟨rfl, e7⟩
        replace E := E.trans0 e7
        rw [← laidAll_succ hx]
        refine L.val rfl rfl (R.as rfl) ?_
        refine L.nil ?_
        refine N.block ?_
        refine N.seq ?_
        refine G.region ?_
        refine L.val rfl rfl (R.add rfl rfl (by omega)) ?_
        refine L.val rfl rfl (R.mv rfl) ?_
        refine L.nil ?_
        exact N.again (k + 1) (by omega) (Sub.cons rfl (Sub.cons rfl (Sub.cons rfl (Sub.cons rfl (Sub.cons rfl (Sub.cons rfl (Sub.nil _))))))) ⟨by omega, E⟩
      · obtain rfl : k = v.wt.length := by omega
        rw [List.take_length]
        have hll := laidAll_length (s := []) hwf.len hwf.wt
        refine G.exit _ rfl ?_
        refine N.seq ?_
        refine G.seq ?_
        refine G.region ?_
        refine L.val rfl rfl (R.mv rfl) ?_
        refine L.val rfl rfl (R.mv rfl) ?_
        refine L.val rfl rfl (R.mul rfl rfl (by omega)) ?_
        refine L.val rfl rfl (R.mv rfl) ?_
        refine L.val rfl rfl (R.mv rfl) ?_
        refine L.val rfl rfl (R.add rfl rfl (by omega)) ?_
        refine L.val rfl rfl (R.mul rfl rfl (by omega)) ?_
        refine L.val rfl rfl (R.slStr rfl rfl rfl (by omega) (by omega) (by omega)) ?_
        refine L.be 41 rfl (show _ = Value.string (str (win (laidAll v.stay v.wt) i m)) by rw [show (64 * (i : Int)).toNat = 64 * i by omega, show (64 * ((i : Int) + (m : Int))).toNat = 64 * i + 64 * m by omega, List.drop_take, Nat.add_sub_cancel_left]; rfl) ?_
        refine L.val rfl rfl (R.as rfl) ?_
        refine L.val rfl rfl (R.as rfl) ?_
        refine L.nil ?_
        refine N.seq ?_
        refine G.ret2 rfl rfl rfl ?_
        rw [hf]; exact ⟨rfl, E⟩

end Go.Proofs.Ytjmlcodlnohgdaa
