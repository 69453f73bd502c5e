/-
  The walks of package dev.
-/
import Derived.Test.YtjmlcodlnohgdaaDev9
import Derived.Test.YtjmlcodlnohgdaaDev4
set_option linter.unusedVariables false
set_option linter.unusedSimpArgs false
namespace Go.Proofs.Ytjmlcodlnohgdaa
open Go Brv Brv.Image Brv.Dev
theorem turn_bs {w : World} {g E i : Nat} {cs : Array Value} {fz : Nat × Nat} {s : List UInt8} {u m : UInt8} (h : Blk w g (cs.setIfInBounds i (vb (u ^^^ m))) E fz) (ht : cs.toList.take s.length = vbs s) (hg : s.getD i 0 = u) : Bs w (some ⟨g, 0, none⟩) s.length (turnB s i m) := by
  refine ⟨Cells.of_blk h 0 _ (fun q y hq => ?_), by simp [turnB]⟩
  have hql : q < s.length := by have := (List.getElem?_eq_some_iff.1 hq).1; simpa [vbs_length, turnB] using this
  have e : (cs.toList.take s.length).set i (vb (u ^^^ m)) = vbs (turnB s i m) := by rw [ht, vbs_set]; unfold turnB; rw [hg]
  rw [← e, ← List.take_set, List.getElem?_take, if_pos hql] at hq
  rw [Nat.zero_add, ← Array.getElem?_toList, Array.toList_setIfInBounds]
  exact hq
theorem rdflush_ok (v : DevV) (sz : Nat) (wa : Option Addr) (wc : Nat) (w : World) (hwf : v.Wf sz) (hz : sz ≤ 4096) (hr : RefAt w v.wt wa) (hcb : 0 ≤ v.calls ∧ v.calls ≤ 1000000000) (hwb : v.wt.length ≤ 1000000) : Meets Try.prog 48 [.agg (rdC v wa wc)] w (fun r w' => ∃ wa' wc', r = .tuple #[.agg (rdC (flushV v).1 wa' wc'), .int .i64 (flushV v).2] ∧ Ext [] w w' ∧ RefAt w' (flushV v).1.wt wa') := by
  refine Meets.enter Try.func48 rfl 36 rfl (Nat.le_of_ble_eq_true rfl) ?_
  have E := Ext.refl [] w
  have hcs := callV_same v
  have hr0 := hr
  have hsl := hwf.len
  refine G.seq ?_
  refine G.region ?_
  refine L.do rfl rfl (R.box rfl) ?_
  rintro _ w1 ⟨b1, rfl, hzb1, hs1, e1, B1⟩
  replace B1 : Blk w1 b1 (rdC v wa wc) 73 (0, 0) := B1
  replace E := E.trans0 e1
  refine L.do rfl rfl (R.alloc) ?_
  rintro _ w2 ⟨b2, rfl, hzb2, hs2, e2, B2⟩
  replace E := E.trans0 e2
  replace B1 := B1.ext0 e2
  refine L.val rfl rfl (R.as rfl) ?_
  refine L.nil ?_
  refine N.seq ?_
  refine G.seq ?_
  refine G.seq ?_
  refine G.region ?_
  refine L.val rfl rfl (R.fld rfl) ?_
  refine L.val rfl rfl (R.ldB rfl B1 rfl) ?_
  refine L.nil ?_
  refine N.seq ?_
  refine G.condB rfl (fun h0 => ?_) (fun h0 => ?_)
  · have ho : v.off = true := h0
    have hf : flushV v = (v, 10) := if_pos ho
    refine G.seq ?_
    refine G.region ?_
    refine L.val rfl rfl (R.ldBN rfl B1 rfl) ?_
    refine L.set rfl (R.stN rfl rfl B2 rfl (Nat.le_refl 5) (rdC_one _ _ _)) ?_
    rintro w20 ⟨e20, hs20, B2⟩
    replace B2 : Blk w20 b2 (rdC v wa wc) 73 (0, 0) := B2
    replace E := E.news2 e20 (by omega)
    refine L.val rfl rfl (R.as rfl) ?_
    refine L.nil ?_
    refine N.seq ?_
    refine G.retCT rfl rfl rfl (B2) rfl ?_
    first
      | (rw [hf]; exact ⟨wa, wc, rfl, E, hr0.ext0 E⟩)
      | (rw [hf]; exact ⟨wa, wc, rfl, E, by show RefAt _ v1.wt wa; rw [hcs.2]; exact hr0.ext0 E⟩)
      | (rw [hf]; exact ⟨none, 0, rfl, E, RefAt.nil _⟩)
  · have ho : ¬ v.off = true := by simpa using h0
    refine G.skip ?_
    refine N.seq ?_
    refine G.seq ?_
    refine G.region ?_
    refine L.val rfl rfl (R.ldBN rfl B1 rfl) ?_
    refine L.callF rfl rfl rfl go84 (rdcall_ok v sz wa wc _ hwf hz hcb) ?_
    rintro _ w4 ⟨rfl, e4⟩
    replace E := E.trans0 e4
    replace B1 := B1.ext0 e4
    replace B2 := B2.ext0 e4
    obtain ⟨v1, hv1⟩ : ∃ v1, v1 = (callV v).1 := ⟨_, rfl⟩
    rw [← hv1] at hcs ⊢
    have hv1w : v1.wt.length ≤ 1000000 := by rw [hcs.2]; exact hwb
    have hwf1 : v1.Wf sz := hv1 ▸ callV_wf hwf
    have hsl1 := hwf1.len
    refine L.val rfl rfl (R.mv rfl) ?_
    refine L.val rfl rfl (R.ext rfl rfl) ?_
    refine L.val rfl rfl (R.ext rfl rfl) ?_
    refine L.set rfl (R.stN rfl rfl B1 rfl (Nat.le_refl 5) (rdC_one _ _ _)) ?_
    rintro w5 ⟨e5, hs5, B1⟩
    replace B1 : Blk w5 b1 (rdC v1 wa wc) 73 (0, 0) := B1
    replace E := E.news2 e5 (by omega)
    replace B2 := B2.ext e5 (by simp; omega)
    refine L.val rfl rfl (R.as rfl) ?_
    refine L.nil ?_
    refine N.seq ?_
    refine G.seq ?_
    refine G.seq ?_
    refine G.region ?_
    refine L.val rfl rfl (R.mv rfl) ?_
    refine L.val rfl rfl (R.not rfl) ?_
    refine L.nil ?_
    refine N.seq ?_
    refine G.condB rfl (fun h1 => ?_) (fun h1 => ?_)
    · have hcf : (callV v).2 = false := by simpa using h1
      have hf : flushV v = (v1, 10) := by unfold flushV; rw [if_neg ho, if_neg (by simp [hcf]), hv1]
      refine G.seq ?_
      refine G.region ?_
      refine L.val rfl rfl (R.ldBN rfl B1 rfl) ?_
      refine L.set rfl (R.stN rfl rfl B2 rfl (Nat.le_refl 5) (rdC_one _ _ _)) ?_
      rintro w21 ⟨e21, hs21, B2⟩
      replace B2 : Blk w21 b2 (rdC v1 wa wc) 73 (0, 0) := B2
      replace E := E.news2 e21 (by omega)
      refine L.val rfl rfl (R.as rfl) ?_
      refine L.nil ?_
      refine N.seq ?_
      refine G.retCT rfl rfl rfl (B2) rfl ?_
      first
        | (rw [hf]; exact ⟨wa, wc, rfl, E, hr0.ext0 E⟩)
        | (rw [hf]; exact ⟨wa, wc, rfl, E, by show RefAt _ v1.wt wa; rw [hcs.2]; exact hr0.ext0 E⟩)
        | (rw [hf]; exact ⟨none, 0, rfl, E, RefAt.nil _⟩)
    · have hcf : (callV v).2 = true := by simpa using h1
      have hf : flushV v = (({ v1 with stay := laidAll v1.stay v1.wt, wt := [] } : DevV), 0) := by unfold flushV; rw [if_neg ho, if_pos hcf, hv1]
      refine G.skip ?_
      refine N.seq ?_
      refine G.seq ?_
      refine G.seq ?_
      refine G.region ?_
      refine L.val rfl rfl (R.fld rfl) ?_
      refine L.val rfl rfl (R.ldB rfl B1 rfl) ?_
      refine L.val rfl rfl (R.lenS rfl) ?_
      refine L.val rfl rfl (R.mv rfl) ?_
      refine L.nil ?_
      refine N.seq ?_
      refine G.block ?_
      replace B2 : ∃ cs6 : Array Value, Blk _ b2 cs6 73 (0, 0) ∧ cs6.size = 5 := ⟨_, B2, rfl⟩
      obtain ⟨cs6, B2, hcz6⟩ := B2
      refine G.loop (X := Nat) (fun k => [(1, .pointer (some ⟨b1, 0, none⟩)), (2, .pointer (some ⟨b2, 0, none⟩)), (19, .slice wa v1.wt.length wc), (20, .int .i64 (v1.wt.length : Int)), (21, .int .i64 (k : Int))]) (fun k w' => k ≤ v1.wt.length ∧ Blk w' b1 (rdC ({ v1 with stay := laidAll v1.stay (v1.wt.take k) } : DevV) wa wc) 73 (0, 0) ∧ Blk w' b2 cs6 73 (0, 0) ∧ Ext [] w w') (fun k => v1.wt.length - k) (0) (Sub.cons rfl (Sub.cons rfl (Sub.cons rfl (Sub.cons rfl (Sub.cons rfl (Sub.nil _)))))) ⟨Nat.zero_le _, B1, B2, E⟩ ?_
      rintro k w5 ⟨hk, B1, B2, E⟩
      have hr : RefAt w5 v1.wt wa := by rw [hcs.2]; exact hr0.ext0 E
      refine G.seq ?_
      refine G.region ?_
      refine L.val rfl rfl (R.lss rfl rfl) ?_
      refine L.nil ?_
      refine N.seq ?_
      refine G.seq ?_
      refine G.condP rfl (fun h2 => ?_) (fun h2 => ?_)
      · have hk2 : k < v1.wt.length := by omega
        obtain ⟨x, hx⟩ : ∃ x, v1.wt[k]? = some x := ⟨_, List.getElem?_eq_getElem hk2⟩
        obtain ⟨q9, hq9, hcl⟩ := hr.elem hx
        have hxw := hwf1.wt x (List.mem_of_getElem? hx)
        have hlk := laidAll_length (s := []) hwf1.len (fun y hy => hwf1.wt y (List.mem_of_mem_take hy) : ∀ y ∈ v1.wt.take k, _)
        have l1 := B1.lt
        have l2 := B2.lt
        refine G.skip ?_
        refine N.seq ?_
        refine G.seq ?_
        refine G.block ?_
        refine G.seq ?_
        refine G.region ?_
        refine L.val rfl rfl (R.idx rfl rfl (by omega) (by omega) q9 hq9) ?_
        refine L.val rfl rfl (R.ldN rfl hcl rfl) ?_
        refine L.do rfl rfl (R.alloc) ?_
        rintro _ w6 ⟨b6, rfl, hb6, hs6, e6, B6⟩
        have hEk := E.size
        refine L.set rfl (R.stN rfl rfl B6 rfl (Nat.le_refl 2) (rwC_one x)) ?_
        rintro w7 ⟨e7, hs7, B6⟩
        replace B6 : Blk w7 b6 (rwC x).toArray 134 (0, 0) := B6
        have n7 := e6.news2 e7 (by omega)
        replace E := E.trans0 n7
        replace B1 := B1.ext0 n7
        replace B2 := B2.ext0 n7
        refine L.nil ?_
        refine N.seq ?_
        refine G.region ?_
        refine L.val rfl rfl (R.fld rfl) ?_
        refine L.val rfl rfl (R.ldB rfl B1 rfl) ?_
        refine L.val rfl rfl (R.fld rfl) ?_
        refine L.val rfl rfl (R.ldB rfl B6 rfl) ?_
        refine L.val rfl rfl (R.fld rfl) ?_
        refine L.val rfl rfl (R.ldB rfl B6 rfl) ?_
        refine L.callF rfl rfl rfl go83 (rdlaid_ok (laidAll v1.stay (v1.wt.take k)) x.2 x.1 _ (by omega) (by omega) (by omega)) ?_
        rintro _ w8 ⟨rfl, e8⟩
        replace E := E.trans0 e8
        rw [← laidAll_succ hx]
        replace B1 := B1.ext0 e8
        replace B2 := B2.ext0 e8
        refine L.val rfl rfl (R.fld rfl) ?_
        refine L.set rfl (R.st rfl rfl B1 (by show 0 < 5; decide) rfl) ?_
        rintro w9 ⟨e9, hs9, B1⟩
        replace B1 : Blk w9 b1 (rdC ({ v1 with stay := laidAll v1.stay (v1.wt.take (k + 1)) } : DevV) wa wc) 73 (0, 0) := B1
        replace E := E.news2 e9 (by omega)
        replace B2 := B2.ext e9 (by simp; omega)
        refine L.nil ?_
        refine N.block ?_
        refine N.seq ?_
        refine G.region ?_
        refine L.val rfl rfl (R.add rfl rfl (by omega)) ?_
        refine L.val rfl rfl (R.mv rfl) ?_
        refine L.nil ?_
        exact N.again (k + 1) (by omega) (Sub.cons rfl (Sub.cons rfl (Sub.cons rfl (Sub.cons rfl (Sub.cons rfl (Sub.nil _)))))) ⟨by omega, B1, B2, E⟩
      · obtain rfl : k = v1.wt.length := by omega
        rw [List.take_length] at B1
        have l1 := B1.lt
        have l2 := B2.lt
        refine G.exit _ rfl ?_
        refine N.seq ?_
        refine G.seq ?_
        refine G.region ?_
        refine L.val rfl rfl (R.fld rfl) ?_
        refine L.set rfl (R.st rfl rfl B1 (by show 1 < 5; decide) rfl) ?_
        rintro w10 ⟨e10, hs10, B1⟩
        replace B1 : Blk w10 b1 (rdC ({ v1 with stay := laidAll v1.stay v1.wt, wt := [] } : DevV) none 0) 73 (0, 0) := B1
        replace E := E.news2 e10 (by omega)
        replace B2 := B2.ext e10 (by simp; omega)
        refine L.nil ?_
        refine N.seq ?_
        refine G.seq ?_
        refine G.region ?_
        refine L.val rfl rfl (R.ldBN rfl B1 rfl) ?_
        refine L.set rfl (R.stN rfl rfl B2 rfl (by rw [hcz6]; exact Nat.le_refl 5) (rdC_one _ _ _)) ?_
        rintro w11 ⟨e11, hs11, Bn⟩
        rw [all_stored (by rw [hcz6]; rfl)] at Bn
        replace B2 : Blk w11 b2 (rdC ({ v1 with stay := laidAll v1.stay v1.wt, wt := [] } : DevV) none 0) 73 (0, 0) := Bn
        replace E := E.news2 e11 (by omega)
        refine L.val rfl rfl (R.as rfl) ?_
        refine L.nil ?_
        refine N.seq ?_
        refine G.retCT rfl rfl rfl (B2) rfl ?_
        first
          | (rw [hf]; exact ⟨wa, wc, rfl, E, hr0.ext0 E⟩)
          | (rw [hf]; exact ⟨wa, wc, rfl, E, by show RefAt _ v1.wt wa; rw [hcs.2]; exact hr0.ext0 E⟩)
          | (rw [hf]; exact ⟨none, 0, rfl, E, RefAt.nil _⟩)

theorem rdcrash_ok (v : DevV) (sz : Nat) (wa : Option Addr) (wc : Nat) (ka : Option Addr) (kc : Nat) (ks : List Bool) (w : World) (hwf : v.Wf sz) (hz : sz ≤ 4096) (hr : RefAt w v.wt wa) (hwb : v.wt.length ≤ 1000000) (hq : Cells w ka (ks.map Value.bool)) : Meets Try.prog 49 [.agg (rdC v wa wc), .slice ka ks.length kc] w (fun r w' => r = .agg (rdC (crashV v ks) none 0) ∧ Ext [] w w') := by
  refine Meets.enter Try.func49 rfl 38 rfl (Nat.le_of_ble_eq_true rfl) ?_
  have E := Ext.refl [] w
  have hr0 := hr
  have hq0 := hq
  have hsl := hwf.len
  refine G.seq ?_
  refine G.region ?_
  refine L.do rfl rfl (R.box rfl) ?_
  rintro _ w1 ⟨b2, rfl, hzb2, hs1, e1, B2⟩
  replace B2 : Blk w1 b2 (rdC v wa wc) 73 (0, 0) := B2
  replace E := E.trans0 e1
  refine L.do rfl rfl (R.alloc) ?_
  rintro _ w2 ⟨b4, rfl, hzb4, hs2, e2, B4⟩
  replace E := E.trans0 e2
  replace B2 := B2.ext0 e2
  refine L.nil ?_
  refine N.seq ?_
  refine G.seq ?_
  refine G.seq ?_
  refine G.region ?_
  refine L.val rfl rfl (R.fld rfl) ?_
  refine L.val rfl rfl (R.ldB rfl B2 rfl) ?_
  refine L.val rfl rfl (R.lenS rfl) ?_
  refine L.val rfl rfl (R.mv rfl) ?_
  refine L.nil ?_
  refine N.seq ?_
  refine G.block ?_
  replace B4 : ∃ cs6 : Array Value, Blk _ b4 cs6 73 (0, 0) ∧ cs6.size = 5 := ⟨_, B4, rfl⟩
  obtain ⟨cs6, B4, hcz6⟩ := B4
  refine G.loop (X := Nat) (fun k => [(1, .slice ka ks.length kc), (2, .pointer (some ⟨b2, 0, none⟩)), (4, .pointer (some ⟨b4, 0, none⟩)), (8, .slice wa v.wt.length wc), (9, .int .i64 (v.wt.length : Int)), (10, .int .i64 (k : Int))]) (fun k w' => k ≤ v.wt.length ∧ Blk w' b2 (rdC ({ v with stay := keepN v.stay v.wt ks k } : DevV) wa wc) 73 (0, 0) ∧ Blk w' b4 cs6 73 (0, 0) ∧ Ext [] w w') (fun k => v.wt.length - k) (0) (Sub.cons rfl (Sub.cons rfl (Sub.cons rfl (Sub.cons rfl (Sub.cons rfl (Sub.cons rfl (Sub.nil _))))))) ⟨Nat.zero_le _, B2, B4, E⟩ ?_
  rintro k w5 ⟨hk, B2, B4, E⟩
  have hr := hr0.ext0 E
  have hq := hq0.ext0 E
  refine G.seq ?_
  refine G.region ?_
  refine L.val rfl rfl (R.lss rfl rfl) ?_
  refine L.nil ?_
  refine N.seq ?_
  refine G.seq ?_
  refine G.condP rfl (fun h0 => ?_) (fun h0 => ?_)
  · have hk2 : k < v.wt.length := by omega
    obtain ⟨x, hx⟩ : ∃ x, v.wt[k]? = some x := ⟨_, List.getElem?_eq_getElem hk2⟩
    obtain ⟨q9, hq9, hcl⟩ := hr.elem hx
    have hxw := hwf.wt x (List.mem_of_getElem? hx)
    have hlk := keepN_length (keep := ks) hwf.len hwf.wt k
    have l2 := B2.lt
    have l4 := B4.lt
    refine G.skip ?_
    refine N.seq ?_
    refine G.seq ?_
    refine G.block ?_
    refine G.seq ?_
    refine G.region ?_
    refine L.val rfl rfl (R.mv rfl) ?_
    refine L.val rfl rfl (R.idx rfl rfl (by omega) (by omega) q9 hq9) ?_
    refine L.val rfl rfl (R.ldN rfl hcl rfl) ?_
    refine L.do rfl rfl (R.alloc) ?_
    rintro _ w6 ⟨b6, rfl, hb6, hs6, e6, B6⟩
    have hEk := E.size
    refine L.val rfl rfl (R.as rfl) ?_
    refine L.set rfl (R.stN rfl rfl B6 rfl (Nat.le_refl 2) (rwC_one x)) ?_
    rintro w7 ⟨e7, hs7, B6⟩
    replace B6 : Blk w7 b6 (rwC x).toArray 134 (0, 0) := B6
    have n7 := e6.news2 e7 (by omega)
    replace E := E.trans0 n7
    replace B2 := B2.ext0 n7
    replace B4 := B4.ext0 n7
    replace hq := hq.ext0 n7
    refine L.nil ?_
    refine N.seq ?_
    refine G.seq ?_
    refine G.region ?_
    refine L.val rfl rfl (R.mv rfl) ?_
    refine L.val rfl rfl (R.mv rfl) ?_
    refine L.val rfl rfl (R.lenS rfl) ?_
    refine L.val rfl rfl (R.lss rfl rfl) ?_
    refine L.val rfl rfl (R.mv rfl) ?_
    refine L.caseP 19 rfl (fun hg4_4 => ?_) (fun hg4_4 => ?_)
    · have hkl : k < ks.length := by omega
      obtain ⟨bb, hbb⟩ : ∃ bb, ks[k]? = some bb := ⟨_, List.getElem?_eq_getElem hkl⟩
      obtain ⟨pk, hpk, hck⟩ := cellsB hq hbb
      refine L.val rfl rfl (R.mv rfl) ?_
      refine L.val rfl rfl (R.mv rfl) ?_
      refine L.val rfl rfl (R.idx rfl rfl (by omega) (by omega) pk hpk) ?_
      refine L.val rfl rfl (R.ld rfl (v := .bool bb) (by simpa using hck)) ?_
      first | refine L.val rfl rfl (R.pickT rfl rfl) ?_ | refine L.val rfl rfl (R.pickF rfl rfl) ?_
      refine L.nil ?_
      refine N.seq ?_
      refine G.condB rfl (fun h1 => ?_) (fun h1 => ?_)
      · have hkb : ks[k]? = some true := by rw [hbb, h1]
        refine G.region ?_
        refine L.val rfl rfl (R.fld rfl) ?_
        refine L.val rfl rfl (R.ldB rfl B2 rfl) ?_
        refine L.val rfl rfl (R.fld rfl) ?_
        refine L.val rfl rfl (R.ldB rfl B6 rfl) ?_
        refine L.val rfl rfl (R.fld rfl) ?_
        refine L.val rfl rfl (R.ldB rfl B6 rfl) ?_
        refine L.callF rfl rfl rfl go83 (rdlaid_ok (keepN v.stay v.wt ks k) x.2 x.1 _ (by omega) (by omega) (by omega)) ?_
        rintro _ w8 ⟨rfl, e8⟩
        replace E := E.trans0 e8
        rw [← keepN_yes hx hkb]
        replace B2 := B2.ext0 e8
        replace B4 := B4.ext0 e8
        refine L.val rfl rfl (R.fld rfl) ?_
        refine L.set rfl (R.st rfl rfl B2 (by show 0 < 5; decide) rfl) ?_
        rintro w9 ⟨e9, hs9, B2⟩
        replace B2 : Blk w9 b2 (rdC ({ v with stay := keepN v.stay v.wt ks (k + 1) } : DevV) wa wc) 73 (0, 0) := B2
        replace E := E.news2 e9 (by omega)
        replace B4 := B4.ext e9 (by simp; omega)
        refine L.nil ?_
        refine N.block ?_
        refine N.seq ?_
        refine G.region ?_
        refine L.val rfl rfl (R.add rfl rfl (by omega)) ?_
        refine L.val rfl rfl (R.mv rfl) ?_
        refine L.nil ?_
        first
          | exact N.again (k + 1) (by omega) (Sub.cons rfl (Sub.cons rfl (Sub.cons rfl (Sub.cons rfl (Sub.cons rfl (Sub.cons rfl (Sub.nil _))))))) ⟨by omega, B2, B4, E⟩
          | exact N.again (k + 1) (by omega) (Sub.cons rfl (Sub.cons rfl (Sub.cons rfl (Sub.cons rfl (Sub.cons rfl (Sub.cons rfl (Sub.nil _))))))) ⟨by omega, by rw [keepN_no hx hkb]; exact B2, B4, E⟩
      · have hkb : ¬ ks[k]? = some true := by rw [hbb]; simpa using h1
        refine G.skip ?_
        refine N.block ?_
        refine N.seq ?_
        refine G.region ?_
        refine L.val rfl rfl (R.add rfl rfl (by omega)) ?_
        refine L.val rfl rfl (R.mv rfl) ?_
        refine L.nil ?_
        first
          | exact N.again (k + 1) (by omega) (Sub.cons rfl (Sub.cons rfl (Sub.cons rfl (Sub.cons rfl (Sub.cons rfl (Sub.cons rfl (Sub.nil _))))))) ⟨by omega, B2, B4, E⟩
          | exact N.again (k + 1) (by omega) (Sub.cons rfl (Sub.cons rfl (Sub.cons rfl (Sub.cons rfl (Sub.cons rfl (Sub.cons rfl (Sub.nil _))))))) ⟨by omega, by rw [keepN_no hx hkb]; exact B2, B4, E⟩
    · have hkb : ¬ ks[k]? = some true := by rw [List.getElem?_eq_none (by omega)]; simp
      refine L.pass rfl rfl ?_
      refine L.pass rfl rfl ?_
      refine L.pass rfl rfl ?_
      refine L.pass rfl rfl ?_
      first | refine L.val rfl rfl (R.pickT rfl rfl) ?_ | refine L.val rfl rfl (R.pickF rfl rfl) ?_
      refine L.nil ?_
      refine N.seq ?_
      refine G.condF rfl ?_
      refine G.skip ?_
      refine N.block ?_
      refine N.seq ?_
      refine G.region ?_
      refine L.val rfl rfl (R.add rfl rfl (by omega)) ?_
      refine L.val rfl rfl (R.mv rfl) ?_
      refine L.nil ?_
      first
        | exact N.again (k + 1) (by omega) (Sub.cons rfl (Sub.cons rfl (Sub.cons rfl (Sub.cons rfl (Sub.cons rfl (Sub.cons rfl (Sub.nil _))))))) ⟨by omega, B2, B4, E⟩
        | exact N.again (k + 1) (by omega) (Sub.cons rfl (Sub.cons rfl (Sub.cons rfl (Sub.cons rfl (Sub.cons rfl (Sub.cons rfl (Sub.nil _))))))) ⟨by omega, by rw [keepN_no hx hkb]; exact B2, B4, E⟩
  · obtain rfl : k = v.wt.length := by omega
    have l2 := B2.lt
    have l4 := B4.lt
    refine G.exit _ rfl ?_
    refine N.seq ?_
    refine G.seq ?_
    refine G.region ?_
    refine L.val rfl rfl (R.fld rfl) ?_
    refine L.set rfl (R.st rfl rfl B2 (by show 1 < 5; decide) rfl) ?_
    rintro w10 ⟨e10, hs10, B2⟩
    replace B2 : Blk w10 b2 (rdC ({ v with stay := keepN v.stay v.wt ks v.wt.length, wt := [] } : DevV) none 0) 73 (0, 0) := B2
    replace E := E.news2 e10 (by omega)
    replace B4 := B4.ext e10 (by simp; omega)
    refine L.nil ?_
    refine N.seq ?_
    refine G.seq ?_
    refine G.region ?_
    refine L.val rfl rfl (R.fld rfl) ?_
    refine L.set rfl (R.st rfl rfl B2 (by show 4 < 5; decide) rfl) ?_
    rintro w11 ⟨e11, hs11, B2⟩
    replace B2 : Blk w11 b2 (rdC ({ v with stay := keepN v.stay v.wt ks v.wt.length, wt := [], off := false } : DevV) none 0) 73 (0, 0) := B2
    replace E := E.news2 e11 (by omega)
    replace B4 := B4.ext e11 (by simp; omega)
    refine L.nil ?_
    refine N.seq ?_
    refine G.seq ?_
    refine G.region ?_
    refine L.val rfl rfl (R.fld rfl) ?_
    refine L.set rfl (R.st rfl rfl B2 (by show 3 < 5; decide) rfl) ?_
    rintro w12 ⟨e12, hs12, B2⟩
    replace B2 : Blk w12 b2 (rdC (crashV v ks) none 0) 73 (0, 0) := B2
    replace E := E.news2 e12 (by omega)
    replace B4 := B4.ext e12 (by simp; omega)
    refine L.nil ?_
    refine N.seq ?_
    refine G.seq ?_
    refine G.region ?_
    refine L.val rfl rfl (R.ldBN rfl B2 rfl) ?_
    refine L.set rfl (R.stN rfl rfl B4 rfl (by rw [hcz6]; exact Nat.le_refl 5) (rdC_one _ _ _)) ?_
    rintro w13 ⟨e13, hs13, Bn⟩
    rw [all_stored (by rw [hcz6]; rfl)] at Bn
    replace B4 : Blk w13 b4 (rdC (crashV v ks) none 0) 73 (0, 0) := Bn
    replace E := E.news2 e13 (by omega)
    refine L.nil ?_
    refine N.seq ?_
    refine G.retC rfl rfl (B4) rfl ?_
    exact ⟨rfl, E⟩

theorem rdturn_ok (v : DevV) (sz : Nat) (wa : Option Addr) (wc : Nat) (p n : Int) (w : World) (hwf : v.Wf sz) (hz : sz ≤ 4096) : Meets Try.prog 50 [.agg (rdC v wa wc), .int .i64 p, .int .i64 n] w (fun r w' => r = .tuple #[.agg (rdC (turnV v sz p n).1 wa wc), .int .i64 (turnV v sz p n).2] ∧ Ext [] w w') := by
  refine Meets.enter Try.func50 rfl 49 rfl (Nat.le_of_ble_eq_true rfl) ?_
  have E := Ext.refl [] w
  have hl := hwf.len
  refine G.seq ?_
  refine G.region ?_
  refine L.do rfl rfl (R.box rfl) ?_
  rintro _ w1 ⟨b3, rfl, hzb3, hs1, e1, B3⟩
  replace B3 : Blk w1 b3 (rdC v wa wc) 73 (0, 0) := B3
  replace E := E.trans0 e1
  refine L.do rfl rfl (R.alloc) ?_
  rintro _ w2 ⟨b6, rfl, hzb6, hs2, e2, B6⟩
  replace E := E.trans0 e2
  replace B3 := B3.ext0 e2
  refine L.val rfl rfl (R.as rfl) ?_
  refine L.nil ?_
  refine N.seq ?_
  refine G.seq ?_
  refine G.seq ?_
  refine G.region ?_
  refine L.val rfl rfl (R.mv rfl) ?_
  refine L.val rfl rfl (R.lss rfl rfl) ?_
  refine L.val rfl rfl (R.mv rfl) ?_
  refine L.caseP 11 rfl (fun hg1_2 => ?_) (fun hg1_2 => ?_)
  · refine L.pass rfl rfl ?_
    refine L.pass rfl rfl ?_
    refine L.pass rfl rfl ?_
    refine L.pass rfl rfl ?_
    refine L.pass rfl rfl ?_
    refine L.pass rfl rfl ?_
    first | refine L.val rfl rfl (R.pickT rfl rfl) ?_ | refine L.val rfl rfl (R.pickF rfl rfl) ?_
    refine L.val rfl rfl (R.mv rfl) ?_
    refine L.pass rfl rfl ?_
    refine L.pass rfl rfl ?_
    first | refine L.val rfl rfl (R.pickT rfl rfl) ?_ | refine L.val rfl rfl (R.pickF rfl rfl) ?_
    refine L.val rfl rfl (R.mv rfl) ?_
    refine L.pass rfl rfl ?_
    refine L.pass rfl rfl ?_
    first | refine L.val rfl rfl (R.pickT rfl rfl) ?_ | refine L.val rfl rfl (R.pickF rfl rfl) ?_
    refine L.nil ?_
    refine N.seq ?_
    refine G.condT rfl ?_
    refine G.seq ?_
    refine G.region ?_
    refine L.val rfl rfl (R.ldBN rfl B3 rfl) ?_
    refine L.set rfl (R.stN rfl rfl B6 rfl (Nat.le_refl 5) (rdC_one _ _ _)) ?_
    rintro w20 ⟨e20, hs20, B6⟩
    replace B6 : Blk w20 b6 (rdC v wa wc) 73 (0, 0) := B6
    replace E := E.news2 e20 (by omega)
    refine L.val rfl rfl (R.as rfl) ?_
    refine L.nil ?_
    refine N.seq ?_
    refine G.retCT rfl rfl rfl (B6) rfl ?_
    first
      | (rw [hf]; exact ⟨rfl, E⟩)
      | (rw [show turnV v sz p n = (v, 11) from if_pos (by omega)]; exact ⟨rfl, E⟩)
  · refine L.val rfl rfl (R.mv rfl) ?_
    refine L.val rfl rfl (R.fld rfl) ?_
    refine L.val rfl rfl (R.ldB rfl B3 rfl) ?_
    refine L.val rfl rfl (R.lenT rfl) ?_
    refine L.val rfl rfl (R.quo rfl rfl (by omega) (by omega)) ?_
    refine L.val rfl rfl (R.geq rfl rfl) ?_
    first | refine L.val rfl rfl (R.pickT rfl rfl) ?_ | refine L.val rfl rfl (R.pickF rfl rfl) ?_
    refine L.val rfl rfl (R.mv rfl) ?_
    refine L.caseP 19 rfl (fun hg1_10 => ?_) (fun hg1_10 => ?_)
    · refine L.pass rfl rfl ?_
      refine L.pass rfl rfl ?_
      first | refine L.val rfl rfl (R.pickT rfl rfl) ?_ | refine L.val rfl rfl (R.pickF rfl rfl) ?_
      refine L.val rfl rfl (R.mv rfl) ?_
      refine L.pass rfl rfl ?_
      refine L.pass rfl rfl ?_
      first | refine L.val rfl rfl (R.pickT rfl rfl) ?_ | refine L.val rfl rfl (R.pickF rfl rfl) ?_
      refine L.nil ?_
      refine N.seq ?_
      refine G.condT rfl ?_
      refine G.seq ?_
      refine G.region ?_
      refine L.val rfl rfl (R.ldBN rfl B3 rfl) ?_
      refine L.set rfl (R.stN rfl rfl B6 rfl (Nat.le_refl 5) (rdC_one _ _ _)) ?_
      rintro w20 ⟨e20, hs20, B6⟩
      replace B6 : Blk w20 b6 (rdC v wa wc) 73 (0, 0) := B6
      replace E := E.news2 e20 (by omega)
      refine L.val rfl rfl (R.as rfl) ?_
      refine L.nil ?_
      refine N.seq ?_
      refine G.retCT rfl rfl rfl (B6) rfl ?_
      first
        | (rw [hf]; exact ⟨rfl, E⟩)
        | (rw [show turnV v sz p n = (v, 11) from if_pos (by omega)]; exact ⟨rfl, E⟩)
    · refine L.val rfl rfl (R.mv rfl) ?_
      refine L.val rfl rfl (R.lss rfl rfl) ?_
      first | refine L.val rfl rfl (R.pickT rfl rfl) ?_ | refine L.val rfl rfl (R.pickF rfl rfl) ?_
      refine L.val rfl rfl (R.mv rfl) ?_
      refine L.caseP 23 rfl (fun hg1_14 => ?_) (fun hg1_14 => ?_)
      · refine L.pass rfl rfl ?_
        refine L.pass rfl rfl ?_
        first | refine L.val rfl rfl (R.pickT rfl rfl) ?_ | refine L.val rfl rfl (R.pickF rfl rfl) ?_
        refine L.nil ?_
        refine N.seq ?_
        refine G.condT rfl ?_
        refine G.seq ?_
        refine G.region ?_
        refine L.val rfl rfl (R.ldBN rfl B3 rfl) ?_
        refine L.set rfl (R.stN rfl rfl B6 rfl (Nat.le_refl 5) (rdC_one _ _ _)) ?_
        rintro w20 ⟨e20, hs20, B6⟩
        replace B6 : Blk w20 b6 (rdC v wa wc) 73 (0, 0) := B6
        replace E := E.news2 e20 (by omega)
        refine L.val rfl rfl (R.as rfl) ?_
        refine L.nil ?_
        refine N.seq ?_
        refine G.retCT rfl rfl rfl (B6) rfl ?_
        first
          | (rw [hf]; exact ⟨rfl, E⟩)
          | (rw [show turnV v sz p n = (v, 11) from if_pos (by omega)]; exact ⟨rfl, E⟩)
      · refine L.val rfl rfl (R.mv rfl) ?_
        refine L.val rfl rfl (R.gtr rfl rfl) ?_
        first | refine L.val rfl rfl (R.pickT rfl rfl) ?_ | refine L.val rfl rfl (R.pickF rfl rfl) ?_
        refine L.nil ?_
        refine N.seq ?_
        refine G.condP rfl (fun h0 => ?_) (fun h0 => ?_)
        · refine G.seq ?_
          refine G.region ?_
          refine L.val rfl rfl (R.ldBN rfl B3 rfl) ?_
          refine L.set rfl (R.stN rfl rfl B6 rfl (Nat.le_refl 5) (rdC_one _ _ _)) ?_
          rintro w20 ⟨e20, hs20, B6⟩
          replace B6 : Blk w20 b6 (rdC v wa wc) 73 (0, 0) := B6
          replace E := E.news2 e20 (by omega)
          refine L.val rfl rfl (R.as rfl) ?_
          refine L.nil ?_
          refine N.seq ?_
          refine G.retCT rfl rfl rfl (B6) rfl ?_
          first
            | (rw [hf]; exact ⟨rfl, E⟩)
            | (rw [show turnV v sz p n = (v, 11) from if_pos (by omega)]; exact ⟨rfl, E⟩)
        · obtain ⟨i, rfl⟩ := Int.eq_ofNat_of_zero_le (show 0 ≤ p by omega)
          obtain ⟨j, rfl⟩ := Int.eq_ofNat_of_zero_le (show 0 ≤ n by omega)
          have hf : turnV v sz (i : Int) (j : Int) = (({ v with stay := turnB v.stay (64 * i + j / 8) (Crc.oneBit (j % 8)) } : DevV), 0) := by unfold turnV; rw [if_neg (by omega)]; rfl
          have hil : (64 * i + j / 8) < v.stay.length := by omega
          obtain ⟨u, hu⟩ : ∃ u, v.stay[(64 * i + j / 8)]? = some u := ⟨_, List.getElem?_eq_getElem hil⟩
          have hgd : v.stay.getD (64 * i + j / 8) 0 = u := by rw [List.getD_eq_getElem?_getD, hu]; rfl
          refine G.skip ?_
          refine N.seq ?_
          refine G.seq ?_
          refine G.region ?_
          refine L.val rfl rfl (R.fld rfl) ?_
          refine L.val rfl rfl (R.ldB rfl B3 rfl) ?_
          refine L.do rfl rfl (R.strBytesO rfl) ?_
          rintro _ w3 ⟨b8, cs, fz, rfl, hb8, hs8, e3, B8, hf8, hl8, ht8⟩
          obtain ⟨z, hz8⟩ : ∃ z, z = cs.size := ⟨_, rfl⟩
          rw [← hz8] at hf8 hl8
          refine L.be 30 rfl (show _ = Value.slice (some ⟨b8, 0, none⟩) v.stay.length z by rw [hz8]) ?_
          have hE2 := E.size
          replace E := E.trans0 e3
          replace B3 := B3.ext0 e3
          replace B6 := B6.ext0 e3
          have l3 := B3.lt
          have l6 := B6.lt
          have hcu : cs[(64 * i + j / 8)]? = some (vb u) := by have e := congrArg (fun l : List Value => l[(64 * i + j / 8)]?) ht8; simp only [List.getElem?_take, if_pos hil, Array.getElem?_toList, vbs_get, hu] at e; exact e
          refine L.val rfl rfl (R.as rfl) ?_
          refine L.nil ?_
          refine N.seq ?_
          refine G.seq ?_
          refine G.region ?_
          refine L.val rfl rfl (R.mv rfl) ?_
          refine L.val rfl rfl (R.mv rfl) ?_
          refine L.val rfl rfl (R.mul rfl rfl (by omega)) ?_
          refine L.val rfl rfl (R.mv rfl) ?_
          refine L.val rfl rfl (R.quo rfl rfl (by omega) (by omega)) ?_
          refine L.val rfl rfl (R.add rfl rfl (by omega)) ?_
          refine L.be 36 rfl (show _ = Value.int .i64 (((64 * i + j / 8 : Nat)) : Int) by first | rfl | (congr 1; omega)) ?_
          refine L.val rfl rfl (R.idxO rfl rfl (by omega) (by omega) rfl (64 * i + j / 8) (by omega)) ?_
          refine L.val rfl rfl (R.ldB rfl B8 hcu) ?_
          refine L.be 38 rfl (show _ = Value.int .u8 (u.toNat : Int) from rfl) ?_
          refine L.val rfl rfl (R.mv rfl) ?_
          refine L.val rfl rfl (R.rem rfl rfl (by omega) (by omega)) ?_
          refine L.be 40 rfl (congrArg (Value.int .i64) (show (j : Int) % 8 = ((j % 8 : Nat) : Int) by omega)) ?_
          refine L.val rfl rfl (R.conv rfl ((j % 8 : Nat) : Int) (wrap_u64 (by omega))) ?_
          refine L.val rfl rfl (R.shlW rfl rfl (by omega) _ (Crc.shl_u8 (Nat.mod_lt j (by decide)))) ?_
          refine L.val rfl rfl (R.xorW rfl rfl _ (Crc.xorI_u8 u (Crc.oneBit (j % 8)))) ?_
          refine L.val rfl rfl (R.idxO rfl rfl (by omega) (by omega) rfl (64 * i + j / 8) (by omega)) ?_
          refine L.set rfl (R.stF rfl rfl B8 (by omega) (by omega) rfl) ?_
          rintro w4 ⟨e4, hs4, B8⟩
          replace E := E.news2 e4 (by omega)
          replace B3 := B3.ext e4 (by simp; omega)
          replace B6 := B6.ext e4 (by simp; omega)
          have L8 : Bs w4 (some ⟨b8, 0, none⟩) v.stay.length (turnB v.stay (64 * i + j / 8) (Crc.oneBit (j % 8))) := turn_bs B8 ht8 hgd
          refine L.nil ?_
          refine N.seq ?_
          refine G.seq ?_
          refine G.region ?_
          refine L.val rfl rfl (R.mv rfl) ?_
          refine L.val rfl rfl (R.bytesStr rfl L8.cells L8.len) ?_
          refine L.val rfl rfl (R.fld rfl) ?_
          refine L.set rfl (R.st rfl rfl B3 (by show 0 < 5; decide) rfl) ?_
          rintro w5 ⟨e5, hs5, B3⟩
          replace B3 : Blk w5 b3 (rdC ({ v with stay := turnB v.stay (64 * i + j / 8) (Crc.oneBit (j % 8)) } : DevV) wa wc) 73 (0, 0) := B3
          replace E := E.news2 e5 (by omega)
          replace B6 := B6.ext e5 (by simp; omega)
          refine L.nil ?_
          refine N.seq ?_
          refine G.seq ?_
          refine G.region ?_
          refine L.val rfl rfl (R.ldBN rfl B3 rfl) ?_
          refine L.set rfl (R.stN rfl rfl B6 rfl (Nat.le_refl 5) (rdC_one _ _ _)) ?_
          rintro w6 ⟨e6, hs6, B6⟩
          replace B6 : Blk w6 b6 (rdC ({ v with stay := turnB v.stay (64 * i + j / 8) (Crc.oneBit (j % 8)) } : DevV) wa wc) 73 (0, 0) := B6
          replace E := E.news2 e6 (by omega)
          refine L.val rfl rfl (R.as rfl) ?_
          refine L.nil ?_
          refine N.seq ?_
          refine G.retCT rfl rfl rfl (B6) rfl ?_
          first
            | (rw [hf]; exact ⟨rfl, E⟩)
            | (rw [show turnV v sz p n = (v, 11) from if_pos (by omega)]; exact ⟨rfl, E⟩)

end Go.Proofs.Ytjmlcodlnohgdaa
