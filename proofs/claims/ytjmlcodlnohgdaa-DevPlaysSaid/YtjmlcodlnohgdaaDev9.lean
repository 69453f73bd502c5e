/-
  The walks of package dev.
-/
import Derived.Test.YtjmlcodlnohgdaaDev8
set_option linter.unusedVariables false
set_option linter.unusedSimpArgs false
namespace Go.Proofs.Ytjmlcodlnohgdaa
open Go Brv Brv.Image Brv.Dev
structure RwSt where
  k : Nat
  a9 : Option Addr
  c9 : Nat
  M : List Nat

theorem rdwrite_ok (v : DevV) (sz : Nat) (wa : Option Addr) (wc : Nat) (p : Int) (ba : Option Addr) (bn bc : Nat) (l : List UInt8) (w : World) (hwf : v.Wf sz) (hz : sz ≤ 4096) (hr : RefAt w v.wt wa) (hcb : 0 ≤ v.calls ∧ v.calls ≤ 1000000000) (hwb : v.wt.length ≤ 1000000) (hb : Bs w ba bn l) (hbc : bn ≤ bc) (hbn : bn ≤ 100000) : Meets Try.prog 47 [.agg (rdC v wa wc), .int .i64 p, .slice ba bn bc] w (fun r w' => ∃ wa' wc', r = .tuple #[.agg (rdC (writeV v sz p l).1 wa' wc'), .int .i64 (writeV v sz p l).2] ∧ Ext [] w w' ∧ RefAt w' (writeV v sz p l).1.wt wa') := by
  refine Meets.enter Try.func47 rfl 64 rfl (Nat.le_of_ble_eq_true rfl) ?_
  have E := Ext.refl [] w
  have hl := hb.len
  have hdl : dn l = l.length / 64 := rfl
  have hcs := callV_same v
  have hsl := hwf.len
  have hr0 := hr
  have hb0 := hb
  refine G.seq ?_
  refine G.region ?_
  refine L.do rfl rfl (R.box rfl) ?_
  rintro _ w1 ⟨b3, rfl, hzb3, hs1, e1, B3⟩
  replace B3 : Blk w1 b3 (rdC v wa wc) 73 (0, 0) := B3
  replace E := E.trans0 e1
  refine L.do rfl rfl (R.alloc) ?_
  rintro _ w2 ⟨b6, rfl, hzb6, hs2, e2, B6⟩
  replace E := E.trans0 e2
  replace B3 := B3.ext0 e2
  refine L.val rfl rfl (R.as rfl) ?_
  refine L.nil ?_
  refine N.seq ?_
  refine G.seq ?_
  refine G.seq ?_
  refine G.region ?_
  refine L.val rfl rfl (R.fld rfl) ?_
  refine L.val rfl rfl (R.ldB rfl B3 rfl) ?_
  refine L.nil ?_
  refine N.seq ?_
  refine G.condB rfl (fun h0 => ?_) (fun h0 => ?_)
  · have ho : v.off = true := h0
    have hf : writeV v sz p l = (v, 10) := if_pos ho
    refine G.seq ?_
    refine G.region ?_
    refine L.val rfl rfl (R.ldBN rfl B3 rfl) ?_
    refine L.set rfl (R.stN rfl rfl B6 rfl (Nat.le_refl 5) (rdC_one _ _ _)) ?_
    rintro w20 ⟨e20, hs20, B6⟩
    replace B6 : Blk w20 b6 (rdC v wa wc) 73 (0, 0) := B6
    replace E := E.news2 e20 (by omega)
    refine L.val rfl rfl (R.as rfl) ?_
    refine L.nil ?_
    refine N.seq ?_
    refine G.retCT rfl rfl rfl (B6) rfl ?_
    first
      | (rw [hf]; exact ⟨_, _, rfl, E, hr2⟩)
      | (rw [hf]; exact ⟨wa, wc, rfl, E, hr0.ext0 E⟩)
      | (rw [hf]; exact ⟨wa, wc, rfl, E, by show RefAt _ v1.wt wa; rw [hcs.2]; exact hr0.ext0 E⟩)
  · have ho : ¬ v.off = true := by simpa using h0
    refine G.skip ?_
    refine N.seq ?_
    refine G.seq ?_
    refine G.seq ?_
    refine G.region ?_
    refine L.val rfl rfl (R.mv rfl) ?_
    refine L.val rfl rfl (R.lenS rfl) ?_
    refine L.val rfl rfl (R.rem rfl rfl (by omega) (by omega)) ?_
    refine L.val rfl rfl (R.neI rfl rfl) ?_
    refine L.nil ?_
    refine N.seq ?_
    refine G.condP rfl (fun h1 => ?_) (fun h1 => ?_)
    · have hf : writeV v sz p l = (v, 2) := by unfold writeV; rw [if_neg ho, if_pos (by omega)]
      refine G.seq ?_
      refine G.region ?_
      refine L.val rfl rfl (R.ldBN rfl B3 rfl) ?_
      refine L.set rfl (R.stN rfl rfl B6 rfl (Nat.le_refl 5) (rdC_one _ _ _)) ?_
      rintro w21 ⟨e21, hs21, B6⟩
      replace B6 : Blk w21 b6 (rdC v wa wc) 73 (0, 0) := B6
      replace E := E.news2 e21 (by omega)
      refine L.val rfl rfl (R.as rfl) ?_
      refine L.nil ?_
      refine N.seq ?_
      refine G.retCT rfl rfl rfl (B6) rfl ?_
      first
        | (rw [hf]; exact ⟨_, _, rfl, E, hr2⟩)
        | (rw [hf]; exact ⟨wa, wc, rfl, E, hr0.ext0 E⟩)
        | (rw [hf]; exact ⟨wa, wc, rfl, E, by show RefAt _ v1.wt wa; rw [hcs.2]; exact hr0.ext0 E⟩)
    · have hm : l.length = 64 * dn l := by omega
      refine G.skip ?_
      refine N.seq ?_
      refine G.seq ?_
      refine G.seq ?_
      refine G.region ?_
      refine L.val rfl rfl (R.ldBN rfl B3 rfl) ?_
      refine L.val rfl rfl (R.mv rfl) ?_
      refine L.val rfl rfl (R.mv rfl) ?_
      refine L.val rfl rfl (R.lenS rfl) ?_
      refine L.val rfl rfl (R.quo rfl rfl (by omega) (by omega)) ?_
      refine L.be 23 rfl (show _ = Value.int .i64 (dn l : Int) by congr 1; omega) ?_
      refine L.callF rfl rfl rfl go82 (rdthere_ok v sz wa wc p (dn l : Int) _ hwf hz (by omega)) ?_
      rintro _ w3 ⟨rfl, e3⟩
      replace E := E.trans0 e3
      replace B3 := B3.ext0 e3
      replace B6 := B6.ext0 e3
      refine L.val rfl rfl (R.not rfl) ?_
      refine L.be 25 rfl (show _ = Value.bool (decide (¬ thereP sz p (dn l))) by simp) ?_
      refine L.nil ?_
      refine N.seq ?_
      refine G.condP rfl (fun h2 => ?_) (fun h2 => ?_)
      · have hf : writeV v sz p l = (v, 11) := by unfold writeV; rw [if_neg ho, if_neg (by omega), if_pos h2]
        refine G.seq ?_
        refine G.region ?_
        refine L.val rfl rfl (R.ldBN rfl B3 rfl) ?_
        refine L.set rfl (R.stN rfl rfl B6 rfl (Nat.le_refl 5) (rdC_one _ _ _)) ?_
        rintro w22 ⟨e22, hs22, B6⟩
        replace B6 : Blk w22 b6 (rdC v wa wc) 73 (0, 0) := B6
        replace E := E.news2 e22 (by omega)
        refine L.val rfl rfl (R.as rfl) ?_
        refine L.nil ?_
        refine N.seq ?_
        refine G.retCT rfl rfl rfl (B6) rfl ?_
        first
          | (rw [hf]; exact ⟨_, _, rfl, E, hr2⟩)
          | (rw [hf]; exact ⟨wa, wc, rfl, E, hr0.ext0 E⟩)
          | (rw [hf]; exact ⟨wa, wc, rfl, E, by show RefAt _ v1.wt wa; rw [hcs.2]; exact hr0.ext0 E⟩)
      · have ht : thereP sz p (dn l) := Classical.not_not.1 h2
        have ht2 := ht
        unfold thereP at ht2
        obtain ⟨i, rfl⟩ := Int.eq_ofNat_of_zero_le ht2.1
        have hin : i + dn l ≤ sz := by omega
        refine G.skip ?_
        refine N.seq ?_
        refine G.seq ?_
        refine G.region ?_
        refine L.val rfl rfl (R.ldBN rfl B3 rfl) ?_
        refine L.callF rfl rfl rfl go84 (rdcall_ok v sz wa wc _ hwf hz hcb) ?_
        rintro _ w4 ⟨rfl, e4⟩
        replace E := E.trans0 e4
        replace B3 := B3.ext0 e4
        replace B6 := B6.ext0 e4
        obtain ⟨v1, hv1⟩ : ∃ v1, v1 = (callV v).1 := ⟨_, rfl⟩
        rw [← hv1] at hcs ⊢
        have hv1w : v1.wt.length ≤ 1000000 := by rw [hcs.2]; exact hwb
        have hwf1 : v1.Wf sz := hv1 ▸ callV_wf hwf
        refine L.val rfl rfl (R.mv rfl) ?_
        refine L.val rfl rfl (R.ext rfl rfl) ?_
        refine L.val rfl rfl (R.ext rfl rfl) ?_
        refine L.set rfl (R.stN rfl rfl B3 rfl (Nat.le_refl 5) (rdC_one _ _ _)) ?_
        rintro w5 ⟨e5, hs5, B3⟩
        replace B3 : Blk w5 b3 (rdC v1 wa wc) 73 (0, 0) := B3
        replace E := E.news2 e5 (by omega)
        replace B6 := B6.ext e5 (by simp; omega)
        refine L.val rfl rfl (R.as rfl) ?_
        refine L.nil ?_
        refine N.seq ?_
        refine G.seq ?_
        refine G.seq ?_
        refine G.region ?_
        refine L.val rfl rfl (R.mv rfl) ?_
        refine L.val rfl rfl (R.not rfl) ?_
        refine L.nil ?_
        refine N.seq ?_
        refine G.condB rfl (fun h3 => ?_) (fun h3 => ?_)
        · have hcf : (callV v).2 = false := by simpa using h3
          have hf : writeV v sz (i : Int) l = (v1, 10) := by unfold writeV; rw [if_neg ho, if_neg (by omega), if_neg (by simpa using ht), if_neg (by simp [hcf]), hv1]
          refine G.seq ?_
          refine G.region ?_
          refine L.val rfl rfl (R.ldBN rfl B3 rfl) ?_
          refine L.set rfl (R.stN rfl rfl B6 rfl (Nat.le_refl 5) (rdC_one _ _ _)) ?_
          rintro w23 ⟨e23, hs23, B6⟩
          replace B6 : Blk w23 b6 (rdC v1 wa wc) 73 (0, 0) := B6
          replace E := E.news2 e23 (by omega)
          refine L.val rfl rfl (R.as rfl) ?_
          refine L.nil ?_
          refine N.seq ?_
          refine G.retCT rfl rfl rfl (B6) rfl ?_
          first
            | (rw [hf]; exact ⟨_, _, rfl, E, hr2⟩)
            | (rw [hf]; exact ⟨wa, wc, rfl, E, hr0.ext0 E⟩)
            | (rw [hf]; exact ⟨wa, wc, rfl, E, by show RefAt _ v1.wt wa; rw [hcs.2]; exact hr0.ext0 E⟩)
        · have hcf : (callV v).2 = true := by simpa using h3
          have hf : writeV v sz (i : Int) l = (({ v1 with wt := (v1.wt ++ secsF i l (dn l)) } : DevV), 0) := by unfold writeV; rw [if_neg ho, if_neg (by omega), if_neg (by simpa using ht), if_pos hcf, hv1]; rfl
          have hr := hr0.ext0 E
          rw [← hcs.2] at hr
          refine G.skip ?_
          refine N.seq ?_
          refine G.seq ?_
          refine G.region ?_
          refine L.do rfl rfl (R.buildA rfl rfl rfl rfl rfl) ?_
          rintro _ w6 ⟨b35, rfl, hb35, hs35, e6, B35⟩
          have o0 : Own w6 134 2 (some ⟨b35, 0, none⟩) 0 0 (rwsC []) [b35] := Own.blk (n := 0) (size := 2) B35 (by simp) (by simp [maxLen])
          have hE6 := E.size
          have l3 := B3.lt
          have l6 := B6.lt
          replace E := E.trans0 e6
          replace B3 := B3.ext0 e6
          replace B6 := B6.ext0 e6
          replace hr := hr.ext0 e6
          refine L.val rfl rfl (R.fld rfl) ?_
          refine L.val rfl rfl (R.ldB rfl B3 rfl) ?_
          refine L.do rfl rfl (R.app rfl rfl o0 hr.1.cells (by show (rwsC v1.wt).length = _; rw [rwsC_length]) (rwsC_one v1.wt) (by simp [maxLen]; omega) (by omega)) ?_
          rintro _ w7 ⟨a9, c9, M9, rfl, e7, hM9, o9⟩
          have hs6 := e6.size
          replace E := E.news2 e7 (by omega)
          replace B3 := B3.ext e7 (by simp; omega)
          replace B6 := B6.ext e7 (by simp; omega)
          have hM9b : ∀ g ∈ M9, w.heap.size ≤ g ∧ g ≠ b3 ∧ g ≠ b6 := fun g hg => (hM9 g hg).elim (fun h => by rw [List.mem_singleton.1 h]; omega) (fun h => by omega)
          refine L.be 38 rfl (show _ = Value.slice a9 (v1.wt ++ secsF i l 0).length c9 by simp [secsF]) ?_
          refine L.val rfl rfl (R.as rfl) ?_
          refine L.nil ?_
          refine N.seq ?_
          refine G.seq ?_
          refine G.seq ?_
          refine G.region ?_
          refine L.val rfl rfl (R.as rfl) ?_
          refine L.nil ?_
          refine N.seq ?_
          refine G.block ?_
          replace B6 : ∃ cs6 : Array Value, Blk _ b6 cs6 73 (0, 0) ∧ cs6.size = 5 := ⟨_, B6, rfl⟩
          obtain ⟨cs6, B6, hcz6⟩ := B6
          refine G.loop (X := RwSt) (fun s => [(1, .int .i64 (i : Int)), (2, .slice ba bn bc), (3, .pointer (some ⟨b3, 0, none⟩)), (6, .pointer (some ⟨b6, 0, none⟩)), (9, .slice s.a9 (v1.wt ++ secsF i l s.k).length s.c9), (10, .int .i64 (s.k : Int))]) (fun s w' => s.k ≤ dn l ∧ Blk w' b3 (rdC v1 wa wc) 73 (0, 0) ∧ Blk w' b6 cs6 73 (0, 0) ∧ Own w' 134 2 s.a9 (v1.wt ++ secsF i l s.k).length s.c9 (rwsC (v1.wt ++ secsF i l s.k)) s.M ∧ (∀ g ∈ s.M, w.heap.size ≤ g ∧ g ≠ b3 ∧ g ≠ b6) ∧ Ext [] w w') (fun s => dn l - s.k) (⟨0, a9, c9, M9⟩) (Sub.cons rfl (Sub.cons rfl (Sub.cons rfl (Sub.cons rfl (Sub.cons rfl (Sub.cons rfl (Sub.nil _))))))) ⟨Nat.zero_le _, B3, B6, by simpa [secsF, rwsC] using o9, hM9b, E⟩ ?_
          rintro ⟨k, a9, c9, M9⟩ w8 ⟨hk, B3, B6, o9, hM9b, E⟩
          dsimp only at hk o9 hM9b
          refine G.sub [(1, .int .i64 (i : Int)), (2, .slice ba bn bc), (3, .pointer (some ⟨b3, 0, none⟩)), (6, .pointer (some ⟨b6, 0, none⟩)), (9, .slice a9 (v1.wt ++ secsF i l k).length c9), (10, .int .i64 (k : Int))] (Sub.cons rfl (Sub.cons rfl (Sub.cons rfl (Sub.cons rfl (Sub.cons rfl (Sub.cons rfl (Sub.nil _))))))) ?_
          have hb := hb0.ext0 E
          have hkl : (v1.wt ++ secsF i l k).length = v1.wt.length + k := by rw [List.length_append, secsF_length]
          refine G.seq ?_
          refine G.seq ?_
          refine G.region ?_
          refine L.val rfl rfl (R.mv rfl) ?_
          refine L.val rfl rfl (R.mv rfl) ?_
          refine L.val rfl rfl (R.lenS rfl) ?_
          refine L.val rfl rfl (R.quo rfl rfl (by omega) (by omega)) ?_
          refine L.be 42 rfl (show _ = Value.int .i64 (dn l : Int) by congr 1; omega) ?_
          refine L.val rfl rfl (R.lss rfl rfl) ?_
          refine L.nil ?_
          refine N.seq ?_
          refine G.condP rfl (fun h4 => ?_) (fun h4 => ?_)
          · have hk2 : k < dn l := by omega
            have hbs := hb.sub (64 * k) bc 64 (by omega) (by omega)
            rw [show (l.drop (64 * k)).take 64 = blk l k from rfl] at hbs
            refine G.skip ?_
            refine N.seq ?_
            refine G.seq ?_
            refine G.block ?_
            refine G.region ?_
            refine L.val rfl rfl (R.mv rfl) ?_
            refine L.val rfl rfl (R.mv rfl) ?_
            refine L.val rfl rfl (R.mv rfl) ?_
            refine L.val rfl rfl (R.add rfl rfl (by omega)) ?_
            refine L.val rfl rfl (R.mv rfl) ?_
            refine L.val rfl rfl (R.mv rfl) ?_
            refine L.val rfl rfl (R.mul rfl rfl (by omega)) ?_
            refine L.val rfl rfl (R.mv rfl) ?_
            refine L.val rfl rfl (R.mul rfl rfl (by omega)) ?_
            refine L.val rfl rfl (R.add rfl rfl (by omega)) ?_
            refine L.val rfl rfl (R.slLH rfl rfl rfl (by omega) (by omega) (by omega)) ?_
            refine L.be 56 rfl (show _ = Value.slice (subA ba (64 * k) bc 1) 64 (bc - 64 * k) by rw [show (64 * (k : Int)).toNat = 64 * k by omega, show (64 * (k : Int) + 64).toNat - 64 * k = 64 by omega]) ?_
            refine L.val rfl rfl (R.bytesStr rfl hbs.cells (blk_length hk2).symm) ?_
            refine L.val rfl rfl (R.build (cs := (rwC (i + k, blk l k)).toArray) rfl rfl) ?_
            refine L.do rfl rfl (R.buildA rfl rfl rfl rfl rfl) ?_
            rintro _ w9 ⟨b59, rfl, hb59, hs59, e9, B59⟩
            have hE8 := E.size
            replace E := E.trans0 e9
            replace B3 := B3.ext0 e9
            replace B6 := B6.ext0 e9
            replace o9 := o9.ext0 e9
            refine L.do rfl rfl (R.app rfl rfl o9 (Cells.of_blk B59 0 (rwC (i + k, blk l k)) (fun j v hj => by rw [Nat.zero_add]; simpa [cellsOf, Value.cells, rwC] using hj)) rfl (rwC_one _) (by simp only [maxLen]; omega) (by omega)) ?_
            rintro _ w10 ⟨a60, c60, M60, rfl, e10, hM60, o60⟩
            have hs8 := e9.size
            have l3 := B3.lt
            have l6 := B6.lt
            replace B3 := B3.ext e10 (fun h => (hM9b _ h).2.1 rfl)
            replace B6 := B6.ext e10 (fun h => (hM9b _ h).2.2 rfl)
            replace E : Ext [] w w10 := E.trans e10 (by simp) (fun g hg => .inr (hM9b g hg).1)
            have hM60b : ∀ g ∈ M60, w.heap.size ≤ g ∧ g ≠ b3 ∧ g ≠ b6 := fun g hg => (hM60 g hg).elim (hM9b g) (fun h => ⟨by omega, by omega, by omega⟩)
            have hk1 : (v1.wt ++ secsF i l (k + 1)).length = (v1.wt ++ secsF i l k).length + 1 := by rw [secsF_succ, ← List.append_assoc, List.length_append]; rfl
            replace o60 : Own w10 134 2 a60 (v1.wt ++ secsF i l (k + 1)).length c60 (rwsC (v1.wt ++ secsF i l (k + 1))) M60 := by rw [hk1, secsF_succ, ← List.append_assoc, rwsC_append (v1.wt ++ secsF i l k)]; exact o60
            refine L.be 60 rfl (show _ = Value.slice a60 (v1.wt ++ secsF i l (k + 1)).length c60 by rw [hk1]) ?_
            refine L.val rfl rfl (R.as rfl) ?_
            refine L.nil ?_
            refine N.block ?_
            refine N.seq ?_
            refine G.region ?_
            refine L.val rfl rfl (R.mv rfl) ?_
            refine L.val rfl rfl (R.add rfl rfl (by omega)) ?_
            refine L.val rfl rfl (R.as rfl) ?_
            refine L.nil ?_
            exact N.again (X := RwSt) ⟨k + 1, a60, c60, M60⟩ (by show dn l - (k + 1) < dn l - k; omega) (Sub.cons rfl (Sub.cons rfl (Sub.cons rfl (Sub.cons rfl (Sub.cons rfl (Sub.cons rfl (Sub.nil _))))))) ⟨by show k + 1 ≤ dn l; omega, B3, B6, o60, hM60b, E⟩
          · obtain rfl : k = dn l := by omega
            have hr2 := RefAt.of o9 rfl
            have hE8 := E.size
            have l3 := B3.lt
            have l6 := B6.lt
            refine G.exit _ rfl ?_
            refine N.seq ?_
            refine G.seq ?_
            refine G.region ?_
            refine L.val rfl rfl (R.mv rfl) ?_
            refine L.val rfl rfl (R.fld rfl) ?_
            refine L.set rfl (R.st rfl rfl B3 (by show 1 < 5; decide) rfl) ?_
            rintro w11 ⟨e11, hs11, B3n⟩
            replace hr2 := hr2.ext e11 (by intro g hg cs hc; rw [List.mem_singleton.1 hg] at hc; exact B3.ne hc (by decide) rfl)
            replace B3 : Blk w11 b3 (rdC ({ v1 with wt := (v1.wt ++ secsF i l (dn l)) } : DevV) a9 c9) 73 (0, 0) := B3n
            replace E := E.news2 e11 (by omega)
            replace B6 := B6.ext e11 (by simp; omega)
            refine L.nil ?_
            refine N.seq ?_
            refine G.seq ?_
            refine G.region ?_
            refine L.val rfl rfl (R.ldBN rfl B3 rfl) ?_
            refine L.set rfl (R.stN rfl rfl B6 rfl (by rw [hcz6]; exact Nat.le_refl 5) (rdC_one _ _ _)) ?_
            rintro w12 ⟨e12, hs12, B6n⟩
            replace hr2 := hr2.ext e12 (by intro g hg cs hc; rw [List.mem_singleton.1 hg] at hc; exact B6.ne hc (by decide) rfl)
            rw [all_stored (by rw [hcz6]; rfl)] at B6n
            replace B6 : Blk w12 b6 (rdC ({ v1 with wt := (v1.wt ++ secsF i l (dn l)) } : DevV) a9 c9) 73 (0, 0) := B6n
            replace E := E.news2 e12 (by omega)
            refine L.val rfl rfl (R.as rfl) ?_
            refine L.nil ?_
            refine N.seq ?_
            refine G.retCT rfl rfl rfl (B6) rfl ?_
            first
              | (rw [hf]; exact ⟨_, _, rfl, E, hr2⟩)
              | (rw [hf]; exact ⟨wa, wc, rfl, E, hr0.ext0 E⟩)
              | (rw [hf]; exact ⟨wa, wc, rfl, E, by show RefAt _ v1.wt wa; rw [hcs.2]; exact hr0.ext0 E⟩)

end Go.Proofs.Ytjmlcodlnohgdaa
