/-
  The walks of package control.
-/
import Derived.Test.YthpolibakkmmeaaCtl2
import Derived.Test.YthpolibakkmmeaaDev7
import Derived.Test.YthpolibakkmmeaaDev5
set_option linter.unusedVariables false
set_option linter.unusedSimpArgs false
namespace Go.Proofs.Ythpolibakkmmeaa
open Go Brv Brv.Crc Brv.Pack Brv.Frame Brv.Image Brv.Dev Brv.Control
theorem cread_ok (d : Nat) (v : DevV) (sz : Nat) (S : List Nat) (p : Int) (w : World) (hd : DevAt w d v sz S) (hwb : v.wt.length ≤ 1000000) : Meets Try.prog 81 [.pointer (some ⟨d, 0, none⟩), .int .i64 p] w (fun r w' => r = .tuple #[.agg (ctlC (readCV v sz p).1), .int .i64 (readCV v sz p).2] ∧ Ext [] w w') := by
  refine Meets.enter Try.func81 rfl 59 rfl (Nat.le_of_ble_eq_true rfl) ?_
  have E := Ext.refl [] w
  refine G.seq ?_
  refine G.region ?_
  refine L.do rfl rfl (R.alloc) ?_
  rintro _ w1 ⟨b4, rfl, hb4, hs4, e1, B4⟩
  replace B4 : Blk w1 b4 (ctlC zeroC) 121 (0, 0) := B4
  replace E := E.trans0 e1
  refine L.val rfl rfl (R.as rfl) ?_
  refine L.nil ?_
  refine N.seq ?_
  refine G.seq ?_
  refine G.region ?_
  refine L.val rfl rfl (R.mv rfl) ?_
  refine L.val rfl rfl (R.mv rfl) ?_
  refine L.callF rfl rfl rfl go147 (dread_ok d v sz S p 2 _ (hd.ext0 E) hwb) ?_
  rintro _ w2 ⟨a6, c6, M6, rfl, e2, o6, hM6⟩
  replace E := E.trans0 e2
  replace B4 := B4.ext0 e2
  have L6 := Bs.of_own o6
  have h6 := o6.le
  have hw2 := e2.size
  refine L.val rfl rfl (R.mv rfl) ?_
  refine L.val rfl rfl (R.ext rfl rfl) ?_
  refine L.val rfl rfl (R.ext rfl rfl) ?_
  refine L.val rfl rfl (R.as rfl) ?_
  refine L.val rfl rfl (R.as rfl) ?_
  refine L.nil ?_
  refine N.seq ?_
  refine G.seq ?_
  refine G.seq ?_
  refine G.region ?_
  refine L.val rfl rfl (R.mv rfl) ?_
  refine L.val rfl rfl (R.neI rfl rfl) ?_
  refine L.nil ?_
  refine N.seq ?_
  refine G.condP rfl (fun h0 => ?_) (fun h0 => ?_)
  · have hne : (readV v sz p 2).2 ≠ 0 := h0
    refine G.seq ?_
    refine G.region ?_
    refine L.val rfl rfl (R.build (cs := (ctlC zeroC)) rfl rfl) ?_
    refine L.val rfl rfl (R.mv rfl) ?_
    refine L.set rfl (R.stN rfl rfl B4 rfl (Nat.le_refl 7) (ctlC_one _)) ?_
    rintro w20 ⟨e20, hs20, B4x⟩
    replace B4 : Blk w20 b4 (ctlC zeroC) 121 (0, 0) := by rw [all_stored (by rfl)] at B4x; exact B4x
    replace E := E.trans e20 (M := []) (by simp) (by intro x hx; rw [List.mem_singleton.1 hx]; exact .inr (by omega))
    refine L.val rfl rfl (R.as rfl) ?_
    refine L.nil ?_
    refine N.seq ?_
    refine G.retCT rfl rfl rfl (B4) rfl ?_
    first
      | (rw [readCV_err hne]; exact ⟨rfl, E⟩)
      | (rw [readCV_ok he0, ← hq, pickC_eq, if_pos h3]; exact ⟨rfl, E⟩)
      | (rw [readCV_ok he0, ← hq, pickC_eq, if_neg h3]; exact ⟨rfl, E⟩)
  · have he0 : (readV v sz p 2).2 = 0 := Classical.not_not.1 h0
    have hlen := readV_two (p := p) hd.wf.1 he0
    obtain ⟨q, hq⟩ : ∃ q, q = (readV v sz p 2).1 := ⟨_, rfl⟩
    rw [← hq] at hlen L6 h6 ⊢
    rw [hlen] at L6 h6 ⊢
    refine G.skip ?_
    refine N.seq ?_
    refine G.seq ?_
    refine G.region ?_
    refine L.do rfl rfl (R.alloc) ?_
    rintro _ w3 ⟨b8, rfl, hb8, hs8, e3, B8⟩
    replace B8 : Blk w3 b8 (ctlC zeroC) 121 (0, 0) := B8
    have hl4 := B4.lt
    have hE2 := E.size
    replace E := E.trans0 e3
    replace B4 := B4.ext0 e3
    replace L6 := L6.ext0 e3
    have hfa : ∀ p, a6 = some p → p.block < b8 ∧ w.heap.size ≤ p.block := fun p hp => ⟨by have := (o6.mem p hp).2; omega, by have := hM6 _ (o6.mem p hp).1; have := e1.size; omega⟩
    refine L.nil ?_
    refine N.seq ?_
    refine G.seq ?_
    refine G.seq ?_
    refine G.region ?_
    refine L.val rfl rfl (R.mv rfl) ?_
    refine L.nil ?_
    refine N.seq ?_
    refine G.block ?_
    refine G.loop (X := Nat) (fun k => [(4, .pointer (some ⟨b4, 0, none⟩)), (6, .slice a6 128 c6), (8, .pointer (some ⟨b8, 0, none⟩)), (22, .int .i64 (k : Int))]) (fun k w' => k ≤ 2 ∧ Blk w' b8 (ctlC (stepN q k)) 121 (0, 0) ∧ Blk w' b4 (ctlC zeroC) 121 (0, 0) ∧ Bs w' a6 128 q ∧ b8 < w'.heap.size ∧ Ext [] w w') (fun k => 2 - k) (0) (Sub.cons rfl (Sub.cons rfl (Sub.cons rfl (Sub.cons rfl (Sub.nil _))))) ⟨by decide, B8, B4, L6, B8.lt, E⟩ ?_
    rintro k w4 ⟨hk, B8, B4, L6, hl8, E⟩
    have hE4 := E.size
    refine G.seq ?_
    refine G.region ?_
    refine L.val rfl rfl (R.lss rfl rfl) ?_
    refine L.nil ?_
    refine N.seq ?_
    refine G.seq ?_
    refine G.condP rfl (fun h1 => ?_) (fun h1 => ?_)
    · have hk2 : k < 2 := by omega
      have Lk := L6.sub (64 * k) c6 64 (by omega) (by omega)
      rw [show (q.drop (64 * k)).take 64 = blk q k from rfl] at Lk
      refine G.skip ?_
      refine N.seq ?_
      refine G.seq ?_
      refine G.block ?_
      refine G.seq ?_
      refine G.region ?_
      refine L.val rfl rfl (R.mv rfl) ?_
      refine L.val rfl rfl (R.as rfl) ?_
      refine L.nil ?_
      refine N.seq ?_
      refine G.seq ?_
      refine G.region ?_
      refine L.val rfl rfl (R.mv rfl) ?_
      refine L.val rfl rfl (R.mv rfl) ?_
      refine L.val rfl rfl (R.mul rfl rfl (by omega)) ?_
      refine L.val rfl rfl (R.mv rfl) ?_
      refine L.val rfl rfl (R.add rfl rfl (by omega)) ?_
      refine L.val rfl rfl (R.mul rfl rfl (by omega)) ?_
      refine L.val rfl rfl (R.slLH rfl rfl rfl (by omega) (by omega) (by omega)) ?_
      refine L.be 32 rfl (show _ = Value.slice (subA a6 (64 * k) c6 1) 64 (c6 - 64 * k) by rw [show ((k : Int) * 64).toNat = 64 * k by omega, show (((k : Int) + 1) * 64).toNat - 64 * k = 64 by omega]) ?_
      refine L.callF rfl rfl rfl go74 (cget_ok _ 64 _ (blk q k) _ Lk (by omega) (by decide)) ?_
      rintro _ w5 ⟨rfl, e5⟩
      replace E := E.trans0 e5
      replace B4 := B4.ext0 e5
      replace B8 := B8.ext0 e5
      replace L6 := L6.ext0 e5
      have hs5 := e5.size
      refine L.val rfl rfl (R.mv rfl) ?_
      refine L.val rfl rfl (R.ext rfl rfl) ?_
      refine L.val rfl rfl (R.ext rfl rfl) ?_
      refine L.do rfl rfl (R.alloc) ?_
      rintro _ w6 ⟨b10, rfl, hb10, hs10, e6, B10⟩
      replace E := E.trans0 e6
      replace B4 := B4.ext0 e6
      replace B8 := B8.ext0 e6
      replace L6 := L6.ext0 e6
      obtain ⟨g, hg⟩ : ∃ g, g = getC (blk q k) := ⟨_, rfl⟩
      rw [← hg]
      refine L.set rfl (R.stN rfl rfl B10 rfl (Nat.le_refl 7) (ctlC_one _)) ?_
      rintro w7 ⟨e7, hs7, B10x⟩
      replace B4 := B4.ext e7 (by simp; omega)
      replace B8 := B8.ext e7 (by simp; omega)
      replace L6 := L6.ext e7 (by intro p hp hh; have h1 := (hfa p hp).1; rw [List.mem_singleton.1 hh] at h1; omega)
      replace B10 : Blk w7 b10 (ctlC g.1) 121 (0, 0) := by rw [all_stored (by rfl)] at B10x; exact B10x
      replace E := E.trans e7 (M := []) (by simp) (by intro x hx; rw [List.mem_singleton.1 hx]; exact .inr (by omega))
      have hs7 := e7.size
      refine L.val rfl rfl (R.as rfl) ?_
      refine L.nil ?_
      refine N.seq ?_
      refine G.seq ?_
      refine G.region ?_
      refine L.val rfl rfl (R.mv rfl) ?_
      refine L.val rfl rfl (R.eqI rfl rfl) ?_
      refine L.val rfl rfl (R.mv rfl) ?_
      refine L.caseP 38 rfl (fun hg9_2 => ?_) (fun hg9_2 => ?_)
      · refine L.val rfl rfl (R.fld rfl) ?_
        refine L.val rfl rfl (R.ldB rfl B10 rfl) ?_
        refine L.val rfl rfl (R.remW rfl rfl (by decide) _ rfl) ?_
        refine L.val rfl rfl (R.mv rfl) ?_
        refine L.val rfl rfl (R.eqI rfl rfl) ?_
        first | refine L.val rfl rfl (R.pickT rfl rfl) ?_ | refine L.val rfl rfl (R.pickF rfl rfl) ?_
        refine L.val rfl rfl (R.mv rfl) ?_
        refine L.caseP 45 rfl (fun hg9_9 => ?_) (fun hg9_9 => ?_)
        · refine L.val rfl rfl (R.fld rfl) ?_
          refine L.val rfl rfl (R.ldB rfl B10 rfl) ?_
          refine L.val rfl rfl (R.fld rfl) ?_
          refine L.val rfl rfl (R.ldB rfl B8 rfl) ?_
          refine L.val rfl rfl (R.gtr rfl rfl) ?_
          first | refine L.val rfl rfl (R.pickT rfl rfl) ?_ | refine L.val rfl rfl (R.pickF rfl rfl) ?_
          refine L.nil ?_
          refine N.seq ?_
          refine G.condP rfl (fun h2 => ?_) (fun h2 => ?_)
          · have hst : stepN q (k + 1) = g.1 := by rw [hg]; exact stepN_yes (by rw [← hg]; assumption) (by rw [← hg]; assumption) (by rw [← hg]; assumption)
            refine G.region ?_
            refine L.val rfl rfl (R.ldBN rfl B10 rfl) ?_
            refine L.set rfl (R.stN rfl rfl B8 rfl (Nat.le_refl 7) (ctlC_one _)) ?_
            rintro w8 ⟨e8, hs8, B8x⟩
            replace B4 := B4.ext e8 (by simp; omega)
            replace L6 := L6.ext e8 (by intro p hp hh; have h1 := (hfa p hp).1; rw [List.mem_singleton.1 hh] at h1; omega)
            replace B8 : Blk w8 b8 (ctlC g.1) 121 (0, 0) := by rw [all_stored (by rfl)] at B8x; exact B8x
            replace E := E.trans e8 (M := []) (by simp) (by intro x hx; rw [List.mem_singleton.1 hx]; exact .inr (by omega))
            have hs8b := e8.size
            refine L.nil ?_
            refine N.block ?_
            refine N.seq ?_
            refine G.region ?_
            refine L.val rfl rfl (R.add rfl rfl (by omega)) ?_
            refine L.val rfl rfl (R.mv rfl) ?_
            refine L.nil ?_
            exact N.again (k + 1) (by omega) (Sub.cons rfl (Sub.cons rfl (Sub.cons rfl (Sub.cons rfl (Sub.nil _))))) ⟨by omega, by rw [hst]; exact B8, B4, L6, Nat.lt_of_lt_of_le hl8 (by omega), E⟩
          · have hst : stepN q (k + 1) = stepN q k := stepN_no (by rw [← hg]; rintro ⟨n1, n2, n3⟩; first | exact absurd n3 (by assumption) | exact absurd n2 (by assumption) | exact absurd n1 (by assumption))
            refine G.skip ?_
            refine N.block ?_
            refine N.seq ?_
            refine G.region ?_
            refine L.val rfl rfl (R.add rfl rfl (by omega)) ?_
            refine L.val rfl rfl (R.mv rfl) ?_
            refine L.nil ?_
            exact N.again (k + 1) (by omega) (Sub.cons rfl (Sub.cons rfl (Sub.cons rfl (Sub.cons rfl (Sub.nil _))))) ⟨by omega, by rw [hst]; exact B8, B4, L6, Nat.lt_of_lt_of_le hl8 (by omega), E⟩
        · refine L.pass rfl rfl ?_
          refine L.pass rfl rfl ?_
          refine L.pass rfl rfl ?_
          refine L.pass rfl rfl ?_
          refine L.pass rfl rfl ?_
          first | refine L.val rfl rfl (R.pickT rfl rfl) ?_ | refine L.val rfl rfl (R.pickF rfl rfl) ?_
          refine L.nil ?_
          refine N.seq ?_
          refine G.condF rfl ?_
          have hst : stepN q (k + 1) = stepN q k := stepN_no (by rw [← hg]; rintro ⟨n1, n2, n3⟩; first | exact absurd n3 (by assumption) | exact absurd n2 (by assumption) | exact absurd n1 (by assumption))
          refine G.skip ?_
          refine N.block ?_
          refine N.seq ?_
          refine G.region ?_
          refine L.val rfl rfl (R.add rfl rfl (by omega)) ?_
          refine L.val rfl rfl (R.mv rfl) ?_
          refine L.nil ?_
          exact N.again (k + 1) (by omega) (Sub.cons rfl (Sub.cons rfl (Sub.cons rfl (Sub.cons rfl (Sub.nil _))))) ⟨by omega, by rw [hst]; exact B8, B4, L6, Nat.lt_of_lt_of_le hl8 (by omega), E⟩
      · refine L.pass rfl rfl ?_
        refine L.pass rfl rfl ?_
        refine L.pass rfl rfl ?_
        refine L.pass rfl rfl ?_
        refine L.pass rfl rfl ?_
        first | refine L.val rfl rfl (R.pickT rfl rfl) ?_ | refine L.val rfl rfl (R.pickF rfl rfl) ?_
        refine L.val rfl rfl (R.mv rfl) ?_
        refine L.pass rfl rfl ?_
        refine L.pass rfl rfl ?_
        refine L.pass rfl rfl ?_
        refine L.pass rfl rfl ?_
        refine L.pass rfl rfl ?_
        first | refine L.val rfl rfl (R.pickT rfl rfl) ?_ | refine L.val rfl rfl (R.pickF rfl rfl) ?_
        refine L.nil ?_
        refine N.seq ?_
        refine G.condF rfl ?_
        have hst : stepN q (k + 1) = stepN q k := stepN_no (by rw [← hg]; rintro ⟨n1, n2, n3⟩; first | exact absurd n3 (by assumption) | exact absurd n2 (by assumption) | exact absurd n1 (by assumption))
        refine G.skip ?_
        refine N.block ?_
        refine N.seq ?_
        refine G.region ?_
        refine L.val rfl rfl (R.add rfl rfl (by omega)) ?_
        refine L.val rfl rfl (R.mv rfl) ?_
        refine L.nil ?_
        exact N.again (k + 1) (by omega) (Sub.cons rfl (Sub.cons rfl (Sub.cons rfl (Sub.cons rfl (Sub.nil _))))) ⟨by omega, by rw [hst]; exact B8, B4, L6, Nat.lt_of_lt_of_le hl8 (by omega), E⟩
    · obtain rfl : k = 2 := by omega
      refine G.exit _ rfl ?_
      refine N.seq ?_
      refine G.seq ?_
      refine G.seq ?_
      refine G.region ?_
      refine L.val rfl rfl (R.fld rfl) ?_
      refine L.val rfl rfl (R.ldB rfl B8 rfl) ?_
      refine L.val rfl rfl (R.eqI rfl rfl) ?_
      refine L.nil ?_
      refine N.seq ?_
      refine G.condP rfl (fun h3 => ?_) (fun h3 => ?_)
      · refine G.seq ?_
        refine G.region ?_
        refine L.val rfl rfl (R.build (cs := (ctlC zeroC)) rfl rfl) ?_
        refine L.set rfl (R.stN rfl rfl B4 rfl (Nat.le_refl 7) (ctlC_one _)) ?_
        rintro w21 ⟨e21, hs21, B4x⟩
        replace B4 : Blk w21 b4 (ctlC zeroC) 121 (0, 0) := by rw [all_stored (by rfl)] at B4x; exact B4x
        replace E := E.trans e21 (M := []) (by simp) (by intro x hx; rw [List.mem_singleton.1 hx]; exact .inr (by omega))
        refine L.val rfl rfl (R.as rfl) ?_
        refine L.nil ?_
        refine N.seq ?_
        refine G.retCT rfl rfl rfl (B4) rfl ?_
        first
          | (rw [readCV_err hne]; exact ⟨rfl, E⟩)
          | (rw [readCV_ok he0, ← hq, pickC_eq, if_pos h3]; exact ⟨rfl, E⟩)
          | (rw [readCV_ok he0, ← hq, pickC_eq, if_neg h3]; exact ⟨rfl, E⟩)
      · refine G.skip ?_
        refine N.seq ?_
        refine G.seq ?_
        refine G.region ?_
        refine L.val rfl rfl (R.ldBN rfl B8 rfl) ?_
        refine L.set rfl (R.stN rfl rfl B4 rfl (Nat.le_refl 7) (ctlC_one _)) ?_
        rintro w22 ⟨e22, hs22, B4x⟩
        replace B4 : Blk w22 b4 (ctlC (stepN q 2)) 121 (0, 0) := by rw [all_stored (by rfl)] at B4x; exact B4x
        replace E := E.trans e22 (M := []) (by simp) (by intro x hx; rw [List.mem_singleton.1 hx]; exact .inr (by omega))
        refine L.val rfl rfl (R.as rfl) ?_
        refine L.nil ?_
        refine N.seq ?_
        refine G.retCT rfl rfl rfl (B4) rfl ?_
        first
          | (rw [readCV_err hne]; exact ⟨rfl, E⟩)
          | (rw [readCV_ok he0, ← hq, pickC_eq, if_pos h3]; exact ⟨rfl, E⟩)
          | (rw [readCV_ok he0, ← hq, pickC_eq, if_neg h3]; exact ⟨rfl, E⟩)

theorem cwrite_ok (d : Nat) (v : DevV) (sz : Nat) (S : List Nat) (p : Int) (c : Ctl) (w : World) (hd : DevAt w d v sz S) (hc : InC c) (hcb : 0 ≤ v.calls ∧ v.calls ≤ 1000000) (hwb : v.wt.length ≤ 1000) : Meets Try.prog 80 [.pointer (some ⟨d, 0, none⟩), .int .i64 p, .agg (ctlC c)] w (fun r w' => r = .tuple #[.agg (ctlC (writeCV v sz p c).2.1), .int .i64 (writeCV v sz p c).2.2] ∧ ∃ S', Grown S S' w w' ∧ DevAt w' d (writeCV v sz p c).1 sz S') := by
  refine Meets.enter Try.func80 rfl 54 rfl (Nat.le_of_ble_eq_true rfl) ?_
  have G0 := Grown.refl S w
  have hlt := hd.lt
  refine G.seq ?_
  refine G.region ?_
  refine L.do rfl rfl (R.box rfl) ?_
  rintro _ w1 ⟨b5, rfl, hb5, hs1, e1, B5⟩
  replace B5 : Blk w1 b5 (ctlC c) 121 (0, 0) := B5
  replace hd := hd.ext0 e1
  replace G0 := G0.then0 e1
  refine L.do rfl rfl (R.alloc) ?_
  rintro _ w2 ⟨b6, rfl, hb6, hs2, e2, B6⟩
  replace B6 : Blk w2 b6 (ctlC zeroC) 121 (0, 0) := B6
  have hl5 := B5.lt
  replace B5 := B5.ext0 e2
  replace hd := hd.ext0 e2
  replace G0 := G0.then0 e2
  have hn5 : b5 ∉ S := fun h => by have := hlt _ h; omega
  have hn6 : b6 ∉ S := fun h => by have := hlt _ h; omega
  have hl6 := B6.lt
  replace hl5 := B5.lt
  refine L.val rfl rfl (R.as rfl) ?_
  refine L.nil ?_
  refine N.seq ?_
  refine G.seq ?_
  refine G.block ?_
  refine G.seq ?_
  refine G.region ?_
  refine L.val rfl rfl (R.mv rfl) ?_
  refine L.val rfl rfl (R.eqNilP rfl rfl) ?_
  refine L.val rfl rfl (R.as rfl) ?_
  refine L.nil ?_
  refine N.seq ?_
  refine G.condF rfl ?_
  refine G.seq ?_
  refine G.region ?_
  refine L.val rfl rfl (R.fld rfl) ?_
  refine L.val rfl rfl (R.ldB rfl B5 rfl) ?_
  refine L.val rfl rfl (R.geq rfl rfl) ?_
  refine L.val rfl rfl (R.as rfl) ?_
  refine L.nil ?_
  refine N.seq ?_
  refine G.condP rfl (fun h1 => ?_) (fun h1 => ?_)
  · have h33 : 2305843009213693952 ≤ c.1 := h1
    refine G.seq ?_
    refine G.region ?_
    refine L.val rfl rfl (R.build (cs := (ctlC zeroC)) rfl rfl) ?_
    refine L.set rfl (R.stN rfl rfl B6 rfl (Nat.le_refl 7) (ctlC_one _)) ?_
    rintro w20 ⟨e20, hs20, B6x⟩
    replace B6 : Blk w20 b6 (ctlC zeroC) 121 (0, 0) := by rw [all_stored (by rfl)] at B6x; exact B6x
    replace hd := hd.ext e20 (fun y hy hm => by rw [List.mem_singleton.1 hm] at hy; exact hn6 hy)
    replace G0 : Grown S S w w20 := ⟨G0.1.transN e20 (fun x hx => .inr (by rw [List.mem_singleton.1 hx]; omega)), G0.2⟩
    refine L.val rfl rfl (R.as rfl) ?_
    refine L.nil ?_
    refine N.seq ?_
    refine G.retCT rfl rfl rfl (B6) rfl ?_
    first
      | (rw [writeCV_spent h33]; exact ⟨rfl, S, G0, hd⟩)
      | (rw [writeCV_arg h33 harg]; exact ⟨rfl, S, G0, hd⟩)
      | (rw [writeCV_w h33 hna hwr hw0]; exact ⟨rfl, S1, G1, D1⟩)
      | (rw [writeCV_f h33 hna hwr hw0 hfl h4]; exact ⟨rfl, S2, G2, D2⟩)
      | (rw [writeCV_ok h33 hna hwr hw0 hfl h4]; exact ⟨rfl, S2, G2, D2⟩)
  · have h33 : ¬ 2305843009213693952 ≤ c.1 := h1
    obtain ⟨ig1, ig2⟩ := hc.g
    refine G.skip ?_
    refine N.block ?_
    refine N.seq ?_
    refine G.seq ?_
    refine G.region ?_
    refine L.val rfl rfl (R.fld rfl) ?_
    refine L.val rfl rfl (R.ldB (v := .int .i64 c.1) rfl B5 rfl) ?_
    refine L.val rfl rfl (R.add rfl rfl (by omega)) ?_
    refine L.val rfl rfl (R.fld rfl) ?_
    refine L.set rfl (R.st rfl rfl B5 (by show 0 < 7; decide) rfl) ?_
    rintro w3 ⟨e3, hs3, B5x⟩
    replace B5 : Blk w3 b5 (ctlC (nextC c)) 121 (0, 0) := B5x
    replace B6 := B6.ext e3 (by simp; omega)
    replace hd := hd.ext e3 (fun y hy hm => by rw [List.mem_singleton.1 hm] at hy; exact hn5 hy)
    replace G0 : Grown S S w w3 := ⟨G0.1.transN e3 (fun x hx => .inr (by rw [List.mem_singleton.1 hx]; omega)), G0.2⟩
    replace hl5 := B5.lt
    replace hl6 := B6.lt
    refine L.nil ?_
    refine N.seq ?_
    refine G.seq ?_
    refine G.seq ?_
    refine G.region ?_
    refine L.val rfl rfl (R.ldBN rfl B5 rfl) ?_
    refine L.callF rfl rfl rfl go76 (cright_ok (nextC c) _) ?_
    rintro _ w4 ⟨rfl, e4⟩
    replace B5 := B5.ext0 e4
    replace B6 := B6.ext0 e4
    replace hd := hd.ext0 e4
    replace G0 := G0.then0 e4
    replace hl5 := B5.lt
    replace hl6 := B6.lt
    refine L.val rfl rfl (R.not rfl) ?_
    refine L.val rfl rfl (R.mv rfl) ?_
    refine L.caseB 25 rfl (fun hg6_3 => ?_) (fun hg6_3 => ?_)
    · have harg : ¬ okC (nextC c) ∨ p < 0 ∨ (sz : Int) < p := .inl (by simpa using hg6_3)
      refine L.pass rfl rfl ?_
      refine L.pass rfl rfl ?_
      first | refine L.val rfl rfl (R.pickT rfl rfl) ?_ | refine L.val rfl rfl (R.pickF rfl rfl) ?_
      refine L.val rfl rfl (R.mv rfl) ?_
      refine L.pass rfl rfl ?_
      refine L.pass rfl rfl ?_
      refine L.pass rfl rfl ?_
      refine L.pass rfl rfl ?_
      first | refine L.val rfl rfl (R.pickT rfl rfl) ?_ | refine L.val rfl rfl (R.pickF rfl rfl) ?_
      refine L.nil ?_
      refine N.seq ?_
      refine G.condT rfl ?_
      refine G.seq ?_
      refine G.region ?_
      refine L.val rfl rfl (R.build (cs := (ctlC zeroC)) rfl rfl) ?_
      refine L.set rfl (R.stN rfl rfl B6 rfl (Nat.le_refl 7) (ctlC_one _)) ?_
      rintro w21 ⟨e21, hs21, B6x⟩
      replace B6 : Blk w21 b6 (ctlC zeroC) 121 (0, 0) := by rw [all_stored (by rfl)] at B6x; exact B6x
      replace hd := hd.ext e21 (fun y hy hm => by rw [List.mem_singleton.1 hm] at hy; exact hn6 hy)
      replace G0 : Grown S S w w21 := ⟨G0.1.transN e21 (fun x hx => .inr (by rw [List.mem_singleton.1 hx]; omega)), G0.2⟩
      refine L.val rfl rfl (R.as rfl) ?_
      refine L.nil ?_
      refine N.seq ?_
      refine G.retCT rfl rfl rfl (B6) rfl ?_
      first
        | (rw [writeCV_spent h33]; exact ⟨rfl, S, G0, hd⟩)
        | (rw [writeCV_arg h33 harg]; exact ⟨rfl, S, G0, hd⟩)
        | (rw [writeCV_w h33 hna hwr hw0]; exact ⟨rfl, S1, G1, D1⟩)
        | (rw [writeCV_f h33 hna hwr hw0 hfl h4]; exact ⟨rfl, S2, G2, D2⟩)
        | (rw [writeCV_ok h33 hna hwr hw0 hfl h4]; exact ⟨rfl, S2, G2, D2⟩)
    · have hok : okC (nextC c) := by simpa using hg6_3
      refine L.val rfl rfl (R.mv rfl) ?_
      refine L.val rfl rfl (R.lss rfl rfl) ?_
      first | refine L.val rfl rfl (R.pickT rfl rfl) ?_ | refine L.val rfl rfl (R.pickF rfl rfl) ?_
      refine L.val rfl rfl (R.mv rfl) ?_
      refine L.caseP 29 rfl (fun hg6_7 => ?_) (fun hg6_7 => ?_)
      · have harg : ¬ okC (nextC c) ∨ p < 0 ∨ (sz : Int) < p := .inr (.inl (by omega))
        refine L.pass rfl rfl ?_
        refine L.pass rfl rfl ?_
        refine L.pass rfl rfl ?_
        refine L.pass rfl rfl ?_
        first | refine L.val rfl rfl (R.pickT rfl rfl) ?_ | refine L.val rfl rfl (R.pickF rfl rfl) ?_
        refine L.nil ?_
        refine N.seq ?_
        refine G.condT rfl ?_
        refine G.seq ?_
        refine G.region ?_
        refine L.val rfl rfl (R.build (cs := (ctlC zeroC)) rfl rfl) ?_
        refine L.set rfl (R.stN rfl rfl B6 rfl (Nat.le_refl 7) (ctlC_one _)) ?_
        rintro w21 ⟨e21, hs21, B6x⟩
        replace B6 : Blk w21 b6 (ctlC zeroC) 121 (0, 0) := by rw [all_stored (by rfl)] at B6x; exact B6x
        replace hd := hd.ext e21 (fun y hy hm => by rw [List.mem_singleton.1 hm] at hy; exact hn6 hy)
        replace G0 : Grown S S w w21 := ⟨G0.1.transN e21 (fun x hx => .inr (by rw [List.mem_singleton.1 hx]; omega)), G0.2⟩
        refine L.val rfl rfl (R.as rfl) ?_
        refine L.nil ?_
        refine N.seq ?_
        refine G.retCT rfl rfl rfl (B6) rfl ?_
        first
          | (rw [writeCV_spent h33]; exact ⟨rfl, S, G0, hd⟩)
          | (rw [writeCV_arg h33 harg]; exact ⟨rfl, S, G0, hd⟩)
          | (rw [writeCV_w h33 hna hwr hw0]; exact ⟨rfl, S1, G1, D1⟩)
          | (rw [writeCV_f h33 hna hwr hw0 hfl h4]; exact ⟨rfl, S2, G2, D2⟩)
          | (rw [writeCV_ok h33 hna hwr hw0 hfl h4]; exact ⟨rfl, S2, G2, D2⟩)
      · refine L.val rfl rfl (R.mv rfl) ?_
        refine L.val rfl rfl (R.mv rfl) ?_
        refine L.callF rfl rfl rfl go144 (dsize_ok d v sz S _ hd) ?_
        rintro _ _ ⟨rfl, hw⟩
        obtain rfl := hw.symm
        refine L.val rfl rfl (R.gtr rfl rfl) ?_
        first | refine L.val rfl rfl (R.pickT rfl rfl) ?_ | refine L.val rfl rfl (R.pickF rfl rfl) ?_
        refine L.nil ?_
        refine N.seq ?_
        refine G.condP rfl (fun h2 => ?_) (fun h2 => ?_)
        · have harg : ¬ okC (nextC c) ∨ p < 0 ∨ (sz : Int) < p := .inr (.inr (by omega))
          refine G.seq ?_
          refine G.region ?_
          refine L.val rfl rfl (R.build (cs := (ctlC zeroC)) rfl rfl) ?_
          refine L.set rfl (R.stN rfl rfl B6 rfl (Nat.le_refl 7) (ctlC_one _)) ?_
          rintro w21 ⟨e21, hs21, B6x⟩
          replace B6 : Blk w21 b6 (ctlC zeroC) 121 (0, 0) := by rw [all_stored (by rfl)] at B6x; exact B6x
          replace hd := hd.ext e21 (fun y hy hm => by rw [List.mem_singleton.1 hm] at hy; exact hn6 hy)
          replace G0 : Grown S S w w21 := ⟨G0.1.transN e21 (fun x hx => .inr (by rw [List.mem_singleton.1 hx]; omega)), G0.2⟩
          refine L.val rfl rfl (R.as rfl) ?_
          refine L.nil ?_
          refine N.seq ?_
          refine G.retCT rfl rfl rfl (B6) rfl ?_
          first
            | (rw [writeCV_spent h33]; exact ⟨rfl, S, G0, hd⟩)
            | (rw [writeCV_arg h33 harg]; exact ⟨rfl, S, G0, hd⟩)
            | (rw [writeCV_w h33 hna hwr hw0]; exact ⟨rfl, S1, G1, D1⟩)
            | (rw [writeCV_f h33 hna hwr hw0 hfl h4]; exact ⟨rfl, S2, G2, D2⟩)
            | (rw [writeCV_ok h33 hna hwr hw0 hfl h4]; exact ⟨rfl, S2, G2, D2⟩)
        · have hna : ¬ (¬ okC (nextC c) ∨ p < 0 ∨ (sz : Int) < p) := by rintro (n1 | n2 | n3); exact n1 hok; omega; omega
          obtain ⟨wr, hwr⟩ : ∃ r, r = (writeV v sz (p + (nextC c).1.tmod 2) (ctlS (nextC c))) := ⟨_, rfl⟩
          have hm2 : (nextC c).1.tmod 2 = (nextC c).1 % 2 := Int.tmod_eq_emod_of_nonneg (by have := hok.1.1; omega)
          have hcs := ctlS_length hok
          have hput : putC (nextC c) = ctlS (nextC c) := if_pos hok
          obtain ⟨_, hz1, hz2⟩ := hd.wf
          have hlt4 := hd.lt
          refine G.skip ?_
          refine N.seq ?_
          refine G.seq ?_
          refine G.staged [8] [.blocks (S)] [fun w' => Ext [] w4 w', fun w' => ∃ S1, Grown S S1 w4 w' ∧ DevAt w' d wr.1 sz S1] [(8, 43)] (by decide +kernel) (by decide +kernel) rfl rfl rfl (fun _ h => h) ?_
          refine Z.val rfl rfl rfl rfl rfl (fun w5 => R.mv rfl) ?_
          refine Z.val rfl rfl rfl rfl rfl (fun w5 => R.mv rfl) ?_
          refine Z.val rfl rfl rfl rfl rfl (fun w5 => R.fld rfl) ?_
          refine Z.read 0 (by decide +kernel) rfl rfl rfl rfl rfl rfl (fun w5 hJ => R.ldB (v := .int .i64 (nextC c).1) rfl (B5.ext0 hJ) rfl) ?_
          refine Z.val rfl rfl rfl rfl rfl (fun w5 => R.remW rfl rfl (by decide) _ rfl) ?_
          refine Z.val rfl rfl rfl rfl rfl (fun w5 => R.add rfl rfl (by omega)) ?_
          refine Z.read 0 (by decide +kernel) rfl rfl rfl rfl rfl rfl (fun w5 hJ => R.ldBN rfl (B5.ext0 hJ) rfl) ?_
          refine Z.callR (A := IsPut w4.heap.size (ctlS (nextC c))) (Lasts.kill (IsPut.keep _ _) (by decide +kernel)) 0 (by decide +kernel) rfl rfl rfl rfl go77 (fun w5 hJ => ⟨_, rfl, (cput_ok (nextC c) _).mono (fun _ _ h => by obtain ⟨⟨x2, y2, rfl, h2, h3, h4⟩, e⟩ := h; rw [hput] at h2 h3 ⊢; exact ⟨⟨x2, y2, rfl, h2, h3, fun p hp => ⟨Nat.le_trans hJ.size (h4 p hp).1, (h4 p hp).2⟩⟩, e, hJ.trans0 e⟩)⟩) ?_
          refine Z.callEqPut (.int .i64 wr.2) 0 (by decide +kernel) rfl rfl rfl rfl rfl rfl rfl go145 (fun w5 hJ => fun v hv => by obtain ⟨x2, y2, rfl, h2, h3, h4⟩ := hv; exact ⟨_, rfl, (dwrite_ok d v sz S _ _ _ _ (ctlS (nextC c)) _ (hd.ext0 hJ) ⟨hcb.1, by omega⟩ (by omega) h2 h3 (by rw [hcs]; decide) (fun q hq => ⟨fun hm => by have h8 := hlt4 _ hm; have h9 := (h4 q (effA.of hq)).1; omega, (h4 q (effA.of hq)).2⟩)).mono (fun _ _ h => by obtain ⟨h1, S1, g1, D1⟩ := h; rw [← hwr] at h1 D1; exact ⟨h1, g1.1, S1, g1.after0 hJ, D1⟩)⟩) ?_
          refine Z.val rfl rfl rfl rfl rfl (fun w5 => R.as rfl) ?_
          refine Z.nil rfl rfl (fun w5 hJ => ?_)
          obtain ⟨S1, g1, D1⟩ := hJ
          clear hd
          have n55 := hn5
          replace B5 := B5.ext g1.1 n55
          replace B6 := B6.ext g1.1 hn6
          replace hn5 : b5 ∉ S1 := g1.apart (Z := [b5]) (by simpa using hn5) (by simpa using hl5) b5 (by simp)
          replace hn6 : b6 ∉ S1 := g1.apart (Z := [b6]) (by simpa using hn6) (by simpa using hl6) b6 (by simp)
          replace hl5 := Nat.lt_of_lt_of_le hl5 g1.1.size
          replace hl6 := Nat.lt_of_lt_of_le hl6 g1.1.size
          have G1 := G0.trans g1
          refine N.seq ?_
          refine G.seq ?_
          refine G.seq ?_
          refine G.region ?_
          refine L.val rfl rfl (R.mv rfl) ?_
          refine L.val rfl rfl (R.eqI rfl rfl) ?_
          refine L.nil ?_
          refine N.seq ?_
          refine G.condP rfl (fun h3 => ?_) (fun h3 => ?_)
          · have hw0 : ¬ wr.2 ≠ 0 := by omega
            obtain ⟨fl, hfl⟩ : ∃ r, r = flushV wr.1 := ⟨_, rfl⟩
            have hbd := writeV_bd v sz (p + (nextC c).1.tmod 2) (ctlS (nextC c))
            rw [← hwr] at hbd
            obtain ⟨bd1, bd2, bd3⟩ := hbd
            have hdn : dn (ctlS (nextC c)) = 1 := dn_64 hcs
            refine G.region ?_
            refine L.val rfl rfl (R.mv rfl) ?_
            refine L.callF rfl rfl rfl go146 (dflush_ok d wr.1 sz S1 _ D1 ⟨by omega, by omega⟩ (by omega)) ?_
            rintro _ w6 ⟨rfl, S2, g2, D2⟩
            rw [← hfl] at D2 ⊢
            have n56 := hn5
            replace B5 := B5.ext g2.1 n56
            replace B6 := B6.ext g2.1 hn6
            replace hn5 : b5 ∉ S2 := g2.apart (Z := [b5]) (by simpa using hn5) (by simpa using hl5) b5 (by simp)
            replace hn6 : b6 ∉ S2 := g2.apart (Z := [b6]) (by simpa using hn6) (by simpa using hl6) b6 (by simp)
            replace hl5 := Nat.lt_of_lt_of_le hl5 g2.1.size
            replace hl6 := Nat.lt_of_lt_of_le hl6 g2.1.size
            have G2 := G1.trans g2
            refine L.val rfl rfl (R.as rfl) ?_
            refine L.nil ?_
            refine N.seq ?_
            refine G.seq ?_
            refine G.seq ?_
            refine G.region ?_
            refine L.val rfl rfl (R.mv rfl) ?_
            refine L.val rfl rfl (R.neI rfl rfl) ?_
            refine L.nil ?_
            refine N.seq ?_
            refine G.condP rfl (fun h4 => ?_) (fun h4 => ?_)
            · refine G.seq ?_
              refine G.region ?_
              refine L.val rfl rfl (R.build (cs := (ctlC zeroC)) rfl rfl) ?_
              refine L.val rfl rfl (R.mv rfl) ?_
              refine L.set rfl (R.stN rfl rfl B6 rfl (Nat.le_refl 7) (ctlC_one _)) ?_
              rintro w22 ⟨e22, hs22, B6x⟩
              replace B6 : Blk w22 b6 (ctlC zeroC) 121 (0, 0) := by rw [all_stored (by rfl)] at B6x; exact B6x
              replace D2 := D2.ext e22 (fun y hy hm => by rw [List.mem_singleton.1 hm] at hy; exact hn6 hy)
              replace G2 : Grown S S2 w w22 := ⟨G2.1.transN e22 (fun x hx => .inr (by rw [List.mem_singleton.1 hx]; omega)), G2.2⟩
              refine L.val rfl rfl (R.as rfl) ?_
              refine L.nil ?_
              refine N.seq ?_
              refine G.retCT rfl rfl rfl (B6) rfl ?_
              first
                | (rw [writeCV_spent h33]; exact ⟨rfl, S, G0, hd⟩)
                | (rw [writeCV_arg h33 harg]; exact ⟨rfl, S, G0, hd⟩)
                | (rw [writeCV_w h33 hna hwr hw0]; exact ⟨rfl, S1, G1, D1⟩)
                | (rw [writeCV_f h33 hna hwr hw0 hfl h4]; exact ⟨rfl, S2, G2, D2⟩)
                | (rw [writeCV_ok h33 hna hwr hw0 hfl h4]; exact ⟨rfl, S2, G2, D2⟩)
            · refine G.skip ?_
              refine N.seq ?_
              refine G.seq ?_
              refine G.region ?_
              refine L.val rfl rfl (R.ldBN rfl B5 rfl) ?_
              refine L.set rfl (R.stN rfl rfl B6 rfl (Nat.le_refl 7) (ctlC_one _)) ?_
              rintro w23 ⟨e23, hs23, B6x⟩
              replace B6 : Blk w23 b6 (ctlC (nextC c)) 121 (0, 0) := by rw [all_stored (by rfl)] at B6x; exact B6x
              replace D2 := D2.ext e23 (fun y hy hm => by rw [List.mem_singleton.1 hm] at hy; exact hn6 hy)
              replace G2 : Grown S S2 w w23 := ⟨G2.1.transN e23 (fun x hx => .inr (by rw [List.mem_singleton.1 hx]; omega)), G2.2⟩
              refine L.val rfl rfl (R.as rfl) ?_
              refine L.nil ?_
              refine N.seq ?_
              refine G.retCT rfl rfl rfl (B6) rfl ?_
              first
                | (rw [writeCV_spent h33]; exact ⟨rfl, S, G0, hd⟩)
                | (rw [writeCV_arg h33 harg]; exact ⟨rfl, S, G0, hd⟩)
                | (rw [writeCV_w h33 hna hwr hw0]; exact ⟨rfl, S1, G1, D1⟩)
                | (rw [writeCV_f h33 hna hwr hw0 hfl h4]; exact ⟨rfl, S2, G2, D2⟩)
                | (rw [writeCV_ok h33 hna hwr hw0 hfl h4]; exact ⟨rfl, S2, G2, D2⟩)
          · have hw0 : wr.2 ≠ 0 := h3
            refine G.skip ?_
            refine N.seq ?_
            refine G.seq ?_
            refine G.seq ?_
            refine G.region ?_
            refine L.val rfl rfl (R.mv rfl) ?_
            refine L.val rfl rfl (R.neI rfl rfl) ?_
            refine L.nil ?_
            refine N.seq ?_
            refine G.condP rfl (fun h4 => ?_) (fun h4 => ?_)
            · refine G.seq ?_
              refine G.region ?_
              refine L.val rfl rfl (R.build (cs := (ctlC zeroC)) rfl rfl) ?_
              refine L.val rfl rfl (R.mv rfl) ?_
              refine L.set rfl (R.stN rfl rfl B6 rfl (Nat.le_refl 7) (ctlC_one _)) ?_
              rintro w22 ⟨e22, hs22, B6x⟩
              replace B6 : Blk w22 b6 (ctlC zeroC) 121 (0, 0) := by rw [all_stored (by rfl)] at B6x; exact B6x
              replace D1 := D1.ext e22 (fun y hy hm => by rw [List.mem_singleton.1 hm] at hy; exact hn6 hy)
              replace G1 : Grown S S1 w w22 := ⟨G1.1.transN e22 (fun x hx => .inr (by rw [List.mem_singleton.1 hx]; omega)), G1.2⟩
              refine L.val rfl rfl (R.as rfl) ?_
              refine L.nil ?_
              refine N.seq ?_
              refine G.retCT rfl rfl rfl (B6) rfl ?_
              first
                | (rw [writeCV_spent h33]; exact ⟨rfl, S, G0, hd⟩)
                | (rw [writeCV_arg h33 harg]; exact ⟨rfl, S, G0, hd⟩)
                | (rw [writeCV_w h33 hna hwr hw0]; exact ⟨rfl, S1, G1, D1⟩)
                | (rw [writeCV_f h33 hna hwr hw0 hfl h4]; exact ⟨rfl, S2, G2, D2⟩)
                | (rw [writeCV_ok h33 hna hwr hw0 hfl h4]; exact ⟨rfl, S2, G2, D2⟩)
            · exact absurd hw0 h4

end Go.Proofs.Ythpolibakkmmeaa
