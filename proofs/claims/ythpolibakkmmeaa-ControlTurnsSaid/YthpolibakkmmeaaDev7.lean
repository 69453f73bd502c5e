/-
  The walks of package dev.
-/
import Derived.Test.YthpolibakkmmeaaDev6
import Derived.Test.YthpolibakkmmeaaC8
set_option linter.unusedVariables false
set_option linter.unusedSimpArgs false
namespace Go.Proofs.Ythpolibakkmmeaa
open Go Brv Brv.Image Brv.Dev
theorem DevL.still {w w' : World} {d : Nat} {v : DevV} {sz : Nat} {sa : Option Addr} {sc : Nat} {wa : Option Addr} {wc : Nat} {Ms Mw : List Nat} (h : DevL w d v sz sa sc wa wc Ms Mw) (hs : Still w w') : DevL w' d v sz sa sc wa wc Ms Mw := ⟨h.hd.still hs, h.wf, h.hN, h.st.still hs, h.wt.still hs⟩
def IsT1 (x : Nat × List UInt8) (v : Value) (w : World) : Prop := ∃ g, v = .slice (some ⟨g, 0, none⟩) 1 1 ∧ Cells w (some ⟨g, 0, none⟩) (waitC x)
theorem IsT1.keep (x : Nat × List UInt8) : ∀ v w w', Ext [] w w' → IsT1 x v w → IsT1 x v w' := fun _ _ _ he ⟨g, hv, hc⟩ => ⟨g, hv, hc.ext0 he⟩
theorem DevL.push {w w₁ w' : World} {d : Nat} {v v' : DevV} {sz : Nat} {sa : Option Addr} {sc : Nat} {wa : Option Addr} {wc : Nat} {Ms Mw : List Nat} {u : Value} (D : DevL w d v sz sa sc wa wc Ms Mw) (h : Held Mw w.heap.size 238 65 v'.wt.length (waitsC v'.wt) u w₁) (hJ : Ext Mw w w₁) (hp : Put w₁ d (#[.slice sa v.stay.length sc, .slice wa v.wt.length wc, .int .i64 v.calls, .int .i64 v.left, .bool v.off].setIfInBounds 1 u) 234 w') (wf : v'.Wf sz) (h1 : v'.stay = v.stay) (h2 : v'.calls = v.calls) (h3 : v'.left = v.left) (h4 : v'.off = v.off) :
    ∃ wa2 wc2 Mw2, DevL w' d v' sz sa sc wa2 wc2 Ms Mw2 ∧ Ext (d :: Mw) w w' ∧ ∀ g ∈ Mw2, g ∈ Mw ∨ w.heap.size ≤ g := by
  obtain ⟨a1, a2, a3⟩ := D.apart
  obtain ⟨wa2, wc2, Mw2, rfl, o, hM⟩ := h
  obtain ⟨e, hsz, B⟩ := hp
  have hl := D.hd.lt
  refine ⟨wa2, wc2, Mw2, ⟨by rw [h1, h2, h3, h4]; exact B, wf, D.hN, ?_, o.ext e (fun g hg hm => ?_)⟩, hJ.trans e (fun x hx => .inl (by simp [hx])) (fun x hx => .inl (by rw [List.mem_singleton.1 hx]; simp)), hM⟩
  · rw [h1]
    exact (D.st.ext hJ (fun g hg hm => a3 g hg hm)).ext e (fun g hg hm => a1 (by rw [List.mem_singleton.1 hm] at hg; exact hg))
  · rw [List.mem_singleton.1 hm] at hg
    exact (hM _ hg).elim a2 (by omega)
def wI (d sz : Nat) (v1 : DevV) (i : Nat) (l : List UInt8) (sa : Option Addr) (sc : Nat) (Ms Mw : List Nat) (b3 b4 : Nat) (w0 : World) (k : Nat) (D : List Nat) (W : World) : Prop :=
  ∃ wa wc Mw', D = d :: b4 :: Mw' ∧ DevL W d { v1 with wt := v1.wt ++ secsF i l k } sz sa sc wa wc Ms Mw' ∧ Blk W b3 #[.pointer (some ⟨d, 0, none⟩)] 131 (0, 0) ∧ Blk W b4 #[.int .i64 ((i + k : Nat) : Int)] 3 (0, 0) ∧ (∀ g ∈ Mw', g ∈ Mw ∨ w0.heap.size ≤ g) ∧ b4 ∉ Mw' ∧ Ext (d :: (Ms ++ Mw)) w0 W
theorem wI_keep {d sz : Nat} {v1 : DevV} {i : Nat} {l : List UInt8} {sa : Option Addr} {sc : Nat} {Ms Mw : List Nat} {b3 b4 : Nat} {w0 : World} {k s : Nat} {D M' : List Nat} {W W' : World} (hs : w0.heap.size ≤ s) (hMs : ∀ g ∈ Ms, g < s) (h3 : b3 < s) (h : wI d sz v1 i l sa sc Ms Mw b3 b4 w0 k D W) (he : Ext M' W W') (hm : ∀ g ∈ M', g ∉ D ∧ (g ∈ ([] : List Nat) ∨ s ≤ g)) : wI d sz v1 i l sa sc Ms Mw b3 b4 w0 k D W' := by
  obtain ⟨wa, wc, Mw', rfl, DD, B3, B4, hMw, h4, E⟩ := h
  have hge : ∀ g ∈ M', s ≤ g := fun g hg => (hm g hg).2.elim (fun h => by cases h) id
  refine ⟨wa, wc, Mw', rfl, DD.ext he (fun y hy hmem => ?_), B3.ext he (fun h => by have := hge _ h; omega), B4.ext he (fun h => (hm _ h).1 (by simp)), hMw, h4, E.transN he (fun g hg => .inr (Nat.le_trans hs (hge g hg)))⟩
  rcases List.mem_cons.1 hy with rfl | hy
  · exact (hm _ hmem).1 (by simp)
  rcases List.mem_append.1 hy with hy | hy
  · have := hge _ hmem; have := hMs y hy; omega
  · exact (hm _ hmem).1 (by simp [hy])

theorem dwrite_ok (d : Nat) (v : DevV) (sz : Nat) (S : List Nat) (p : Int) (ba : Option Addr) (bn bc : Nat) (l : List UInt8) (w : World) (hd : DevAt w d v sz S) (hcb : 0 ≤ v.calls ∧ v.calls ≤ 1000000000) (hwb : v.wt.length ≤ 1000000) (hb : Bs w ba bn l) (hbc : bn ≤ bc) (hbn : bn ≤ 1000000) (hbS : ∀ q, effA ba l = some q → q.block ∉ S ∧ q.block < w.heap.size) : Meets Try.prog 145 [.pointer (some ⟨d, 0, none⟩), .int .i64 p, .slice ba bn bc] w (fun r w' => r = .int .i64 (writeV v sz p l).2 ∧ ∃ S', Grown S S' w w' ∧ DevAt w' d (writeV v sz p l).1 sz S') := by
  refine Meets.enter Try.func145 rfl 50 rfl (Nat.le_of_ble_eq_true rfl) ?_
  have E := Ext.refl [] w
  have hd0 := hd
  obtain ⟨sa, sc, wa, wc, Ms, Mw, D, rfl⟩ := hd
  replace E : Ext (d :: (Ms ++ Mw)) w w := Ext.refl _ _
  have hl := hb.len
  have hsN := D.hN
  have hdl : dn l = l.length / 64 := rfl
  have hcs := callV_same v
  have hlt0 := D.lt
  refine G.seq ?_
  refine G.region ?_
  refine L.do rfl rfl (R.box rfl) ?_
  rintro _ w1 ⟨b3, rfl, hb3, hs1, e1, B3⟩
  replace B3 : Blk w1 b3 #[.pointer (some ⟨d, 0, none⟩)] 131 (0, 0) := B3
  replace E := E.trans0 e1
  refine L.do rfl rfl (R.box rfl) ?_
  rintro _ w2 ⟨b4, rfl, hb4, hs2, e2, B4⟩
  replace B4 : Blk w2 b4 #[.int .i64 p] 3 (0, 0) := B4
  replace E := E.trans0 e2
  replace B3 := B3.ext0 e2
  have e12 := e1.trans0 e2
  replace D := D.ext0 e12
  have hd2 := hd0.ext0 e12
  have hb2 := hb.ext0 e12
  refine L.val rfl rfl (R.as rfl) ?_
  refine L.nil ?_
  refine N.seq ?_
  refine G.seq ?_
  refine G.seq ?_
  refine G.region ?_
  refine L.val rfl rfl (R.ldB rfl B3 rfl) ?_
  refine L.callF rfl rfl rfl go199 (dable_ok d v sz _ _ hd2) ?_
  rintro _ _ ⟨rfl, hw⟩
  obtain rfl := hw.symm
  refine L.val rfl rfl (R.as rfl) ?_
  refine L.nil ?_
  refine N.seq ?_
  refine G.seq ?_
  by_cases ho : v.off = true
  · rw [if_pos ho]
    have hf : writeV v sz p l = (v, 10) := if_pos ho
    refine G.region ?_
    refine L.val rfl rfl (R.mv rfl) ?_
    refine L.val rfl rfl (R.neI rfl rfl) ?_
    refine L.nil ?_
    refine N.seq ?_
    refine G.condT rfl ?_
    refine G.seq ?_
    refine G.region ?_
    refine L.val rfl rfl (R.mv rfl) ?_
    refine L.val rfl rfl (R.as rfl) ?_
    refine L.nil ?_
    refine N.seq ?_
    refine G.ret1 rfl rfl ?_
    first
      | (rw [hf]; exact ⟨rfl, _, Grown.of0 _ e12, hd2⟩)
      | (rw [hf]; exact ⟨rfl, _, ⟨E, fun g hg => .inl hg⟩, sa, sc, wa, wc, Ms, Mw, D1, rfl⟩)
      | (rw [hf]; exact ⟨rfl, d :: (Ms ++ Mw1), ⟨E.transN (Ext.putObj _ _ _) (fun g hg => .inr (by rw [List.mem_singleton.1 hg]; omega)), hG⟩, sa, sc, wa1, wc1, Ms, Mw1, D.still hst, rfl⟩)
  · rw [if_neg ho]
    refine G.region ?_
    refine L.val rfl rfl (R.mv rfl) ?_
    refine L.val rfl rfl (R.neI rfl rfl) ?_
    refine L.nil ?_
    refine N.seq ?_
    refine G.condF rfl ?_
    refine G.skip ?_
    refine N.seq ?_
    refine G.seq ?_
    refine G.block ?_
    refine G.seq ?_
    refine G.region ?_
    refine L.val rfl rfl (R.mv rfl) ?_
    refine L.val rfl rfl (R.lenS rfl) ?_
    refine L.val rfl rfl (R.rem rfl rfl (by omega) (by omega)) ?_
    refine L.val rfl rfl (R.neI rfl rfl) ?_
    refine L.val rfl rfl (R.as rfl) ?_
    refine L.nil ?_
    refine N.seq ?_
    refine G.condP rfl (fun h1 => ?_) (fun h1 => ?_)
    · have hf : writeV v sz p l = (v, 2) := by unfold writeV; rw [if_neg ho, if_pos (by omega)]
      refine G.seq ?_
      refine G.region ?_
      refine L.val rfl rfl (R.as rfl) ?_
      refine L.nil ?_
      refine N.seq ?_
      refine G.ret1 rfl rfl ?_
      first
        | (rw [hf]; exact ⟨rfl, _, Grown.of0 _ e12, hd2⟩)
        | (rw [hf]; exact ⟨rfl, _, ⟨E, fun g hg => .inl hg⟩, sa, sc, wa, wc, Ms, Mw, D1, rfl⟩)
        | (rw [hf]; exact ⟨rfl, d :: (Ms ++ Mw1), ⟨E.transN (Ext.putObj _ _ _) (fun g hg => .inr (by rw [List.mem_singleton.1 hg]; omega)), hG⟩, sa, sc, wa1, wc1, Ms, Mw1, D.still hst, rfl⟩)
    · have hm : l.length = 64 * dn l := by omega
      refine G.seq ?_
      refine G.region ?_
      refine L.val rfl rfl (R.ldB rfl B3 rfl) ?_
      refine L.val rfl rfl (R.ldB rfl B4 rfl) ?_
      refine L.val rfl rfl (R.mv rfl) ?_
      refine L.val rfl rfl (R.lenS rfl) ?_
      refine L.val rfl rfl (R.quo rfl rfl (by omega) (by omega)) ?_
      refine L.be 24 rfl (show _ = Value.int .i64 (dn l : Int) by congr 1; omega) ?_
      refine L.callF rfl rfl rfl go200 (dthere_ok d v sz _ p (dn l : Int) _ hd2) ?_
      rintro _ _ ⟨rfl, hw⟩
      obtain rfl := hw.symm
      refine L.val rfl rfl (R.not rfl) ?_
      refine L.be 26 rfl (show _ = Value.bool (decide (¬ thereP sz p (dn l))) by simp) ?_
      refine L.val rfl rfl (R.as rfl) ?_
      refine L.nil ?_
      refine N.seq ?_
      refine G.condP rfl (fun h2 => ?_) (fun h2 => ?_)
      · have hf : writeV v sz p l = (v, 11) := by unfold writeV; rw [if_neg ho, if_neg (by omega), if_pos h2]
        refine G.seq ?_
        refine G.region ?_
        refine L.val rfl rfl (R.as rfl) ?_
        refine L.nil ?_
        refine N.seq ?_
        refine G.ret1 rfl rfl ?_
        first
          | (rw [hf]; exact ⟨rfl, _, Grown.of0 _ e12, hd2⟩)
          | (rw [hf]; exact ⟨rfl, _, ⟨E, fun g hg => .inl hg⟩, sa, sc, wa, wc, Ms, Mw, D1, rfl⟩)
          | (rw [hf]; exact ⟨rfl, d :: (Ms ++ Mw1), ⟨E.transN (Ext.putObj _ _ _) (fun g hg => .inr (by rw [List.mem_singleton.1 hg]; omega)), hG⟩, sa, sc, wa1, wc1, Ms, Mw1, D.still hst, rfl⟩)
      · have ht : thereP sz p (dn l) := Classical.not_not.1 h2
        have ht2 := ht
        unfold thereP at ht2
        obtain ⟨i, rfl⟩ := Int.eq_ofNat_of_zero_le ht2.1
        have hin : i + dn l ≤ sz := by omega
        refine G.seq ?_
        refine G.region ?_
        refine L.val rfl rfl (R.ldB rfl B3 rfl) ?_
        refine L.callF rfl rfl rfl go201 (dcallL_ok d v sz sa sc wa wc Ms Mw _ D hcb) ?_
        rintro _ w3 ⟨rfl, e3, D1⟩
        obtain ⟨v1, hv1⟩ : ∃ v1, v1 = (callV v).1 := ⟨_, rfl⟩
        rw [← hv1] at D1 hcs
        have hdlt := hlt0 d (by simp)
        replace E := E.transN e3 (fun g hg => .inl (by rw [List.mem_singleton.1 hg]; simp))
        replace B3 := B3.ext e3 (by simp; omega)
        replace B4 := B4.ext e3 (by simp; omega)
        have hb3 := hb2.extE e3 (fun q hq hm => (hbS q hq).1 (by rw [List.mem_singleton.1 hm]; simp))
        have hv1w : v1.wt.length ≤ 1000000 := by rw [hcs.2]; exact hwb
        refine L.val rfl rfl (R.not rfl) ?_
        refine L.val rfl rfl (R.as rfl) ?_
        refine L.nil ?_
        refine N.seq ?_
        refine G.condB rfl (fun h3 => ?_) (fun h3 => ?_)
        · have hcf : (callV v).2 = false := by simpa using h3
          have hf : writeV v sz (i : Int) l = (v1, 10) := by unfold writeV; rw [if_neg ho, if_neg (by omega), if_neg (by simpa using ht), if_neg (by simp [hcf]), hv1]
          refine G.seq ?_
          refine G.region ?_
          refine L.val rfl rfl (R.as rfl) ?_
          refine L.nil ?_
          refine N.seq ?_
          refine G.ret1 rfl rfl ?_
          first
            | (rw [hf]; exact ⟨rfl, _, Grown.of0 _ e12, hd2⟩)
            | (rw [hf]; exact ⟨rfl, _, ⟨E, fun g hg => .inl hg⟩, sa, sc, wa, wc, Ms, Mw, D1, rfl⟩)
            | (rw [hf]; exact ⟨rfl, d :: (Ms ++ Mw1), ⟨E.transN (Ext.putObj _ _ _) (fun g hg => .inr (by rw [List.mem_singleton.1 hg]; omega)), hG⟩, sa, sc, wa1, wc1, Ms, Mw1, D.still hst, rfl⟩)
        · have hcf : (callV v).2 = true := by simpa using h3
          have hf : writeV v sz (i : Int) l = ({ v1 with wt := v1.wt ++ secsF i l (dn l) }, 0) := by unfold writeV; rw [if_neg ho, if_neg (by omega), if_neg (by simpa using ht), if_pos hcf, hv1]; rfl
          refine G.skip ?_
          refine N.block ?_
          refine N.seq ?_
          refine G.seq ?_
          refine G.seq ?_
          refine G.region ?_
          refine L.val rfl rfl (R.mv rfl) ?_
          refine L.callF rfl rfl rfl go202 (chunk_ok ba bn bc _) ?_
          rintro _ w4 ⟨c2, c3, rfl, e4, C2, C3, hc2, hc3⟩
          replace E := E.trans0 e4
          have hE3 := e3.size
          have hE4 := e4.size
          replace D1 := D1.ext0 e4
          replace B3 := B3.ext0 e4
          replace B4 := B4.ext0 e4
          replace hb3 := hb3.ext0 e4
          have hE4w := E.size
          have l3 := B3.lt
          have l4 := B4.lt
          have lC2 := C2.lt
          have lC3 := C3.lt
          have hwD := D1.wt.typ
          refine L.nil ?_
          refine N.seq ?_
          refine G.block ?_
          have hD0 : ∀ y ∈ d :: b4 :: Mw, y < w4.heap.size ∧ y ∉ chF (effA ba l) c2 c3 ∧ y ∉ ([] : List Nat) := by
            intro y hy
            have hyc : y = b4 ∨ y ∈ (d :: (Ms ++ Mw)) := by
              simp only [List.mem_cons] at hy ⊢
              rcases hy with h | h | h
              · exact .inr (.inl h)
              · exact .inl h
              · exact .inr (.inr (List.mem_append.2 (.inr h)))
            rcases hyc with rfl | hyS
            · refine ⟨l4, fun h => ?_, by simp⟩
              rcases chF_mem h with h | h | ⟨q, hq, h⟩
              · omega
              · omega
              · have := (hbS q hq).2; omega
            · have hylt := hlt0 y hyS
              refine ⟨by omega, fun h => ?_, by simp⟩
              rcases chF_mem h with h | h | ⟨q, hq, h⟩
              · omega
              · omega
              · exact (hbS q hq).1 (h ▸ hyS)
          have hF0 : ∀ y, y ∈ chF (effA ba l) c2 c3 ∨ y ∈ ([] : List Nat) → y < w4.heap.size := by
            rintro y (h | h)
            · rcases chF_mem h with h | h | ⟨q, hq, h⟩
              · omega
              · omega
              · have := (hbS q hq).2; omega
            · cases h
          have hn4 : b4 ∉ Mw := fun h => by have := hlt0 b4 (by simp [h]); omega
          have hI0 : wI d sz v1 i l sa sc Ms Mw b3 b4 w 0 (d :: b4 :: Mw) w4 := ⟨wa, wc, Mw, rfl, by simpa [secsF] using D1, B3, B4, fun g hg => .inl hg, hn4, E⟩
          have hMsl : ∀ g ∈ Ms, g < w4.heap.size := fun g hg => by have := hlt0 g (by simp [hg]); omega
          refine G.range (lb := [.pointer (some ⟨c2, 0, none⟩), .pointer (some ⟨c3, 0, none⟩)]) rfl rfl go231 (chunk_iter c2 c3 ba bn bc l _ C2 C3 hb3 hbc hbn hm) (fun _ _ _ h _ => h) (d :: b4 :: Mw) hD0 hF0 (wI d sz v1 i l sa sc Ms Mw b3 b4 w) (fun _ _ _ _ => False) (fun k D W1 W2 M2 h he hm => wI_keep hE4w hMsl l3 h he hm) (fun _ _ _ _ _ _ h _ _ => h) hI0 ?_ ?_ ?_
          · rintro q k D vs W1 hl2 hlt hlD hDl hk hIk ⟨a, c, rfl, hac, hbk⟩
            refine ⟨rfl, ?_⟩
            refine G.sub [(33, .slice a 64 c), (3, .pointer (some ⟨b3, 0, none⟩)), (4, .pointer (some ⟨b4, 0, none⟩))] (Sub.cons rfl (Sub.cons rfl (Sub.cons rfl (Sub.nil _)))) ?_
            refine G.region ?_
            refine L.val rfl rfl (R.as rfl) ?_
            refine L.nil ?_
            refine N.round (Ext.refl _ _) (fun wb hb1 hb2 => ?_)
            obtain ⟨wa1, wc1, Mw1, rfl, D, B3, B4, hMw1, hn41, E⟩ := hIk
            replace hbk := hbk.still hb2
            replace B3 := B3.still hb2
            replace B4 := B4.still hb2
            replace D := D.still hb2
            replace E := E.transN hb1 (fun g hg => .inr (by rw [List.mem_singleton.1 hg]; omega))
            have hb64 := blk_length hk
            obtain ⟨pa, hpa⟩ : ∃ pa, a = some pa := by
              cases a with
              | none => have := hbk.none.2; cases this
              | some pa => exact ⟨pa, rfl⟩
            subst hpa
            have hx65 : (waitC ((i + k, blk l k) : Nat × List UInt8)).length = 65 := waitC_length hb64
            have hEb := E.size
            have l3b := B3.lt
            have l4b := B4.lt
            have hap := D.apart
            have hdb := D.hd.lt
            have h3d : b3 ≠ d := by omega
            have h4d : b4 ≠ d := by omega
            have hwln : (v1.wt ++ secsF i l k).length = v1.wt.length + k := by rw [List.length_append, secsF_length]
            have hwf2 : ({ v1 with wt := v1.wt ++ secsF i l (k + 1) } : DevV).Wf sz := secs_wf (hv1 ▸ callV_wf hd0.wf.1) hin hk
            have hn3 : b3 ∉ Mw1 := fun h => by obtain ⟨_, hq⟩ := D.wt.typ b3 h; exact B3.ne hq (by decide) rfl
            refine G.block ?_
            refine G.seq ?_
            have hI : ∀ kq w', stage [Ext [] wb, Ext Mw1 wb, fun w' => ∃ wa2 wc2 Mw2, DevL w' d { v1 with wt := v1.wt ++ secsF i l (k + 1) } sz sa sc wa2 wc2 Ms Mw2 ∧ Ext (d :: Mw1) wb w' ∧ ∀ g ∈ Mw2, g ∈ Mw1 ∨ wb.heap.size ≤ g] kq w' → (Ext (d :: Mw1) wb) w' := fun kq w' hs => stage_all (I := Ext (d :: Mw1) wb) (by
              intro Ψ hΨ w' hJ
              simp only [List.mem_cons, List.not_mem_nil, or_false] at hΨ
              rcases hΨ with rfl | rfl | rfl
              · exact hJ.mono (by simp)
              · exact hJ.mono (fun g hg => .inl (List.mem_cons_of_mem _ hg))
              · exact hJ.elim fun _ h => h.elim fun _ h => h.elim fun _ h => h.2.1) hs
            refine G.staged [11, 14] [.blocks (Mw1), .blocks ([d])] [Ext [] wb, Ext Mw1 wb, fun w' => ∃ wa2 wc2 Mw2, DevL w' d { v1 with wt := v1.wt ++ secsF i l (k + 1) } sz sa sc wa2 wc2 Ms Mw2 ∧ Ext (d :: Mw1) wb w' ∧ ∀ g ∈ Mw2, g ∈ Mw1 ∨ wb.heap.size ≤ g] [(11, 44), (14, 44), (14, 45)] (by decide +kernel) (by decide +kernel) rfl rfl rfl (fun _ h => h) ?_
            refine Z.readI (I := Ext (d :: Mw1) wb) hI rfl rfl rfl rfl rfl (fun w5 hJ => R.ldB rfl (B3.ext hJ (by simp [h3d, hn3])) rfl) ?_
            refine Z.readI (I := Ext (d :: Mw1) wb) hI rfl rfl rfl rfl rfl (fun w5 hJ => R.ldB rfl (B3.ext hJ (by simp [h3d, hn3])) rfl) ?_
            refine Z.val rfl rfl rfl rfl rfl (fun w5 => R.nilChk rfl) ?_
            refine Z.val rfl rfl rfl rfl rfl (fun w5 => R.fld rfl) ?_
            refine Z.read 0 (by decide +kernel) rfl rfl rfl rfl rfl rfl (fun w5 hJ => R.ldB rfl (D.hd.ext0 hJ) rfl) ?_
            refine Z.read 0 (by decide +kernel) rfl rfl rfl rfl rfl rfl (fun w5 hJ => R.ldB rfl (B4.ext0 hJ) rfl) ?_
            refine Z.val rfl rfl rfl rfl rfl (fun w5 => R.mv rfl) ?_
            refine Z.val rfl rfl rfl rfl rfl (fun w5 => R.s2ap rfl (by decide)) ?_
            refine Z.read 0 (by decide +kernel) rfl rfl rfl rfl rfl rfl (fun w5 hJ => R.ldN rfl (hbk.ext0 hJ).cells (by rw [vbs_length, hb64])) ?_
            refine Z.val rfl rfl rfl rfl rfl (fun w5 => R.build (cs := (waitC ((i + k, blk l k) : Nat × List UInt8)).toArray) rfl (fill_two rfl rfl rfl (by rw [List.size_toArray, vbs_length, hb64]) rfl)) ?_
            refine Z.new (A := IsT1 ((i + k, blk l k) : Nat × List UInt8)) (Lasts.kill (IsT1.keep _) (by decide +kernel)) 0 (by decide +kernel) rfl rfl rfl rfl rfl (fun w5 hJ => (R.buildA rfl rfl rfl rfl (by show (Nat.beq (waitC ((i + k, blk l k) : Nat × List UInt8)).toArray.size 65 && true) = true; rw [List.size_toArray, hx65]; rfl)).mono (fun v w1 h => by obtain ⟨g, rfl, _, _, e9, B9⟩ := h; exact ⟨⟨g, rfl, Cells.of_blk B9 0 _ (fun j u hj => by simpa [cellsOf, Value.cells] using hj)⟩, e9, hJ.trans0 e9⟩)) ?_
            refine Z.put (A := Held Mw1 wb.heap.size 238 65 (v1.wt ++ secsF i l (k + 1)).length (waitsC (v1.wt ++ secsF i l (k + 1)))) (Lasts.kill (Held.keep _ _ _ _ _ _) (by decide +kernel)) 0 (by decide +kernel) rfl rfl rfl rfl rfl rfl rfl (fun w5 hJ => by rintro v ⟨g, rfl, hc⟩; exact (R.app rfl rfl (D.wt.ext0 hJ) hc hx65 (waitC_one _) (by show (v1.wt ++ secsF i l k).length + 1 ≤ _; rw [hwln]; simp [maxLen]; omega) (by show ((v1.wt ++ secsF i l k).length + 1) * _ ≤ _; rw [hwln]; omega)).mono (fun _ _ h => Held.app h hJ (by show (v1.wt ++ secsF i l k).length + 1 = _; rw [List.length_append, List.length_append, secsF_length, secsF_length]; omega) (by rw [secsF_succ, ← List.append_assoc, waitsC_append (v1.wt ++ secsF i l k)]; simp [waitsC]))) ?_
            refine Z.val rfl rfl rfl rfl rfl (fun w5 => R.nilChk rfl) ?_
            refine Z.val rfl rfl rfl rfl rfl (fun w5 => R.fld rfl) ?_
            refine Z.set 1 (by decide +kernel) rfl rfl rfl rfl rfl rfl (fun w5 hJ => fun v hv => (R.st rfl rfl (D.hd.ext hJ hap.2.1) (by show 1 < 5; decide) (by obtain ⟨_, _, _, rfl, _⟩ := hv; rfl)).mono (fun _ h => ⟨h.1, by exact D.push hv hJ h hwf2 rfl rfl rfl rfl⟩)) ?_
            refine Z.nil rfl rfl (fun w5 hJ => ?_)
            obtain ⟨wa2, wc2, Mw2, D2, e12b, hMw2⟩ := hJ
            have X : Ext (d :: b4 :: Mw1) wb _ := e12b.mono (fun g hg => .inl (by simp at hg ⊢; rcases hg with h | h <;> simp [h]))
            replace B3 := B3.ext e12b (by simp [h3d, hn3])
            replace B4 := B4.ext e12b (by simp [h4d, hn41])
            replace E := E.transN e12b (fun g hg => (List.mem_cons.1 hg).elim (fun h => .inl (by simp [h])) (fun h => (hMw1 g h).imp (fun h => by simp [h]) id))
            have hn42 : b4 ∉ Mw2 := fun h => by obtain ⟨_, hq⟩ := D2.wt.typ b4 h; exact B4.ne hq (by decide) rfl
            have hs12 := e12b.size
            refine N.seq ?_
            refine G.region ?_
            refine L.val rfl rfl (R.ldB rfl B4 rfl) ?_
            refine L.val rfl rfl (R.add rfl rfl (by omega)) ?_
            refine L.set rfl (R.st rfl rfl B4 (by show 0 < 1; decide) rfl) ?_
            rintro w9 ⟨e9, hs9, B4n⟩
            replace B4 : Blk w9 b4 #[.int .i64 ((i + (k + 1) : Nat) : Int)] 3 (0, 0) := B4n
            replace B3 := B3.ext e9 (by simp; omega)
            have hb4n : ∀ y ∈ d :: (Ms ++ Mw2), y ∉ [b4] := by
              intro y hy hm
              rw [List.mem_singleton.1 hm] at hy
              exact (List.mem_cons.1 hy).elim h4d (fun h => (List.mem_append.1 h).elim (fun h => by have := hlt0 b4 (by simp [h]); omega) hn42)
            replace D2 := D2.ext e9 hb4n
            replace E := E.transN e9 (fun g hg => .inr (by rw [List.mem_singleton.1 hg]; omega))
            replace X := X.transN e9 (fun g hg => .inl (by rw [List.mem_singleton.1 hg]; simp))
            have hlt2 := D2.lt
            have hD2 : ∀ g ∈ d :: b4 :: Mw2, g < w9.heap.size ∧ (g ∈ d :: b4 :: Mw1 ∨ wb.heap.size ≤ g) := by
              intro g hg
              simp only [List.mem_cons] at hg
              rcases hg with rfl | rfl | hg
              · exact ⟨hlt2 _ (by simp), .inl (by simp)⟩
              · exact ⟨B4.lt, .inl (by simp)⟩
              · exact ⟨hlt2 _ (by simp [hg]), (hMw2 g hg).imp (fun h => by simp [h]) id⟩
            refine L.nil ?_
            refine N.block ?_
            refine N.done fun _ _ => ?_
            exact ⟨d :: b4 :: Mw2, X, hD2, wa2, wc2, Mw2, rfl, D2, B3, B4, fun g hg => (hMw2 g hg).elim (hMw1 g) (fun h => .inr (by omega)), hn42, E⟩
          · rintro d2 DD W2 hd2 hdD hK ⟨wa1, wc1, Mw1, rfl, D, B3, B4, hMw1, hn41, E⟩ _
            have hst := Still.putObj (.deferred none) hK rfl
            have hG : ∀ g ∈ d :: (Ms ++ Mw1), g ∈ (d :: (Ms ++ Mw)) ∨ w.heap.size ≤ g := fun g hg => (List.mem_cons.1 hg).elim (fun h => .inl (by simp [h])) (fun h => (List.mem_append.1 h).elim (fun h => .inl (by simp [h])) (fun h => (hMw1 g h).imp (fun h => by simp [h]) id))
            refine N.block ?_
            refine N.seq ?_
            refine G.seq ?_
            refine G.region ?_
            refine L.val rfl rfl (R.as rfl) ?_
            refine L.nil ?_
            refine N.seq ?_
            refine G.ret1M rfl rfl (leave1 hK) ?_
            first
              | (rw [hf]; exact ⟨rfl, _, Grown.of0 _ e12, hd2⟩)
              | (rw [hf]; exact ⟨rfl, _, ⟨E, fun g hg => .inl hg⟩, sa, sc, wa, wc, Ms, Mw, D1, rfl⟩)
              | (rw [hf]; exact ⟨rfl, d :: (Ms ++ Mw1), ⟨E.transN (Ext.putObj _ _ _) (fun g hg => .inr (by rw [List.mem_singleton.1 hg]; omega)), hG⟩, sa, sc, wa1, wc1, Ms, Mw1, D.still hst, rfl⟩)
          · rintro _ _ _ _ _ _ _ _ _ h _
            exact h.elim

theorem dwrite_nil (x : Int) (y : Value) (w : World) : Meets Try.prog 145 [.pointer none, .int .i64 x, y] w (fun r w' => r = .int .i64 1 ∧ Ext [] w w') := by
  refine Meets.enter Try.func145 rfl 50 rfl (Nat.le_of_ble_eq_true rfl) ?_
  have E := Ext.refl [] w
  refine G.seq ?_
  refine G.region ?_
  refine L.do rfl rfl (R.box rfl) ?_
  rintro _ w1 ⟨b3, rfl, hb3, hs1, e1, B3⟩
  replace E := E.trans0 e1
  refine L.do rfl rfl (R.box rfl) ?_
  rintro _ w2 ⟨b4, rfl, hb4, hs2, e2, B4⟩
  replace E := E.trans0 e2
  replace B3 := B3.ext0 e2
  refine L.val rfl rfl (R.as rfl) ?_
  refine L.nil ?_
  refine N.seq ?_
  refine G.seq ?_
  refine G.seq ?_
  refine G.region ?_
  refine L.val rfl rfl (R.ldB rfl B3 rfl) ?_
  refine L.callF rfl rfl rfl go199 (dable_nil _) ?_
  rintro _ _ ⟨rfl, hw⟩
  obtain rfl := hw.symm
  refine L.val rfl rfl (R.as rfl) ?_
  refine L.nil ?_
  refine N.seq ?_
  refine G.seq ?_
  refine G.region ?_
  refine L.val rfl rfl (R.mv rfl) ?_
  refine L.val rfl rfl (R.neI rfl rfl) ?_
  refine L.nil ?_
  refine N.seq ?_
  refine G.condT rfl ?_
  refine G.seq ?_
  refine G.region ?_
  refine L.val rfl rfl (R.mv rfl) ?_
  refine L.val rfl rfl (R.as rfl) ?_
  refine L.nil ?_
  refine N.seq ?_
  refine G.ret1 rfl rfl ?_
  exact ⟨rfl, E⟩

end Go.Proofs.Ythpolibakkmmeaa
