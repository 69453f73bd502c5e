/-
  The walks of package dev.
-/
import Derived.Test.YthpolibakkmmeaaDev2
import Derived.Test.YthpolibakkmmeaaC8
set_option linter.unusedVariables false
set_option linter.unusedSimpArgs false
namespace Go.Proofs.Ythpolibakkmmeaa
open Go Brv Brv.Image Brv.Dev
theorem DevL.elem {w : World} {d : Nat} {v : DevV} {sz : Nat} {sa : Option Addr} {sc : Nat} {wa : Option Addr} {wc : Nat} {Ms Mw : List Nat} (h : DevL w d v sz sa sc wa wc Ms Mw) {k : Nat} {x : Nat × List UInt8} (hx : v.wt[k]? = some x) : ∃ q, wa = some q ∧ Cells w (some (q.add (k * 65))) (waitC x) ∧ x.1 < sz ∧ x.2.length = 64 := by
  have hk := (List.getElem?_eq_some_iff.1 hx).1
  obtain ⟨q, hq, hc⟩ := h.tab.at (by decide) k (by rw [List.length_map]; exact hk)
  rw [List.getElem_map, show v.wt[k] = x from (List.getElem?_eq_some_iff.1 hx).2] at hc
  exact ⟨q, hq, hc, h.wf.wt x (List.mem_of_getElem? hx)⟩
theorem DevL.none {w w' : World} {d : Nat} {v : DevV} {sz : Nat} {sa : Option Addr} {sc : Nat} {wa : Option Addr} {wc : Nat} {Ms Mw : List Nat} (h : DevL w d v sz sa sc wa wc Ms Mw) (he : Ext [d] w w') (hb : Blk w' d #[.slice sa v.stay.length sc, .slice .none 0 0, .int .i64 v.calls, .int .i64 v.left, .bool v.off] 234 (0, 0)) : DevL w' d { v with wt := [] } sz sa sc .none 0 Ms [] := by
  obtain ⟨h1, h2, _⟩ := h.apart
  exact ⟨hb, ⟨h.wf.len, by simp, h.wf.left⟩, h.hN, h.st.ext he (fun g hg hm => by rw [List.mem_singleton.1 hm] at hg; exact h1 hg), Own.nil _ _ _⟩

theorem dflush_ok (d : Nat) (v : DevV) (sz : Nat) (S : List Nat) (w : World) (hd : DevAt w d v sz S) (hcb : 0 ≤ v.calls ∧ v.calls ≤ 1000000000) (hwb : v.wt.length ≤ 1000000) : Meets Try.prog 146 [.pointer (some ⟨d, 0, none⟩)] w (fun r w' => r = .int .i64 (flushV v).2 ∧ ∃ S', Grown S S' w w' ∧ DevAt w' d (flushV v).1 sz S') := by
  refine Meets.enter Try.func146 rfl 30 rfl (Nat.le_of_ble_eq_true rfl) ?_
  have hd0 := hd
  obtain ⟨sa, sc, wa, wc, Ms, Mw, D, rfl⟩ := hd
  have hcs := callV_same v
  refine G.seq ?_
  refine G.region ?_
  refine L.val rfl rfl (R.as rfl) ?_
  refine L.nil ?_
  refine N.seq ?_
  refine G.seq ?_
  refine G.seq ?_
  refine G.region ?_
  refine L.val rfl rfl (R.mv rfl) ?_
  refine L.callF rfl rfl rfl go199 (dable_ok d v sz _ _ hd0) ?_
  rintro _ _ ⟨rfl, hw⟩
  obtain rfl := hw.symm
  refine L.val rfl rfl (R.as rfl) ?_
  refine L.nil ?_
  refine N.seq ?_
  refine G.seq ?_
  by_cases ho : v.off = true
  · rw [if_pos ho]
    have hf : flushV v = (v, 10) := if_pos ho
    refine G.region ?_
    refine L.val rfl rfl (R.mv rfl) ?_
    refine L.val rfl rfl (R.neI rfl rfl) ?_
    refine L.nil ?_
    refine N.seq ?_
    refine G.condT rfl ?_
    refine G.seq ?_
    refine G.region ?_
    refine L.val rfl rfl (R.mv rfl) ?_
    refine L.val rfl rfl (R.as rfl) ?_
    refine L.nil ?_
    refine N.seq ?_
    refine G.ret1 rfl rfl ?_
    first
      | (rw [hf]; exact ⟨rfl, _, Grown.refl _ _, hd0⟩)
      | (rw [hf]; exact ⟨rfl, _, ⟨E, fun g hg => .inl hg⟩, sa, sc, wa, wc, Ms, Mw, D1, rfl⟩)
      | (rw [hf]; exact ⟨rfl, _, ⟨E, fun g hg => .inl (by simp at hg ⊢; rcases hg with h | h <;> simp [h])⟩, sa, sc, none, 0, Ms, [], D7, rfl⟩)
  · rw [if_neg ho]
    refine G.region ?_
    refine L.val rfl rfl (R.mv rfl) ?_
    refine L.val rfl rfl (R.neI rfl rfl) ?_
    refine L.nil ?_
    refine N.seq ?_
    refine G.condF rfl ?_
    refine G.skip ?_
    refine N.seq ?_
    refine G.seq ?_
    refine G.seq ?_
    refine G.region ?_
    refine L.val rfl rfl (R.mv rfl) ?_
    refine L.callF rfl rfl rfl go201 (dcallL_ok d v sz sa sc wa wc Ms Mw _ D hcb) ?_
    rintro _ w1 ⟨rfl, e1, D1⟩
    obtain ⟨v1, hv1⟩ : ∃ v1, v1 = (callV v).1 := ⟨_, rfl⟩
    rw [← hv1] at D1 hcs
    have E : Ext (d :: (Ms ++ Mw)) w w1 := e1.mono (by simp)
    have hwl : v1.wt.length ≤ 1000000 := by rw [hcs.2]; exact hwb
    refine L.val rfl rfl (R.not rfl) ?_
    refine L.nil ?_
    refine N.seq ?_
    refine G.condB rfl (fun h1 => ?_) (fun h1 => ?_)
    · have hcf : (callV v).2 = false := by simpa using h1
      have hf : flushV v = (v1, 10) := by unfold flushV; rw [if_neg ho, if_neg (by simp [hcf]), hv1]
      refine G.seq ?_
      refine G.region ?_
      refine L.val rfl rfl (R.as rfl) ?_
      refine L.nil ?_
      refine N.seq ?_
      refine G.ret1 rfl rfl ?_
      first
        | (rw [hf]; exact ⟨rfl, _, Grown.refl _ _, hd0⟩)
        | (rw [hf]; exact ⟨rfl, _, ⟨E, fun g hg => .inl hg⟩, sa, sc, wa, wc, Ms, Mw, D1, rfl⟩)
        | (rw [hf]; exact ⟨rfl, _, ⟨E, fun g hg => .inl (by simp at hg ⊢; rcases hg with h | h <;> simp [h])⟩, sa, sc, none, 0, Ms, [], D7, rfl⟩)
    · have hcf : (callV v).2 = true := by simpa using h1
      have hf : flushV v = ({ v1 with stay := laidAll v1.stay v1.wt, wt := [] }, 0) := by unfold flushV; rw [if_neg ho, if_pos hcf, hv1]
      refine G.skip ?_
      refine N.seq ?_
      refine G.seq ?_
      refine G.seq ?_
      refine G.region ?_
      refine L.val rfl rfl (R.mv rfl) ?_
      refine L.val rfl rfl (R.nilChk rfl) ?_
      refine L.val rfl rfl (R.fld rfl) ?_
      refine L.val rfl rfl (R.ldB rfl D1.hd rfl) ?_
      refine L.val rfl rfl (R.lenS rfl) ?_
      refine L.val rfl rfl (R.mv rfl) ?_
      refine L.nil ?_
      refine N.seq ?_
      refine G.block ?_
      refine G.loop (X := Nat) (fun k => [(0, .pointer (some ⟨d, 0, none⟩)), (17, .slice wa v1.wt.length wc), (18, .int .i64 (v1.wt.length : Int)), (19, .int .i64 (k : Int))]) (fun k w' => k ≤ v1.wt.length ∧ DevL w' d { v1 with stay := (laidAll v1.stay (v1.wt.take k)) } sz sa sc wa wc Ms Mw ∧ Ext (d :: (Ms ++ Mw)) w w') (fun k => v1.wt.length - k) (0) (Sub.cons rfl (Sub.cons rfl (Sub.cons rfl (Sub.cons rfl (Sub.nil _))))) ⟨Nat.zero_le _, D1, E⟩ ?_
      rintro k w2 ⟨hk, D2, E⟩
      refine G.seq ?_
      refine G.region ?_
      refine L.val rfl rfl (R.lss rfl rfl) ?_
      refine L.nil ?_
      refine N.seq ?_
      refine G.seq ?_
      refine G.condP rfl (fun h2 => ?_) (fun h2 => ?_)
      · have hk2 : k < v1.wt.length := by omega
        obtain ⟨x, hx⟩ : ∃ x, v1.wt[k]? = some x := ⟨_, List.getElem?_eq_getElem hk2⟩
        obtain ⟨q9, hq9, hcl, hxs, hx64⟩ := D2.elem (x := x) hx
        refine G.skip ?_
        refine N.seq ?_
        refine G.seq ?_
        refine G.block ?_
        refine G.seq ?_
        refine G.region ?_
        refine L.val rfl rfl (R.idx rfl rfl (by omega) (by omega) q9 hq9) ?_
        refine L.val rfl rfl (R.ldN rfl hcl (waitC_length hx64)) ?_
        refine L.do rfl rfl (R.alloc) ?_
        rintro _ w3 ⟨b5, rfl, hb5, hs3, e3, B5⟩
        refine L.set rfl (R.stN rfl rfl B5 (by rw [List.size_toArray, waitC_length hx64]) (by rw [List.size_toArray, waitC_length hx64]; exact Nat.le_refl 65) (waitC_one x)) ?_
        rintro w4 ⟨e4, hs4, B5⟩
        rw [all_stored (Eq.trans (by rfl : _ = 65) (by rw [List.size_toArray, waitC_length hx64]))] at B5
        have n4 := e3.news2 e4 (by omega)
        replace D2 := D2.ext0 n4
        replace E := E.trans0 n4
        refine L.nil ?_
        refine N.seq ?_
        refine G.region ?_
        refine L.val rfl rfl (R.mv rfl) ?_
        refine L.val rfl rfl (R.ldBN rfl B5 (by rw [List.size_toArray, waitC_length hx64])) ?_
        refine L.callF rfl rfl rfl go148 (settle_ok d _ sz sa sc wa wc Ms Mw x _ D2 hxs hx64) ?_
        rintro _ w5 ⟨e5, D5⟩
        replace D2 : DevL w5 d { v1 with stay := (laidAll v1.stay (v1.wt.take (k + 1))) } sz sa sc wa wc Ms Mw := by rw [laidAll_succ hx]; exact D5
        replace E := E.transN e5 (fun g hg => .inl (by simp [hg]))
        refine L.nil ?_
        refine N.block ?_
        refine N.seq ?_
        refine G.region ?_
        refine L.val rfl rfl (R.add rfl rfl (by omega)) ?_
        refine L.val rfl rfl (R.mv rfl) ?_
        refine L.nil ?_
        exact N.again (k + 1) (by omega) (Sub.cons rfl (Sub.cons rfl (Sub.cons rfl (Sub.cons rfl (Sub.nil _))))) ⟨by omega, D2, E⟩
      · obtain rfl : k = v1.wt.length := by omega
        rw [List.take_length] at D2
        refine G.exit _ rfl ?_
        refine N.seq ?_
        refine G.seq ?_
        refine G.region ?_
        refine L.val rfl rfl (R.mv rfl) ?_
        refine L.val rfl rfl (R.nilChk rfl) ?_
        refine L.val rfl rfl (R.fld rfl) ?_
        refine L.set rfl (R.st rfl rfl D2.hd (by show 1 < 5; decide) rfl) ?_
        rintro w6 ⟨e6, hs6, B6⟩
        have D7 := D2.none e6 B6
        replace E := E.transN e6 (fun g hg => .inl (by rw [List.mem_singleton.1 hg]; simp))
        refine L.nil ?_
        refine N.seq ?_
        refine G.seq ?_
        refine G.region ?_
        refine L.val rfl rfl (R.as rfl) ?_
        refine L.nil ?_
        refine N.seq ?_
        refine G.ret1 rfl rfl ?_
        first
          | (rw [hf]; exact ⟨rfl, _, Grown.refl _ _, hd0⟩)
          | (rw [hf]; exact ⟨rfl, _, ⟨E, fun g hg => .inl hg⟩, sa, sc, wa, wc, Ms, Mw, D1, rfl⟩)
          | (rw [hf]; exact ⟨rfl, _, ⟨E, fun g hg => .inl (by simp at hg ⊢; rcases hg with h | h <;> simp [h])⟩, sa, sc, none, 0, Ms, [], D7, rfl⟩)

theorem dflush_nil  (w : World) : Meets Try.prog 146 [.pointer none] w (fun r w' => r = .int .i64 1 ∧ w' = w) := by
  refine Meets.enter Try.func146 rfl 30 rfl (Nat.le_of_ble_eq_true rfl) ?_
  refine G.seq ?_
  refine G.region ?_
  refine L.val rfl rfl (R.as rfl) ?_
  refine L.nil ?_
  refine N.seq ?_
  refine G.seq ?_
  refine G.seq ?_
  refine G.region ?_
  refine L.val rfl rfl (R.mv rfl) ?_
  refine L.callF rfl rfl rfl go199 (dable_nil _) ?_
  rintro _ _ ⟨rfl, hw⟩
  obtain rfl := hw.symm
  refine L.val rfl rfl (R.as rfl) ?_
  refine L.nil ?_
  refine N.seq ?_
  refine G.seq ?_
  refine G.region ?_
  refine L.val rfl rfl (R.mv rfl) ?_
  refine L.val rfl rfl (R.neI rfl rfl) ?_
  refine L.nil ?_
  refine N.seq ?_
  refine G.condT rfl ?_
  refine G.seq ?_
  refine G.region ?_
  refine L.val rfl rfl (R.mv rfl) ?_
  refine L.val rfl rfl (R.as rfl) ?_
  refine L.nil ?_
  refine N.seq ?_
  refine G.ret1 rfl rfl ?_
  exact ⟨rfl, rfl⟩

end Go.Proofs.Ythpolibakkmmeaa
