/-
  The walks of package dev.
-/
import Derived.Test.YtjmlcodlnohgdaaDev3
import Derived.Test.YtjmlcodlnohgdaaC14
set_option linter.unusedVariables false
set_option linter.unusedSimpArgs false
namespace Go.Proofs.Ytjmlcodlnohgdaa
open Go Brv Brv.Image Brv.Dev
theorem DevL.zero {w : World} {d : Nat} {v : DevV} {sz : Nat} {sa : Option Addr} {sc : Nat} {wa : Option Addr} {wc : Nat} {Ms Mw : List Nat} (h : DevL w d v sz sa sc wa wc Ms Mw) : ∀ g ∈ Ms, g ∈ d :: (Ms ++ Mw) := fun g hg => by simp [hg]
theorem cellsB {w : World} {a : Option Addr} {ks : List Bool} (h : Cells w a (ks.map Value.bool)) {k : Nat} {b : Bool} (hk : ks[k]? = some b) : ∃ p, a = some p ∧ w.cell? (p.add k) = some (.bool b) := h k (.bool b) (by simp [hk])
theorem dcrash_ok (d : Nat) (v : DevV) (sz : Nat) (S : List Nat) (ka : Option Addr) (kc : Nat) (ks : List Bool) (w : World) (hd : DevAt w d v sz S) (hwb : v.wt.length ≤ 1000000) (hq : Cells w ka (ks.map Value.bool)) (hqS : ∀ p, effA ka ks = some p → p.block ∉ S) : Meets Try.prog 42 [.pointer (some ⟨d, 0, none⟩), .slice ka ks.length kc] w (fun _ w' => ∃ S', Grown S S' w w' ∧ DevAt w' d (crashV v ks) sz S') := by
  refine Meets.enter Try.func42 rfl 41 rfl (Nat.le_of_ble_eq_true rfl) ?_
  have hd0 := hd
  obtain ⟨sa, sc, wa, wc, Ms, Mw, D, rfl⟩ := hd
  have E := Ext.refl (d :: (Ms ++ Mw)) w
  have hq0 := hq
  refine G.seq ?_
  refine G.seq ?_
  refine G.region ?_
  refine L.val rfl rfl (R.mv rfl) ?_
  refine L.val rfl rfl (R.eqNilP rfl rfl) ?_
  refine L.nil ?_
  refine N.seq ?_
  refine G.condF rfl ?_
  refine G.skip ?_
  refine N.seq ?_
  refine G.seq ?_
  refine G.seq ?_
  refine G.region ?_
  refine L.val rfl rfl (R.mv rfl) ?_
  refine L.val rfl rfl (R.nilChk rfl) ?_
  refine L.val rfl rfl (R.fld rfl) ?_
  refine L.val rfl rfl (R.ldB rfl D.hd rfl) ?_
  refine L.val rfl rfl (R.lenS rfl) ?_
  refine L.val rfl rfl (R.mv rfl) ?_
  refine L.nil ?_
  refine N.seq ?_
  refine G.block ?_
  refine G.loop (X := Nat) (fun k => [(0, .pointer (some ⟨d, 0, none⟩)), (1, .slice ka ks.length kc), (11, .slice wa v.wt.length wc), (12, .int .i64 (v.wt.length : Int)), (13, .int .i64 (k : Int))]) (fun k w' => k ≤ v.wt.length ∧ DevL w' d { v with stay := (keepN v.stay v.wt ks k) } sz sa sc wa wc Ms Mw ∧ Ext (d :: (Ms ++ Mw)) w w') (fun k => v.wt.length - k) (0) (Sub.cons rfl (Sub.cons rfl (Sub.cons rfl (Sub.cons rfl (Sub.cons rfl (Sub.nil _)))))) ⟨Nat.zero_le _, D, E⟩ ?_
  rintro k w2 ⟨hk, D2, E⟩
  have hq2 : Cells w2 ka (ks.map Value.bool) := hq0.extE E hqS
  refine G.seq ?_
  refine G.region ?_
  refine L.val rfl rfl (R.lss rfl rfl) ?_
  refine L.nil ?_
  refine N.seq ?_
  refine G.seq ?_
  refine G.condP rfl (fun h1 => ?_) (fun h1 => ?_)
  · have hk2 : k < v.wt.length := by omega
    obtain ⟨x, hx⟩ : ∃ x, v.wt[k]? = some x := ⟨_, List.getElem?_eq_getElem hk2⟩
    obtain ⟨q9, hq9, hcl, hxs, hx64⟩ := D2.elem (x := x) hx
    refine G.skip ?_
    refine N.seq ?_
    refine G.seq ?_
    refine G.block ?_
    refine G.seq ?_
    refine G.region ?_
    refine L.val rfl rfl (R.mv rfl) ?_
    refine L.val rfl rfl (R.idx rfl rfl (by omega) (by omega) q9 hq9) ?_
    refine L.val rfl rfl (R.ldN rfl hcl (waitC_length hx64)) ?_
    refine L.do rfl rfl (R.alloc) ?_
    rintro _ w3 ⟨b5, rfl, hb5, hs3, e3, B5⟩
    refine L.val rfl rfl (R.as rfl) ?_
    refine L.set rfl (R.stN rfl rfl B5 (by rw [List.size_toArray, waitC_length hx64]) (by rw [List.size_toArray, waitC_length hx64]; exact Nat.le_refl 65) (waitC_one x)) ?_
    rintro w4 ⟨e4, hs4, B5⟩
    rw [all_stored (Eq.trans (by rfl : _ = 65) (by rw [List.size_toArray, waitC_length hx64]))] at B5
    have n4 := e3.news2 e4 (by omega)
    replace D2 := D2.ext0 n4
    replace E := E.trans0 n4
    refine L.nil ?_
    refine N.seq ?_
    refine G.seq ?_
    refine G.region ?_
    refine L.val rfl rfl (R.mv rfl) ?_
    refine L.val rfl rfl (R.mv rfl) ?_
    refine L.val rfl rfl (R.lenS rfl) ?_
    refine L.val rfl rfl (R.lss rfl rfl) ?_
    refine L.val rfl rfl (R.mv rfl) ?_
    refine L.caseP 22 rfl (fun hg4_4 => ?_) (fun hg4_4 => ?_)
    · have hkl : k < ks.length := by omega
      obtain ⟨bb, hbb⟩ : ∃ bb, ks[k]? = some bb := ⟨_, List.getElem?_eq_getElem hkl⟩
      obtain ⟨pk, hpk, hck⟩ := cellsB (hq2.ext0 n4) hbb
      refine L.val rfl rfl (R.mv rfl) ?_
      refine L.val rfl rfl (R.mv rfl) ?_
      refine L.val rfl rfl (R.idx rfl rfl (by omega) (by omega) pk hpk) ?_
      refine L.val rfl rfl (R.ld rfl (v := .bool bb) (by simpa using hck)) ?_
      first | refine L.val rfl rfl (R.pickT rfl rfl) ?_ | refine L.val rfl rfl (R.pickF rfl rfl) ?_
      refine L.nil ?_
      refine N.seq ?_
      refine G.condB rfl (fun h2 => ?_) (fun h2 => ?_)
      · have hkb : ks[k]? = some true := by rw [hbb, h2]
        refine G.region ?_
        refine L.val rfl rfl (R.mv rfl) ?_
        refine L.val rfl rfl (R.ldBN rfl B5 (by rw [List.size_toArray, waitC_length hx64])) ?_
        refine L.callF rfl rfl rfl go81 (settle_ok d _ sz sa sc wa wc Ms Mw x _ D2 hxs hx64) ?_
        rintro _ w5 ⟨e5, D5⟩
        replace E := E.transN e5 (fun g hg => .inl (by simp [hg]))
        refine L.nil ?_
        refine N.block ?_
        refine N.seq ?_
        refine G.region ?_
        refine L.val rfl rfl (R.add rfl rfl (by omega)) ?_
        refine L.val rfl rfl (R.mv rfl) ?_
        refine L.nil ?_
        first
          | exact N.again (k + 1) (by omega) (Sub.cons rfl (Sub.cons rfl (Sub.cons rfl (Sub.cons rfl (Sub.cons rfl (Sub.nil _)))))) ⟨by omega, by rw [keepN_yes hx hkb]; exact D5, E⟩
          | exact N.again (k + 1) (by omega) (Sub.cons rfl (Sub.cons rfl (Sub.cons rfl (Sub.cons rfl (Sub.cons rfl (Sub.nil _)))))) ⟨by omega, by rw [keepN_no hx hkb]; exact D2, E⟩
      · have hkb : ¬ ks[k]? = some true := by rw [hbb]; simpa using h2
        refine G.skip ?_
        refine N.block ?_
        refine N.seq ?_
        refine G.region ?_
        refine L.val rfl rfl (R.add rfl rfl (by omega)) ?_
        refine L.val rfl rfl (R.mv rfl) ?_
        refine L.nil ?_
        first
          | exact N.again (k + 1) (by omega) (Sub.cons rfl (Sub.cons rfl (Sub.cons rfl (Sub.cons rfl (Sub.cons rfl (Sub.nil _)))))) ⟨by omega, by rw [keepN_yes hx hkb]; exact D5, E⟩
          | exact N.again (k + 1) (by omega) (Sub.cons rfl (Sub.cons rfl (Sub.cons rfl (Sub.cons rfl (Sub.cons rfl (Sub.nil _)))))) ⟨by omega, by rw [keepN_no hx hkb]; exact D2, E⟩
    · have hkb : ¬ ks[k]? = some true := by rw [List.getElem?_eq_none (by omega)]; simp
      refine L.pass rfl rfl ?_
      refine L.pass rfl rfl ?_
      refine L.pass rfl rfl ?_
      refine L.pass rfl rfl ?_
      first | refine L.val rfl rfl (R.pickT rfl rfl) ?_ | refine L.val rfl rfl (R.pickF rfl rfl) ?_
      refine L.nil ?_
      refine N.seq ?_
      refine G.condF rfl ?_
      refine G.skip ?_
      refine N.block ?_
      refine N.seq ?_
      refine G.region ?_
      refine L.val rfl rfl (R.add rfl rfl (by omega)) ?_
      refine L.val rfl rfl (R.mv rfl) ?_
      refine L.nil ?_
      first
        | exact N.again (k + 1) (by omega) (Sub.cons rfl (Sub.cons rfl (Sub.cons rfl (Sub.cons rfl (Sub.cons rfl (Sub.nil _)))))) ⟨by omega, by rw [keepN_yes hx hkb]; exact D5, E⟩
        | exact N.again (k + 1) (by omega) (Sub.cons rfl (Sub.cons rfl (Sub.cons rfl (Sub.cons rfl (Sub.cons rfl (Sub.nil _)))))) ⟨by omega, by rw [keepN_no hx hkb]; exact D2, E⟩
  · obtain rfl : k = v.wt.length := by omega
    have ap := D2.apart
    refine G.exit _ rfl ?_
    refine N.seq ?_
    refine G.region ?_
    refine L.val rfl rfl (R.mv rfl) ?_
    refine L.val rfl rfl (R.mv rfl) ?_
    refine L.val rfl rfl (R.mv rfl) ?_
    refine L.val rfl rfl (R.nilChk rfl) ?_
    refine L.val rfl rfl (R.fld rfl) ?_
    refine L.set rfl (R.st rfl rfl D2.hd (by show 1 < 5; decide) rfl) ?_
    rintro w6 ⟨e6, hs6, B6⟩
    replace B6 : Blk w6 d #[.slice sa (keepN v.stay v.wt ks v.wt.length).length sc, .slice none 0 0, .int .i64 v.calls, .int .i64 v.left, .bool v.off] 126 (0, 0) := B6
    have D6 := D2.none e6 B6
    replace E := E.transN e6 (fun g hg => .inl (by rw [List.mem_singleton.1 hg]; simp))
    refine L.val rfl rfl (R.nilChk rfl) ?_
    refine L.val rfl rfl (R.fld rfl) ?_
    refine L.set rfl (R.st rfl rfl B6 (by show 4 < 5; decide) rfl) ?_
    rintro w7 ⟨e7, hs7, B7⟩
    replace B7 : Blk w7 d #[.slice sa (keepN v.stay v.wt ks v.wt.length).length sc, .slice none 0 0, .int .i64 v.calls, .int .i64 v.left, .bool false] 126 (0, 0) := B7
    have D7 : DevL w7 d { v with stay := (keepN v.stay v.wt ks v.wt.length), wt := [], off := false } sz sa sc none 0 Ms [] := D6.fld e7 B7 rfl rfl ⟨D6.wf.len, D6.wf.wt, D6.wf.left⟩
    replace E := E.transN e7 (fun g hg => .inl (by rw [List.mem_singleton.1 hg]; simp))
    refine L.val rfl rfl (R.nilChk rfl) ?_
    refine L.val rfl rfl (R.fld rfl) ?_
    refine L.set rfl (R.st rfl rfl B7 (by show 3 < 5; decide) rfl) ?_
    rintro w8 ⟨e8, hs8, B8⟩
    replace B8 : Blk w8 d #[.slice sa (keepN v.stay v.wt ks v.wt.length).length sc, .slice none 0 0, .int .i64 v.calls, .int .i64 (-1), .bool false] 126 (0, 0) := B8
    have D8 : DevL w8 d (crashV v ks) sz sa sc none 0 Ms [] := D7.fld e8 B8 rfl rfl (crashV_wf hd0.wf.1)
    replace E := E.transN e8 (fun g hg => .inl (by rw [List.mem_singleton.1 hg]; simp))
    refine L.nil ?_
    refine N.end0 rfl ?_
    exact ⟨_, ⟨E, fun g hg => .inl (by simp at hg ⊢; rcases hg with h | h <;> simp [h])⟩, sa, sc, none, 0, Ms, [], D8, rfl⟩

theorem dcrash_nil (x : Value) (w : World) : Meets Try.prog 42 [.pointer none, x] w (fun _ w' => w' = w) := by
  refine Meets.enter Try.func42 rfl 41 rfl (Nat.le_of_ble_eq_true rfl) ?_
  refine G.seq ?_
  refine G.seq ?_
  refine G.region ?_
  refine L.val rfl rfl (R.mv rfl) ?_
  refine L.val rfl rfl (R.eqNilP rfl rfl) ?_
  refine L.nil ?_
  refine N.seq ?_
  refine G.condT rfl ?_
  refine G.ret0 rfl ?_
  exact rfl

theorem dlimit_ok (d : Nat) (v : DevV) (sz : Nat) (S : List Nat) (n : Int) (w : World) (hd : DevAt w d v sz S) (hn : n ≤ 9223372036854775807) : Meets Try.prog 40 [.pointer (some ⟨d, 0, none⟩), .int .i64 n] w (fun _ w' => Ext S w w' ∧ DevAt w' d (limitV v n) sz S) := by
  refine Meets.enter Try.func40 rfl 11 rfl (Nat.le_of_ble_eq_true rfl) ?_
  have hd0 := hd
  obtain ⟨sa, sc, wa, wc, Ms, Mw, D, rfl⟩ := hd
  refine G.seq ?_
  refine G.region ?_
  refine L.val rfl rfl (R.mv rfl) ?_
  refine L.val rfl rfl (R.neNilP rfl rfl) ?_
  refine L.nil ?_
  refine N.seq ?_
  refine G.condT rfl ?_
  refine G.region ?_
  refine L.val rfl rfl (R.mv rfl) ?_
  refine L.val rfl rfl (R.mv rfl) ?_
  refine L.val rfl rfl (R.max rfl rfl (max n (-1)) (by split <;> omega)) ?_
  refine L.val rfl rfl (R.nilChk rfl) ?_
  refine L.val rfl rfl (R.fld rfl) ?_
  refine L.set rfl (R.st rfl rfl D.hd (by show 3 < 5; decide) rfl) ?_
  rintro w1 ⟨e1, hs1, B1⟩
  refine L.nil ?_
  refine N.end0 rfl ?_
  exact ⟨e1.mono (by simp), sa, sc, wa, wc, Ms, Mw, D.fld e1 B1 rfl rfl (limitV_wf hd0.wf.1 hn), rfl⟩

theorem dlimit_nil (x : Value) (w : World) : Meets Try.prog 40 [.pointer none, x] w (fun _ w' => w' = w) := by
  refine Meets.enter Try.func40 rfl 11 rfl (Nat.le_of_ble_eq_true rfl) ?_
  refine G.seq ?_
  refine G.region ?_
  refine L.val rfl rfl (R.mv rfl) ?_
  refine L.val rfl rfl (R.neNilP rfl rfl) ?_
  refine L.nil ?_
  refine N.seq ?_
  refine G.condF rfl ?_
  refine G.skip ?_
  refine N.end0 rfl ?_
  exact rfl

theorem dturn_ok (d : Nat) (v : DevV) (sz : Nat) (S : List Nat) (p n : Int) (w : World) (hd : DevAt w d v sz S) : Meets Try.prog 43 [.pointer (some ⟨d, 0, none⟩), .int .i64 p, .int .i64 n] w (fun r w' => r = .int .i64 (turnV v sz p n).2 ∧ Ext S w w' ∧ DevAt w' d (turnV v sz p n).1 sz S) := by
  refine Meets.enter Try.func43 rfl 43 rfl (Nat.le_of_ble_eq_true rfl) ?_
  have hd0 := hd
  obtain ⟨sa, sc, wa, wc, Ms, Mw, D, rfl⟩ := hd
  have hl := D.wf.len
  have hsN := D.hN
  refine G.seq ?_
  refine G.region ?_
  refine L.val rfl rfl (R.as rfl) ?_
  refine L.nil ?_
  refine N.seq ?_
  refine G.seq ?_
  refine G.block ?_
  refine G.seq ?_
  refine G.region ?_
  refine L.val rfl rfl (R.mv rfl) ?_
  refine L.val rfl rfl (R.eqNilP rfl rfl) ?_
  refine L.val rfl rfl (R.as rfl) ?_
  refine L.nil ?_
  refine N.seq ?_
  refine G.condF rfl ?_
  refine G.seq ?_
  refine G.region ?_
  refine L.val rfl rfl (R.mv rfl) ?_
  refine L.val rfl rfl (R.lss rfl rfl) ?_
  refine L.val rfl rfl (R.mv rfl) ?_
  refine L.caseP 13 rfl (fun hg3_2 => ?_) (fun hg3_2 => ?_)
  · refine L.pass rfl rfl ?_
    refine L.pass rfl rfl ?_
    refine L.pass rfl rfl ?_
    refine L.pass rfl rfl ?_
    first | refine L.val rfl rfl (R.pickT rfl rfl) ?_ | refine L.val rfl rfl (R.pickF rfl rfl) ?_
    refine L.val rfl rfl (R.mv rfl) ?_
    refine L.pass rfl rfl ?_
    refine L.pass rfl rfl ?_
    first | refine L.val rfl rfl (R.pickT rfl rfl) ?_ | refine L.val rfl rfl (R.pickF rfl rfl) ?_
    refine L.val rfl rfl (R.mv rfl) ?_
    refine L.pass rfl rfl ?_
    refine L.pass rfl rfl ?_
    first | refine L.val rfl rfl (R.pickT rfl rfl) ?_ | refine L.val rfl rfl (R.pickF rfl rfl) ?_
    refine L.val rfl rfl (R.as rfl) ?_
    refine L.nil ?_
    refine N.seq ?_
    refine G.condT rfl ?_
    refine G.seq ?_
    refine G.region ?_
    refine L.val rfl rfl (R.as rfl) ?_
    refine L.nil ?_
    refine N.seq ?_
    refine G.ret1 rfl rfl ?_
    first
      | (rw [hf]; exact ⟨rfl, by subst hMs; exact e2.mono (by simp), sa, sc, wa, wc, Ms, Mw, D2, rfl⟩)
      | (rw [show turnV v sz p n = (v, 11) from if_pos (by omega)]; exact ⟨rfl, Ext.refl _ _, hd0⟩)
  · refine L.val rfl rfl (R.mv rfl) ?_
    refine L.val rfl rfl (R.mv rfl) ?_
    refine L.callF rfl rfl rfl go44 (dsize_ok d v sz _ _ hd0) ?_
    rintro _ _ ⟨rfl, hw⟩
    obtain rfl := hw.symm
    refine L.val rfl rfl (R.geq rfl rfl) ?_
    first | refine L.val rfl rfl (R.pickT rfl rfl) ?_ | refine L.val rfl rfl (R.pickF rfl rfl) ?_
    refine L.val rfl rfl (R.mv rfl) ?_
    refine L.caseP 19 rfl (fun hg3_8 => ?_) (fun hg3_8 => ?_)
    · refine L.pass rfl rfl ?_
      refine L.pass rfl rfl ?_
      first | refine L.val rfl rfl (R.pickT rfl rfl) ?_ | refine L.val rfl rfl (R.pickF rfl rfl) ?_
      refine L.val rfl rfl (R.mv rfl) ?_
      refine L.pass rfl rfl ?_
      refine L.pass rfl rfl ?_
      first | refine L.val rfl rfl (R.pickT rfl rfl) ?_ | refine L.val rfl rfl (R.pickF rfl rfl) ?_
      refine L.val rfl rfl (R.as rfl) ?_
      refine L.nil ?_
      refine N.seq ?_
      refine G.condT rfl ?_
      refine G.seq ?_
      refine G.region ?_
      refine L.val rfl rfl (R.as rfl) ?_
      refine L.nil ?_
      refine N.seq ?_
      refine G.ret1 rfl rfl ?_
      first
        | (rw [hf]; exact ⟨rfl, by subst hMs; exact e2.mono (by simp), sa, sc, wa, wc, Ms, Mw, D2, rfl⟩)
        | (rw [show turnV v sz p n = (v, 11) from if_pos (by omega)]; exact ⟨rfl, Ext.refl _ _, hd0⟩)
    · refine L.val rfl rfl (R.mv rfl) ?_
      refine L.val rfl rfl (R.lss rfl rfl) ?_
      first | refine L.val rfl rfl (R.pickT rfl rfl) ?_ | refine L.val rfl rfl (R.pickF rfl rfl) ?_
      refine L.val rfl rfl (R.mv rfl) ?_
      refine L.caseP 23 rfl (fun hg3_12 => ?_) (fun hg3_12 => ?_)
      · refine L.pass rfl rfl ?_
        refine L.pass rfl rfl ?_
        first | refine L.val rfl rfl (R.pickT rfl rfl) ?_ | refine L.val rfl rfl (R.pickF rfl rfl) ?_
        refine L.val rfl rfl (R.as rfl) ?_
        refine L.nil ?_
        refine N.seq ?_
        refine G.condT rfl ?_
        refine G.seq ?_
        refine G.region ?_
        refine L.val rfl rfl (R.as rfl) ?_
        refine L.nil ?_
        refine N.seq ?_
        refine G.ret1 rfl rfl ?_
        first
          | (rw [hf]; exact ⟨rfl, by subst hMs; exact e2.mono (by simp), sa, sc, wa, wc, Ms, Mw, D2, rfl⟩)
          | (rw [show turnV v sz p n = (v, 11) from if_pos (by omega)]; exact ⟨rfl, Ext.refl _ _, hd0⟩)
      · refine L.val rfl rfl (R.mv rfl) ?_
        refine L.val rfl rfl (R.geq rfl rfl) ?_
        first | refine L.val rfl rfl (R.pickT rfl rfl) ?_ | refine L.val rfl rfl (R.pickF rfl rfl) ?_
        refine L.val rfl rfl (R.as rfl) ?_
        refine L.nil ?_
        refine N.seq ?_
        refine G.condP rfl (fun h1 => ?_) (fun h1 => ?_)
        · refine G.seq ?_
          refine G.region ?_
          refine L.val rfl rfl (R.as rfl) ?_
          refine L.nil ?_
          refine N.seq ?_
          refine G.ret1 rfl rfl ?_
          first
            | (rw [hf]; exact ⟨rfl, by subst hMs; exact e2.mono (by simp), sa, sc, wa, wc, Ms, Mw, D2, rfl⟩)
            | (rw [show turnV v sz p n = (v, 11) from if_pos (by omega)]; exact ⟨rfl, Ext.refl _ _, hd0⟩)
        · obtain ⟨i, rfl⟩ := Int.eq_ofNat_of_zero_le (show 0 ≤ p by omega)
          obtain ⟨j, rfl⟩ := Int.eq_ofNat_of_zero_le (show 0 ≤ n by omega)
          have hf : turnV v sz (i : Int) (j : Int) = ({ v with stay := turnB v.stay (64 * i + j / 8) (Crc.oneBit (j % 8)) }, 0) := by unfold turnV; rw [if_neg (by omega)]; rfl
          have hil : (64 * i + j / 8) < v.stay.length := by omega
          obtain ⟨g, cur, ha, hMs, Bg, hlt, hset⟩ := D.st.set (64 * i + j / 8) hil
          obtain ⟨pp, hpp, hcl⟩ := (Bs.of_own D.st).at (64 * i + j / 8) hil
          rw [ha] at hpp
          cases hpp
          rw [Go.Addr.add_lit] at hcl
          obtain ⟨u, hu⟩ : ∃ u, v.stay[(64 * i + j / 8)]? = some u := ⟨_, List.getElem?_eq_getElem hil⟩
          have hcu : cur[(64 * i + j / 8)]? = some (vb u) := by rw [show v.stay[(64 * i + j / 8)]'hil = u from Option.some.inj ((List.getElem?_eq_getElem hil).symm.trans hu)] at hcl; rw [← Bg.cell]; simpa using hcl
          have hgd : v.stay.getD (64 * i + j / 8) 0 = u := by rw [List.getD_eq_getElem?_getD, hu]; rfl
          have ap := D.apart
          refine G.skip ?_
          refine N.block ?_
          refine N.seq ?_
          refine G.seq ?_
          refine G.staged [16] [.blocks ([g])] [fun w' => Ext [] w w', fun w' => Ext [g] w w' ∧ Blk w' g (cur.setIfInBounds (64 * i + j / 8) (vb (u ^^^ Crc.oneBit (j % 8)))) 5 (0, 0)] [] (by decide +kernel) (by decide +kernel) rfl rfl rfl (fun _ h => h) ?_
          refine Z.val rfl rfl rfl rfl rfl (fun w1 => R.mv rfl) ?_
          refine Z.val rfl rfl rfl rfl rfl (fun w1 => R.nilChk rfl) ?_
          refine Z.val rfl rfl rfl rfl rfl (fun w1 => R.fld rfl) ?_
          refine Z.read 0 (by decide +kernel) rfl rfl rfl rfl rfl rfl (fun w1 hJ => R.ldB rfl (D.hd.ext0 hJ) rfl) ?_
          refine Z.val rfl rfl rfl rfl rfl (fun w1 => R.mv rfl) ?_
          refine Z.val rfl rfl rfl rfl rfl (fun w1 => R.mul rfl rfl (by omega)) ?_
          refine Z.val rfl rfl rfl rfl rfl (fun w1 => R.mv rfl) ?_
          refine Z.val rfl rfl rfl rfl rfl (fun w1 => R.quo rfl rfl (by omega) (by omega)) ?_
          refine Z.val rfl rfl rfl rfl rfl (fun w1 => R.add rfl rfl (by omega)) ?_
          refine Z.be 35 rfl (show _ = Value.int .i64 (((64 * i + j / 8 : Nat)) : Int) by congr 1; omega) ?_
          refine Z.val rfl rfl rfl rfl rfl (fun w1 => R.idxO rfl rfl (by omega) (by omega) ha (64 * i + j / 8) (by omega)) ?_
          refine Z.read 0 (by decide +kernel) rfl rfl rfl rfl rfl rfl (fun w1 hJ => R.ldB rfl (Bg.ext0 hJ) hcu) ?_
          refine Z.val rfl rfl rfl rfl rfl (fun w1 => R.mv rfl) ?_
          refine Z.val rfl rfl rfl rfl rfl (fun w1 => R.rem rfl rfl (by omega) (by omega)) ?_
          refine Z.be 39 rfl (congrArg (Value.int .i64) (show (j : Int) % 8 = ((j % 8 : Nat) : Int) by omega)) ?_
          refine Z.val rfl rfl rfl rfl rfl (fun w1 => R.shlW rfl rfl (by omega) _ (Crc.shl_u8 (Nat.mod_lt j (by decide)))) ?_
          refine Z.val rfl rfl rfl rfl rfl (fun w1 => R.xorW rfl rfl _ (Crc.xorI_u8 u (Crc.oneBit (j % 8)))) ?_
          refine Z.val rfl rfl rfl rfl rfl (fun w1 => R.idxO rfl rfl (by omega) (by omega) ha (64 * i + j / 8) (by omega)) ?_
          refine Z.set 0 (by decide +kernel) rfl rfl rfl rfl rfl rfl (fun w1 hJ => (R.st rfl rfl (Bg.ext0 hJ) hlt rfl).mono (fun _ h => ⟨h.1, h.1.after hJ, h.2.2⟩)) ?_
          refine Z.nil rfl rfl (fun w1 hJ => ?_)
          obtain ⟨e2, B2⟩ := hJ
          have o2 := hset _ _ e2 B2
          rw [vbs_set] at o2
          have D2 : DevL w1 d { v with stay := turnB v.stay (64 * i + j / 8) (Crc.oneBit (j % 8)) } sz sa sc wa wc Ms Mw := D.lay (by rw [hMs]; exact e2) (by unfold turnB; rw [hgd]; exact o2) (by simp [turnB])
          refine N.seq ?_
          refine G.seq ?_
          refine G.region ?_
          refine L.val rfl rfl (R.as rfl) ?_
          refine L.nil ?_
          refine N.seq ?_
          refine G.ret1 rfl rfl ?_
          first
            | (rw [hf]; exact ⟨rfl, by subst hMs; exact e2.mono (by simp), sa, sc, wa, wc, Ms, Mw, D2, rfl⟩)
            | (rw [show turnV v sz p n = (v, 11) from if_pos (by omega)]; exact ⟨rfl, Ext.refl _ _, hd0⟩)

theorem dturn_nil (x y : Value) (w : World) : Meets Try.prog 43 [.pointer none, x, y] w (fun r w' => r = .int .i64 1 ∧ w' = w) := by
  refine Meets.enter Try.func43 rfl 43 rfl (Nat.le_of_ble_eq_true rfl) ?_
  refine G.seq ?_
  refine G.region ?_
  refine L.val rfl rfl (R.as rfl) ?_
  refine L.nil ?_
  refine N.seq ?_
  refine G.seq ?_
  refine G.block ?_
  refine G.seq ?_
  refine G.region ?_
  refine L.val rfl rfl (R.mv rfl) ?_
  refine L.val rfl rfl (R.eqNilP rfl rfl) ?_
  refine L.val rfl rfl (R.as rfl) ?_
  refine L.nil ?_
  refine N.seq ?_
  refine G.condT rfl ?_
  refine G.seq ?_
  refine G.region ?_
  refine L.val rfl rfl (R.as rfl) ?_
  refine L.nil ?_
  refine N.seq ?_
  refine G.ret1 rfl rfl ?_
  exact ⟨rfl, rfl⟩

end Go.Proofs.Ytjmlcodlnohgdaa
