/-
  Texts of this claim, put together.
-/
import Derived.Test.YthdaelmjiaegfaaModPLz2
/-
  The walks of package image.
-/
set_option linter.unusedVariables false
set_option linter.unusedSimpArgs false
namespace Go.Proofs.Ythdaelmjiaegfaa
open Go Brv Brv.Image
def wv (o : WriteV) : Int × List UInt8 := (o.Block', o.B')
theorem rwith_ok (x : List UInt8) (la : Option Addr) (ln lc : Nat) (ws : List WriteV) (w : World) (hx : x.length ≤ 4096) (hT : Tab w la ln 2 (ws.map WriteV.cells)) (hO : ∀ o ∈ ws, Bs w o.B'a o.B'n o.B') (hln : ln ≤ 1000000) : Meets Try.prog 42 [.string (str x), .slice la ln lc] w (fun v w' => v = .tuple #[.string (str (withF x (ws.map wv)).1), .int .i64 (withF x (ws.map wv)).2] ∧ Ext [] w w') := by
  refine Meets.enter Try.func42 rfl 47 rfl (Nat.le_of_ble_eq_true rfl) ?_
  have E := Ext.refl [] w
  have hn := hT.len
  rw [List.length_map] at hn
  have hdx : dn x = x.length / 64 := rfl
  refine G.seq ?_
  refine G.region ?_
  refine L.val rfl rfl (R.as rfl) ?_
  refine L.val rfl rfl (R.as rfl) ?_
  refine L.nil ?_
  refine N.seq ?_
  refine G.seq ?_
  refine G.seq ?_
  refine G.region ?_
  refine L.val rfl rfl (R.mv rfl) ?_
  refine L.val rfl rfl (R.lenS rfl) ?_
  refine L.val rfl rfl (R.mv rfl) ?_
  refine L.nil ?_
  refine N.seq ?_
  refine G.block ?_
  refine G.loop (X := Nat × List UInt8) (fun s => [(0, .string (str s.2)), (1, .slice la ln lc), (10, .slice la ln lc), (11, .int .i64 (ln : Int)), (12, .int .i64 (s.1 : Int))]) (fun s w' => s.1 ≤ ln ∧ s.2.length = x.length ∧ withF x (ws.map wv) = withF s.2 ((ws.map wv).drop s.1) ∧ Ext [] w w') (fun s => ln - s.1) ((0, x)) (Sub.cons rfl (Sub.cons rfl (Sub.cons rfl (Sub.cons rfl (Sub.cons rfl (Sub.nil _)))))) ⟨Nat.zero_le _, rfl, rfl, E⟩ ?_
  rintro ⟨i, y⟩ w1 ⟨hi, hyl, hiw, E⟩
  dsimp only at hi hyl hiw
  refine G.sub [(0, .string (str y)), (1, .slice la ln lc), (10, .slice la ln lc), (11, .int .i64 (ln : Int)), (12, .int .i64 (i : Int))] (Sub.cons rfl (Sub.cons rfl (Sub.cons rfl (Sub.cons rfl (Sub.cons rfl (Sub.nil _)))))) ?_
  have hdy : dn y = x.length / 64 := by unfold dn; rw [hyl]
  refine G.seq ?_
  refine G.region ?_
  refine L.val rfl rfl (R.lss rfl rfl) ?_
  refine L.nil ?_
  refine N.seq ?_
  refine G.seq ?_
  refine G.condP rfl (fun h0 => ?_) (fun h0 => ?_)
  · refine G.skip ?_
    refine N.seq ?_
    refine G.seq ?_
    refine G.block ?_
    refine G.seq ?_
    refine G.region ?_
    have hdr : (ws.map wv).drop i = wv (ws[i]'(by omega)) :: (ws.map wv).drop (i + 1) := by rw [List.drop_eq_getElem_cons (by rw [List.length_map]; omega), List.getElem_map]
    obtain ⟨q9, hq9, hcl⟩ := hT.at (by decide) i (by rw [List.length_map]; omega)
    rw [List.getElem_map] at hcl
    have hok' := hO _ (List.getElem_mem (show i < ws.length by omega))
    generalize hoe : ws[i]'(by omega) = o at *
    refine L.val rfl rfl (R.idx rfl rfl (by omega) (by omega) q9 hq9) ?_
    refine L.val rfl rfl (R.ldN rfl (hcl.ext0 E) rfl) ?_
    refine L.do rfl rfl (R.alloc) ?_
    rintro _ w2 ⟨b9, rfl, hb9, hs9, e2, B9⟩
    have hEb := E.size
    replace E := E.trans0 e2
    refine L.set rfl (R.stN rfl rfl B9 rfl (Nat.le_refl 2) (WriteV.cells.one _)) ?_
    rintro w3 ⟨e3, hs3, B9⟩
    replace B9 : Blk w3 b9 o.cells.toArray 100 (0, 0) := B9
    replace E := E.trans e3 (M := []) (by simp) (by intro x hx; rw [List.mem_singleton.1 hx]; exact .inr (by omega))
    refine L.nil ?_
    refine N.seq ?_
    refine G.seq ?_
    refine G.region ?_
    refine L.val rfl rfl (R.mv rfl) ?_
    refine L.val rfl rfl (R.fld rfl) ?_
    refine L.val rfl rfl (R.ldB rfl B9 rfl) ?_
    refine L.callF rfl rfl rfl go59 (rget_ok y o.Block' _ (by omega)) ?_
    rintro _ _ ⟨rfl, hw⟩
    obtain rfl := hw.symm
    refine L.val rfl rfl (R.mv rfl) ?_
    refine L.val rfl rfl (R.ext rfl rfl) ?_
    refine L.val rfl rfl (R.ext rfl rfl) ?_
    refine L.val rfl rfl (R.as rfl) ?_
    refine L.val rfl rfl (R.as rfl) ?_
    refine L.nil ?_
    refine N.seq ?_
    refine G.seq ?_
    refine G.seq ?_
    refine G.region ?_
    refine L.val rfl rfl (R.mv rfl) ?_
    refine L.val rfl rfl (R.not rfl) ?_
    refine L.be 24 rfl (show _ = Value.bool (decide (¬ okK y o.Block')) by simp) ?_
    refine L.nil ?_
    refine N.seq ?_
    refine G.condP rfl (fun h1 => ?_) (fun h1 => ?_)
    · have hw2 : withF x (ws.map wv) = ([], 41) := by rw [hiw, hdr]; exact withF_blk (by show o.Block' < 0 ∨ (dn y : Int) ≤ o.Block'; unfold okK at h1; omega)
      refine G.seq ?_
      refine G.region ?_
      refine L.val rfl rfl (R.as rfl) ?_
      refine L.val rfl rfl (R.as rfl) ?_
      refine L.nil ?_
      refine N.seq ?_
      refine G.ret2 rfl rfl rfl ?_
      rw [hw2]; exact ⟨rfl, E⟩
    · have hok : okK y o.Block' := Classical.not_not.1 h1
      obtain ⟨j, hj0⟩ := Int.eq_ofNat_of_zero_le hok.1
      have hj : j < dn y := by have := hok.2; omega
      have hBs := hok'
      have hBl := hBs.len
      refine G.skip ?_
      refine N.seq ?_
      refine G.seq ?_
      refine G.seq ?_
      refine G.region ?_
      refine L.val rfl rfl (R.fld rfl) ?_
      refine L.val rfl rfl (R.ldB rfl B9 rfl) ?_
      refine L.val rfl rfl (R.lenS rfl) ?_
      refine L.val rfl rfl (R.neI rfl rfl) ?_
      refine L.nil ?_
      refine N.seq ?_
      refine G.condP rfl (fun h2 => ?_) (fun h2 => ?_)
      · have hw2 : withF x (ws.map wv) = ([], 42) := by rw [hiw, hdr]; exact withF_size (by show ¬ (o.Block' < 0 ∨ (dn y : Int) ≤ o.Block'); omega) (by show o.B'.length ≠ 64; omega)
        refine G.seq ?_
        refine G.region ?_
        refine L.val rfl rfl (R.as rfl) ?_
        refine L.val rfl rfl (R.as rfl) ?_
        refine L.nil ?_
        refine N.seq ?_
        refine G.ret2 rfl rfl rfl ?_
        rw [hw2]; exact ⟨rfl, E⟩
      · have h64 : o.B'.length = 64 := by omega
        have hw2 : withF x (ws.map wv) = withF (laid y j o.B') ((ws.map wv).drop (i + 1)) := by rw [hiw, hdr, withF_next (by show ¬ (o.Block' < 0 ∨ (dn y : Int) ≤ o.Block'); omega) h64]; rw [show (wv o).1.toNat = j by show o.Block'.toNat = j; omega]; rfl
        refine G.skip ?_
        refine N.seq ?_
        refine G.quiet (by decide +kernel) rfl ?_
        refine Q.val rfl rfl rfl rfl (fun w4 hE => R.mv rfl) ?_
        refine Q.val rfl rfl rfl rfl (fun w4 hE => R.fld rfl) ?_
        refine Q.val rfl rfl rfl rfl (fun w4 hE => R.ldB rfl (B9.ext0 hE) rfl) ?_
        refine Q.val rfl rfl rfl rfl (fun w4 hE => R.mul rfl rfl (by omega)) ?_
        refine Q.val rfl rfl rfl rfl (fun w4 hE => R.slStrH rfl rfl (by omega) (by omega)) ?_
        refine Q.val rfl rfl rfl rfl (fun w4 hE => R.fld rfl) ?_
        refine Q.val rfl rfl rfl rfl (fun w4 hE => R.ldB rfl (B9.ext0 hE) rfl) ?_
        refine Q.val rfl rfl rfl rfl (fun w4 hE => R.bytesStr rfl (hBs.ext0 (E.trans0 hE)).cells hBl) ?_
        refine Q.val rfl rfl rfl rfl (fun w4 hE => R.addStr rfl rfl (by rw [List.length_take]; omega)) ?_
        refine Q.val rfl rfl rfl rfl (fun w4 hE => R.mv rfl) ?_
        refine Q.val rfl rfl rfl rfl (fun w4 hE => R.fld rfl) ?_
        refine Q.val rfl rfl rfl rfl (fun w4 hE => R.ldB rfl (B9.ext0 hE) rfl) ?_
        refine Q.val rfl rfl rfl rfl (fun w4 hE => R.mul rfl rfl (by omega)) ?_
        refine Q.val rfl rfl rfl rfl (fun w4 hE => R.add rfl rfl (by omega)) ?_
        refine Q.val rfl rfl rfl rfl (fun w4 hE => R.slStrL rfl rfl (by omega) (by omega)) ?_
        refine Q.val rfl rfl rfl rfl (fun w4 hE => R.addStr rfl rfl (by simp only [List.length_append, List.length_take, List.length_drop]; omega)) ?_
        refine Q.be 44 rfl (show _ = Value.string (str (laid y j o.B')) by rw [show (64 * o.Block').toNat = 64 * j by omega, show (64 * o.Block' + 64).toNat = 64 * j + 64 by omega]; rfl) ?_
        refine Q.val rfl rfl rfl rfl (fun w4 hE => R.as rfl) ?_
        refine Q.nil (fun w4 e4 => ?_)
        replace E := E.trans0 e4
        refine N.block ?_
        refine N.seq ?_
        refine G.region ?_
        refine L.val rfl rfl (R.add rfl rfl (by omega)) ?_
        refine L.val rfl rfl (R.mv rfl) ?_
        refine L.nil ?_
        exact N.again (i + 1, laid y j o.B') (by show ln - (i + 1) < ln - i; omega) (Sub.cons rfl (Sub.cons rfl (Sub.cons rfl (Sub.cons rfl (Sub.cons rfl (Sub.nil _)))))) ⟨by show i + 1 ≤ ln; omega, (laid_length h64 hj).trans hyl, hw2, E⟩
  · have hw2 : withF x (ws.map wv) = (y, 0) := by rw [hiw, List.drop_of_length_le (by rw [List.length_map]; omega)]; rfl
    refine G.exit _ rfl ?_
    refine N.seq ?_
    refine G.seq ?_
    refine G.region ?_
    refine L.val rfl rfl (R.mv rfl) ?_
    refine L.val rfl rfl (R.as rfl) ?_
    refine L.val rfl rfl (R.as rfl) ?_
    refine L.nil ?_
    refine N.seq ?_
    refine G.ret2 rfl rfl rfl ?_
    rw [hw2]; exact ⟨rfl, E⟩

end Go.Proofs.Ythdaelmjiaegfaa
/-
  The walks of package image.
-/
set_option linter.unusedVariables false
set_option linter.unusedSimpArgs false
namespace Go.Proofs.Ythdaelmjiaegfaa
open Go Brv Brv.Image
theorem Blks.put {w w' : World} {qs : List Nat} {y s : List UInt8} {gl j z : Nat} {cur : Array Value} (h : Blks w qs y) (he : Ext [gl] w w') (hl : Blk w gl cur 96 (0, 0)) (hz : Blk w z (vbs s).toArray 102 (0, 0)) (hs : s.length = 64) (hj : j < dn y) : Blks w' (qs.set j z) (laid y j s) := by
  refine ⟨by rw [List.length_set, laid_dn hs hj]; exact h.len, fun k hk => ?_⟩
  rw [List.length_set] at hk
  rw [laid_blk hs hj, List.getElem_set]
  by_cases e : j = k
  · subst e
    rw [if_pos rfl, if_pos rfl]
    exact hz.ext he (fun hm => hz.ne hl (by decide) (List.mem_singleton.1 hm))
  · rw [if_neg e, if_neg (fun e' => e e'.symm)]
    exact (h.each k hk).ext he (fun hm => (h.each k hk).ne hl (by decide) (List.mem_singleton.1 hm))

/-- A disk, whose blocks are old ones of ps or new. -/
def DiskQ (w : World) (s : Nat) (ps : List Nat) (d : Nat) (x : List UInt8) : Prop := ∃ g c cur qs, DiskL w d g c cur qs x ∧ ∀ y ∈ d :: g :: qs, y ∈ ps ∨ s ≤ y
theorem DiskQ.at {w : World} {s : Nat} {ps : List Nat} {d : Nat} {x : List UInt8} (h : DiskQ w s ps d x) : DiskAt w d x := let ⟨g, c, cur, qs, h, _⟩ := h; ⟨g, c, cur, qs, h⟩
theorem DiskQ.mk2 {w : World} {s d c : Nat} {ps qs : List Nat} {x : List UInt8} {a : Option Addr} {M : List Nat} (h1 : Blk w d #[.slice a (dn x) c] 98 (0, 0)) (hd : s ≤ d) (h2 : x.length = 64 * dn x) (h3 : 1 ≤ dn x) (h4 : dn x ≤ 64) (ho : Own w 96 1 a (dn x) c (qs.map ptr) M) (hM : ∀ g ∈ M, s ≤ g) (h5 : Blks w qs x) (hq : ∀ q ∈ qs, q ∈ ps ∨ s ≤ q) : DiskQ w s ps d x := by
  rcases ho.2 with ⟨_, h0, _, _⟩ | ⟨g, cur, rfl, hg, hb, _, _, _, ht⟩
  · omega
  · rw [Nat.mul_one] at ht
    refine ⟨g, c, cur, qs, ⟨h1, h2, h3, h4, hb, ht, h5⟩, fun y hy => ?_⟩
    rcases List.mem_cons.1 hy with rfl | hy
    · exact .inr hd
    rcases List.mem_cons.1 hy with rfl | hy
    · exact .inr (hM _ (by rw [hg]; simp))
    · exact hq y hy

theorem iwith_okF (d g c : Nat) (cur : Array Value) (ps : List Nat) (x : List UInt8) (la : Option Addr) (ln lc : Nat) (ws : List WriteV) (w : World) (hD0 : DiskL w d g c cur ps x) (hT : Tab w la ln 2 (ws.map WriteV.cells)) (hO : ∀ o ∈ ws, Bs w o.B'a o.B'n o.B') (hln : ln ≤ 1000000) : Meets Try.prog 15 [.pointer (some ⟨d, 0, none⟩), .slice la ln lc] w (fun v w' => Ext [] w w' ∧ ((withF x (ws.map wv)).2 = 0 → ∃ d', v = .tuple #[ptr d', .int .i64 0] ∧ DiskQ w' w.heap.size ps d' (withF x (ws.map wv)).1) ∧ ((withF x (ws.map wv)).2 ≠ 0 → v = .tuple #[.pointer none, .int .i64 (withF x (ws.map wv)).2])) := by
  refine Meets.enter Try.func15 rfl 57 rfl (Nat.le_of_ble_eq_true rfl) ?_
  have E := Ext.refl [] w
  have hn := hT.len
  rw [List.length_map] at hn
  have D := hD0
  have hx64 := D.le
  have hpl := D.hb.len
  refine G.seq ?_
  refine G.region ?_
  refine L.val rfl rfl (R.as rfl) ?_
  refine L.val rfl rfl (R.as rfl) ?_
  refine L.nil ?_
  refine N.seq ?_
  refine G.seq ?_
  refine G.seq ?_
  refine G.region ?_
  refine L.val rfl rfl (R.mv rfl) ?_
  refine L.val rfl rfl (R.eqNilP rfl rfl) ?_
  refine L.nil ?_
  refine N.seq ?_
  refine G.condF rfl ?_
  refine G.skip ?_
  refine N.seq ?_
  refine G.seq ?_
  refine G.region ?_
  refine L.val rfl rfl (R.mv rfl) ?_
  refine L.val rfl rfl (R.nilChk rfl) ?_
  refine L.val rfl rfl (R.fld rfl) ?_
  refine L.val rfl rfl (R.ldB rfl D.hd rfl) ?_
  refine L.callF rfl rfl rfl go38 (pclone_ok (some ⟨g, 0, none⟩) (dn x) c (ps.map ptr) _ D.cells (by simp [hpl]) (ptrs_one ps) (by omega)) ?_
  rintro _ w1 ⟨a6, c6, M6, rfl, e1, o6, hM6⟩
  replace E := E.trans0 e1
  replace D := D.ext0 e1
  refine L.val rfl rfl (R.build (cs := #[.slice a6 (dn x) c6]) rfl rfl) ?_
  refine L.do rfl rfl (R.box rfl) ?_
  rintro _ w2 ⟨b18, rfl, hb18, hs18, e2, B6⟩
  have hb18w : w.heap.size ≤ b18 := by have := E.size; omega
  replace E := E.trans0 e2
  replace D := D.ext0 e2
  replace o6 := o6.ext0 e2
  refine L.val rfl rfl (R.as rfl) ?_
  refine L.nil ?_
  refine N.seq ?_
  refine G.seq ?_
  refine G.seq ?_
  refine G.region ?_
  refine L.val rfl rfl (R.mv rfl) ?_
  refine L.val rfl rfl (R.lenS rfl) ?_
  refine L.val rfl rfl (R.mv rfl) ?_
  refine L.nil ?_
  refine N.seq ?_
  refine G.block ?_
  refine G.loop (X := Nat × List UInt8 × List Nat) (fun s => [(0, .pointer (some ⟨d, 0, none⟩)), (6, .pointer (some ⟨b18, 0, none⟩)), (19, .slice la ln lc), (20, .int .i64 (ln : Int)), (21, .int .i64 (s.1 : Int))]) (fun s w' => s.1 ≤ ln ∧ s.2.1.length = x.length ∧ withF x (ws.map wv) = withF s.2.1 ((ws.map wv).drop s.1) ∧ Ext [] w w' ∧ Blk w' b18 #[.slice a6 (dn x) c6] 98 (0, 0) ∧ Own w' 96 1 a6 (dn x) c6 (s.2.2.map ptr) M6 ∧ Blks w' s.2.2 s.2.1 ∧ ∀ q ∈ s.2.2, q ∈ ps ∨ w.heap.size ≤ q) (fun s => ln - s.1) ((0, x, ps)) (Sub.cons rfl (Sub.cons rfl (Sub.cons rfl (Sub.cons rfl (Sub.cons rfl (Sub.nil _)))))) ⟨Nat.zero_le _, rfl, rfl, E, B6, o6, D.hb, fun q h => .inl h⟩ ?_
  rintro ⟨i, y, qs⟩ w1 ⟨hi, hyl, hiw, E, B6, o6, hB, hqs⟩
  dsimp only at hi hyl hiw o6 hB hqs
  refine G.sub [(0, .pointer (some ⟨d, 0, none⟩)), (6, .pointer (some ⟨b18, 0, none⟩)), (19, .slice la ln lc), (20, .int .i64 (ln : Int)), (21, .int .i64 (i : Int))] (Sub.cons rfl (Sub.cons rfl (Sub.cons rfl (Sub.cons rfl (Sub.cons rfl (Sub.nil _)))))) ?_
  have hdy : dn y = dn x := by unfold dn; rw [hyl]
  have D := hD0.ext0 E
  refine G.seq ?_
  refine G.region ?_
  refine L.val rfl rfl (R.lss rfl rfl) ?_
  refine L.nil ?_
  refine N.seq ?_
  refine G.seq ?_
  refine G.condP rfl (fun h1 => ?_) (fun h1 => ?_)
  · refine G.skip ?_
    refine N.seq ?_
    refine G.seq ?_
    refine G.block ?_
    refine G.seq ?_
    refine G.region ?_
    have hdr : (ws.map wv).drop i = wv (ws[i]'(by omega)) :: (ws.map wv).drop (i + 1) := by rw [List.drop_eq_getElem_cons (by rw [List.length_map]; omega), List.getElem_map]
    obtain ⟨q9, hq9, hcl⟩ := hT.at (by decide) i (by rw [List.length_map]; omega)
    rw [List.getElem_map] at hcl
    have hok' := hO _ (List.getElem_mem (show i < ws.length by omega))
    generalize hoe : ws[i]'(by omega) = o at *
    refine L.val rfl rfl (R.idx rfl rfl (by omega) (by omega) q9 hq9) ?_
    refine L.val rfl rfl (R.ldN rfl (hcl.ext0 E) rfl) ?_
    refine L.do rfl rfl (R.alloc) ?_
    rintro _ w2 ⟨b9, rfl, hb9, hs9, e2, B9⟩
    have hEb := E.size
    replace E := E.trans0 e2
    refine L.set rfl (R.stN rfl rfl B9 rfl (Nat.le_refl 2) (WriteV.cells.one _)) ?_
    rintro w3 ⟨e3, hs3, B9⟩
    replace B9 : Blk w3 b9 o.cells.toArray 100 (0, 0) := B9
    replace E := E.trans e3 (M := []) (by simp) (by intro x hx; rw [List.mem_singleton.1 hx]; exact .inr (by omega))
    have n3 := e2.news2 e3 (by omega)
    replace B6 := B6.ext0 n3
    replace o6 := o6.ext0 n3
    replace hB := hB.ext0 n3
    replace D := D.ext0 n3
    refine L.nil ?_
    refine N.seq ?_
    refine G.seq ?_
    refine G.block ?_
    refine G.seq ?_
    refine G.quiet (by decide +kernel) rfl ?_
    refine Q.val rfl rfl rfl rfl (fun w4 hE => R.fld rfl) ?_
    refine Q.val rfl rfl rfl rfl (fun w4 hE => R.ldB rfl (B9.ext0 hE) rfl) ?_
    refine Q.val rfl rfl rfl rfl (fun w4 hE => R.lss rfl rfl) ?_
    refine Q.val rfl rfl rfl rfl (fun w4 hE => R.mv rfl) ?_
    refine Q.caseP 29 rfl (fun hg7_3 => ?_) (fun hg7_3 => ?_)
    · refine Q.pass rfl rfl rfl ?_
      refine Q.pass rfl rfl rfl ?_
      refine Q.pass rfl rfl rfl ?_
      refine Q.pass rfl rfl rfl ?_
      refine Q.pass rfl rfl rfl ?_
      refine Q.pass rfl rfl rfl ?_
      refine Q.pass rfl rfl rfl ?_
      refine Q.pass rfl rfl rfl ?_
      first | refine Q.val rfl rfl rfl rfl (fun w4 hE => R.pickT rfl rfl) ?_ | refine Q.val rfl rfl rfl rfl (fun w4 hE => R.pickF rfl rfl) ?_
      refine Q.val rfl rfl rfl rfl (fun w4 hE => R.as rfl) ?_
      refine Q.nil (fun w4 e4 => ?_)
      replace E := E.trans0 e4
      replace B9 := B9.ext0 e4
      replace B6 := B6.ext0 e4
      replace o6 := o6.ext0 e4
      replace hB := hB.ext0 e4
      replace D := D.ext0 e4
      refine N.seq ?_
      refine G.condT rfl ?_
      have hw2 : withF x (ws.map wv) = ([], 41) := by rw [hiw, hdr]; exact withF_blk (by show o.Block' < 0 ∨ (dn y : Int) ≤ o.Block'; omega)
      refine G.seq ?_
      refine G.region ?_
      refine L.val rfl rfl (R.as rfl) ?_
      refine L.val rfl rfl (R.as rfl) ?_
      refine L.nil ?_
      refine N.seq ?_
      refine G.ret2 rfl rfl rfl ?_
      first
        | (rw [hw2]; exact ⟨E, fun h => absurd h (by decide), fun _ => rfl⟩)
        | (rw [hw2]; exact ⟨E, fun _ => ⟨b18, rfl, DiskQ.mk2 (by rw [hdy]; exact B6) hb18w (by rw [hdy, hyl]; exact D.len) (by rw [hdy]; exact D.pos) (by rw [hdy]; exact D.le) (by rw [hdy]; exact o6) hM6 hB hqs⟩, fun h => (h rfl).elim⟩)
    · refine Q.val rfl rfl rfl rfl (fun w4 hE => R.fld rfl) ?_
      refine Q.val rfl rfl rfl rfl (fun w4 hE => R.ldB rfl (B9.ext0 hE) rfl) ?_
      refine Q.val rfl rfl rfl rfl (fun w4 hE => R.mv rfl) ?_
      refine Q.val rfl rfl rfl rfl (fun w4 hE => R.nilChk rfl) ?_
      refine Q.val rfl rfl rfl rfl (fun w4 hE => R.fld rfl) ?_
      refine Q.val rfl rfl rfl rfl (fun w4 hE => R.ldB rfl (D.hd.ext0 hE) rfl) ?_
      refine Q.val rfl rfl rfl rfl (fun w4 hE => R.lenS rfl) ?_
      refine Q.val rfl rfl rfl rfl (fun w4 hE => R.geq rfl rfl) ?_
      first | refine Q.val rfl rfl rfl rfl (fun w4 hE => R.pickT rfl rfl) ?_ | refine Q.val rfl rfl rfl rfl (fun w4 hE => R.pickF rfl rfl) ?_
      refine Q.val rfl rfl rfl rfl (fun w4 hE => R.as rfl) ?_
      refine Q.nil (fun w4 e4 => ?_)
      replace E := E.trans0 e4
      replace B9 := B9.ext0 e4
      replace B6 := B6.ext0 e4
      replace o6 := o6.ext0 e4
      replace hB := hB.ext0 e4
      replace D := D.ext0 e4
      refine N.seq ?_
      refine G.condP rfl (fun h2 => ?_) (fun h2 => ?_)
      · have hw2 : withF x (ws.map wv) = ([], 41) := by rw [hiw, hdr]; exact withF_blk (by show o.Block' < 0 ∨ (dn y : Int) ≤ o.Block'; omega)
        refine G.seq ?_
        refine G.region ?_
        refine L.val rfl rfl (R.as rfl) ?_
        refine L.val rfl rfl (R.as rfl) ?_
        refine L.nil ?_
        refine N.seq ?_
        refine G.ret2 rfl rfl rfl ?_
        first
          | (rw [hw2]; exact ⟨E, fun h => absurd h (by decide), fun _ => rfl⟩)
          | (rw [hw2]; exact ⟨E, fun _ => ⟨b18, rfl, DiskQ.mk2 (by rw [hdy]; exact B6) hb18w (by rw [hdy, hyl]; exact D.len) (by rw [hdy]; exact D.pos) (by rw [hdy]; exact D.le) (by rw [hdy]; exact o6) hM6 hB hqs⟩, fun h => (h rfl).elim⟩)
      · obtain ⟨j, hj0⟩ := Int.eq_ofNat_of_zero_le (show 0 ≤ o.Block' by omega)
        have hj : j < dn y := by omega
        have hBs := hok'
        have hBl := hBs.len
        refine G.seq ?_
        refine G.region ?_
        refine L.val rfl rfl (R.fld rfl) ?_
        refine L.val rfl rfl (R.ldB rfl B9 rfl) ?_
        refine L.val rfl rfl (R.lenS rfl) ?_
        refine L.val rfl rfl (R.neI rfl rfl) ?_
        refine L.val rfl rfl (R.as rfl) ?_
        refine L.nil ?_
        refine N.seq ?_
        refine G.condP rfl (fun h3 => ?_) (fun h3 => ?_)
        · have hw2 : withF x (ws.map wv) = ([], 42) := by rw [hiw, hdr]; exact withF_size (by show ¬ (o.Block' < 0 ∨ (dn y : Int) ≤ o.Block'); omega) (by show o.B'.length ≠ 64; omega)
          refine G.seq ?_
          refine G.region ?_
          refine L.val rfl rfl (R.as rfl) ?_
          refine L.val rfl rfl (R.as rfl) ?_
          refine L.nil ?_
          refine N.seq ?_
          refine G.ret2 rfl rfl rfl ?_
          first
            | (rw [hw2]; exact ⟨E, fun h => absurd h (by decide), fun _ => rfl⟩)
            | (rw [hw2]; exact ⟨E, fun _ => ⟨b18, rfl, DiskQ.mk2 (by rw [hdy]; exact B6) hb18w (by rw [hdy, hyl]; exact D.len) (by rw [hdy]; exact D.pos) (by rw [hdy]; exact D.le) (by rw [hdy]; exact o6) hM6 hB hqs⟩, fun h => (h rfl).elim⟩)
        · have h64 : o.B'.length = 64 := by omega
          have hw2 : withF x (ws.map wv) = withF (laid y j o.B') ((ws.map wv).drop (i + 1)) := by rw [hiw, hdr, withF_next (by show ¬ (o.Block' < 0 ∨ (dn y : Int) ≤ o.Block'); omega) h64]; rw [show (wv o).1.toNat = j by show o.Block'.toNat = j; omega]; rfl
          refine G.skip ?_
          refine N.block ?_
          refine N.seq ?_
          refine G.seq ?_
          refine G.region ?_
          obtain ⟨pa, hpa⟩ : ∃ pa, o.B'a = some pa := by
            cases hq : o.B'a with
            | none => rw [hq] at hBs; have := hBs.none.1; rw [this] at h64; cases h64
            | some pa => exact ⟨pa, rfl⟩
          rw [hpa] at hBs
          refine L.val rfl rfl (R.fld rfl) ?_
          refine L.val rfl rfl (R.ldB rfl B9 rfl) ?_
          refine L.val rfl rfl (R.s2ap rfl (by omega)) ?_
          refine L.be 46 rfl (show _ = Value.pointer (some pa) by rw [hpa]) ?_
          refine L.val rfl rfl (R.ldN rfl (hBs.ext0 E).cells (by rw [vbs_length, h64])) ?_
          refine L.do rfl rfl (R.alloc) ?_
          rintro _ w6 ⟨b47, rfl, hb47, hs47, e6, B47⟩
          have hE6 := E.size
          have hb47w : w.heap.size ≤ b47 := by omega
          refine L.set rfl (R.stN rfl rfl B47 (by simp [vbs_length, h64]) (by simp [vbs_length, h64, Value.cells]) (by simpa using vbs_one _)) ?_
          rintro w7 ⟨e7, hs7, B47⟩
          rw [all_stored (by simp [vbs_length, h64, Value.cells])] at B47
          have n7 := e6.news2 e7 (by omega)
          replace E := E.trans0 n7
          replace B9 := B9.ext0 n7
          replace B6 := B6.ext0 n7
          replace o6 := o6.ext0 n7
          replace hB := hB.ext0 n7
          replace D := D.ext0 n7
          refine L.nil ?_
          refine N.seq ?_
          obtain ⟨gl, curl, rfl, rfl, L6, hkl, hO6⟩ := o6.set j (by omega)
          have hE7 := E.size
          have hgl := hM6 gl (by simp)
          refine G.staged [7] [.blocks ([gl])] [fun w' => Ext [] w7 w', fun w' => Ext [gl] w7 w' ∧ Blk w' gl (curl.setIfInBounds j (ptr b47)) 96 (0, 0)] [] (by decide +kernel) (by decide +kernel) rfl rfl rfl (fun _ h => h) ?_
          refine Z.val rfl rfl rfl rfl rfl (fun w8 => R.mv rfl) ?_
          refine Z.val rfl rfl rfl rfl rfl (fun w8 => R.nilChk rfl) ?_
          refine Z.val rfl rfl rfl rfl rfl (fun w8 => R.fld rfl) ?_
          refine Z.read 0 (by decide +kernel) rfl rfl rfl rfl rfl rfl (fun w8 hJ => R.ldB rfl (B6.ext0 hJ) rfl) ?_
          refine Z.val rfl rfl rfl rfl rfl (fun w8 => R.fld rfl) ?_
          refine Z.read 0 (by decide +kernel) rfl rfl rfl rfl rfl rfl (fun w8 hJ => R.ldB rfl (B9.ext0 hJ) rfl) ?_
          refine Z.val rfl rfl rfl rfl rfl (fun w8 => R.idx rfl rfl (by omega) (by omega) _ rfl) ?_
          refine Z.be 54 rfl (show _ = Value.pointer (some ⟨gl, j, none⟩) by rw [Go.Addr.add_lit, hj0]; simp) ?_
          refine Z.set 0 (by decide +kernel) rfl rfl rfl rfl rfl rfl (fun w8 hJ => (R.st rfl rfl (L6.ext0 hJ) hkl rfl).mono (fun _ h => ⟨h.1, h.1.after hJ, h.2.2⟩)) ?_
          refine Z.nil rfl rfl (fun w8 hJ => ?_)
          obtain ⟨e12, L12⟩ := hJ
          replace o6 := hO6 (ptr b47) _ e12 L12
          replace E := E.news2 e12 (by omega)
          replace B6 := B6.ext e12 (fun hm => B6.ne L6 (by decide) (List.mem_singleton.1 hm))
          replace hB := hB.put e12 L6 B47 h64 hj
          refine N.block ?_
          refine N.seq ?_
          refine G.region ?_
          refine L.val rfl rfl (R.add rfl rfl (by omega)) ?_
          refine L.val rfl rfl (R.mv rfl) ?_
          refine L.nil ?_
          exact N.again (i + 1, laid y j o.B', qs.set j b47) (by show ln - (i + 1) < ln - i; omega) (Sub.cons rfl (Sub.cons rfl (Sub.cons rfl (Sub.cons rfl (Sub.cons rfl (Sub.nil _)))))) ⟨by show i + 1 ≤ ln; omega, (laid_length h64 hj).trans hyl, hw2, E, B6, by rw [List.map_set]; exact o6, hB, fun q hq => (List.mem_or_eq_of_mem_set hq).elim (hqs q) (fun h => .inr (by rw [h]; exact hb47w))⟩
  · have hw2 : withF x (ws.map wv) = (y, 0) := by rw [hiw, List.drop_of_length_le (by rw [List.length_map]; omega)]; rfl
    refine G.exit _ rfl ?_
    refine N.seq ?_
    refine G.seq ?_
    refine G.region ?_
    refine L.val rfl rfl (R.mv rfl) ?_
    refine L.val rfl rfl (R.as rfl) ?_
    refine L.val rfl rfl (R.as rfl) ?_
    refine L.nil ?_
    refine N.seq ?_
    refine G.ret2 rfl rfl rfl ?_
    first
      | (rw [hw2]; exact ⟨E, fun h => absurd h (by decide), fun _ => rfl⟩)
      | (rw [hw2]; exact ⟨E, fun _ => ⟨b18, rfl, DiskQ.mk2 (by rw [hdy]; exact B6) hb18w (by rw [hdy, hyl]; exact D.len) (by rw [hdy]; exact D.pos) (by rw [hdy]; exact D.le) (by rw [hdy]; exact o6) hM6 hB hqs⟩, fun h => (h rfl).elim⟩)

theorem iwith_ok (d : Nat) (x : List UInt8) (la : Option Addr) (ln lc : Nat) (ws : List WriteV) (w : World) (hd : DiskAt w d x) (hT : Tab w la ln 2 (ws.map WriteV.cells)) (hO : ∀ o ∈ ws, Bs w o.B'a o.B'n o.B') (hln : ln ≤ 1000000) : Meets Try.prog 15 [.pointer (some ⟨d, 0, none⟩), .slice la ln lc] w (fun v w' => Ext [] w w' ∧ ((withF x (ws.map wv)).2 = 0 → ∃ d', v = .tuple #[ptr d', .int .i64 0] ∧ DiskAt w' d' (withF x (ws.map wv)).1) ∧ ((withF x (ws.map wv)).2 ≠ 0 → v = .tuple #[.pointer none, .int .i64 (withF x (ws.map wv)).2])) := by
  obtain ⟨g, c, cur, ps, hD⟩ := hd
  exact (iwith_okF d g c cur ps x la ln lc ws w hD hT hO hln).mono fun v w' ⟨h1, h2, h3⟩ => ⟨h1, fun h => let ⟨d', e, q⟩ := h2 h; ⟨d', e, q.at⟩, h3⟩

end Go.Proofs.Ythdaelmjiaegfaa
/-
  The walks of package image.
-/
set_option linter.unusedVariables false
set_option linter.unusedSimpArgs false
namespace Go.Proofs.Ythdaelmjiaegfaa
open Go Brv Brv.Image



end Go.Proofs.Ythdaelmjiaegfaa
/-
  The walks of package image.
-/
set_option linter.unusedVariables false
set_option linter.unusedSimpArgs false
namespace Go.Proofs.Ythdaelmjiaegfaa
open Go Brv Brv.Image
/-- What the iterator over the disk reads. -/
def fpIs (w : World) (F : List Nat) (b1 : Nat) (d : Option Addr) (x : List UInt8) : Prop := (∀ g ∈ F, g < w.heap.size) ∧ ∀ M w', Ext M w w' → (∀ g ∈ F, g ∉ M) → Blk w' b1 #[.pointer d] 41 (0, 0) ∧ DiskO w' d x
theorem fp_of {w w0 : World} {b1 : Nat} {d : Option Addr} {x : List UInt8} (h1 : Blk w b1 #[.pointer d] 41 (0, 0)) (h2 : DiskO w0 d x) (he0 : Ext [] w0 w) : ∃ F, fpIs w F b1 d x ∧ ∀ y ∈ F, y = b1 ∨ y < w0.heap.size := by
  rcases h2 with ⟨rfl, rfl⟩ | ⟨b, rfl, g, c, cur, ps, D0⟩
  · exact ⟨[b1], ⟨fun y hy => by rw [List.mem_singleton.1 hy]; exact h1.lt, fun M w' he hm => ⟨h1.ext he (hm b1 (by simp)), .no⟩⟩, fun y hy => .inl (List.mem_singleton.1 hy)⟩
  · have D := D0.ext0 he0
    exact ⟨b1 :: b :: g :: ps, ⟨fun y hy => by
      rcases List.mem_cons.1 hy with rfl | hy
      · exact h1.lt
      · exact D.lt y hy, fun M w' he hm => ⟨h1.ext he (hm b1 (by simp)), .inr ⟨b, rfl, g, c, cur, ps, D.ext he (fun y hy => hm y (List.mem_cons_of_mem _ hy))⟩⟩⟩, fun y hy => (List.mem_cons.1 hy).imp id (D0.lt y)⟩
theorem fpIs.ext0 {w w' : World} {F : List Nat} {b1 : Nat} {d : Option Addr} {x : List UInt8} (h : fpIs w F b1 d x) (he : Ext [] w w') : fpIs w' F b1 d x :=
  ⟨fun g hg => Nat.lt_of_lt_of_le (h.1 g hg) he.size, fun M w2 e hm => by
    have e2 : Ext (M.filter (fun g => decide (g < w.heap.size))) w w2 := by
      refine he.trans e (by simp) (fun g hg => ?_)
      by_cases hl : g < w.heap.size
      · exact .inl (List.mem_filter.2 ⟨hg, by simpa using hl⟩)
      · exact .inr (by omega)
    exact h.2 _ w2 e2 (fun g hg hmem => hm g hg (List.mem_filter.1 hmem).1)⟩
def blkE (x : List UInt8) (k : Nat) (vs : List Value) (W : World) : Prop := ∃ a c, vs = [.int .i64 (k : Int), .slice a (blk x k).length c] ∧ (blk x k).length ≤ c ∧ Bs W a (blk x k).length (blk x k)

theorem iall_ok (d : Option Addr) (w : World) : Meets Try.prog 43 [.pointer d] w (fun v w' => ∃ b1, v = .func (.func 60) #[] #[.pointer (some ⟨b1, 0, none⟩)] ∧ Ext [] w w' ∧ Blk w' b1 #[.pointer d] 41 (0, 0) ∧ w.heap.size ≤ b1) := by
  refine Meets.enter Try.func43 rfl 4 rfl (Nat.le_of_ble_eq_true rfl) ?_
  have E := Ext.refl [] w
  refine G.seq ?_
  refine G.region ?_
  refine L.do rfl rfl (R.box rfl) ?_
  rintro _ w1 ⟨b1, rfl, hb1, hs1, e1, B1⟩
  replace E := E.trans0 e1
  refine L.val rfl rfl (R.as rfl) ?_
  refine L.nil ?_
  refine N.seq ?_
  refine G.seq ?_
  refine G.region ?_
  refine L.val rfl rfl (R.mkFunc rfl rfl) ?_
  refine L.val rfl rfl (R.as rfl) ?_
  refine L.nil ?_
  refine N.seq ?_
  refine G.ret1 rfl rfl ?_
  exact ⟨b1, rfl, E, B1, by omega⟩

theorem iall1_ok (y : Value) (b1 : Nat) (d : Option Addr) (x : List UInt8) (F : List Nat) (D₀ : List Nat) (J Jx : Nat → List Nat → World → Prop) (w : World) (hF : fpIs w F b1 d x) (hD : ∀ g ∈ D₀, g < w.heap.size ∧ g ∉ F ∧ g ∉ ([] : List Nat)) (hJ : ∀ k D W₁ W₂ M', J k D W₁ → Ext M' W₁ W₂ → (∀ g ∈ M', g ∉ D ∧ (g ∈ ([] : List Nat) ∨ w.heap.size ≤ g)) → J k D W₂) (hJx : ∀ k D W₁ W₂ M', Jx k D W₁ → Ext M' W₁ W₂ → (∀ g ∈ M', g ∉ D ∧ (g ∈ ([] : List Nat) ∨ w.heap.size ≤ g)) → Jx k D W₂) (hY : ∀ k D vs W₁, k < dn x → J k D W₁ → blkE x k vs W₁ → (∀ g ∈ D, g < W₁.heap.size) → YCall Try.prog y vs W₁ fun b W₂ => ∃ D', Ext D W₁ W₂ ∧ (∀ g ∈ D', g < W₂.heap.size ∧ (g ∈ D ∨ W₁.heap.size ≤ g)) ∧ (b = true → J (k + 1) D' W₂) ∧ (b = false → Jx (k + 1) D' W₂)) (h0 : J 0 D₀ w) : Meets Try.prog 60 [y, .pointer (some ⟨b1, 0, none⟩)] w (fun _ W₂ => (∃ D, J (dn x) D W₂ ∧ True) ∨ ∃ k D, k ≤ dn x ∧ Jx k D W₂ ∧ True) := by
  refine Meets.enter Try.func60 rfl 24 rfl (Nat.le_of_ble_eq_true rfl) ?_
  obtain ⟨B1, hd⟩ := hF.2 [] w (Ext.refl _ _) (by simp)
  have hFD : ∀ g ∈ F, g ∉ D₀ := fun g hg h => (hD g h).2.1 hg
  have hx0 := hd.len
  refine G.seq ?_
  refine G.region ?_
  refine L.val rfl rfl (R.ldB rfl B1 rfl) ?_
  refine L.callF rfl rfl rfl go54 (iblocks_ok d x _ hd) ?_
  rintro _ _ ⟨rfl, hw⟩
  obtain rfl := hw.symm
  refine L.val rfl rfl (R.mv rfl) ?_
  refine L.nil ?_
  refine N.seq ?_
  refine G.block ?_
  refine G.loop (X := Nat) (fun i => [(0, y), (1, .pointer (some ⟨b1, 0, none⟩)), (5, .int .i64 (dn x : Int)), (6, .int .i64 (i : Int))]) (fun i w' => i ≤ dn x ∧ (∃ D, J i D w' ∧ ∀ g ∈ D, g < w'.heap.size ∧ (g ∈ D₀ ∨ w.heap.size ≤ g)) ∧ Ext D₀ w w') (fun i => dn x - i) (0) (Sub.cons rfl (Sub.cons rfl (Sub.cons rfl (Sub.cons rfl (Sub.nil _))))) ⟨Nat.zero_le _, ⟨D₀, h0, fun g hg => ⟨(hD g hg).1, .inl hg⟩⟩, Ext.refl _ _⟩ ?_
  rintro i w1 ⟨hi, ⟨D, hJi, hDD⟩, e1⟩
  obtain ⟨B1, hd⟩ := hF.2 _ _ e1 hFD
  refine G.seq ?_
  refine G.region ?_
  refine L.val rfl rfl (R.lss rfl rfl) ?_
  refine L.nil ?_
  refine N.seq ?_
  refine G.seq ?_
  refine G.condP rfl (fun h0 => ?_) (fun h0 => ?_)
  · have hix : i < dn x := by omega
    obtain ⟨db, rfl, g1, k1, cur1, ps1, D1⟩ := hd.pos (by omega)
    obtain ⟨z1, hz1, Z1⟩ := D1.ptr hix
    have hs1 := blk_length hix
    have hbs := Bs.of_blk Z1 (blk x i) (by simp) 64 hs1.symm
    refine G.skip ?_
    refine N.seq ?_
    refine G.seq ?_
    refine G.block ?_
    refine G.seq ?_
    refine G.region ?_
    refine L.val rfl rfl (R.mv rfl) ?_
    refine L.val rfl rfl (R.as rfl) ?_
    refine L.nil ?_
    refine N.seq ?_
    refine G.seq ?_
    refine G.region ?_
    refine L.val rfl rfl (R.mv rfl) ?_
    refine L.val rfl rfl (R.mv rfl) ?_
    refine L.val rfl rfl (R.ldB rfl B1 rfl) ?_
    refine L.val rfl rfl (R.nilChk rfl) ?_
    refine L.val rfl rfl (R.fld rfl) ?_
    refine L.val rfl rfl (R.ldB rfl D1.hd rfl) ?_
    refine L.val rfl rfl (R.mv rfl) ?_
    refine L.val rfl rfl (R.idx rfl rfl (by omega) (by omega) _ rfl) ?_
    refine L.val rfl rfl (R.ld rfl (v := ptr z1) (by rw [Go.Addr.add_lit]; simpa using (D1.hg.cell i).trans hz1)) ?_
    refine L.val rfl rfl (R.nilChk rfl) ?_
    refine L.val rfl rfl (R.slA rfl) ?_
    refine L.callF rfl rfl rfl go61 (bclone_ok _ _ _ _ _ hbs (by decide)) ?_
    rintro _ w2 ⟨a1, c1, M1, rfl, e2, o1, hM1⟩
    have hbo := Bs.of_own o1
    have hle := o1.le
    rw [← hs1] at hbo hle ⊢
    replace hJi := hJ i D w1 w2 [] hJi e2 (by simp)
    replace e1 : Ext D₀ w w2 := e1.trans0 e2
    replace hDD : ∀ g ∈ D, g < w2.heap.size ∧ (g ∈ D₀ ∨ w.heap.size ≤ g) := fun g hg => ⟨Nat.lt_of_lt_of_le (hDD g hg).1 e2.size, (hDD g hg).2⟩
    refine L.ycall rfl rfl rfl rfl (hY i D _ w2 hix hJi ⟨_, _, rfl, hle, hbo⟩ (fun g hg => (hDD g hg).1)) ?_
    rintro bb w3 ⟨D2, eD, hD2, hT, hFl⟩
    refine L.val rfl rfl (R.not rfl) ?_
    refine L.nil ?_
    refine N.seq ?_
    refine G.condB rfl (fun h1 => ?_) (fun h1 => ?_)
    · obtain rfl : bb = false := by simpa using h1
      refine G.ret0 rfl ?_
      exact .inr ⟨i + 1, D2, by omega, hFl rfl, trivial⟩
    · obtain rfl : bb = true := by simpa using h1
      refine G.skip ?_
      refine N.block ?_
      refine N.seq ?_
      refine G.region ?_
      refine L.val rfl rfl (R.add rfl rfl (by omega)) ?_
      refine L.val rfl rfl (R.mv rfl) ?_
      refine L.nil ?_
      exact N.again (i + 1) (by omega) (Sub.cons rfl (Sub.cons rfl (Sub.cons rfl (Sub.cons rfl (Sub.nil _))))) ⟨by omega, ⟨D2, hT rfl, fun g hg => ⟨(hD2 g hg).1, (hD2 g hg).2.elim (fun h => (hDD g h).2) (fun h => .inr (Nat.le_trans e1.size h))⟩⟩, e1.transN eD (fun g hg => (hDD g hg).2.imp id id)⟩
  · refine G.exit _ rfl ?_
    refine N.end0 rfl ?_
    obtain rfl : i = dn x := by omega
    exact .inl ⟨D, hJi, trivial⟩

theorem iall_iter (b1 : Nat) (d : Option Addr) (x : List UInt8) (F : List Nat) (w : World) (hF : fpIs w F b1 d x) : Iter Try.prog 60 [.pointer (some ⟨b1, 0, none⟩)] w (dn x) (blkE x) (fun _ _ => True) F [] := by
  intro y D₀ J Jx W hE hD hJ hJx hY h0
  exact iall1_ok y b1 d x F D₀ J Jx W (hF.ext0 hE) hD (fun k D W₁ W₂ M' h he hm => hJ k D W₁ W₂ M' h he (fun g hg => ⟨(hm g hg).1, (hm g hg).2.imp id (Nat.le_trans hE.size)⟩)) (fun k D W₁ W₂ M' h he hm => hJx k D W₁ W₂ M' h he (fun g hg => ⟨(hm g hg).1, (hm g hg).2.imp id (Nat.le_trans hE.size)⟩)) hY h0

end Go.Proofs.Ythdaelmjiaegfaa
/-
  The walks of package image.
-/
set_option linter.unusedVariables false
set_option linter.unusedSimpArgs false
namespace Go.Proofs.Ythdaelmjiaegfaa
open Go Brv Brv.Image
def byI (x : List UInt8) (b3 : Nat) (w0 : World) (k : Nat) (D : List Nat) (W : World) : Prop := ∃ a c MB, D = b3 :: MB ∧ Blk W b3 #[.slice a (x.take (64 * k)).length c] 66 (0, 0) ∧ Own W 5 1 a (x.take (64 * k)).length c (vbs (x.take (64 * k))) MB ∧ (∀ g ∈ MB, w0.heap.size ≤ g ∧ g ≠ b3) ∧ w0.heap.size ≤ b3 ∧ Ext [] w0 W
theorem byI_keep {x : List UInt8} {b3 : Nat} {w0 : World} {k s : Nat} {D M' : List Nat} {W W' : World} (hs : w0.heap.size ≤ s) (h : byI x b3 w0 k D W) (he : Ext M' W W') (hm : ∀ g ∈ M', g ∉ D ∧ (g ∈ ([] : List Nat) ∨ s ≤ g)) : byI x b3 w0 k D W' := by
  obtain ⟨a, c, MB, rfl, B3, o, hMB, h3, E⟩ := h
  exact ⟨a, c, MB, rfl, B3.ext he (fun h => (hm _ h).1 (by simp)), o.ext he (fun g hg h => (hm g h).1 (by simp [hg])), hMB, h3, E.transN he (fun g hg => (hm g hg).2.imp id (Nat.le_trans hs))⟩

theorem ibytes_ok (d : Option Addr) (x : List UInt8) (w : World) (hd : DiskO w d x) : Meets Try.prog 25 [.pointer d] w (Cloned w 5 1 x.length (vbs x)) := by
  refine Meets.enter Try.func25 rfl 14 rfl (Nat.le_of_ble_eq_true rfl) ?_
  have E := Ext.refl [] w
  have hx0 := hd.len
  refine G.seq ?_
  refine G.region ?_
  refine L.val rfl rfl (R.as rfl) ?_
  refine L.nil ?_
  refine N.seq ?_
  refine G.seq ?_
  refine G.region ?_
  refine L.do rfl rfl (R.alloc) ?_
  rintro _ w1 ⟨b3, rfl, hb3, hs3, e1, B3⟩
  replace B3 : Blk w1 b3 #[.slice none 0 0] 66 (0, 0) := B3
  replace E := E.trans0 e1
  refine L.nil ?_
  refine N.seq ?_
  refine G.seq ?_
  refine G.seq ?_
  refine G.region ?_
  refine L.val rfl rfl (R.mv rfl) ?_
  refine L.callF rfl rfl rfl go43 (iall_ok d _) ?_
  rintro _ w2 ⟨b1, rfl, e2, B1, hb1⟩
  have hE1 := E.size
  replace E := E.trans0 e2
  have l3 := B3.lt
  replace B3 := B3.ext0 e2
  obtain ⟨Fp, hFp, hFa⟩ := fp_of B1 hd E
  have hFn : b3 ∉ Fp := fun h => (hFa b3 h).elim (by omega) (by omega)
  have hE2 := E.size
  refine L.nil ?_
  refine N.seq ?_
  refine G.block ?_
  have hD0 : ∀ y ∈ [b3], y < w2.heap.size ∧ y ∉ Fp ∧ y ∉ ([] : List Nat) := by
    intro y hy
    rw [List.mem_singleton] at hy
    subst hy
    exact ⟨B3.lt, hFn, by simp⟩
  have hI0 : byI x b3 w 0 [b3] w2 := ⟨none, 0, [], rfl, B3, Own.nil _ _ _, by simp, by omega, E⟩
  refine G.range (lb := [.pointer (some ⟨b1, 0, none⟩)]) rfl rfl go60 (iall_iter b1 d x Fp _ hFp) (fun _ _ _ h _ => h) [b3] hD0 (fun y h => h.elim (hFp.1 y) (by simp)) (byI x b3 w) (fun _ _ _ _ => False) (fun k D W1 W2 M2 h he hm => byI_keep hE2 h he hm) (fun _ _ _ _ _ _ h _ _ => h) hI0 ?_ ?_ ?_
  · rintro l k D vs W1 hl hlt hlD hDl hk hIk ⟨a, c, rfl, hac, hb⟩
    refine ⟨rfl, ?_⟩
    refine G.sub [(9, .slice a (blk x k).length c), (3, .pointer (some ⟨b3, 0, none⟩))] (Sub.cons rfl (Sub.cons rfl (Sub.nil _))) ?_
    refine G.region ?_
    refine L.val rfl rfl (R.as rfl) ?_
    refine L.nil ?_
    refine N.round (Ext.refl _ _) (fun wb hb1 hb2 => ?_)
    obtain ⟨a1, c1, MB, rfl, B3, o, hMB, h3, E⟩ := hIk
    replace hb := hb.still hb2
    replace B3 := B3.still hb2
    replace o := o.still hb2
    replace E := E.transN hb1 (fun g hg => .inr (by rw [List.mem_singleton.1 hg]; omega))
    have hEb := E.size
    have l3 := B3.lt
    have hlo := o.lt
    have hs1 := blk_length hk
    have htl : (x.take (64 * k)).length ≤ 4096 := by rw [List.length_take]; omega
    have hn3 : b3 ∉ MB := fun h => (hMB _ h).2 rfl
    refine G.block ?_
    refine G.region ?_
    refine L.val rfl rfl (R.ldB rfl B3 rfl) ?_
    refine L.val rfl rfl (R.mv rfl) ?_
    refine L.do rfl rfl (R.app rfl rfl o hb.cells (by rw [vbs_length]; omega) (vbs_one _) (by simp [maxLen]; omega) (by omega)) ?_
    rintro _ w7 ⟨a3, c3, M3, rfl, e7, hM3, o3⟩
    replace B3 := B3.ext e7 hn3
    replace E : Ext [] w w7 := E.trans e7 (by simp) (fun g hg => .inr (hMB g hg).1)
    have hs7 := e7.size
    rw [← vbs_append, take_succ_blk, ← List.length_append, take_succ_blk] at o3
    have hM4 : ∀ g ∈ M3, w.heap.size ≤ g ∧ g ≠ b3 := fun g hg => (hM3 g hg).elim (hMB g) (fun h => ⟨by omega, by omega⟩)
    refine L.be 12 rfl (show _ = Value.slice a3 (x.take (64 * (k + 1))).length c3 by rw [← take_succ_blk, List.length_append]) ?_
    refine L.set rfl (R.st rfl rfl B3 (by show 0 < 1; decide) rfl) ?_
    rintro w8 ⟨e8, hs8, B3⟩
    replace B3 : Blk w8 b3 #[.slice a3 (x.take (64 * (k + 1))).length c3] 66 (0, 0) := B3
    replace o3 := o3.ext e8 (by intro g hg h; exact (hM4 g hg).2 (List.mem_singleton.1 h))
    replace E : Ext [] w w8 := E.trans e8 (by simp) (fun g hg => .inr (by rw [List.mem_singleton.1 hg]; exact h3))
    have hlo3 := o3.lt
    have X : Ext (b3 :: MB) wb w8 := (e7.mono (fun g hg => .inl (List.mem_cons_of_mem _ hg))).transN e8 (fun g hg => .inl (by rw [List.mem_singleton.1 hg]; simp))
    have hD2 : ∀ g ∈ b3 :: M3, g < w8.heap.size ∧ (g ∈ b3 :: MB ∨ wb.heap.size ≤ g) := by
      intro g hg
      rcases List.mem_cons.1 hg with rfl | hg
      · exact ⟨B3.lt, .inl (by simp)⟩
      · exact ⟨hlo3 g hg, (hM3 g hg).imp (fun h => List.mem_cons_of_mem _ h) id⟩
    refine L.nil ?_
    refine N.block ?_
    refine N.done fun _ _ => ?_
    exact ⟨b3 :: M3, X, hD2, a3, c3, M3, rfl, B3, o3, hM4, h3, E⟩
  · rintro d2 D W2 hd2 hdD hK ⟨a1, c1, MB, rfl, B3, o, hMB, h3, E⟩ _
    have hst := Still.putObj (.deferred none) hK rfl
    rw [List.take_of_length_le (by omega)] at B3 o
    refine N.block ?_
    refine N.seq ?_
    refine G.seq ?_
    refine G.region ?_
    refine L.val rfl rfl (R.ldB rfl B3 rfl) ?_
    refine L.val rfl rfl (R.as rfl) ?_
    refine L.nil ?_
    refine N.seq ?_
    refine G.ret1M rfl rfl (leave1 hK) ?_
    exact ⟨a1, c1, MB, rfl, E.transN (Ext.putObj _ _ _) (fun g hg => .inr (by rw [List.mem_singleton.1 hg]; omega)), o.still hst, fun g hg => (hMB g hg).1⟩
  · rintro _ _ _ _ _ _ _ _ _ h _
    exact h.elim

end Go.Proofs.Ythdaelmjiaegfaa
/-
  The walks of package image.
-/
set_option linter.unusedVariables false
set_option linter.unusedSimpArgs false
namespace Go.Proofs.Ythdaelmjiaegfaa
open Go Brv Brv.Image
theorem ibytesS (d : Option Addr) (x : List UInt8) : SpecS Try.prog 25 [.pointer d] [sh (fun w => DiskO w d x)] (fun v H' => ∃ a c', v = .slice a x.length c' ∧ H' = [own 5 1 a x.length c' (vbs x), sh (fun w => DiskO w d x)]) :=
  SpecS.ofOwn (φ := fun a c => .slice a x.length c) fun w F S s => ibytes_ok d x w (s.sh (p := fun w => DiskO w d x) .here)

end Go.Proofs.Ythdaelmjiaegfaa
/-
  The walks of package model.
-/
set_option linter.unusedVariables false
set_option linter.unusedSimpArgs false
set_option maxRecDepth 4000
namespace Go.Proofs.Ythdaelmjiaegfaa
open Go Brv Brv.Image Brv.Model
/-- The orders of all timelines' disks. -/
def lnA (L : Lns) : Asn := sp (L.map fun q => mp (κ := Int) 135 132 1 q.2.m (dsP q.2.ds))
/-- All disks, that stay. -/
def DkP (L : Lns) (w : World) : Prop := ∀ q ∈ L, ∀ d ∈ q.2.ds, DiskAt w d.2.b d.2.l
def dkS (L : Lns) : Asn := sh (DkP L)
instance (L : Lns) : Pers (dkS L) := ⟨fun _ _ _ h => h⟩
theorem _root_.Brv.St.lnAt {L : Lns} {H H1 : List Asn} {F S : List Nat} {w : World} {t : Int} {x : Ln} (s : St H F S w) (h : Sel H (lnA L) H1) (hg : getT L t = some x) : ∃ S', MapAt (κ := Int) 135 132 1 w x.m (dsP x.ds) S' := by
  obtain ⟨F', S', h⟩ := St.spAt s (show Sel H (sp (L.map fun q => mp (κ := Int) 135 132 1 q.2.m (dsP q.2.ds))) H1 from h) (List.mem_map.2 ⟨_, getT_some hg, rfl⟩)
  exact ⟨F', h⟩
theorem _root_.Brv.St.dk {L : Lns} {H H1 : List Asn} {F S : List Nat} {w : World} {t n : Int} {d : Dk} (s : St H F S w) (h : Sel H (dkS L) H1) (hg : wasV L t n = some d) : DiskAt w d.b d.l := by
  obtain ⟨x, h1, h2⟩ := was_mem hg
  exact s.sh (p := DkP L) h _ h1 _ h2
theorem perm_put {L : Lns} (hs : Srt L) (t : Int) (x : Ln) : (putT L t x).Perm ((t, x) :: L.filter (fun q => decide (q.1 ≠ t))) := by
  rw [putT_ins]
  induction L with
  | nil => exact List.Perm.refl _
  | cons q L ih =>
    unfold Srt at hs
    rw [List.pairwise_cons] at hs
    rw [insT]
    by_cases h : q.1 < t
    · rw [if_pos h, List.filter_cons_of_pos (by simp; omega)]
      exact ((ih hs.2).cons q).trans (List.Perm.swap _ _ _)
    · have hall : L.filter (fun q => decide (q.1 ≠ t)) = L := List.filter_eq_self.2 fun r hr => by have := hs.1 r hr; simp; omega
      rw [if_neg h]
      by_cases h2 : t < q.1
      · rw [if_pos h2, List.filter_cons_of_pos (by simp; omega), hall]
      · rw [if_neg h2, List.filter_cons_of_neg (by simp; omega), hall]
theorem perm_has {L : Lns} (hs : Srt L) {t : Int} {x : Ln} (hg : getT L t = some x) : L.Perm ((t, x) :: L.filter (fun q => decide (q.1 ≠ t))) := by
  have h := perm_put hs t x
  obtain ⟨i, hi⟩ := List.getElem?_of_mem (getT_some hg)
  have e : putT L t x = L := by
    rw [putT_at hs hi]
    refine List.ext_getElem? fun j => ?_
    rw [List.getElem?_set]
    split
    · rename_i e; subst e; rw [hi]; simp [(List.getElem?_eq_some_iff.1 hi).1]
    · rfl
  rwa [e] at h
/-- All timelines' orders but one's. -/
def lnR (L : Lns) (t : Int) : Asn := sp ((L.filter (fun q => decide (q.1 ≠ t))).map fun q => mp (κ := Int) 135 132 1 q.2.m (dsP q.2.ds))
theorem Imp.lnOpen {L : Lns} {H H1 : List Asn} {t : Int} {x : Ln} (h : Sel H (lnA L) H1) (hs : Srt L) (hg : getT L t = some x) : Imp H (mp (κ := Int) 135 132 1 x.m (dsP x.ds) :: lnR L t :: H1) :=
  (Imp.spPerm (show Sel H (sp (L.map fun q => mp (κ := Int) 135 132 1 q.2.m (dsP q.2.ds))) H1 from h) ((perm_has hs hg).map _)).trans (Imp.spOpen .here)
theorem Imp.lnClose {L : Lns} {H H1 H2 : List Asn} {t : Int} {x : Ln} (h : Sel H (mp (κ := Int) 135 132 1 x.m (dsP x.ds)) H1) (k : Sel H1 (lnR L t) H2) (hs : Srt L) : Imp H (lnA (putT L t x) :: H2) :=
  (Imp.spClose h k).trans (Imp.spPerm .here ((perm_put hs t x).symm.map (fun q : Int × Ln => mp (κ := Int) 135 132 1 q.2.m (dsP q.2.ds))))
theorem lnR_no {L : Lns} {t : Int} (h : ∀ p ∈ L, p.1 ≠ t) : lnR L t = lnA L := by
  unfold lnR lnA
  rw [List.filter_eq_self.2 fun r hr => by simpa using h r hr]
theorem hasK_get {α : Type} (g : α → List Value) (l : List (Int × α)) (k : Int) : hasK (mapT g l) k = (getT l k).isSome := by
  rw [← hasT_eq, hasT_map]
  unfold getT
  cases h : hasT l k with
  | false => rfl
  | true => obtain ⟨p, hp, _⟩ := hasT_mem h; simp [hp]
theorem getK_get {α : Type} (g : α → List Value) (l : List (Int × α)) (k : Int) : getK (mapT g l) k = (getT l k).map g := by rw [← getT_eq, getT_map]
theorem lgetN (m : Nat) (L : Lns) (k : Int) (S : List Nat) (w : World) (hm : MapAt (κ := Int) 124 128 3 w m (psL L) S) (hl : L.length ≤ 99999) (hg : getT L k = none) : Meets Try.prog 35 [.pointer (some ⟨m, 0, none⟩), .int .i64 k] w (fun v w' => v = .tuple #[.agg #[.pointer none, .int .i64 0, .int .i64 0], .bool false] ∧ Ext [] w w') :=
  (getModelline_ok m (psL L) S k w hm (by rw [psL_len]; exact hl)).mono fun v w' ⟨h1, h2⟩ => ⟨by rw [h1]; unfold psL; rw [hasK_get, getK_get, hg]; rfl, h2⟩
theorem lgetS (m : Nat) (L : Lns) (k : Int) (x : Ln) (S : List Nat) (w : World) (hm : MapAt (κ := Int) 124 128 3 w m (psL L) S) (hl : L.length ≤ 99999) (hg : getT L k = some x) : Meets Try.prog 35 [.pointer (some ⟨m, 0, none⟩), .int .i64 k] w (fun v w' => v = .tuple #[.agg (lnC x).toArray, .bool true] ∧ Ext [] w w') :=
  (getModelline_ok m (psL L) S k w hm (by rw [psL_len]; exact hl)).mono fun v w' ⟨h1, h2⟩ => ⟨by rw [h1]; unfold psL; rw [hasK_get, getK_get, hg]; rfl, h2⟩
theorem dgetX (m : Nat) (ds : List (Int × Dk)) (k : Int) (S : List Nat) (w : World) (hm : MapAt (κ := Int) 135 132 1 w m (dsP ds) S) (hl : ds.length ≤ 99999) : Meets Try.prog 51 [.pointer (some ⟨m, 0, none⟩), .int .i64 k] w (fun v w' => v = .tuple #[dkO (getT ds k), .bool (getT ds k).isSome] ∧ Ext [] w w') :=
  (getImageDisk_ok m (dsP ds) S k w hm (by rw [dsP_len]; exact hl)).mono fun v w' ⟨h1, h2⟩ => ⟨by rw [h1]; unfold dsP; rw [hasK_get, getK_get]; cases getT ds k <;> rfl, h2⟩
theorem lputX (m : Nat) (L : Lns) (k : Int) (x : Ln) (hl : L.length ≤ 99999) : SpecS Try.prog 32 [.pointer (some ⟨m, 0, none⟩), .int .i64 k, .agg (lnC x).toArray] [mp (κ := Int) 124 128 3 m (psL L)] (fun v H' => v = .bool (!hasK (psL L) k) ∧ H' = [mp (κ := Int) 124 128 3 m (psL (putT L k x))]) := by
  have := SpecS.ofMap (φ := fun v => v = .bool (!hasK (psL L) k)) (fun w S hm => putModelline_ok m (psL L) S k (lnC x) w hm (by rw [psL_len]; exact hl) ⟨rfl, lnC_one x⟩)
  rw [psL_put] at this
  exact this
theorem dputX (m : Nat) (ds : List (Int × Dk)) (k : Int) (d : Dk) (hl : ds.length ≤ 99999) : SpecS Try.prog 36 [.pointer (some ⟨m, 0, none⟩), .int .i64 k, .pointer (some ⟨d.b, 0, none⟩)] [mp (κ := Int) 135 132 1 m (dsP ds)] (fun v H' => v = .bool (!hasK (dsP ds) k) ∧ H' = [mp (κ := Int) 135 132 1 m (dsP (putT ds k d))]) := by
  have := SpecS.ofMap (φ := fun v => v = .bool (!hasK (dsP ds) k)) (fun w S hm => putImageDisk_ok m (dsP ds) S k (some ⟨d.b, 0, none⟩) w hm (by rw [dsP_len]; exact hl))
  rw [show ([.pointer (some ⟨d.b, 0, none⟩)] : List Value) = dkC d from rfl, dsP_put] at this
  exact this
theorem ds_len {L : Lns} {k : Nat} (h : Wf L k) {t : Int} {x : Ln} (hg : getT L t = some x) : x.ds.length ≤ k + 1 := (h.ln _ (getT_some hg)).2.2.1
theorem was_no {L : Lns} {t : Int} (h : getT L t = none) (n : Int) : wasV L t n = none := by unfold wasV; rw [h]; rfl
theorem was_so {L : Lns} {t : Int} {x : Ln} (h : getT L t = some x) (n : Int) : wasV L t n = getT x.ds n := by unfold wasV; rw [h]; rfl
theorem par_no {L : Lns} {t : Int} (h : getT L t = none) : parV L t = none := by unfold parV; rw [h]; rfl
theorem par_z {L : Lns} {t : Int} {x : Ln} (h : getT L t = some x) (h0 : x.pt = 0) : parV L t = none := by unfold parV; rw [h]; exact if_pos h0
theorem par_so {L : Lns} {t : Int} {x : Ln} (h : getT L t = some x) (h0 : x.pt ≠ 0) : parV L t = some (x.pt, x.pn) := by unfold parV; rw [h]; exact if_neg h0
def parC : Option (Int × Int) → Value
  | some q => .tuple #[.int .i64 q.1, .int .i64 q.2, .bool true]
  | none => .tuple #[.int .i64 0, .int .i64 0, .bool false]

end Go.Proofs.Ythdaelmjiaegfaa
/-
  The walks of package model.
-/
set_option linter.unusedVariables false
set_option linter.unusedSimpArgs false
set_option maxRecDepth 4000
namespace Go.Proofs.Ythdaelmjiaegfaa
open Go Brv Brv.Image Brv.Model
theorem wwas_ok (p m : Nat) (L : Lns) (tt nn : Int) (kk : Nat) (tx nx : Int) (hw : Wf L kk) (hk : kk ≤ 9000) : SpecS Try.prog 34 [.pointer (some ⟨p, 0, none⟩), .agg #[.int .i64 tx, .int .i64 nx]] [blk p [.pointer (some ⟨m, 0, none⟩), .int .i64 tt, .int .i64 nn] 85, mp (κ := Int) 124 128 3 m (psL L), lnA L, dkS L] (fun v H' => v = .tuple #[dkO (wasV L tx nx), .bool (wasV L tx nx).isSome] ∧ H' = [blk p [.pointer (some ⟨m, 0, none⟩), .int .i64 tt, .int .i64 nn] 85, mp (κ := Int) 124 128 3 m (psL L), lnA L, dkS L]) := by
  refine SpecS.enter Try.func34 rfl 29 rfl (Nat.le_of_ble_eq_true rfl) (fun o => ?_)
  refine SG.seq ?_
  refine SG.region ?_
  refine SL.step rfl rfl (CS.boxA rfl) ?_
  rintro _ _ ⟨b3, rfl, rfl⟩
  refine SL.val rfl rfl (fun w9 F9 S9 s => R.as rfl) ?_
  refine SL.val rfl rfl (fun w9 F9 S9 s => R.as rfl) ?_
  refine SL.nil ?_
  refine SN.seq ?_
  refine SG.seq ?_
  refine SG.seq ?_
  refine SG.region ?_
  refine SL.val rfl rfl (fun w9 F9 S9 s => R.mv rfl) ?_
  refine SL.val rfl rfl (fun w9 F9 S9 s => R.eqNilP rfl rfl) ?_
  refine SL.nil ?_
  refine SN.seq ?_
  refine SG.condF rfl ?_
  refine SG.skip ?_
  refine SN.seq ?_
  refine SG.seq ?_
  rcases hg : getT L tx with _ | x
  · refine SG.drawT (.flo 0 (.flo 1 (.flo 2 (.flo 3 (.flo 4 (.flo 5 (.alt 6 (.flo 7 (.flo 8 (.flo 9 (.alt 10 (.alt 11 (.flo 12 .nil) .stop) .stop)))) (.alt 10 (.alt 6 (.flo 7 (.flo 8 (.flo 9 (.alt 11 (.flo 12 .nil) .stop)))) .stop) .stop)))))))) (by decide +kernel) rfl ?_
    refine TW.pure rfl rfl rfl rfl (fun w9 => R.mv rfl) ?_
    refine TW.pure rfl rfl rfl rfl (fun w9 => R.nilChk rfl) ?_
    refine TW.pure rfl rfl rfl rfl (fun w9 => R.fld rfl) ?_
    refine TW.read rfl rfl rfl rfl (fun w9 F9 S9 s => R.ldB rfl (s.cel (by repeat (first | exact SelB.blk | exact SelB.fz | apply SelB.there))) (by rfl)) ?_
    refine TW.pure rfl rfl rfl rfl (fun w9 => R.fld rfl) ?_
    refine TW.read rfl rfl rfl rfl (fun w9 F9 S9 s => R.ldB rfl (s.cel (by repeat (first | exact SelB.blk | exact SelB.fz | apply SelB.there))) (by rfl)) ?_
    refine TW.or ?_ ?_
    · refine TW.step rfl rfl rfl rfl (CS.callR rfl go35 (fun w9 F9 S9 s => (s.mp (show Sel _ (mp (κ := Int) 124 128 3 m (psL L)) _ from (by repeat (first | exact Sel.keep | exact Sel.here | apply Sel.there)))).elim fun S9 h9 => lgetN m L tx S9 w9 h9 (by have := hw.len; omega) hg)) ?_
      rintro _ _ ⟨rfl, rfl⟩
      refine ⟨⟨.inl (by decide +kernel), ⟨.inl (by decide +kernel), trivial⟩⟩, ?_⟩
      refine TW.pure rfl rfl rfl rfl (fun w9 => R.mv rfl) ?_
      refine TW.pure rfl rfl rfl rfl (fun w9 => R.ext rfl rfl) ?_
      refine TW.pure rfl rfl rfl rfl (fun w9 => R.ext rfl rfl) ?_
      refine TW.step rfl rfl rfl rfl (CS.alloc [.pointer none, .int .i64 0, .int .i64 0] rfl) ?_
      rintro _ _ ⟨b6, rfl, rfl⟩
      refine ⟨⟨.inr (fun w9 F9 S9 s => R.ldB rfl (s.cel (by repeat (first | exact SelB.blk | exact SelB.fz | apply SelB.there))) (by rfl)), ⟨.inr (fun w9 F9 S9 s => R.ldB rfl (s.cel (by repeat (first | exact SelB.blk | exact SelB.fz | apply SelB.there))) (by rfl)), trivial⟩⟩, ?_⟩
      refine TW.step0 rfl rfl rfl (CS.stA (vs := [.pointer none, .int .i64 0, .int .i64 0]) rfl rfl (by repeat (first | exact Sel.keep | exact Sel.here | apply Sel.there)) (by rfl) (by rfl) (by intro u hu; simp only [List.mem_cons, List.not_mem_nil, or_false] at hu; rcases hu with rfl | rfl | rfl <;> rfl)) ?_
      rintro _ _ rfl
      refine ⟨⟨.inl (by decide +kernel), ⟨.inl (by decide +kernel), trivial⟩⟩, ?_⟩
      refine TW.pure rfl rfl rfl rfl (fun w9 => R.as rfl) ?_
      refine TW.nil ?_
      refine SN.seq ?_
      refine SG.seq ?_
      refine SG.seq ?_
      refine SG.region ?_
      refine SL.val rfl rfl (fun w9 F9 S9 s => R.mv rfl) ?_
      refine SL.val rfl rfl (fun w9 F9 S9 s => R.not rfl) ?_
      refine SL.nil ?_
      refine SN.seq ?_
      refine SG.condT rfl ?_
      refine SG.seq ?_
      refine SG.region ?_
      refine SL.val rfl rfl (fun w9 F9 S9 s => R.as rfl) ?_
      refine SL.val rfl rfl (fun w9 F9 S9 s => R.as rfl) ?_
      refine SL.nil ?_
      refine SN.seq ?_
      exact SG.ret2 rfl rfl rfl ((Imp.sels (by repeat (first | exact Sels.nil | apply Sels.cons | exact Sel.keep | exact Sel.here | apply Sel.there)))) (⟨by rw [was_no hg]; rfl, rfl⟩)
    refine TW.step rfl rfl rfl rfl (CS.alloc [.pointer none, .int .i64 0, .int .i64 0] rfl) ?_
    rintro _ _ ⟨b6, rfl, rfl⟩
    refine ⟨⟨.inr (fun w9 F9 S9 s => R.ldB rfl (s.cel (by repeat (first | exact SelB.blk | exact SelB.fz | apply SelB.there))) (by rfl)), ⟨.inr (fun w9 F9 S9 s => R.ldB rfl (s.cel (by repeat (first | exact SelB.blk | exact SelB.fz | apply SelB.there))) (by rfl)), trivial⟩⟩, ?_⟩
    refine TW.step rfl rfl rfl rfl (CS.callR rfl go35 (fun w9 F9 S9 s => (s.mp (show Sel _ (mp (κ := Int) 124 128 3 m (psL L)) _ from (by repeat (first | exact Sel.keep | exact Sel.here | apply Sel.there)))).elim fun S9 h9 => lgetN m L tx S9 w9 h9 (by have := hw.len; omega) hg)) ?_
    rintro _ _ ⟨rfl, rfl⟩
    refine ⟨⟨.inl (by decide +kernel), ⟨.inl (by decide +kernel), trivial⟩⟩, ?_⟩
    refine TW.pure rfl rfl rfl rfl (fun w9 => R.mv rfl) ?_
    refine TW.pure rfl rfl rfl rfl (fun w9 => R.ext rfl rfl) ?_
    refine TW.pure rfl rfl rfl rfl (fun w9 => R.ext rfl rfl) ?_
    refine TW.step0 rfl rfl rfl (CS.stA (vs := [.pointer none, .int .i64 0, .int .i64 0]) rfl rfl (by repeat (first | exact Sel.keep | exact Sel.here | apply Sel.there)) (by rfl) (by rfl) (by intro u hu; simp only [List.mem_cons, List.not_mem_nil, or_false] at hu; rcases hu with rfl | rfl | rfl <;> rfl)) ?_
    rintro _ _ rfl
    refine ⟨⟨.inl (by decide +kernel), ⟨.inl (by decide +kernel), trivial⟩⟩, ?_⟩
    refine TW.pure rfl rfl rfl rfl (fun w9 => R.as rfl) ?_
    refine TW.nil ?_
    refine SN.seq ?_
    refine SG.seq ?_
    refine SG.seq ?_
    refine SG.region ?_
    refine SL.val rfl rfl (fun w9 F9 S9 s => R.mv rfl) ?_
    refine SL.val rfl rfl (fun w9 F9 S9 s => R.not rfl) ?_
    refine SL.nil ?_
    refine SN.seq ?_
    refine SG.condT rfl ?_
    refine SG.seq ?_
    refine SG.region ?_
    refine SL.val rfl rfl (fun w9 F9 S9 s => R.as rfl) ?_
    refine SL.val rfl rfl (fun w9 F9 S9 s => R.as rfl) ?_
    refine SL.nil ?_
    refine SN.seq ?_
    exact SG.ret2 rfl rfl rfl ((Imp.sels (by repeat (first | exact Sels.nil | apply Sels.cons | exact Sel.keep | exact Sel.here | apply Sel.there)))) (⟨by rw [was_no hg]; rfl, rfl⟩)
  · refine SG.drawT (.flo 0 (.flo 1 (.flo 2 (.flo 3 (.flo 4 (.flo 5 (.alt 6 (.flo 7 (.flo 8 (.flo 9 (.alt 10 (.alt 11 (.flo 12 .nil) .stop) .stop)))) (.alt 10 (.alt 6 (.flo 7 (.flo 8 (.flo 9 (.alt 11 (.flo 12 .nil) .stop)))) .stop) .stop)))))))) (by decide +kernel) rfl ?_
    refine TW.pure rfl rfl rfl rfl (fun w9 => R.mv rfl) ?_
    refine TW.pure rfl rfl rfl rfl (fun w9 => R.nilChk rfl) ?_
    refine TW.pure rfl rfl rfl rfl (fun w9 => R.fld rfl) ?_
    refine TW.read rfl rfl rfl rfl (fun w9 F9 S9 s => R.ldB rfl (s.cel (by repeat (first | exact SelB.blk | exact SelB.fz | apply SelB.there))) (by rfl)) ?_
    refine TW.pure rfl rfl rfl rfl (fun w9 => R.fld rfl) ?_
    refine TW.read rfl rfl rfl rfl (fun w9 F9 S9 s => R.ldB rfl (s.cel (by repeat (first | exact SelB.blk | exact SelB.fz | apply SelB.there))) (by rfl)) ?_
    refine TW.or ?_ ?_
    · refine TW.step rfl rfl rfl rfl (CS.callR rfl go35 (fun w9 F9 S9 s => (s.mp (show Sel _ (mp (κ := Int) 124 128 3 m (psL L)) _ from (by repeat (first | exact Sel.keep | exact Sel.here | apply Sel.there)))).elim fun S9 h9 => lgetS m L tx x S9 w9 h9 (by have := hw.len; omega) hg)) ?_
      rintro _ _ ⟨rfl, rfl⟩
      refine ⟨⟨.inl (by decide +kernel), ⟨.inl (by decide +kernel), trivial⟩⟩, ?_⟩
      refine TW.pure rfl rfl rfl rfl (fun w9 => R.mv rfl) ?_
      refine TW.pure rfl rfl rfl rfl (fun w9 => R.ext rfl rfl) ?_
      refine TW.pure rfl rfl rfl rfl (fun w9 => R.ext rfl rfl) ?_
      refine TW.step rfl rfl rfl rfl (CS.alloc [.pointer none, .int .i64 0, .int .i64 0] rfl) ?_
      rintro _ _ ⟨b6, rfl, rfl⟩
      refine ⟨⟨.inr (fun w9 F9 S9 s => R.ldB rfl (s.cel (by repeat (first | exact SelB.blk | exact SelB.fz | apply SelB.there))) (by rfl)), ⟨.inr (fun w9 F9 S9 s => R.ldB rfl (s.cel (by repeat (first | exact SelB.blk | exact SelB.fz | apply SelB.there))) (by rfl)), trivial⟩⟩, ?_⟩
      refine TW.step0 rfl rfl rfl (CS.stA (vs := lnC x) rfl rfl (by repeat (first | exact Sel.keep | exact Sel.here | apply Sel.there)) (by rfl) (by rfl) (lnC_one x)) ?_
      rintro _ _ rfl
      refine ⟨⟨.inl (by decide +kernel), ⟨.inl (by decide +kernel), trivial⟩⟩, ?_⟩
      refine TW.pure rfl rfl rfl rfl (fun w9 => R.as rfl) ?_
      refine TW.nil ?_
      refine SN.seq ?_
      refine SG.seq ?_
      refine SG.seq ?_
      refine SG.region ?_
      refine SL.val rfl rfl (fun w9 F9 S9 s => R.mv rfl) ?_
      refine SL.val rfl rfl (fun w9 F9 S9 s => R.not rfl) ?_
      refine SL.nil ?_
      refine SN.seq ?_
      refine SG.condF rfl ?_
      refine SG.skip ?_
      refine SN.seq ?_
      refine SG.seq ?_
      refine SG.region ?_
      refine SL.val rfl rfl (fun w9 F9 S9 s => R.fld rfl) ?_
      refine SL.val rfl rfl (fun w9 F9 S9 s => R.ldB (v := .pointer (some ⟨x.m, 0, none⟩)) rfl (s.cel (by repeat (first | exact SelB.blk | exact SelB.fz | apply SelB.there))) (by rfl)) ?_
      refine SL.val rfl rfl (fun w9 F9 S9 s => R.fld rfl) ?_
      refine SL.val rfl rfl (fun w9 F9 S9 s => R.ldB rfl (s.cel (by repeat (first | exact SelB.blk | exact SelB.fz | apply SelB.there))) (by rfl)) ?_
      refine SL.step rfl rfl (CS.callR rfl go51 (fun w9 F9 S9 s => (s.lnAt (show Sel _ (lnA L) _ from (by repeat (first | exact Sel.keep | exact Sel.here | apply Sel.there))) hg).elim fun S9 h9 => dgetX x.m x.ds nx S9 w9 h9 (by have := ds_len hw hg; omega))) ?_
      rintro _ _ ⟨rfl, rfl⟩
      refine SL.val rfl rfl (fun w9 F9 S9 s => R.ext rfl rfl) ?_
      refine SL.val rfl rfl (fun w9 F9 S9 s => R.ext rfl rfl) ?_
      refine SL.val rfl rfl (fun w9 F9 S9 s => R.as rfl) ?_
      refine SL.val rfl rfl (fun w9 F9 S9 s => R.as rfl) ?_
      refine SL.nil ?_
      refine SN.seq ?_
      exact SG.ret2 rfl rfl rfl ((Imp.sels (by repeat (first | exact Sels.nil | apply Sels.cons | exact Sel.keep | exact Sel.here | apply Sel.there)))) (⟨by rw [was_so hg]; rfl, rfl⟩)
    refine TW.step rfl rfl rfl rfl (CS.alloc [.pointer none, .int .i64 0, .int .i64 0] rfl) ?_
    rintro _ _ ⟨b6, rfl, rfl⟩
    refine ⟨⟨.inr (fun w9 F9 S9 s => R.ldB rfl (s.cel (by repeat (first | exact SelB.blk | exact SelB.fz | apply SelB.there))) (by rfl)), ⟨.inr (fun w9 F9 S9 s => R.ldB rfl (s.cel (by repeat (first | exact SelB.blk | exact SelB.fz | apply SelB.there))) (by rfl)), trivial⟩⟩, ?_⟩
    refine TW.step rfl rfl rfl rfl (CS.callR rfl go35 (fun w9 F9 S9 s => (s.mp (show Sel _ (mp (κ := Int) 124 128 3 m (psL L)) _ from (by repeat (first | exact Sel.keep | exact Sel.here | apply Sel.there)))).elim fun S9 h9 => lgetS m L tx x S9 w9 h9 (by have := hw.len; omega) hg)) ?_
    rintro _ _ ⟨rfl, rfl⟩
    refine ⟨⟨.inl (by decide +kernel), ⟨.inl (by decide +kernel), trivial⟩⟩, ?_⟩
    refine TW.pure rfl rfl rfl rfl (fun w9 => R.mv rfl) ?_
    refine TW.pure rfl rfl rfl rfl (fun w9 => R.ext rfl rfl) ?_
    refine TW.pure rfl rfl rfl rfl (fun w9 => R.ext rfl rfl) ?_
    refine TW.step0 rfl rfl rfl (CS.stA (vs := lnC x) rfl rfl (by repeat (first | exact Sel.keep | exact Sel.here | apply Sel.there)) (by rfl) (by rfl) (lnC_one x)) ?_
    rintro _ _ rfl
    refine ⟨⟨.inl (by decide +kernel), ⟨.inl (by decide +kernel), trivial⟩⟩, ?_⟩
    refine TW.pure rfl rfl rfl rfl (fun w9 => R.as rfl) ?_
    refine TW.nil ?_
    refine SN.seq ?_
    refine SG.seq ?_
    refine SG.seq ?_
    refine SG.region ?_
    refine SL.val rfl rfl (fun w9 F9 S9 s => R.mv rfl) ?_
    refine SL.val rfl rfl (fun w9 F9 S9 s => R.not rfl) ?_
    refine SL.nil ?_
    refine SN.seq ?_
    refine SG.condF rfl ?_
    refine SG.skip ?_
    refine SN.seq ?_
    refine SG.seq ?_
    refine SG.region ?_
    refine SL.val rfl rfl (fun w9 F9 S9 s => R.fld rfl) ?_
    refine SL.val rfl rfl (fun w9 F9 S9 s => R.ldB (v := .pointer (some ⟨x.m, 0, none⟩)) rfl (s.cel (by repeat (first | exact SelB.blk | exact SelB.fz | apply SelB.there))) (by rfl)) ?_
    refine SL.val rfl rfl (fun w9 F9 S9 s => R.fld rfl) ?_
    refine SL.val rfl rfl (fun w9 F9 S9 s => R.ldB rfl (s.cel (by repeat (first | exact SelB.blk | exact SelB.fz | apply SelB.there))) (by rfl)) ?_
    refine SL.step rfl rfl (CS.callR rfl go51 (fun w9 F9 S9 s => (s.lnAt (show Sel _ (lnA L) _ from (by repeat (first | exact Sel.keep | exact Sel.here | apply Sel.there))) hg).elim fun S9 h9 => dgetX x.m x.ds nx S9 w9 h9 (by have := ds_len hw hg; omega))) ?_
    rintro _ _ ⟨rfl, rfl⟩
    refine SL.val rfl rfl (fun w9 F9 S9 s => R.ext rfl rfl) ?_
    refine SL.val rfl rfl (fun w9 F9 S9 s => R.ext rfl rfl) ?_
    refine SL.val rfl rfl (fun w9 F9 S9 s => R.as rfl) ?_
    refine SL.val rfl rfl (fun w9 F9 S9 s => R.as rfl) ?_
    refine SL.nil ?_
    refine SN.seq ?_
    exact SG.ret2 rfl rfl rfl ((Imp.sels (by repeat (first | exact Sels.nil | apply Sels.cons | exact Sel.keep | exact Sel.here | apply Sel.there)))) (⟨by rw [was_so hg]; rfl, rfl⟩)

theorem wwasE (p m : Nat) (L : Lns) (tt nn : Int) (kk : Nat) (tx nx : Int) (hw : Wf L kk) (hk : kk ≤ 9000) (r : Option Dk) (hr : wasV L tx nx = r) : SpecS Try.prog 34 [.pointer (some ⟨p, 0, none⟩), .agg #[.int .i64 tx, .int .i64 nx]] [blk p [.pointer (some ⟨m, 0, none⟩), .int .i64 tt, .int .i64 nn] 85, mp (κ := Int) 124 128 3 m (psL L), lnA L, dkS L] (fun v H' => v = .tuple #[dkO r, .bool r.isSome] ∧ H' = [blk p [.pointer (some ⟨m, 0, none⟩), .int .i64 tt, .int .i64 nn] 85, mp (κ := Int) 124 128 3 m (psL L), lnA L, dkS L]) := by
  subst hr; exact wwas_ok p m L tt nn kk tx nx hw hk

theorem wnow_ok (p m : Nat) (L : Lns) (tt nn : Int) (kk : Nat) : SpecS Try.prog 11 [.pointer (some ⟨p, 0, none⟩)] [blk p [.pointer (some ⟨m, 0, none⟩), .int .i64 tt, .int .i64 nn] 85] (fun v H' => v = .tuple #[.int .i64 tt, .int .i64 nn] ∧ H' = [blk p [.pointer (some ⟨m, 0, none⟩), .int .i64 tt, .int .i64 nn] 85]) := by
  refine SpecS.enter Try.func11 rfl 16 rfl (Nat.le_of_ble_eq_true rfl) (fun o => ?_)
  refine SG.seq ?_
  refine SG.region ?_
  refine SL.val rfl rfl (fun w9 F9 S9 s => R.as rfl) ?_
  refine SL.val rfl rfl (fun w9 F9 S9 s => R.as rfl) ?_
  refine SL.nil ?_
  refine SN.seq ?_
  refine SG.seq ?_
  refine SG.seq ?_
  refine SG.region ?_
  refine SL.val rfl rfl (fun w9 F9 S9 s => R.mv rfl) ?_
  refine SL.val rfl rfl (fun w9 F9 S9 s => R.eqNilP rfl rfl) ?_
  refine SL.nil ?_
  refine SN.seq ?_
  refine SG.condF rfl ?_
  refine SG.skip ?_
  refine SN.seq ?_
  refine SG.seq ?_
  refine SG.draw [] [0, 1, 2, 3, 4, 5, 6, 7, 8, 9, 10, 11] (by decide +kernel) rfl ?_
  refine SW.pure rfl rfl rfl rfl (fun w9 => R.mv rfl) ?_
  refine SW.pure rfl rfl rfl rfl (fun w9 => R.nilChk rfl) ?_
  refine SW.pure rfl rfl rfl rfl (fun w9 => R.fld rfl) ?_
  refine SW.pure rfl rfl rfl rfl (fun w9 => R.fld rfl) ?_
  refine SW.read rfl rfl rfl rfl (fun w9 F9 S9 s => R.ldB rfl (s.cel (by repeat (first | exact SelB.blk | exact SelB.fz | apply SelB.there))) (by rfl)) ?_
  refine SW.pure rfl rfl rfl rfl (fun w9 => R.mv rfl) ?_
  refine SW.pure rfl rfl rfl rfl (fun w9 => R.nilChk rfl) ?_
  refine SW.pure rfl rfl rfl rfl (fun w9 => R.fld rfl) ?_
  refine SW.pure rfl rfl rfl rfl (fun w9 => R.fld rfl) ?_
  refine SW.read rfl rfl rfl rfl (fun w9 F9 S9 s => R.ldB rfl (s.cel (by repeat (first | exact SelB.blk | exact SelB.fz | apply SelB.there))) (by rfl)) ?_
  refine SW.pure rfl rfl rfl rfl (fun w9 => R.as rfl) ?_
  refine SW.pure rfl rfl rfl rfl (fun w9 => R.as rfl) ?_
  refine SW.nil ?_
  refine SN.seq ?_
  exact SG.ret2 rfl rfl rfl ((Imp.sels (by repeat (first | exact Sels.nil | apply Sels.cons | exact Sel.keep | exact Sel.here | apply Sel.there)))) (⟨rfl, rfl⟩)

theorem wdisk_ok (p m : Nat) (L : Lns) (tt nn : Int) (kk : Nat) (d : Dk) (hw : Wf L kk) (hk : kk ≤ 9000) (hd : wasV L tt nn = some d) : SpecS Try.prog 13 [.pointer (some ⟨p, 0, none⟩)] [blk p [.pointer (some ⟨m, 0, none⟩), .int .i64 tt, .int .i64 nn] 85, mp (κ := Int) 124 128 3 m (psL L), lnA L, dkS L] (fun v H' => v = .pointer (some ⟨d.b, 0, none⟩) ∧ H' = [blk p [.pointer (some ⟨m, 0, none⟩), .int .i64 tt, .int .i64 nn] 85, mp (κ := Int) 124 128 3 m (psL L), lnA L, dkS L]) := by
  refine SpecS.enter Try.func13 rfl 21 rfl (Nat.le_of_ble_eq_true rfl) (fun o => ?_)
  refine SG.seq ?_
  refine SG.region ?_
  refine SL.val rfl rfl (fun w9 F9 S9 s => R.as rfl) ?_
  refine SL.nil ?_
  refine SN.seq ?_
  refine SG.seq ?_
  refine SG.region ?_
  refine SL.val rfl rfl (fun w9 F9 S9 s => R.mv rfl) ?_
  refine SL.step rfl rfl (CS.call rfl go11 (wnow_ok p m L tt nn kk) (by repeat (first | exact Sels.nil | apply Sels.cons | exact Sel.keep | exact Sel.here | apply Sel.there))) ?_
  rintro _ _ ⟨_, ⟨rfl, rfl⟩, rfl⟩
  refine SL.n1 ?_
  refine SL.val rfl rfl (fun w9 F9 S9 s => R.mv rfl) ?_
  refine SL.val rfl rfl (fun w9 F9 S9 s => R.ext rfl rfl) ?_
  refine SL.val rfl rfl (fun w9 F9 S9 s => R.ext rfl rfl) ?_
  refine SL.val rfl rfl (fun w9 F9 S9 s => R.as rfl) ?_
  refine SL.val rfl rfl (fun w9 F9 S9 s => R.as rfl) ?_
  refine SL.nil ?_
  refine SN.seq ?_
  refine SG.seq ?_
  refine SG.region ?_
  refine SL.val rfl rfl (fun w9 F9 S9 s => R.mv rfl) ?_
  refine SL.val rfl rfl (fun w9 F9 S9 s => R.mv rfl) ?_
  refine SL.val rfl rfl (fun w9 F9 S9 s => R.mv rfl) ?_
  refine SL.val rfl rfl (fun w9 F9 S9 s => R.build rfl rfl) ?_
  refine SL.step rfl rfl (CS.call rfl go34 (wwasE p m L tt nn kk tt nn hw hk (some d) hd) (by repeat (first | exact Sels.nil | apply Sels.cons | exact Sel.keep | exact Sel.here | apply Sel.there))) ?_
  rintro _ _ ⟨_, ⟨rfl, rfl⟩, rfl⟩
  refine SL.n4 ?_
  refine SL.val rfl rfl (fun w9 F9 S9 s => R.mv rfl) ?_
  refine SL.val rfl rfl (fun w9 F9 S9 s => R.ext rfl rfl) ?_
  refine SL.val rfl rfl (fun w9 F9 S9 s => R.ext rfl rfl) ?_
  refine SL.val rfl rfl (fun w9 F9 S9 s => R.as rfl) ?_
  refine SL.val rfl rfl (fun w9 F9 S9 s => R.as rfl) ?_
  refine SL.nil ?_
  refine SN.seq ?_
  refine SG.seq ?_
  refine SG.region ?_
  refine SL.val rfl rfl (fun w9 F9 S9 s => R.mv rfl) ?_
  refine SL.val rfl rfl (fun w9 F9 S9 s => R.as rfl) ?_
  refine SL.nil ?_
  refine SN.seq ?_
  exact SG.ret1 rfl rfl ((Imp.sels (by repeat (first | exact Sels.nil | apply Sels.cons | exact Sel.keep | exact Sel.here | apply Sel.there)))) (⟨rfl, rfl⟩)

theorem wpar_ok (p m : Nat) (L : Lns) (tt nn : Int) (kk : Nat) (tx : Int) (hw : Wf L kk) (hk : kk ≤ 9000) : SpecS Try.prog 22 [.pointer (some ⟨p, 0, none⟩), .int .i64 tx] [blk p [.pointer (some ⟨m, 0, none⟩), .int .i64 tt, .int .i64 nn] 85, mp (κ := Int) 124 128 3 m (psL L), lnA L, dkS L] (fun v H' => v = parC (parV L tx) ∧ H' = [blk p [.pointer (some ⟨m, 0, none⟩), .int .i64 tt, .int .i64 nn] 85, mp (κ := Int) 124 128 3 m (psL L), lnA L, dkS L]) := by
  refine SpecS.enter Try.func22 rfl 34 rfl (Nat.le_of_ble_eq_true rfl) (fun o => ?_)
  refine SG.seq ?_
  refine SG.region ?_
  refine SL.val rfl rfl (fun w9 F9 S9 s => R.as rfl) ?_
  refine SL.val rfl rfl (fun w9 F9 S9 s => R.as rfl) ?_
  refine SL.val rfl rfl (fun w9 F9 S9 s => R.as rfl) ?_
  refine SL.nil ?_
  refine SN.seq ?_
  refine SG.seq ?_
  refine SG.seq ?_
  refine SG.region ?_
  refine SL.val rfl rfl (fun w9 F9 S9 s => R.mv rfl) ?_
  refine SL.val rfl rfl (fun w9 F9 S9 s => R.eqNilP rfl rfl) ?_
  refine SL.nil ?_
  refine SN.seq ?_
  refine SG.condF rfl ?_
  refine SG.skip ?_
  refine SN.seq ?_
  refine SG.seq ?_
  rcases hg : getT L tx with _ | x
  · refine SG.region ?_
    refine SL.val rfl rfl (fun w9 F9 S9 s => R.mv rfl) ?_
    refine SL.val rfl rfl (fun w9 F9 S9 s => R.nilChk rfl) ?_
    refine SL.val rfl rfl (fun w9 F9 S9 s => R.fld rfl) ?_
    refine SL.val rfl rfl (fun w9 F9 S9 s => R.ldB rfl (s.cel (by repeat (first | exact SelB.blk | exact SelB.fz | apply SelB.there))) (by rfl)) ?_
    refine SL.val rfl rfl (fun w9 F9 S9 s => R.mv rfl) ?_
    refine SL.step rfl rfl (CS.callR rfl go35 (fun w9 F9 S9 s => (s.mp (show Sel _ (mp (κ := Int) 124 128 3 m (psL L)) _ from (by repeat (first | exact Sel.keep | exact Sel.here | apply Sel.there)))).elim fun S9 h9 => lgetN m L tx S9 w9 h9 (by have := hw.len; omega) hg)) ?_
    rintro _ _ ⟨rfl, rfl⟩
    refine SL.val rfl rfl (fun w9 F9 S9 s => R.mv rfl) ?_
    refine SL.val rfl rfl (fun w9 F9 S9 s => R.ext rfl rfl) ?_
    refine SL.val rfl rfl (fun w9 F9 S9 s => R.ext rfl rfl) ?_
    refine SL.step rfl rfl (CS.alloc [.pointer none, .int .i64 0, .int .i64 0] rfl) ?_
    rintro _ _ ⟨b7, rfl, rfl⟩
    refine SL.step0 rfl (CS.stA (vs := [.pointer none, .int .i64 0, .int .i64 0]) rfl rfl (by repeat (first | exact Sel.keep | exact Sel.here | apply Sel.there)) (by rfl) (by rfl) (by intro u hu; simp only [List.mem_cons, List.not_mem_nil, or_false] at hu; rcases hu with rfl | rfl | rfl <;> rfl)) ?_
    rintro _ _ rfl
    refine SL.val rfl rfl (fun w9 F9 S9 s => R.as rfl) ?_
    refine SL.nil ?_
    refine SN.seq ?_
    refine SG.seq ?_
    refine SG.seq ?_
    refine SG.region ?_
    refine SL.val rfl rfl (fun w9 F9 S9 s => R.mv rfl) ?_
    refine SL.val rfl rfl (fun w9 F9 S9 s => R.not rfl) ?_
    refine SL.val rfl rfl (fun w9 F9 S9 s => R.mv rfl) ?_
    refine SL.isT 22 rfl (rfl) ?_
    refine SL.pass rfl rfl ?_
    refine SL.pass rfl rfl ?_
    refine SL.pass rfl rfl ?_
    refine SL.pass rfl rfl ?_
    first | refine SL.val rfl rfl (fun w9 F9 S9 s => R.pickT rfl rfl) ?_ | refine SL.val rfl rfl (fun w9 F9 S9 s => R.pickF rfl rfl) ?_
    refine SL.nil ?_
    refine SN.seq ?_
    refine SG.condT rfl ?_
    refine SG.seq ?_
    refine SG.region ?_
    refine SL.val rfl rfl (fun w9 F9 S9 s => R.as rfl) ?_
    refine SL.val rfl rfl (fun w9 F9 S9 s => R.as rfl) ?_
    refine SL.val rfl rfl (fun w9 F9 S9 s => R.as rfl) ?_
    refine SL.nil ?_
    refine SN.seq ?_
    exact SG.ret3 rfl rfl rfl rfl ((Imp.sels (by repeat (first | exact Sels.nil | apply Sels.cons | exact Sel.keep | exact Sel.here | apply Sel.there)))) (⟨by rw [par_no hg]; rfl, rfl⟩)
  · refine SG.region ?_
    refine SL.val rfl rfl (fun w9 F9 S9 s => R.mv rfl) ?_
    refine SL.val rfl rfl (fun w9 F9 S9 s => R.nilChk rfl) ?_
    refine SL.val rfl rfl (fun w9 F9 S9 s => R.fld rfl) ?_
    refine SL.val rfl rfl (fun w9 F9 S9 s => R.ldB rfl (s.cel (by repeat (first | exact SelB.blk | exact SelB.fz | apply SelB.there))) (by rfl)) ?_
    refine SL.val rfl rfl (fun w9 F9 S9 s => R.mv rfl) ?_
    refine SL.step rfl rfl (CS.callR rfl go35 (fun w9 F9 S9 s => (s.mp (show Sel _ (mp (κ := Int) 124 128 3 m (psL L)) _ from (by repeat (first | exact Sel.keep | exact Sel.here | apply Sel.there)))).elim fun S9 h9 => lgetS m L tx x S9 w9 h9 (by have := hw.len; omega) hg)) ?_
    rintro _ _ ⟨rfl, rfl⟩
    refine SL.val rfl rfl (fun w9 F9 S9 s => R.mv rfl) ?_
    refine SL.val rfl rfl (fun w9 F9 S9 s => R.ext rfl rfl) ?_
    refine SL.val rfl rfl (fun w9 F9 S9 s => R.ext rfl rfl) ?_
    refine SL.step rfl rfl (CS.alloc [.pointer none, .int .i64 0, .int .i64 0] rfl) ?_
    rintro _ _ ⟨b7, rfl, rfl⟩
    refine SL.step0 rfl (CS.stA (vs := lnC x) rfl rfl (by repeat (first | exact Sel.keep | exact Sel.here | apply Sel.there)) (by rfl) (by rfl) (lnC_one x)) ?_
    rintro _ _ rfl
    refine SL.val rfl rfl (fun w9 F9 S9 s => R.as rfl) ?_
    refine SL.nil ?_
    refine SN.seq ?_
    refine SG.seq ?_
    refine SG.seq ?_
    refine SG.region ?_
    refine SL.val rfl rfl (fun w9 F9 S9 s => R.mv rfl) ?_
    refine SL.val rfl rfl (fun w9 F9 S9 s => R.not rfl) ?_
    refine SL.val rfl rfl (fun w9 F9 S9 s => R.mv rfl) ?_
    refine SL.isF 22 rfl (rfl) ?_
    refine SL.val rfl rfl (fun w9 F9 S9 s => R.fld rfl) ?_
    refine SL.val rfl rfl (fun w9 F9 S9 s => R.fld rfl) ?_
    refine SL.val rfl rfl (fun w9 F9 S9 s => R.ldB (v := .int .i64 x.pt) rfl (s.cel (by repeat (first | exact SelB.blk | exact SelB.fz | apply SelB.there))) (by rfl)) ?_
    refine SL.val rfl rfl (fun w9 F9 S9 s => R.eqI rfl rfl) ?_
    first | refine SL.val rfl rfl (fun w9 F9 S9 s => R.pickT rfl rfl) ?_ | refine SL.val rfl rfl (fun w9 F9 S9 s => R.pickF rfl rfl) ?_
    refine SL.nil ?_
    refine SN.seq ?_
    refine SG.condP rfl (fun h1 => ?_) (fun h1 => ?_)
    · refine SG.seq ?_
      refine SG.region ?_
      refine SL.val rfl rfl (fun w9 F9 S9 s => R.as rfl) ?_
      refine SL.val rfl rfl (fun w9 F9 S9 s => R.as rfl) ?_
      refine SL.val rfl rfl (fun w9 F9 S9 s => R.as rfl) ?_
      refine SL.nil ?_
      refine SN.seq ?_
      exact SG.ret3 rfl rfl rfl rfl ((Imp.sels (by repeat (first | exact Sels.nil | apply Sels.cons | exact Sel.keep | exact Sel.here | apply Sel.there)))) (⟨by rw [par_z hg h1]; rfl, rfl⟩)
    · refine SG.skip ?_
      refine SN.seq ?_
      refine SG.seq ?_
      refine SG.draw [] [0, 1, 2, 3, 4, 5, 6, 7, 8] (by decide +kernel) rfl ?_
      refine SW.pure rfl rfl rfl rfl (fun w9 => R.fld rfl) ?_
      refine SW.pure rfl rfl rfl rfl (fun w9 => R.fld rfl) ?_
      refine SW.read rfl rfl rfl rfl (fun w9 F9 S9 s => R.ldB (v := .int .i64 x.pt) rfl (s.cel (by repeat (first | exact SelB.blk | exact SelB.fz | apply SelB.there))) (by rfl)) ?_
      refine SW.pure rfl rfl rfl rfl (fun w9 => R.fld rfl) ?_
      refine SW.pure rfl rfl rfl rfl (fun w9 => R.fld rfl) ?_
      refine SW.read rfl rfl rfl rfl (fun w9 F9 S9 s => R.ldB (v := .int .i64 x.pn) rfl (s.cel (by repeat (first | exact SelB.blk | exact SelB.fz | apply SelB.there))) (by rfl)) ?_
      refine SW.pure rfl rfl rfl rfl (fun w9 => R.as rfl) ?_
      refine SW.pure rfl rfl rfl rfl (fun w9 => R.as rfl) ?_
      refine SW.pure rfl rfl rfl rfl (fun w9 => R.as rfl) ?_
      refine SW.nil ?_
      refine SN.seq ?_
      exact SG.ret3 rfl rfl rfl rfl ((Imp.sels (by repeat (first | exact Sels.nil | apply Sels.cons | exact Sel.keep | exact Sel.here | apply Sel.there)))) (⟨by rw [par_so hg h1]; rfl, rfl⟩)

theorem wparE (p m : Nat) (L : Lns) (tt nn : Int) (kk : Nat) (tx : Int) (hw : Wf L kk) (hk : kk ≤ 9000) (r : Option (Int × Int)) (hr : parV L tx = r) : SpecS Try.prog 22 [.pointer (some ⟨p, 0, none⟩), .int .i64 tx] [blk p [.pointer (some ⟨m, 0, none⟩), .int .i64 tt, .int .i64 nn] 85, mp (κ := Int) 124 128 3 m (psL L), lnA L, dkS L] (fun v H' => v = parC r ∧ H' = [blk p [.pointer (some ⟨m, 0, none⟩), .int .i64 tt, .int .i64 nn] 85, mp (κ := Int) 124 128 3 m (psL L), lnA L, dkS L]) := by
  subst hr; exact wpar_ok p m L tt nn kk tx hw hk

theorem wwas_nil (tx nx ux : Int) : SpecS Try.prog 34 [.pointer none, .agg #[.int .i64 tx, .int .i64 nx]] [] (fun v H' => v = .tuple #[.pointer none, .bool false] ∧ H' = []) := by
  refine SpecS.enter Try.func34 rfl 29 rfl (Nat.le_of_ble_eq_true rfl) (fun o => ?_)
  refine SG.seq ?_
  refine SG.region ?_
  refine SL.step rfl rfl (CS.boxA rfl) ?_
  rintro _ _ ⟨b3, rfl, rfl⟩
  refine SL.val rfl rfl (fun w9 F9 S9 s => R.as rfl) ?_
  refine SL.val rfl rfl (fun w9 F9 S9 s => R.as rfl) ?_
  refine SL.nil ?_
  refine SN.seq ?_
  refine SG.seq ?_
  refine SG.seq ?_
  refine SG.region ?_
  refine SL.val rfl rfl (fun w9 F9 S9 s => R.mv rfl) ?_
  refine SL.val rfl rfl (fun w9 F9 S9 s => R.eqNilP rfl rfl) ?_
  refine SL.nil ?_
  refine SN.seq ?_
  refine SG.condT rfl ?_
  refine SG.seq ?_
  refine SG.region ?_
  refine SL.val rfl rfl (fun w9 F9 S9 s => R.as rfl) ?_
  refine SL.val rfl rfl (fun w9 F9 S9 s => R.as rfl) ?_
  refine SL.nil ?_
  refine SN.seq ?_
  exact SG.ret2 rfl rfl rfl ((Imp.sels (by repeat (first | exact Sels.nil | apply Sels.cons | exact Sel.keep | exact Sel.here | apply Sel.there)))) (⟨rfl, rfl⟩)

theorem wnow_nil (tx nx ux : Int) : SpecS Try.prog 11 [.pointer none] [] (fun v H' => v = .tuple #[.int .i64 0, .int .i64 0] ∧ H' = []) := by
  refine SpecS.enter Try.func11 rfl 16 rfl (Nat.le_of_ble_eq_true rfl) (fun o => ?_)
  refine SG.seq ?_
  refine SG.region ?_
  refine SL.val rfl rfl (fun w9 F9 S9 s => R.as rfl) ?_
  refine SL.val rfl rfl (fun w9 F9 S9 s => R.as rfl) ?_
  refine SL.nil ?_
  refine SN.seq ?_
  refine SG.seq ?_
  refine SG.seq ?_
  refine SG.region ?_
  refine SL.val rfl rfl (fun w9 F9 S9 s => R.mv rfl) ?_
  refine SL.val rfl rfl (fun w9 F9 S9 s => R.eqNilP rfl rfl) ?_
  refine SL.nil ?_
  refine SN.seq ?_
  refine SG.condT rfl ?_
  refine SG.seq ?_
  refine SG.region ?_
  refine SL.val rfl rfl (fun w9 F9 S9 s => R.as rfl) ?_
  refine SL.val rfl rfl (fun w9 F9 S9 s => R.as rfl) ?_
  refine SL.nil ?_
  refine SN.seq ?_
  exact SG.ret2 rfl rfl rfl ((Imp.sels (by repeat (first | exact Sels.nil | apply Sels.cons | exact Sel.keep | exact Sel.here | apply Sel.there)))) (⟨rfl, rfl⟩)

theorem wpar_nil (tx nx ux : Int) : SpecS Try.prog 22 [.pointer none, .int .i64 tx] [] (fun v H' => v = .tuple #[.int .i64 0, .int .i64 0, .bool false] ∧ H' = []) := by
  refine SpecS.enter Try.func22 rfl 34 rfl (Nat.le_of_ble_eq_true rfl) (fun o => ?_)
  refine SG.seq ?_
  refine SG.region ?_
  refine SL.val rfl rfl (fun w9 F9 S9 s => R.as rfl) ?_
  refine SL.val rfl rfl (fun w9 F9 S9 s => R.as rfl) ?_
  refine SL.val rfl rfl (fun w9 F9 S9 s => R.as rfl) ?_
  refine SL.nil ?_
  refine SN.seq ?_
  refine SG.seq ?_
  refine SG.seq ?_
  refine SG.region ?_
  refine SL.val rfl rfl (fun w9 F9 S9 s => R.mv rfl) ?_
  refine SL.val rfl rfl (fun w9 F9 S9 s => R.eqNilP rfl rfl) ?_
  refine SL.nil ?_
  refine SN.seq ?_
  refine SG.condT rfl ?_
  refine SG.seq ?_
  refine SG.region ?_
  refine SL.val rfl rfl (fun w9 F9 S9 s => R.as rfl) ?_
  refine SL.val rfl rfl (fun w9 F9 S9 s => R.as rfl) ?_
  refine SL.val rfl rfl (fun w9 F9 S9 s => R.as rfl) ?_
  refine SL.nil ?_
  refine SN.seq ?_
  exact SG.ret3 rfl rfl rfl rfl ((Imp.sels (by repeat (first | exact Sels.nil | apply Sels.cons | exact Sel.keep | exact Sel.here | apply Sel.there)))) (⟨rfl, rfl⟩)

theorem wcom_nil (tx nx ux : Int) : SpecS Try.prog 8 [.pointer none, .slice none 0 0] [] (fun v H' => v = .tuple #[.int .i64 0, .int .i64 1] ∧ H' = []) := by
  refine SpecS.enter Try.func8 rfl 69 rfl (Nat.le_of_ble_eq_true rfl) (fun o => ?_)
  refine SG.seq ?_
  refine SG.region ?_
  refine SL.val rfl rfl (fun w9 F9 S9 s => R.as rfl) ?_
  refine SL.val rfl rfl (fun w9 F9 S9 s => R.as rfl) ?_
  refine SL.nil ?_
  refine SN.seq ?_
  refine SG.seq ?_
  refine SG.seq ?_
  refine SG.region ?_
  refine SL.val rfl rfl (fun w9 F9 S9 s => R.mv rfl) ?_
  refine SL.val rfl rfl (fun w9 F9 S9 s => R.eqNilP rfl rfl) ?_
  refine SL.nil ?_
  refine SN.seq ?_
  refine SG.condT rfl ?_
  refine SG.seq ?_
  refine SG.region ?_
  refine SL.val rfl rfl (fun w9 F9 S9 s => R.as rfl) ?_
  refine SL.val rfl rfl (fun w9 F9 S9 s => R.as rfl) ?_
  refine SL.nil ?_
  refine SN.seq ?_
  exact SG.ret2 rfl rfl rfl ((Imp.sels (by repeat (first | exact Sels.nil | apply Sels.cons | exact Sel.keep | exact Sel.here | apply Sel.there)))) (⟨rfl, rfl⟩)

theorem wbra_nil (tx nx ux : Int) : SpecS Try.prog 9 [.pointer none, .int .i64 tx, .int .i64 nx, .int .i64 ux] [] (fun v H' => v = .int .i64 1 ∧ H' = []) := by
  refine SpecS.enter Try.func9 rfl 56 rfl (Nat.le_of_ble_eq_true rfl) (fun o => ?_)
  refine SG.seq ?_
  refine SG.region ?_
  refine SL.val rfl rfl (fun w9 F9 S9 s => R.as rfl) ?_
  refine SL.nil ?_
  refine SN.seq ?_
  refine SG.seq ?_
  refine SG.seq ?_
  refine SG.region ?_
  refine SL.val rfl rfl (fun w9 F9 S9 s => R.mv rfl) ?_
  refine SL.val rfl rfl (fun w9 F9 S9 s => R.eqNilP rfl rfl) ?_
  refine SL.nil ?_
  refine SN.seq ?_
  refine SG.condT rfl ?_
  refine SG.seq ?_
  refine SG.region ?_
  refine SL.val rfl rfl (fun w9 F9 S9 s => R.as rfl) ?_
  refine SL.nil ?_
  refine SN.seq ?_
  exact SG.ret1 rfl rfl ((Imp.sels (by repeat (first | exact Sels.nil | apply Sels.cons | exact Sel.keep | exact Sel.here | apply Sel.there)))) (⟨rfl, rfl⟩)

theorem wjmp_nil (tx nx ux : Int) : SpecS Try.prog 10 [.pointer none, .int .i64 tx, .int .i64 nx] [] (fun v H' => v = .int .i64 1 ∧ H' = []) := by
  refine SpecS.enter Try.func10 rfl 27 rfl (Nat.le_of_ble_eq_true rfl) (fun o => ?_)
  refine SG.seq ?_
  refine SG.region ?_
  refine SL.val rfl rfl (fun w9 F9 S9 s => R.as rfl) ?_
  refine SL.nil ?_
  refine SN.seq ?_
  refine SG.seq ?_
  refine SG.seq ?_
  refine SG.region ?_
  refine SL.val rfl rfl (fun w9 F9 S9 s => R.mv rfl) ?_
  refine SL.val rfl rfl (fun w9 F9 S9 s => R.eqNilP rfl rfl) ?_
  refine SL.nil ?_
  refine SN.seq ?_
  refine SG.condT rfl ?_
  refine SG.seq ?_
  refine SG.region ?_
  refine SL.val rfl rfl (fun w9 F9 S9 s => R.as rfl) ?_
  refine SL.nil ?_
  refine SN.seq ?_
  exact SG.ret1 rfl rfl ((Imp.sels (by repeat (first | exact Sels.nil | apply Sels.cons | exact Sel.keep | exact Sel.here | apply Sel.there)))) (⟨rfl, rfl⟩)

theorem wclo_nil (tx nx ux : Int) : SpecS Try.prog 16 [.pointer none] [] (fun v H' => v = .pointer none ∧ H' = []) := by
  refine SpecS.enter Try.func16 rfl 35 rfl (Nat.le_of_ble_eq_true rfl) (fun o => ?_)
  refine SG.seq ?_
  refine SG.region ?_
  refine SL.val rfl rfl (fun w9 F9 S9 s => R.as rfl) ?_
  refine SL.nil ?_
  refine SN.seq ?_
  refine SG.seq ?_
  refine SG.seq ?_
  refine SG.region ?_
  refine SL.val rfl rfl (fun w9 F9 S9 s => R.mv rfl) ?_
  refine SL.val rfl rfl (fun w9 F9 S9 s => R.eqNilP rfl rfl) ?_
  refine SL.nil ?_
  refine SN.seq ?_
  refine SG.condT rfl ?_
  refine SG.seq ?_
  refine SG.region ?_
  refine SL.val rfl rfl (fun w9 F9 S9 s => R.as rfl) ?_
  refine SL.nil ?_
  refine SN.seq ?_
  exact SG.ret1 rfl rfl ((Imp.sels (by repeat (first | exact Sels.nil | apply Sels.cons | exact Sel.keep | exact Sel.here | apply Sel.there)))) (⟨rfl, rfl⟩)

theorem wdis_nil  : SpecS Try.prog 13 [.pointer none] [] (fun v H' => v = .pointer none ∧ H' = []) := by
  refine SpecS.enter Try.func13 rfl 21 rfl (Nat.le_of_ble_eq_true rfl) (fun o => ?_)
  refine SG.seq ?_
  refine SG.region ?_
  refine SL.val rfl rfl (fun w9 F9 S9 s => R.as rfl) ?_
  refine SL.nil ?_
  refine SN.seq ?_
  refine SG.seq ?_
  refine SG.region ?_
  refine SL.val rfl rfl (fun w9 F9 S9 s => R.mv rfl) ?_
  refine SL.step rfl rfl (CS.call rfl go11 (wnow_nil 0 0 0) (by repeat (first | exact Sels.nil | apply Sels.cons | exact Sel.keep | exact Sel.here | apply Sel.there))) ?_
  rintro _ _ ⟨_, ⟨rfl, rfl⟩, rfl⟩
  refine SL.n0 ?_
  refine SL.val rfl rfl (fun w9 F9 S9 s => R.mv rfl) ?_
  refine SL.val rfl rfl (fun w9 F9 S9 s => R.ext rfl rfl) ?_
  refine SL.val rfl rfl (fun w9 F9 S9 s => R.ext rfl rfl) ?_
  refine SL.val rfl rfl (fun w9 F9 S9 s => R.as rfl) ?_
  refine SL.val rfl rfl (fun w9 F9 S9 s => R.as rfl) ?_
  refine SL.nil ?_
  refine SN.seq ?_
  refine SG.seq ?_
  refine SG.region ?_
  refine SL.val rfl rfl (fun w9 F9 S9 s => R.mv rfl) ?_
  refine SL.val rfl rfl (fun w9 F9 S9 s => R.mv rfl) ?_
  refine SL.val rfl rfl (fun w9 F9 S9 s => R.mv rfl) ?_
  refine SL.val rfl rfl (fun w9 F9 S9 s => R.build rfl rfl) ?_
  refine SL.step rfl rfl (CS.call rfl go34 (wwas_nil 0 0 0) (by repeat (first | exact Sels.nil | apply Sels.cons | exact Sel.keep | exact Sel.here | apply Sel.there))) ?_
  rintro _ _ ⟨_, ⟨rfl, rfl⟩, rfl⟩
  refine SL.n0 ?_
  refine SL.val rfl rfl (fun w9 F9 S9 s => R.mv rfl) ?_
  refine SL.val rfl rfl (fun w9 F9 S9 s => R.ext rfl rfl) ?_
  refine SL.val rfl rfl (fun w9 F9 S9 s => R.ext rfl rfl) ?_
  refine SL.val rfl rfl (fun w9 F9 S9 s => R.as rfl) ?_
  refine SL.val rfl rfl (fun w9 F9 S9 s => R.as rfl) ?_
  refine SL.nil ?_
  refine SN.seq ?_
  refine SG.seq ?_
  refine SG.region ?_
  refine SL.val rfl rfl (fun w9 F9 S9 s => R.mv rfl) ?_
  refine SL.val rfl rfl (fun w9 F9 S9 s => R.as rfl) ?_
  refine SL.nil ?_
  refine SN.seq ?_
  exact SG.ret1 rfl rfl ((Imp.sels (by repeat (first | exact Sels.nil | apply Sels.cons | exact Sel.keep | exact Sel.here | apply Sel.there)))) (⟨rfl, rfl⟩)

theorem wat_nil (tx nx : Int) : SpecS Try.prog 14 [.pointer none, .int .i64 tx, .int .i64 nx] [] (fun v H' => v = .tuple #[.pointer none, .bool false] ∧ H' = []) := by
  refine SpecS.enter Try.func14 rfl 38 rfl (Nat.le_of_ble_eq_true rfl) (fun o => ?_)
  refine SG.seq ?_
  refine SG.region ?_
  refine SL.val rfl rfl (fun w9 F9 S9 s => R.as rfl) ?_
  refine SL.val rfl rfl (fun w9 F9 S9 s => R.as rfl) ?_
  refine SL.nil ?_
  refine SN.seq ?_
  refine SG.block ?_
  refine SG.loop (X := Unit) (fun y => [(0, .pointer none), (1, .int .i64 tx), (2, .int .i64 nx)]) (fun y => []) (fun y => True) (fun y => 0) (()) (Sub.cons rfl (Sub.cons rfl (Sub.cons rfl (Sub.nil _)))) ((Imp.sels (by repeat (first | exact Sels.nil | apply Sels.cons | exact Sel.keep | exact Sel.here | apply Sel.there)))) (trivial) ?_
  rintro _ _
  show SG _ _ _ _ _ [(0, .pointer none), (1, .int .i64 tx), (2, .int .i64 nx)] [] _
  refine SG.block ?_
  refine SG.seq ?_
  refine SG.seq ?_
  refine SG.region ?_
  refine SL.val rfl rfl (fun w9 F9 S9 s => R.mv rfl) ?_
  refine SL.val rfl rfl (fun w9 F9 S9 s => R.mv rfl) ?_
  refine SL.val rfl rfl (fun w9 F9 S9 s => R.mv rfl) ?_
  refine SL.val rfl rfl (fun w9 F9 S9 s => R.build rfl rfl) ?_
  refine SL.step rfl rfl (CS.call rfl go34 (wwas_nil tx nx 0) (by repeat (first | exact Sels.nil | apply Sels.cons | exact Sel.keep | exact Sel.here | apply Sel.there))) ?_
  rintro _ _ ⟨_, ⟨rfl, rfl⟩, rfl⟩
  refine SL.n0 ?_
  refine SL.val rfl rfl (fun w9 F9 S9 s => R.mv rfl) ?_
  refine SL.val rfl rfl (fun w9 F9 S9 s => R.ext rfl rfl) ?_
  refine SL.val rfl rfl (fun w9 F9 S9 s => R.ext rfl rfl) ?_
  refine SL.val rfl rfl (fun w9 F9 S9 s => R.as rfl) ?_
  refine SL.val rfl rfl (fun w9 F9 S9 s => R.as rfl) ?_
  refine SL.nil ?_
  refine SN.seq ?_
  refine SG.seq ?_
  refine SG.region ?_
  refine SL.val rfl rfl (fun w9 F9 S9 s => R.mv rfl) ?_
  refine SL.nil ?_
  refine SN.seq ?_
  refine SG.condF rfl ?_
  refine SG.skip ?_
  refine SN.seq ?_
  refine SG.seq ?_
  refine SG.region ?_
  refine SL.val rfl rfl (fun w9 F9 S9 s => R.mv rfl) ?_
  refine SL.val rfl rfl (fun w9 F9 S9 s => R.mv rfl) ?_
  refine SL.step rfl rfl (CS.call rfl go22 (wpar_nil tx 0 0) (by repeat (first | exact Sels.nil | apply Sels.cons | exact Sel.keep | exact Sel.here | apply Sel.there))) ?_
  rintro _ _ ⟨_, ⟨rfl, rfl⟩, rfl⟩
  refine SL.n0 ?_
  refine SL.val rfl rfl (fun w9 F9 S9 s => R.mv rfl) ?_
  refine SL.val rfl rfl (fun w9 F9 S9 s => R.ext rfl rfl) ?_
  refine SL.val rfl rfl (fun w9 F9 S9 s => R.ext rfl rfl) ?_
  refine SL.val rfl rfl (fun w9 F9 S9 s => R.ext rfl rfl) ?_
  refine SL.val rfl rfl (fun w9 F9 S9 s => R.as rfl) ?_
  refine SL.val rfl rfl (fun w9 F9 S9 s => R.as rfl) ?_
  refine SL.val rfl rfl (fun w9 F9 S9 s => R.as rfl) ?_
  refine SL.nil ?_
  refine SN.seq ?_
  refine SG.seq ?_
  refine SG.seq ?_
  refine SG.region ?_
  refine SL.val rfl rfl (fun w9 F9 S9 s => R.mv rfl) ?_
  refine SL.val rfl rfl (fun w9 F9 S9 s => R.not rfl) ?_
  refine SL.val rfl rfl (fun w9 F9 S9 s => R.mv rfl) ?_
  refine SL.isT 32 rfl (rfl) ?_
  refine SL.pass rfl rfl ?_
  refine SL.pass rfl rfl ?_
  refine SL.pass rfl rfl ?_
  first | refine SL.val rfl rfl (fun w9 F9 S9 s => R.pickT rfl rfl) ?_ | refine SL.val rfl rfl (fun w9 F9 S9 s => R.pickF rfl rfl) ?_
  refine SL.nil ?_
  refine SN.seq ?_
  refine SG.condT rfl ?_
  refine SG.seq ?_
  refine SG.region ?_
  refine SL.val rfl rfl (fun w9 F9 S9 s => R.as rfl) ?_
  refine SL.val rfl rfl (fun w9 F9 S9 s => R.as rfl) ?_
  refine SL.nil ?_
  refine SN.seq ?_
  exact SG.ret2 rfl rfl rfl ((Imp.sels (by repeat (first | exact Sels.nil | apply Sels.cons | exact Sel.keep | exact Sel.here | apply Sel.there)))) (⟨rfl, rfl⟩)

end Go.Proofs.Ythdaelmjiaegfaa
/-
  The walks of package model.
-/
set_option linter.unusedVariables false
set_option linter.unusedSimpArgs false
set_option maxRecDepth 4000
namespace Go.Proofs.Ythdaelmjiaegfaa
open Go Brv Brv.Image Brv.Model
theorem wat_ok (p m : Nat) (L : Lns) (tt nn : Int) (kk : Nat) (tx nx : Int) (hw : Wf L kk) (hk : kk ≤ 9000) : SpecS Try.prog 14 [.pointer (some ⟨p, 0, none⟩), .int .i64 tx, .int .i64 nx] [blk p [.pointer (some ⟨m, 0, none⟩), .int .i64 tt, .int .i64 nn] 85, mp (κ := Int) 124 128 3 m (psL L), lnA L, dkS L] (fun v H' => ∃ r, AtR (wasV L) (parV L) nx tx r ∧ v = .tuple #[dkO r, .bool r.isSome] ∧ H' = [blk p [.pointer (some ⟨m, 0, none⟩), .int .i64 tt, .int .i64 nn] 85, mp (κ := Int) 124 128 3 m (psL L), lnA L, dkS L]) := by
  refine SpecS.enter Try.func14 rfl 38 rfl (Nat.le_of_ble_eq_true rfl) (fun o => ?_)
  obtain ⟨rk, hrk⟩ := hw.rk
  refine SG.seq ?_
  refine SG.region ?_
  refine SL.val rfl rfl (fun w9 F9 S9 s => R.as rfl) ?_
  refine SL.val rfl rfl (fun w9 F9 S9 s => R.as rfl) ?_
  refine SL.nil ?_
  refine SN.seq ?_
  refine SG.block ?_
  refine SG.loop (X := Int) (fun y => [(0, .pointer (some ⟨p, 0, none⟩)), (1, .int .i64 y), (2, .int .i64 nx)]) (fun y => [blk p [.pointer (some ⟨m, 0, none⟩), .int .i64 tt, .int .i64 nn] 85, mp (κ := Int) 124 128 3 m (psL L), lnA L, dkS L]) (fun y => ∀ r, AtR (wasV L) (parV L) nx y r → AtR (wasV L) (parV L) nx tx r) (fun y => rk y) (tx) (Sub.cons rfl (Sub.cons rfl (Sub.cons rfl (Sub.nil _)))) ((Imp.sels (by repeat (first | exact Sels.nil | apply Sels.cons | exact Sel.keep | exact Sel.here | apply Sel.there)))) (fun r h => h) ?_
  intro y hy
  show SG _ _ _ _ _ [(0, .pointer (some ⟨p, 0, none⟩)), (1, .int .i64 y), (2, .int .i64 nx)] [blk p [.pointer (some ⟨m, 0, none⟩), .int .i64 tt, .int .i64 nn] 85, mp (κ := Int) 124 128 3 m (psL L), lnA L, dkS L] _
  refine SG.block ?_
  refine SG.seq ?_
  refine SG.seq ?_
  rcases hg : wasV L y nx with _ | d
  · refine SG.region ?_
    refine SL.val rfl rfl (fun w9 F9 S9 s => R.mv rfl) ?_
    refine SL.val rfl rfl (fun w9 F9 S9 s => R.mv rfl) ?_
    refine SL.val rfl rfl (fun w9 F9 S9 s => R.mv rfl) ?_
    refine SL.val rfl rfl (fun w9 F9 S9 s => R.build rfl rfl) ?_
    refine SL.step rfl rfl (CS.call rfl go34 (wwasE p m L tt nn kk y nx hw hk none hg) (by repeat (first | exact Sels.nil | apply Sels.cons | exact Sel.keep | exact Sel.here | apply Sel.there))) ?_
    rintro _ _ ⟨_, ⟨rfl, rfl⟩, rfl⟩
    refine SL.n4 ?_
    refine SL.val rfl rfl (fun w9 F9 S9 s => R.mv rfl) ?_
    refine SL.val rfl rfl (fun w9 F9 S9 s => R.ext rfl rfl) ?_
    refine SL.val rfl rfl (fun w9 F9 S9 s => R.ext rfl rfl) ?_
    refine SL.val rfl rfl (fun w9 F9 S9 s => R.as rfl) ?_
    refine SL.val rfl rfl (fun w9 F9 S9 s => R.as rfl) ?_
    refine SL.nil ?_
    refine SN.seq ?_
    refine SG.seq ?_
    refine SG.region ?_
    refine SL.val rfl rfl (fun w9 F9 S9 s => R.mv rfl) ?_
    refine SL.nil ?_
    refine SN.seq ?_
    refine SG.condF rfl ?_
    refine SG.skip ?_
    refine SN.seq ?_
    refine SG.seq ?_
    rcases hp : parV L y with _ | q
    · refine SG.region ?_
      refine SL.val rfl rfl (fun w9 F9 S9 s => R.mv rfl) ?_
      refine SL.val rfl rfl (fun w9 F9 S9 s => R.mv rfl) ?_
      refine SL.step rfl rfl (CS.call rfl go22 (wparE p m L tt nn kk y hw hk none hp) (by repeat (first | exact Sels.nil | apply Sels.cons | exact Sel.keep | exact Sel.here | apply Sel.there))) ?_
      rintro _ _ ⟨_, ⟨rfl, rfl⟩, rfl⟩
      refine SL.n4 ?_
      refine SL.val rfl rfl (fun w9 F9 S9 s => R.mv rfl) ?_
      refine SL.val rfl rfl (fun w9 F9 S9 s => R.ext rfl rfl) ?_
      refine SL.val rfl rfl (fun w9 F9 S9 s => R.ext rfl rfl) ?_
      refine SL.val rfl rfl (fun w9 F9 S9 s => R.ext rfl rfl) ?_
      refine SL.val rfl rfl (fun w9 F9 S9 s => R.as rfl) ?_
      refine SL.val rfl rfl (fun w9 F9 S9 s => R.as rfl) ?_
      refine SL.val rfl rfl (fun w9 F9 S9 s => R.as rfl) ?_
      refine SL.nil ?_
      refine SN.seq ?_
      refine SG.seq ?_
      refine SG.seq ?_
      refine SG.region ?_
      refine SL.val rfl rfl (fun w9 F9 S9 s => R.mv rfl) ?_
      refine SL.val rfl rfl (fun w9 F9 S9 s => R.not rfl) ?_
      refine SL.val rfl rfl (fun w9 F9 S9 s => R.mv rfl) ?_
      refine SL.isT 32 rfl (rfl) ?_
      refine SL.pass rfl rfl ?_
      refine SL.pass rfl rfl ?_
      refine SL.pass rfl rfl ?_
      first | refine SL.val rfl rfl (fun w9 F9 S9 s => R.pickT rfl rfl) ?_ | refine SL.val rfl rfl (fun w9 F9 S9 s => R.pickF rfl rfl) ?_
      refine SL.nil ?_
      refine SN.seq ?_
      refine SG.condT rfl ?_
      refine SG.seq ?_
      refine SG.region ?_
      refine SL.val rfl rfl (fun w9 F9 S9 s => R.as rfl) ?_
      refine SL.val rfl rfl (fun w9 F9 S9 s => R.as rfl) ?_
      refine SL.nil ?_
      refine SN.seq ?_
      exact SG.ret2 rfl rfl rfl ((Imp.sels (by repeat (first | exact Sels.nil | apply Sels.cons | exact Sel.keep | exact Sel.here | apply Sel.there)))) (⟨_, hy _ (.root hg hp), rfl, rfl⟩)
    · refine SG.region ?_
      refine SL.val rfl rfl (fun w9 F9 S9 s => R.mv rfl) ?_
      refine SL.val rfl rfl (fun w9 F9 S9 s => R.mv rfl) ?_
      refine SL.step rfl rfl (CS.call rfl go22 (wparE p m L tt nn kk y hw hk (some q) hp) (by repeat (first | exact Sels.nil | apply Sels.cons | exact Sel.keep | exact Sel.here | apply Sel.there))) ?_
      rintro _ _ ⟨_, ⟨rfl, rfl⟩, rfl⟩
      refine SL.n4 ?_
      refine SL.val rfl rfl (fun w9 F9 S9 s => R.mv rfl) ?_
      refine SL.val rfl rfl (fun w9 F9 S9 s => R.ext rfl rfl) ?_
      refine SL.val rfl rfl (fun w9 F9 S9 s => R.ext rfl rfl) ?_
      refine SL.val rfl rfl (fun w9 F9 S9 s => R.ext rfl rfl) ?_
      refine SL.val rfl rfl (fun w9 F9 S9 s => R.as rfl) ?_
      refine SL.val rfl rfl (fun w9 F9 S9 s => R.as rfl) ?_
      refine SL.val rfl rfl (fun w9 F9 S9 s => R.as rfl) ?_
      refine SL.nil ?_
      refine SN.seq ?_
      refine SG.seq ?_
      refine SG.seq ?_
      refine SG.region ?_
      refine SL.val rfl rfl (fun w9 F9 S9 s => R.mv rfl) ?_
      refine SL.val rfl rfl (fun w9 F9 S9 s => R.not rfl) ?_
      refine SL.val rfl rfl (fun w9 F9 S9 s => R.mv rfl) ?_
      refine SL.isF 32 rfl (rfl) ?_
      refine SL.val rfl rfl (fun w9 F9 S9 s => R.mv rfl) ?_
      refine SL.val rfl rfl (fun w9 F9 S9 s => R.mv rfl) ?_
      refine SL.val rfl rfl (fun w9 F9 S9 s => R.gtr rfl rfl) ?_
      first | refine SL.val rfl rfl (fun w9 F9 S9 s => R.pickT rfl rfl) ?_ | refine SL.val rfl rfl (fun w9 F9 S9 s => R.pickF rfl rfl) ?_
      refine SL.nil ?_
      refine SN.seq ?_
      refine SG.condP rfl (fun h1 => ?_) (fun h1 => ?_)
      · refine SG.seq ?_
        refine SG.region ?_
        refine SL.val rfl rfl (fun w9 F9 S9 s => R.as rfl) ?_
        refine SL.val rfl rfl (fun w9 F9 S9 s => R.as rfl) ?_
        refine SL.nil ?_
        refine SN.seq ?_
        exact SG.ret2 rfl rfl rfl ((Imp.sels (by repeat (first | exact Sels.nil | apply Sels.cons | exact Sel.keep | exact Sel.here | apply Sel.there)))) (⟨_, hy _ (.late hg hp h1), rfl, rfl⟩)
      · refine SG.skip ?_
        refine SN.seq ?_
        refine SG.region ?_
        refine SL.val rfl rfl (fun w9 F9 S9 s => R.mv rfl) ?_
        refine SL.val rfl rfl (fun w9 F9 S9 s => R.as rfl) ?_
        refine SL.nil ?_
        refine SN.block ?_
        exact SN.again (q.1) (by have := (par_rk hrk (p := q.1) (a := q.2) hp).1; exact this) (Sub.cons rfl (Sub.cons rfl (Sub.cons rfl (Sub.nil _)))) ((Imp.sels (by repeat (first | exact Sels.nil | apply Sels.cons | exact Sel.keep | exact Sel.here | apply Sel.there)))) (fun r h => hy r (.up hg hp h1 h))
  · refine SG.region ?_
    refine SL.val rfl rfl (fun w9 F9 S9 s => R.mv rfl) ?_
    refine SL.val rfl rfl (fun w9 F9 S9 s => R.mv rfl) ?_
    refine SL.val rfl rfl (fun w9 F9 S9 s => R.mv rfl) ?_
    refine SL.val rfl rfl (fun w9 F9 S9 s => R.build rfl rfl) ?_
    refine SL.step rfl rfl (CS.call rfl go34 (wwasE p m L tt nn kk y nx hw hk (some d) hg) (by repeat (first | exact Sels.nil | apply Sels.cons | exact Sel.keep | exact Sel.here | apply Sel.there))) ?_
    rintro _ _ ⟨_, ⟨rfl, rfl⟩, rfl⟩
    refine SL.n4 ?_
    refine SL.val rfl rfl (fun w9 F9 S9 s => R.mv rfl) ?_
    refine SL.val rfl rfl (fun w9 F9 S9 s => R.ext rfl rfl) ?_
    refine SL.val rfl rfl (fun w9 F9 S9 s => R.ext rfl rfl) ?_
    refine SL.val rfl rfl (fun w9 F9 S9 s => R.as rfl) ?_
    refine SL.val rfl rfl (fun w9 F9 S9 s => R.as rfl) ?_
    refine SL.nil ?_
    refine SN.seq ?_
    refine SG.seq ?_
    refine SG.region ?_
    refine SL.val rfl rfl (fun w9 F9 S9 s => R.mv rfl) ?_
    refine SL.nil ?_
    refine SN.seq ?_
    refine SG.condT rfl ?_
    refine SG.seq ?_
    refine SG.region ?_
    refine SL.val rfl rfl (fun w9 F9 S9 s => R.mv rfl) ?_
    refine SL.val rfl rfl (fun w9 F9 S9 s => R.as rfl) ?_
    refine SL.val rfl rfl (fun w9 F9 S9 s => R.as rfl) ?_
    refine SL.nil ?_
    refine SN.seq ?_
    exact SG.ret2 rfl rfl rfl ((Imp.sels (by repeat (first | exact Sels.nil | apply Sels.cons | exact Sel.keep | exact Sel.here | apply Sel.there)))) (⟨_, hy _ (.hit hg), rfl, rfl⟩)

theorem watE (p m : Nat) (L : Lns) (tt nn : Int) (kk : Nat) (tx nx : Int) (hw : Wf L kk) (hk : kk ≤ 9000) (r : Option Dk) (hr : AtR (wasV L) (parV L) nx tx r) : SpecS Try.prog 14 [.pointer (some ⟨p, 0, none⟩), .int .i64 tx, .int .i64 nx] [blk p [.pointer (some ⟨m, 0, none⟩), .int .i64 tt, .int .i64 nn] 85, mp (κ := Int) 124 128 3 m (psL L), lnA L, dkS L] (fun v H' => v = .tuple #[dkO r, .bool r.isSome] ∧ H' = [blk p [.pointer (some ⟨m, 0, none⟩), .int .i64 tt, .int .i64 nn] 85, mp (κ := Int) 124 128 3 m (psL L), lnA L, dkS L]) :=
  (wat_ok p m L tt nn kk tx nx hw hk).mono fun v H' ⟨s, h1, h2, h3⟩ => by rw [hr.one h1]; exact ⟨h2, h3⟩

theorem post_at {q : Int × Int} {a b : Int} {K : List Asn} {A : Int → Int → List Asn} (h : q = (a, b)) (hK : K = A a b) : K = A q.1 q.2 := by rw [h]; exact hK
/-- Jump: the error, and what is now. -/
def jmpE (L : Lns) (tx nx : Int) : Int := if (wasV L tx nx).isSome then 0 else 50
def jmpN (L : Lns) (tt nn tx nx : Int) : Int × Int := if (wasV L tx nx).isSome then (tx, nx) else (tt, nn)
theorem jmp_no {L : Lns} {tt nn tx nx : Int} (h : wasV L tx nx = none) : jmpN L tt nn tx nx = (tt, nn) := by unfold jmpN; rw [h]; rfl
theorem jmp_so {L : Lns} {tt nn tx nx : Int} {d : Dk} (h : wasV L tx nx = some d) : jmpN L tt nn tx nx = (tx, nx) := by unfold jmpN; rw [h]; rfl

theorem wjmp_ok (p m : Nat) (L : Lns) (tt nn : Int) (kk : Nat) (tx nx : Int) (hw : Wf L kk) (hk : kk ≤ 9000) : SpecS Try.prog 10 [.pointer (some ⟨p, 0, none⟩), .int .i64 tx, .int .i64 nx] [blk p [.pointer (some ⟨m, 0, none⟩), .int .i64 tt, .int .i64 nn] 85, mp (κ := Int) 124 128 3 m (psL L), lnA L, dkS L] (fun v H' => v = .int .i64 (jmpE L tx nx) ∧ H' = [blk p [.pointer (some ⟨m, 0, none⟩), .int .i64 (jmpN L tt nn tx nx).1, .int .i64 (jmpN L tt nn tx nx).2] 85, mp (κ := Int) 124 128 3 m (psL L), lnA L, dkS L]) := by
  refine SpecS.enter Try.func10 rfl 27 rfl (Nat.le_of_ble_eq_true rfl) (fun o => ?_)
  refine SG.seq ?_
  refine SG.region ?_
  refine SL.val rfl rfl (fun w9 F9 S9 s => R.as rfl) ?_
  refine SL.nil ?_
  refine SN.seq ?_
  refine SG.seq ?_
  refine SG.seq ?_
  refine SG.region ?_
  refine SL.val rfl rfl (fun w9 F9 S9 s => R.mv rfl) ?_
  refine SL.val rfl rfl (fun w9 F9 S9 s => R.eqNilP rfl rfl) ?_
  refine SL.nil ?_
  refine SN.seq ?_
  refine SG.condF rfl ?_
  refine SG.skip ?_
  refine SN.seq ?_
  refine SG.seq ?_
  refine SG.seq ?_
  rcases hg : wasV L tx nx with _ | d
  · refine SG.region ?_
    refine SL.val rfl rfl (fun w9 F9 S9 s => R.mv rfl) ?_
    refine SL.val rfl rfl (fun w9 F9 S9 s => R.mv rfl) ?_
    refine SL.val rfl rfl (fun w9 F9 S9 s => R.mv rfl) ?_
    refine SL.val rfl rfl (fun w9 F9 S9 s => R.build rfl rfl) ?_
    refine SL.step rfl rfl (CS.call rfl go34 (wwasE p m L tt nn kk tx nx hw hk none hg) (by repeat (first | exact Sels.nil | apply Sels.cons | exact Sel.keep | exact Sel.here | apply Sel.there))) ?_
    rintro _ _ ⟨_, ⟨rfl, rfl⟩, rfl⟩
    refine SL.n4 ?_
    refine SL.val rfl rfl (fun w9 F9 S9 s => R.mv rfl) ?_
    refine SL.val rfl rfl (fun w9 F9 S9 s => R.ext rfl rfl) ?_
    refine SL.val rfl rfl (fun w9 F9 S9 s => R.ext rfl rfl) ?_
    refine SL.val rfl rfl (fun w9 F9 S9 s => R.as rfl) ?_
    refine SL.val rfl rfl (fun w9 F9 S9 s => R.as rfl) ?_
    refine SL.nil ?_
    refine SN.seq ?_
    refine SG.seq ?_
    refine SG.region ?_
    refine SL.val rfl rfl (fun w9 F9 S9 s => R.mv rfl) ?_
    refine SL.val rfl rfl (fun w9 F9 S9 s => R.not rfl) ?_
    refine SL.nil ?_
    refine SN.seq ?_
    refine SG.condT rfl ?_
    refine SG.seq ?_
    refine SG.region ?_
    refine SL.val rfl rfl (fun w9 F9 S9 s => R.as rfl) ?_
    refine SL.nil ?_
    refine SN.seq ?_
    exact SG.ret1 rfl rfl ((Imp.sels (by repeat (first | exact Sels.nil | apply Sels.cons | exact Sel.keep | exact Sel.here | apply Sel.there)))) (⟨congrArg (Value.int .i64) (show (50 : Int) = jmpE L tx nx by unfold jmpE; rw [hg]; rfl), post_at (A := fun a b => [blk p [.pointer (some ⟨m, 0, none⟩), .int .i64 a, .int .i64 b] 85, mp (κ := Int) 124 128 3 m (psL L), lnA L, dkS L]) (jmp_no hg) rfl⟩)
  · refine SG.region ?_
    refine SL.val rfl rfl (fun w9 F9 S9 s => R.mv rfl) ?_
    refine SL.val rfl rfl (fun w9 F9 S9 s => R.mv rfl) ?_
    refine SL.val rfl rfl (fun w9 F9 S9 s => R.mv rfl) ?_
    refine SL.val rfl rfl (fun w9 F9 S9 s => R.build rfl rfl) ?_
    refine SL.step rfl rfl (CS.call rfl go34 (wwasE p m L tt nn kk tx nx hw hk (some d) hg) (by repeat (first | exact Sels.nil | apply Sels.cons | exact Sel.keep | exact Sel.here | apply Sel.there))) ?_
    rintro _ _ ⟨_, ⟨rfl, rfl⟩, rfl⟩
    refine SL.n4 ?_
    refine SL.val rfl rfl (fun w9 F9 S9 s => R.mv rfl) ?_
    refine SL.val rfl rfl (fun w9 F9 S9 s => R.ext rfl rfl) ?_
    refine SL.val rfl rfl (fun w9 F9 S9 s => R.ext rfl rfl) ?_
    refine SL.val rfl rfl (fun w9 F9 S9 s => R.as rfl) ?_
    refine SL.val rfl rfl (fun w9 F9 S9 s => R.as rfl) ?_
    refine SL.nil ?_
    refine SN.seq ?_
    refine SG.seq ?_
    refine SG.region ?_
    refine SL.val rfl rfl (fun w9 F9 S9 s => R.mv rfl) ?_
    refine SL.val rfl rfl (fun w9 F9 S9 s => R.not rfl) ?_
    refine SL.nil ?_
    refine SN.seq ?_
    refine SG.condF rfl ?_
    refine SG.skip ?_
    refine SN.seq ?_
    refine SG.seq ?_
    refine SG.region ?_
    refine SL.val rfl rfl (fun w9 F9 S9 s => R.mv rfl) ?_
    refine SL.val rfl rfl (fun w9 F9 S9 s => R.mv rfl) ?_
    refine SL.val rfl rfl (fun w9 F9 S9 s => R.mv rfl) ?_
    refine SL.val rfl rfl (fun w9 F9 S9 s => R.build rfl rfl) ?_
    refine SL.val rfl rfl (fun w9 F9 S9 s => R.nilChk rfl) ?_
    refine SL.val rfl rfl (fun w9 F9 S9 s => R.fld rfl) ?_
    refine SL.step0 rfl (CS.stN (k := 1) (vs := [.int .i64 tx, .int .i64 nx]) (cs' := [.pointer (some ⟨m, 0, none⟩), .int .i64 tx, .int .i64 nx]) rfl rfl (show Sel _ (blk p _ _) _ from (by repeat (first | exact Sel.keep | exact Sel.here | apply Sel.there))) rfl (by show 1 + 2 ≤ 3; decide) (by intro u hu; simp only [List.mem_cons, List.not_mem_nil, or_false] at hu; rcases hu with rfl | rfl <;> rfl) rfl) ?_
    rintro _ _ rfl
    refine SL.nil ?_
    refine SN.seq ?_
    refine SG.seq ?_
    refine SG.region ?_
    refine SL.val rfl rfl (fun w9 F9 S9 s => R.as rfl) ?_
    refine SL.nil ?_
    refine SN.seq ?_
    exact SG.ret1 rfl rfl ((Imp.sels (by repeat (first | exact Sels.nil | apply Sels.cons | exact Sel.keep | exact Sel.here | apply Sel.there)))) (⟨congrArg (Value.int .i64) (show (0 : Int) = jmpE L tx nx by unfold jmpE; rw [hg]; rfl), post_at (A := fun a b => [blk p [.pointer (some ⟨m, 0, none⟩), .int .i64 a, .int .i64 b] 85, mp (κ := Int) 124 128 3 m (psL L), lnA L, dkS L]) (jmp_so hg) rfl⟩)

end Go.Proofs.Ythdaelmjiaegfaa
/-
  A slice that is made to grow from nothing; what is known of bytes beside blocks that are turned.
-/
set_option linter.unusedVariables false
set_option linter.unusedSimpArgs false
namespace Brv
open Go
section
variable {P : Program} {n : Fm} {o : Org} {ρ : Env} {H H' : List Asn} {ty : TypeId} {pos : String} {af : Array Edge} {gd : Option (Nat × Bool)}
end
/-! ## Structs that are built of parts of many cells -/
def putN : List Value → Nat → List Value → List Value
  | cs, _, [] => cs
  | cs, off, x :: l => putN (cs.set off x) (off + 1) l
theorem putN_spec (off : Nat) : ∀ (l : List Value) (k : Nat) (cells : Array Value), ((l.zipIdx k).foldl (fun cs p => cs.setIfInBounds (off + p.2) p.1) cells).toList = putN cells.toList (off + k) l := by
  intro l
  induction l with
  | nil => intro k cells; rfl
  | cons x l ih =>
    intro k cells
    rw [List.zipIdx_cons, List.foldl_cons, ih (k + 1), putN]
    simp [Nat.add_assoc]
def fillN (pl : Nat → Option (Nat × Nat)) : List Value → List (Nat × Value) → Option (List Value)
  | cs, [] => some cs
  | cs, (i, v) :: rest => match pl i with
    | some (off, sz) => match Nat.beq v.cells.toList.length sz && Nat.ble (off + sz) cs.length with
      | true => fillN pl (putN cs off v.cells.toList) rest
      | false => none
    | none => none
theorem fillN_spec {pl : Nat → Option (Nat × Nat)} : ∀ {vs : List (Nat × Value)} {cs : Array Value} {l : List Value}, fillN pl cs.toList vs = some l → Instr.fill pl cs vs = some l.toArray
  | [], cs, l, h => by
    simp only [fillN, Option.some.injEq] at h
    subst h
    simp [Instr.fill]
  | (i, v) :: rest, cs, l, h => by
    simp only [fillN] at h
    split at h
    · rename_i off sz hp
      split at h
      · rename_i hb
        rw [Bool.and_eq_true] at hb
        have hsz := Nat.eq_of_beq_eq_true hb.1
        have hlt := Nat.le_of_ble_eq_true hb.2
        have e := putN_spec off v.cells.toList 0 cs
        rw [Nat.add_zero] at e
        have e2 : (v.cells.zipIdx.foldl (fun cs (p : Value × Nat) => cs.setIfInBounds (off + p.2) p.1) cs).toList = putN cs.toList off v.cells.toList := by
          rw [← e, ← Array.foldl_toList, Array.toList_zipIdx]
        rw [← e2] at h
        have ih := fillN_spec h
        simp only [Instr.fill, hp]
        rw [if_neg (by simp at hsz hlt ⊢; omega)]
        exact ih
      · cases h
    · cases h
section
variable {P : Program} {n : Fm} {ρ : Env} {w : World} {d : Nat} {ty : TypeId} {pos : String} {af : Array Edge} {gd : Option (Nat × Bool)}
theorem R.buildN {T : TypeId} {pl : Nat → Option (Nat × Nat)} {z : Value} [t : TyBuilt P T pl z] {parts : Array (Nat × Operand)} {vs : List (Nat × Value)} {l : List Value} (hp : evps ρ parts.toList = some vs) (hb : fillN pl z.cells.toList vs = some l) :
    Runs P n ρ w ⟨some d, .build T parts, ty, pos, af, gd⟩ (.agg l.toArray) w := R.build hp (fillN_spec hb)
end
end Brv
/-
  The walks of package model.
-/
set_option linter.unusedVariables false
set_option linter.unusedSimpArgs false
set_option maxRecDepth 4000
namespace Go.Proofs.Ythdaelmjiaegfaa
open Go Brv Brv.Image Brv.Model
/-- Writes among arguments. -/
def WsP (w : World) (a : Option Addr) (n : Nat) (ws : List WriteV) : Prop := Tab w a n 2 (ws.map WriteV.cells) ∧ ∀ z ∈ ws, Bs w z.B'a z.B'n z.B'
theorem disk_in {w : World} {d : Nat} {x : List UInt8} {S1 : List Nat} (h : ∀ M w', Ext M w w' → Apart S1 M → DiskAt w' d x) : ∃ g c cur ps, DiskL w d g c cur ps x ∧ ∀ y ∈ d :: g :: ps, y ∈ S1 := by
  obtain ⟨g, c, cur, ps, hD⟩ := h [] w (Ext.refl _ _) (Apart.nilR _)
  refine ⟨g, c, cur, ps, hD, fun y hy => Classical.byContradiction fun hn => ?_⟩
  have hlt := hD.lt y hy
  obtain ⟨g2, c2, cur2, ps2, hD2⟩ := h [y] (w.putObj y (.deferred none)) (Ext.putObj w _ _) (fun z hz hz2 => hn (by rw [← List.mem_singleton.1 hz2]; exact hz))
  have e : (w.putObj y (.deferred none)).heap[y]? = some (.deferred none) := World.putObj_heap_same hlt
  have eo : ∀ z, z ≠ y → (w.putObj y (.deferred none)).heap[z]? = w.heap[z]? := fun z hz => World.putObj_heap_other hz
  by_cases h1 : d = y
  · subst h1
    have : (w.putObj d (.deferred none)).heap[d]? = some (.cells _ 98 (0, 0)) := hD2.hd
    rw [e] at this; cases this
  have hd2 : (w.putObj y (.deferred none)).heap[d]? = some (.cells _ 98 (0, 0)) := hD2.hd
  rw [eo d h1, show w.heap[d]? = some (.cells _ 98 (0, 0)) from hD.hd] at hd2
  injection hd2 with hd2; injection hd2 with hd2
  have : g = g2 := (show g = g2 ∧ c = c2 by simpa using hd2).1
  subst this
  by_cases h2 : g = y
  · subst h2
    have : (w.putObj g (.deferred none)).heap[g]? = some (.cells _ 96 (0, 0)) := hD2.hg
    rw [e] at this; cases this
  have hg2 : (w.putObj y (.deferred none)).heap[g]? = some (.cells _ 96 (0, 0)) := hD2.hg
  rw [eo g h2, show w.heap[g]? = some (.cells _ 96 (0, 0)) from hD.hg] at hg2
  injection hg2 with hg2; injection hg2 with hg2
  subst hg2
  have hps : ps = ps2 := by
    have h9 := hD.ht.symm.trans hD2.ht
    have inj : ∀ a b : Nat, Brv.ptr a = Brv.ptr b → a = b := fun a b h => by injection h with h; injection h with h; injection h
    exact (List.map_inj_right inj).1 h9
  subst hps
  have hy2 : y ∈ ps := by
    rcases List.mem_cons.1 hy with rfl | hy
    · exact absurd rfl h1
    rcases List.mem_cons.1 hy with rfl | hy
    · exact absurd rfl h2
    · exact hy
  obtain ⟨k, hk, rfl⟩ := List.getElem_of_mem hy2
  have hb := hD2.hb.each k hk
  have : (w.putObj ps[k] (.deferred none)).heap[ps[k]]? = some (.cells _ 102 (0, 0)) := hb
  rw [e] at this; cases this
theorem inewS (n : Nat) (h1 : 1 ≤ n) (h2 : n ≤ 64) : SpecS Try.prog 30 [.int .i64 (n : Int)] [] (fun v H' => ∃ d, v = .tuple #[.pointer (some ⟨d, 0, none⟩), .int .i64 0] ∧ H' = [sh (fun w => DiskAt w d (List.replicate (64 * n) 0))]) :=
  (SpecS.ofFresh (φ := fun v A => ∃ d, v = .tuple #[.pointer (some ⟨d, 0, none⟩), .int .i64 0] ∧ A = sh (fun w => DiskAt w d (List.replicate (64 * n) 0))) fun w F S s => (inew_okF n w h1 h2).mono fun v w' ⟨d, e1, e2, e3⟩ => by
    obtain ⟨g, c, cur, ps, hD, hf⟩ := e3.f
    exact ⟨_, [], d :: g :: ps, ⟨d, e1, rfl⟩, e2, fun M w'' he hA => ⟨g, c, cur, ps, hD.ext he hA⟩, by simp, fun b hb => ⟨hf b hb, hD.lt b hb⟩⟩).mono fun v H' ⟨A, ⟨d, e1, e2⟩, e3⟩ => ⟨d, e1, by rw [e3, e2]⟩
theorem iwithS (d : Nat) (x : List UInt8) (la : Option Addr) (ln lc : Nat) (ws : List WriteV) (hln : ln ≤ 1000000) (h0 : (withF x (ws.map wv)).2 = 0) : SpecS Try.prog 15 [.pointer (some ⟨d, 0, none⟩), .slice la ln lc] [sh (fun w => DiskAt w d x), sh (fun w => WsP w la ln ws)]
    (fun v H' => ∃ d', v = .tuple #[.pointer (some ⟨d', 0, none⟩), .int .i64 0] ∧ H' = [sh (fun w => DiskAt w d' (withF x (ws.map wv)).1)]) := fun w F S s => by
  obtain ⟨F1, S1, F2, S2, ⟨_, _, a, b⟩, _, hD, F3, S3, _, _, _, _, hW, _⟩ := s.sep
  obtain ⟨g, c, cur, ps, hDL, hin⟩ := disk_in hD
  have hW := hW [] w (Ext.refl _ _) (Apart.nilR _)
  refine (iwith_okF d g c cur ps x la ln lc ws w hDL hW.1 hW.2 hln).mono ?_
  rintro v w' ⟨he, h1, _⟩
  obtain ⟨d', hv, g', c', cur', qs, hD', hq⟩ := h1 h0
  exact ⟨_, [], d' :: g' :: qs, ⟨d', hv, rfl⟩, st_one (A := sh (fun w => DiskAt w d' (withF x (ws.map wv)).1)) (fun M w'' he' hA => ⟨g', c', cur', qs, hD'.ext he' hA⟩) (by simp) hD'.lt, ⟨he.mono (by simp), by simp, fun y hy => (hq y hy).elim (fun h => .inl (a (hin y (by simp [h])))) (fun h => .inr (.inr h))⟩⟩
theorem iwithR (d : Nat) (x : List UInt8) (la : Option Addr) (ln lc : Nat) (ws : List WriteV) (hln : ln ≤ 1000000) (h0 : (withF x (ws.map wv)).2 ≠ 0) (w : World) (hD : DiskAt w d x) (hW : WsP w la ln ws) : Meets Try.prog 15 [.pointer (some ⟨d, 0, none⟩), .slice la ln lc] w
    (fun v w' => v = .tuple #[.pointer none, .int .i64 (withF x (ws.map wv)).2] ∧ Ext [] w w') :=
  (iwith_ok d x la ln lc ws w hD hW.1 hW.2 hln).mono fun v w' ⟨h1, _, h3⟩ => ⟨h3 h0, h1⟩
theorem dkS_put {L : Lns} {t : Int} {x : Ln} {w : World} (h : DkP L w) (hx : ∀ d ∈ x.ds, DiskAt w d.2.b d.2.l) : DkP (putT L t x) w := fun q hq => (mem_putT hq).elim (fun e => by rw [e]; exact hx) (h q)
theorem dkS_one {L : Lns} {t n : Int} {d : Dk} {w : World} (h : DkP L w) (hw : wasV L t n = some d) : DiskAt w d.b d.l := by
  obtain ⟨x, h1, h2⟩ := was_mem hw
  exact h _ h1 _ h2

theorem begun_ok (nx pt pn : Int) (d : Dk) : SpecS Try.prog 33 [.int .i64 nx, .pointer (some ⟨d.b, 0, none⟩), .agg #[.int .i64 pt, .int .i64 pn]] [] (fun v H' => ∃ m', v = .agg (lnC ⟨m', pt, pn, [(nx, d)]⟩).toArray ∧ H' = [mp (κ := Int) 135 132 1 m' (dsP [(nx, d)])]) := by
  refine SpecS.enter Try.func33 rfl 17 rfl (Nat.le_of_ble_eq_true rfl) (fun o => ?_)
  refine SG.seq ?_
  refine SG.region ?_
  refine SL.step rfl rfl (CS.boxA rfl) ?_
  rintro _ _ ⟨b5, rfl, rfl⟩
  refine SL.step rfl rfl (CS.alloc [.pointer none, .int .i64 0, .int .i64 0] rfl) ?_
  rintro _ _ ⟨b6, rfl, rfl⟩
  refine SL.nil ?_
  refine SN.seq ?_
  refine SG.seq ?_
  refine SG.drawT (.flo 1 (.alt 0 (.flo 2 (.alt 3 (.alt 4 .nil .stop) .stop)) (.alt 3 (.alt 0 (.flo 2 (.alt 4 .nil .stop)) .stop) .stop))) (by decide +kernel) rfl ?_
  refine TW.read rfl rfl rfl rfl (fun w9 F9 S9 s => R.ldBN rfl (s.cel (by repeat (first | exact SelB.blk | exact SelB.fz | apply SelB.there))) (by rfl)) ?_
  refine TW.or ?_ ?_
  · refine TW.step rfl rfl rfl rfl (CS.call rfl go50 (SpecS.ofNew (fun w => onewImageDisk_ok w)) (by repeat (first | exact Sels.nil | apply Sels.cons | exact Sel.keep | exact Sel.here | apply Sel.there))) ?_
    rintro _ _ ⟨_, ⟨m2, rfl, rfl⟩, rfl⟩
    refine ⟨⟨.inr (fun w9 F9 S9 s => R.ldBN rfl (s.cel (by repeat (first | exact SelB.blk | exact SelB.fz | apply SelB.there))) (by rfl)), trivial⟩, ?_⟩
    refine TW.n1 ?_
    refine TW.pure rfl rfl rfl rfl (fun w9 => R.buildN (l := [.pointer (some ⟨m2, 0, none⟩), .int .i64 pt, .int .i64 pn]) rfl rfl) ?_
    refine TW.step rfl rfl rfl rfl (CS.alloc [.pointer none, .int .i64 0, .int .i64 0] rfl) ?_
    rintro _ _ ⟨b7, rfl, rfl⟩
    refine ⟨⟨.inr (fun w9 F9 S9 s => R.ldBN rfl (s.cel (by repeat (first | exact SelB.blk | exact SelB.fz | apply SelB.there))) (by rfl)), trivial⟩, ?_⟩
    refine TW.step0 rfl rfl rfl (CS.stA (vs := lnC ⟨m2, pt, pn, []⟩) rfl rfl (by repeat (first | exact Sel.keep | exact Sel.here | apply Sel.there)) (by rfl) (by rfl) (lnC_one ⟨m2, pt, pn, []⟩)) ?_
    rintro _ _ rfl
    refine ⟨⟨.inl (by decide +kernel), trivial⟩, ?_⟩
    refine TW.nil ?_
    refine SN.seq ?_
    refine SG.seq ?_
    refine SG.region ?_
    refine SL.val rfl rfl (fun w9 F9 S9 s => R.fld rfl) ?_
    refine SL.val rfl rfl (fun w9 F9 S9 s => R.ldB (v := .pointer (some ⟨m2, 0, none⟩)) rfl (s.cel (by repeat (first | exact SelB.blk | exact SelB.fz | apply SelB.there))) (by rfl)) ?_
    refine SL.val rfl rfl (fun w9 F9 S9 s => R.mv rfl) ?_
    refine SL.val rfl rfl (fun w9 F9 S9 s => R.mv rfl) ?_
    refine SL.step rfl rfl (CS.call rfl go36 (dputX m2 [] nx d (by decide)) (by repeat (first | exact Sels.nil | apply Sels.cons | exact Sel.keep | exact Sel.here | apply Sel.there))) ?_
    rintro _ _ ⟨_, ⟨rfl, rfl⟩, rfl⟩
    refine SL.n1 ?_
    refine SL.nil ?_
    refine SN.seq ?_
    refine SG.seq ?_
    refine SG.region ?_
    refine SL.val rfl rfl (fun w9 F9 S9 s => R.ldBN (cs := (lnC ⟨m2, pt, pn, [(nx, d)]⟩).toArray) rfl (s.cel (by repeat (first | exact SelB.blk | exact SelB.fz | apply SelB.there))) (by rfl)) ?_
    refine SL.step0 rfl (CS.stA (vs := lnC ⟨m2, pt, pn, [(nx, d)]⟩) rfl rfl (by repeat (first | exact Sel.keep | exact Sel.here | apply Sel.there)) (by rfl) (by rfl) (lnC_one ⟨m2, pt, pn, [(nx, d)]⟩)) ?_
    rintro _ _ rfl
    refine SL.nil ?_
    refine SN.seq ?_
    exact SG.retC rfl rfl (by repeat (first | exact Sel.keep | exact Sel.here | apply Sel.there)) (by rfl) ((Imp.sels (by repeat (first | exact Sels.nil | apply Sels.cons | exact Sel.keep | exact Sel.here | apply Sel.there)))) (⟨m2, rfl, rfl⟩)
  refine TW.step rfl rfl rfl rfl (CS.alloc [.pointer none, .int .i64 0, .int .i64 0] rfl) ?_
  rintro _ _ ⟨b7, rfl, rfl⟩
  refine ⟨⟨.inr (fun w9 F9 S9 s => R.ldBN rfl (s.cel (by repeat (first | exact SelB.blk | exact SelB.fz | apply SelB.there))) (by rfl)), trivial⟩, ?_⟩
  refine TW.step rfl rfl rfl rfl (CS.call rfl go50 (SpecS.ofNew (fun w => onewImageDisk_ok w)) (by repeat (first | exact Sels.nil | apply Sels.cons | exact Sel.keep | exact Sel.here | apply Sel.there))) ?_
  rintro _ _ ⟨_, ⟨m2, rfl, rfl⟩, rfl⟩
  refine ⟨⟨.inr (fun w9 F9 S9 s => R.ldBN rfl (s.cel (by repeat (first | exact SelB.blk | exact SelB.fz | apply SelB.there))) (by rfl)), trivial⟩, ?_⟩
  refine TW.n1 ?_
  refine TW.pure rfl rfl rfl rfl (fun w9 => R.buildN (l := [.pointer (some ⟨m2, 0, none⟩), .int .i64 pt, .int .i64 pn]) rfl rfl) ?_
  refine TW.step0 rfl rfl rfl (CS.stA (vs := lnC ⟨m2, pt, pn, []⟩) rfl rfl (by repeat (first | exact Sel.keep | exact Sel.here | apply Sel.there)) (by rfl) (by rfl) (lnC_one ⟨m2, pt, pn, []⟩)) ?_
  rintro _ _ rfl
  refine ⟨⟨.inl (by decide +kernel), trivial⟩, ?_⟩
  refine TW.nil ?_
  refine SN.seq ?_
  refine SG.seq ?_
  refine SG.region ?_
  refine SL.val rfl rfl (fun w9 F9 S9 s => R.fld rfl) ?_
  refine SL.val rfl rfl (fun w9 F9 S9 s => R.ldB (v := .pointer (some ⟨m2, 0, none⟩)) rfl (s.cel (by repeat (first | exact SelB.blk | exact SelB.fz | apply SelB.there))) (by rfl)) ?_
  refine SL.val rfl rfl (fun w9 F9 S9 s => R.mv rfl) ?_
  refine SL.val rfl rfl (fun w9 F9 S9 s => R.mv rfl) ?_
  refine SL.step rfl rfl (CS.call rfl go36 (dputX m2 [] nx d (by decide)) (by repeat (first | exact Sels.nil | apply Sels.cons | exact Sel.keep | exact Sel.here | apply Sel.there))) ?_
  rintro _ _ ⟨_, ⟨rfl, rfl⟩, rfl⟩
  refine SL.n1 ?_
  refine SL.nil ?_
  refine SN.seq ?_
  refine SG.seq ?_
  refine SG.region ?_
  refine SL.val rfl rfl (fun w9 F9 S9 s => R.ldBN (cs := (lnC ⟨m2, pt, pn, [(nx, d)]⟩).toArray) rfl (s.cel (by repeat (first | exact SelB.blk | exact SelB.fz | apply SelB.there))) (by rfl)) ?_
  refine SL.step0 rfl (CS.stA (vs := lnC ⟨m2, pt, pn, [(nx, d)]⟩) rfl rfl (by repeat (first | exact Sel.keep | exact Sel.here | apply Sel.there)) (by rfl) (by rfl) (lnC_one ⟨m2, pt, pn, [(nx, d)]⟩)) ?_
  rintro _ _ rfl
  refine SL.nil ?_
  refine SN.seq ?_
  exact SG.retC rfl rfl (by repeat (first | exact Sel.keep | exact Sel.here | apply Sel.there)) (by rfl) ((Imp.sels (by repeat (first | exact Sels.nil | apply Sels.cons | exact Sel.keep | exact Sel.here | apply Sel.there)))) (⟨m2, rfl, rfl⟩)

end Go.Proofs.Ythdaelmjiaegfaa
/-
  The walks of package model.
-/
set_option linter.unusedVariables false
set_option linter.unusedSimpArgs false
set_option maxRecDepth 4000
namespace Go.Proofs.Ythdaelmjiaegfaa
open Go Brv Brv.Image Brv.Model
def newW (m1 d n : Nat) : Lns := [(1, ⟨m1, 0, 0, [(0, ⟨d, List.replicate (64 * n) 0⟩)]⟩)]
theorem newW_wf (m1 d n : Nat) : Wf (newW m1 d n) 0 := by
  refine ⟨List.pairwise_singleton _ _, by show 1 ≤ 1; omega, fun p hp => ?_, fun _ => 0, fun t x hx => ?_⟩
  · rw [List.mem_singleton.1 hp]
    refine ⟨by show (1 : Int) ≤ 1; omega, List.pairwise_singleton _ _, by show 1 ≤ 1; omega, fun q hq => ?_⟩
    rw [List.mem_singleton.1 hq]
    exact ⟨by show (0 : Int) ≤ 0; omega, by show (0 : Int) ≤ ((0 : Nat) : Int); omega⟩
  · rw [show newW m1 d n = [(1, _)] from rfl, getT_single] at hx
    split at hx
    · cases hx
      exact ⟨by show 0 < 1; omega, fun h => absurd rfl h⟩
    · cases hx
theorem newW_was (m1 d n : Nat) : wasV (newW m1 d n) 1 0 = some ⟨d, List.replicate (64 * n) 0⟩ := by
  unfold wasV
  rw [show newW m1 d n = [(1, _)] from rfl, getT_single, if_pos rfl]
  show getT [((0 : Int), _)] 0 = _
  rw [getT_single, if_pos rfl]
/-- What a commit comes to. -/
def ComR (L : Lns) (tt nn : Int) (d : Dk) (ws : List (Int × List UInt8)) (L' : Lns) (n' a e : Int) : Prop :=
  ((withF d.l ws).2 ≠ 0 ∧ e = (withF d.l ws).2 ∧ a = 0 ∧ L' = L ∧ n' = nn) ∨
  ((withF d.l ws).2 = 0 ∧ (∃ q, wasV L tt (nn + 1) = some q) ∧ e = 52 ∧ a = 0 ∧ L' = L ∧ n' = nn) ∨
  ((withF d.l ws).2 = 0 ∧ wasV L tt (nn + 1) = none ∧ e = 0 ∧ a = nn + 1 ∧ n' = nn + 1 ∧ ∃ x b, getT L tt = some x ∧ L' = addD L tt x (nn + 1) ⟨b, (withF d.l ws).1⟩)
/-- What leaving a timeline comes to. -/
def BraR (L : Lns) (tt nn tx nx ux : Int) (L' : Lns) (t' n' e : Int) : Prop :=
  (AtR (wasV L) (parV L) nx tx none ∧ e = 50 ∧ L' = L ∧ t' = tt ∧ n' = nn) ∨
  (∃ d, AtR (wasV L) (parV L) nx tx (some d) ∧ ((∃ x, getT L ux = some x) ∨ ux < 1) ∧ e = 52 ∧ L' = L ∧ t' = tt ∧ n' = nn) ∨
  (∃ d, AtR (wasV L) (parV L) nx tx (some d) ∧ getT L ux = none ∧ 1 ≤ ux ∧ e = 0 ∧ t' = ux ∧ n' = nx ∧ ∃ m', L' = newL L ux m' tx nx d)

theorem wnew_ok (n : Nat) (h1 : 1 ≤ n) (h2 : n ≤ 64) : SpecS Try.prog 7 [.int .i64 (n : Int)] [] (fun v H' => ∃ p m m1 d, v = .tuple #[.pointer (some ⟨p, 0, none⟩), .int .i64 0] ∧ H' = [blk p [.pointer (some ⟨m, 0, none⟩), .int .i64 1, .int .i64 0] 85, mp (κ := Int) 124 128 3 m (psL (newW m1 d n)), lnA (newW m1 d n), dkS (newW m1 d n)]) := by
  refine SpecS.enter Try.func7 rfl 28 rfl (Nat.le_of_ble_eq_true rfl) (fun o => ?_)
  refine SG.seq ?_
  refine SG.region ?_
  refine SL.val rfl rfl (fun w9 F9 S9 s => R.as rfl) ?_
  refine SL.val rfl rfl (fun w9 F9 S9 s => R.as rfl) ?_
  refine SL.nil ?_
  refine SN.seq ?_
  refine SG.seq ?_
  refine SG.region ?_
  refine SL.val rfl rfl (fun w9 F9 S9 s => R.mv rfl) ?_
  refine SL.step rfl rfl (CS.call rfl go30 (inewS n h1 h2) (by repeat (first | exact Sels.nil | apply Sels.cons | exact Sel.keep | exact Sel.here | apply Sel.there))) ?_
  rintro _ _ ⟨_, ⟨d, rfl, rfl⟩, rfl⟩
  refine SL.n1 ?_
  refine SL.val rfl rfl (fun w9 F9 S9 s => R.mv rfl) ?_
  refine SL.val rfl rfl (fun w9 F9 S9 s => R.ext rfl rfl) ?_
  refine SL.val rfl rfl (fun w9 F9 S9 s => R.ext rfl rfl) ?_
  refine SL.val rfl rfl (fun w9 F9 S9 s => R.as rfl) ?_
  refine SL.val rfl rfl (fun w9 F9 S9 s => R.as rfl) ?_
  refine SL.nil ?_
  refine SN.seq ?_
  refine SG.seq ?_
  refine SG.seq ?_
  refine SG.region ?_
  refine SL.val rfl rfl (fun w9 F9 S9 s => R.mv rfl) ?_
  refine SL.val rfl rfl (fun w9 F9 S9 s => R.neI rfl rfl) ?_
  refine SL.nil ?_
  refine SN.seq ?_
  refine SG.condF rfl ?_
  refine SG.skip ?_
  refine SN.seq ?_
  refine SG.seq ?_
  refine SG.region ?_
  refine SL.step rfl rfl (CS.call rfl go31 (SpecS.ofNew (fun w => onewModelline_ok w)) (by repeat (first | exact Sels.nil | apply Sels.cons | exact Sel.keep | exact Sel.here | apply Sel.there))) ?_
  rintro _ _ ⟨_, ⟨m, rfl, rfl⟩, rfl⟩
  refine SL.n1 ?_
  refine SL.val rfl rfl (fun w9 F9 S9 s => R.buildN (l := [.int .i64 1, .int .i64 0]) rfl rfl) ?_
  refine SL.val rfl rfl (fun w9 F9 S9 s => R.buildN (l := [.pointer (some ⟨m, 0, none⟩), .int .i64 1, .int .i64 0]) rfl rfl) ?_
  refine SL.step rfl rfl (CS.boxA rfl) ?_
  rintro _ _ ⟨b18, rfl, rfl⟩
  refine SL.val rfl rfl (fun w9 F9 S9 s => R.as rfl) ?_
  refine SL.nil ?_
  refine SN.seq ?_
  refine SG.seq ?_
  refine SG.draw [6, 7] [0, 1, 2, 3, 4, 5, 6, 7] (by decide +kernel) rfl ?_
  refine SW.pure rfl rfl rfl rfl (fun w9 => R.mv rfl) ?_
  refine SW.pure rfl rfl rfl rfl (fun w9 => R.nilChk rfl) ?_
  refine SW.pure rfl rfl rfl rfl (fun w9 => R.fld rfl) ?_
  refine SW.read rfl rfl rfl rfl (fun w9 F9 S9 s => R.ldB (v := .pointer (some ⟨m, 0, none⟩)) rfl (s.cel (by repeat (first | exact SelB.blk | exact SelB.fz | apply SelB.there))) (by rfl)) ?_
  refine SW.pure rfl rfl rfl rfl (fun w9 => R.mv rfl) ?_
  refine SW.pure rfl rfl rfl rfl (fun w9 => R.buildN (l := [.int .i64 0, .int .i64 0]) rfl rfl) ?_
  refine SW.step rfl rfl rfl rfl (CS.call rfl go33 (begun_ok 0 0 0 ⟨d, List.replicate (64 * n) 0⟩) (by repeat (first | exact Sels.nil | apply Sels.cons | exact Sel.keep | exact Sel.here | apply Sel.there))) ?_
  rintro _ _ ⟨_, ⟨m1, rfl, rfl⟩, rfl⟩
  refine ⟨⟨.inr (fun w9 F9 S9 s => R.ldB (v := .pointer (some ⟨m, 0, none⟩)) rfl (s.cel (by repeat (first | exact SelB.blk | exact SelB.fz | apply SelB.there))) (by rfl)), trivial⟩, ?_⟩
  refine SW.n1 ?_
  refine SW.step rfl rfl rfl rfl (CS.call rfl go32 (lputX m [] 1 ⟨m1, 0, 0, [(0, ⟨d, List.replicate (64 * n) 0⟩)]⟩ (by decide)) (by repeat (first | exact Sels.nil | apply Sels.cons | exact Sel.keep | exact Sel.here | apply Sel.there))) ?_
  rintro _ _ ⟨_, ⟨rfl, rfl⟩, rfl⟩
  refine ⟨⟨.inl (by decide +kernel), trivial⟩, ?_⟩
  refine SW.n1 ?_
  refine SW.nil ?_
  refine SN.imp ((show Imp _ (lnR [] 1 :: _) from Imp.spNil)) ?_
  refine SN.imp (Imp.lnClose (L := []) (t := 1) (x := ⟨m1, 0, 0, [(0, ⟨d, List.replicate (64 * n) 0⟩)]⟩) (by repeat (first | exact Sel.keep | exact Sel.here | apply Sel.there)) (by repeat (first | exact Sel.keep | exact Sel.here | apply Sel.there)) List.Pairwise.nil) ?_
  refine SN.imp (Imp.weak (p := fun w => DiskAt w d (List.replicate (64 * n) 0)) (q := DkP (newW m1 d n)) (by repeat (first | exact Sel.keep | exact Sel.here | apply Sel.there)) (fun w h q hq e he => by rw [List.mem_singleton.1 hq] at he; rw [List.mem_singleton.1 he]; exact h)) ?_
  refine SN.seq ?_
  refine SG.seq ?_
  refine SG.region ?_
  refine SL.val rfl rfl (fun w9 F9 S9 s => R.mv rfl) ?_
  refine SL.val rfl rfl (fun w9 F9 S9 s => R.as rfl) ?_
  refine SL.val rfl rfl (fun w9 F9 S9 s => R.as rfl) ?_
  refine SL.nil ?_
  refine SN.seq ?_
  exact SG.ret2 rfl rfl rfl ((Imp.sels (by repeat (first | exact Sels.nil | apply Sels.cons | exact Sel.keep | exact Sel.here | apply Sel.there)))) (⟨b18, m, m1, d, rfl, rfl⟩)

theorem wnew_err (n : Int) (he : ¬ (1 ≤ n ∧ n ≤ 64)) : SpecS Try.prog 7 [.int .i64 n] [] (fun v H' => v = .tuple #[.pointer none, .int .i64 2] ∧ H' = []) := by
  refine SpecS.enter Try.func7 rfl 28 rfl (Nat.le_of_ble_eq_true rfl) (fun o => ?_)
  refine SG.seq ?_
  refine SG.region ?_
  refine SL.val rfl rfl (fun w9 F9 S9 s => R.as rfl) ?_
  refine SL.val rfl rfl (fun w9 F9 S9 s => R.as rfl) ?_
  refine SL.nil ?_
  refine SN.seq ?_
  refine SG.seq ?_
  refine SG.region ?_
  refine SL.val rfl rfl (fun w9 F9 S9 s => R.mv rfl) ?_
  refine SL.step rfl rfl (CS.callR rfl go30 (fun w9 F9 S9 s => (inew_err n w9 he).mono fun v w1 ⟨h1, h2⟩ => ⟨h1, by rw [h2]; exact Ext.refl _ _⟩)) ?_
  rintro _ _ ⟨rfl, rfl⟩
  refine SL.val rfl rfl (fun w9 F9 S9 s => R.mv rfl) ?_
  refine SL.val rfl rfl (fun w9 F9 S9 s => R.ext rfl rfl) ?_
  refine SL.val rfl rfl (fun w9 F9 S9 s => R.ext rfl rfl) ?_
  refine SL.val rfl rfl (fun w9 F9 S9 s => R.as rfl) ?_
  refine SL.val rfl rfl (fun w9 F9 S9 s => R.as rfl) ?_
  refine SL.nil ?_
  refine SN.seq ?_
  refine SG.seq ?_
  refine SG.seq ?_
  refine SG.region ?_
  refine SL.val rfl rfl (fun w9 F9 S9 s => R.mv rfl) ?_
  refine SL.val rfl rfl (fun w9 F9 S9 s => R.neI rfl rfl) ?_
  refine SL.nil ?_
  refine SN.seq ?_
  refine SG.condT rfl ?_
  refine SG.seq ?_
  refine SG.region ?_
  refine SL.val rfl rfl (fun w9 F9 S9 s => R.mv rfl) ?_
  refine SL.val rfl rfl (fun w9 F9 S9 s => R.as rfl) ?_
  refine SL.val rfl rfl (fun w9 F9 S9 s => R.as rfl) ?_
  refine SL.nil ?_
  refine SN.seq ?_
  exact SG.ret2 rfl rfl rfl ((Imp.sels (by repeat (first | exact Sels.nil | apply Sels.cons | exact Sel.keep | exact Sel.here | apply Sel.there)))) (⟨rfl, rfl⟩)

theorem wcom_ok (p m : Nat) (L : Lns) (tt nn : Int) (kk : Nat) (d : Dk) (la : Option Addr) (ln lc : Nat) (ws : List WriteV) (hw : Wf L kk) (hk : kk ≤ 9000) (hd : wasV L tt nn = some d) (hln : ln ≤ 1000000) : SpecS Try.prog 8 [.pointer (some ⟨p, 0, none⟩), .slice la ln lc] [blk p [.pointer (some ⟨m, 0, none⟩), .int .i64 tt, .int .i64 nn] 85, mp (κ := Int) 124 128 3 m (psL L), lnA L, dkS L, sh (fun w => WsP w la ln ws)] (fun v H' => ∃ L' n' a e, v = .tuple #[.int .i64 a, .int .i64 e] ∧ ComR L tt nn d (ws.map wv) L' n' a e ∧ H' = [blk p [.pointer (some ⟨m, 0, none⟩), .int .i64 tt, .int .i64 n'] 85, mp (κ := Int) 124 128 3 m (psL L'), lnA L', dkS L']) := by
  refine SpecS.enter Try.func8 rfl 69 rfl (Nat.le_of_ble_eq_true rfl) (fun o => ?_)
  obtain ⟨x, hx, hxd⟩ := was_has hd
  have hnb := (hw.ln _ (getT_some hx)).2.2.2 _ (getT_some hxd)
  have hn0 : 0 ≤ nn := hnb.1
  have hn1 : nn ≤ (kk : Int) := hnb.2
  refine SG.seq ?_
  refine SG.region ?_
  refine SL.val rfl rfl (fun w9 F9 S9 s => R.as rfl) ?_
  refine SL.val rfl rfl (fun w9 F9 S9 s => R.as rfl) ?_
  refine SL.nil ?_
  refine SN.seq ?_
  refine SG.seq ?_
  refine SG.seq ?_
  refine SG.region ?_
  refine SL.val rfl rfl (fun w9 F9 S9 s => R.mv rfl) ?_
  refine SL.val rfl rfl (fun w9 F9 S9 s => R.eqNilP rfl rfl) ?_
  refine SL.nil ?_
  refine SN.seq ?_
  refine SG.condF rfl ?_
  refine SG.skip ?_
  refine SN.seq ?_
  refine SG.seq ?_
  by_cases h0 : (withF d.l (ws.map wv)).2 = 0
  · refine SG.region ?_
    refine SL.val rfl rfl (fun w9 F9 S9 s => R.mv rfl) ?_
    refine SL.step rfl rfl (CS.call rfl go13 (wdisk_ok p m L tt nn kk d hw hk hd) (by repeat (first | exact Sels.nil | apply Sels.cons | exact Sel.keep | exact Sel.here | apply Sel.there))) ?_
    rintro _ _ ⟨_, ⟨rfl, rfl⟩, rfl⟩
    refine SL.n4 ?_
    refine SL.val rfl rfl (fun w9 F9 S9 s => R.mv rfl) ?_
    refine SL.imp (Imp.weak (p := DkP L) (q := fun w => DiskAt w d.b d.l) (show Sel _ (dkS L) _ from (by repeat (first | exact Sel.keep | exact Sel.here | apply Sel.there))) (fun w hw => dkS_one hw hd)) ?_
    refine SL.step rfl rfl (CS.call rfl go15 (iwithS d.b d.l la ln lc ws hln h0) (by repeat (first | exact Sels.nil | apply Sels.cons | exact Sel.keep | exact Sel.here | apply Sel.there))) ?_
    rintro _ _ ⟨_, ⟨b2, rfl, rfl⟩, rfl⟩
    refine SL.n1 ?_
    refine SL.val rfl rfl (fun w9 F9 S9 s => R.mv rfl) ?_
    refine SL.val rfl rfl (fun w9 F9 S9 s => R.ext rfl rfl) ?_
    refine SL.val rfl rfl (fun w9 F9 S9 s => R.ext rfl rfl) ?_
    refine SL.val rfl rfl (fun w9 F9 S9 s => R.as rfl) ?_
    refine SL.val rfl rfl (fun w9 F9 S9 s => R.as rfl) ?_
    refine SL.nil ?_
    refine SN.seq ?_
    refine SG.seq ?_
    refine SG.seq ?_
    refine SG.region ?_
    refine SL.val rfl rfl (fun w9 F9 S9 s => R.mv rfl) ?_
    refine SL.val rfl rfl (fun w9 F9 S9 s => R.neI rfl rfl) ?_
    refine SL.nil ?_
    refine SN.seq ?_
    refine SG.condF rfl ?_
    refine SG.skip ?_
    refine SN.seq ?_
    refine SG.seq ?_
    refine SG.draw [12, 13] [0, 1, 2, 3, 4, 5, 6, 7, 8, 9, 10, 11, 12, 13] (by decide +kernel) rfl ?_
    refine SW.pure rfl rfl rfl rfl (fun w9 => R.mv rfl) ?_
    refine SW.pure rfl rfl rfl rfl (fun w9 => R.nilChk rfl) ?_
    refine SW.pure rfl rfl rfl rfl (fun w9 => R.fld rfl) ?_
    refine SW.pure rfl rfl rfl rfl (fun w9 => R.fld rfl) ?_
    refine SW.read rfl rfl rfl rfl (fun w9 F9 S9 s => R.ldB (v := .int .i64 tt) rfl (s.cel (by repeat (first | exact SelB.blk | exact SelB.fz | apply SelB.there))) (by rfl)) ?_
    refine SW.pure rfl rfl rfl rfl (fun w9 => R.mv rfl) ?_
    refine SW.pure rfl rfl rfl rfl (fun w9 => R.nilChk rfl) ?_
    refine SW.pure rfl rfl rfl rfl (fun w9 => R.fld rfl) ?_
    refine SW.pure rfl rfl rfl rfl (fun w9 => R.fld rfl) ?_
    refine SW.read rfl rfl rfl rfl (fun w9 F9 S9 s => R.ldB (v := .int .i64 nn) rfl (s.cel (by repeat (first | exact SelB.blk | exact SelB.fz | apply SelB.there))) (by rfl)) ?_
    refine SW.pure rfl rfl rfl rfl (fun w9 => R.add rfl rfl (by omega)) ?_
    refine SW.pure rfl rfl rfl rfl (fun w9 => R.buildN (l := [.int .i64 tt, .int .i64 (nn + 1)]) rfl rfl) ?_
    refine SW.step rfl rfl rfl rfl (CS.alloc [.int .i64 0, .int .i64 0] rfl) ?_
    rintro _ _ ⟨b8, rfl, rfl⟩
    refine ⟨⟨.inr (fun w9 F9 S9 s => R.ldB (v := .int .i64 nn) rfl (s.cel (by repeat (first | exact SelB.blk | exact SelB.fz | apply SelB.there))) (by rfl)), ⟨.inr (fun w9 F9 S9 s => R.ldB (v := .int .i64 tt) rfl (s.cel (by repeat (first | exact SelB.blk | exact SelB.fz | apply SelB.there))) (by rfl)), trivial⟩⟩, ?_⟩
    refine SW.step0 rfl rfl rfl (CS.stA (vs := [.int .i64 tt, .int .i64 (nn + 1)]) rfl rfl (by repeat (first | exact Sel.keep | exact Sel.here | apply Sel.there)) (by rfl) (by rfl) (by intro u hu; simp only [List.mem_cons, List.not_mem_nil, or_false] at hu; rcases hu with rfl | rfl <;> rfl)) ?_
    rintro _ _ rfl
    refine ⟨⟨.inl (by decide +kernel), ⟨.inl (by decide +kernel), trivial⟩⟩, ?_⟩
    refine SW.nil ?_
    refine SN.seq ?_
    refine SG.seq ?_
    refine SG.seq ?_
    refine SG.region ?_
    refine SL.val rfl rfl (fun w9 F9 S9 s => R.fld rfl) ?_
    refine SL.val rfl rfl (fun w9 F9 S9 s => R.ldB (v := .int .i64 (nn + 1)) rfl (s.cel (by repeat (first | exact SelB.blk | exact SelB.fz | apply SelB.there))) (by rfl)) ?_
    refine SL.val rfl rfl (fun w9 F9 S9 s => R.gtr rfl rfl) ?_
    refine SL.nil ?_
    refine SN.seq ?_
    refine SG.condP rfl (fun h2 => ?_) (fun h2 => ?_)
    · exfalso; omega
    · refine SG.skip ?_
      refine SN.seq ?_
      refine SG.seq ?_
      refine SG.seq ?_
      rcases hq : wasV L tt (nn + 1) with _ | q
      · refine SG.region ?_
        refine SL.val rfl rfl (fun w9 F9 S9 s => R.mv rfl) ?_
        refine SL.val rfl rfl (fun w9 F9 S9 s => R.ldBN (cs := #[.int .i64 tt, .int .i64 (nn + 1)]) rfl (s.cel (by repeat (first | exact SelB.blk | exact SelB.fz | apply SelB.there))) (by rfl)) ?_
        refine SL.step rfl rfl (CS.call rfl go34 (wwasE p m L tt nn kk tt (nn + 1) hw hk none hq) (by repeat (first | exact Sels.nil | apply Sels.cons | exact Sel.keep | exact Sel.here | apply Sel.there))) ?_
        rintro _ _ ⟨_, ⟨rfl, rfl⟩, rfl⟩
        refine SL.n4 ?_
        refine SL.val rfl rfl (fun w9 F9 S9 s => R.mv rfl) ?_
        refine SL.val rfl rfl (fun w9 F9 S9 s => R.ext rfl rfl) ?_
        refine SL.val rfl rfl (fun w9 F9 S9 s => R.ext rfl rfl) ?_
        refine SL.val rfl rfl (fun w9 F9 S9 s => R.as rfl) ?_
        refine SL.val rfl rfl (fun w9 F9 S9 s => R.as rfl) ?_
        refine SL.nil ?_
        refine SN.seq ?_
        refine SG.seq ?_
        refine SG.region ?_
        refine SL.val rfl rfl (fun w9 F9 S9 s => R.mv rfl) ?_
        refine SL.nil ?_
        refine SN.seq ?_
        refine SG.condF rfl ?_
        refine SG.skip ?_
        refine SN.seq ?_
        refine SG.seq ?_
        refine SG.drawT (.flo 0 (.flo 1 (.flo 2 (.flo 3 (.flo 4 (.flo 5 (.alt 6 (.flo 7 (.flo 8 (.flo 9 (.alt 10 (.alt 11 (.flo 12 .nil) .stop) .stop)))) (.alt 10 (.alt 6 (.flo 7 (.flo 8 (.flo 9 (.alt 11 (.flo 12 .nil) .stop)))) .stop) .stop)))))))) (by decide +kernel) rfl ?_
        refine TW.pure rfl rfl rfl rfl (fun w9 => R.mv rfl) ?_
        refine TW.pure rfl rfl rfl rfl (fun w9 => R.nilChk rfl) ?_
        refine TW.pure rfl rfl rfl rfl (fun w9 => R.fld rfl) ?_
        refine TW.read rfl rfl rfl rfl (fun w9 F9 S9 s => R.ldB (v := .pointer (some ⟨m, 0, none⟩)) rfl (s.cel (by repeat (first | exact SelB.blk | exact SelB.fz | apply SelB.there))) (by rfl)) ?_
        refine TW.pure rfl rfl rfl rfl (fun w9 => R.fld rfl) ?_
        refine TW.read rfl rfl rfl rfl (fun w9 F9 S9 s => R.ldB (v := .int .i64 tt) rfl (s.cel (by repeat (first | exact SelB.blk | exact SelB.fz | apply SelB.there))) (by rfl)) ?_
        refine TW.or ?_ ?_
        · refine TW.step rfl rfl rfl rfl (CS.callR rfl go35 (fun w9 F9 S9 s => (s.mp (show Sel _ (mp (κ := Int) 124 128 3 m (psL L)) _ from (by repeat (first | exact Sel.keep | exact Sel.here | apply Sel.there)))).elim fun S9 h9 => lgetS m L tt x S9 w9 h9 (by have := hw.len; omega) hx)) ?_
          rintro _ _ ⟨rfl, rfl⟩
          refine ⟨⟨.inl (by decide +kernel), ⟨.inl (by decide +kernel), trivial⟩⟩, ?_⟩
          refine TW.pure rfl rfl rfl rfl (fun w9 => R.mv rfl) ?_
          refine TW.pure rfl rfl rfl rfl (fun w9 => R.ext rfl rfl) ?_
          refine TW.pure rfl rfl rfl rfl (fun w9 => R.ext rfl rfl) ?_
          refine TW.step rfl rfl rfl rfl (CS.alloc [.pointer none, .int .i64 0, .int .i64 0] rfl) ?_
          rintro _ _ ⟨b11, rfl, rfl⟩
          refine ⟨⟨.inr (fun w9 F9 S9 s => R.ldB (v := .int .i64 tt) rfl (s.cel (by repeat (first | exact SelB.blk | exact SelB.fz | apply SelB.there))) (by rfl)), ⟨.inr (fun w9 F9 S9 s => R.ldB (v := .pointer (some ⟨m, 0, none⟩)) rfl (s.cel (by repeat (first | exact SelB.blk | exact SelB.fz | apply SelB.there))) (by rfl)), trivial⟩⟩, ?_⟩
          refine TW.step0 rfl rfl rfl (CS.stA (vs := lnC x) rfl rfl (by repeat (first | exact Sel.keep | exact Sel.here | apply Sel.there)) (by rfl) (by rfl) (lnC_one x)) ?_
          rintro _ _ rfl
          refine ⟨⟨.inl (by decide +kernel), ⟨.inl (by decide +kernel), trivial⟩⟩, ?_⟩
          refine TW.pure rfl rfl rfl rfl (fun w9 => R.as rfl) ?_
          refine TW.nil ?_
          refine SN.seq ?_
          refine SG.seq ?_
          refine SG.region ?_
          refine SL.val rfl rfl (fun w9 F9 S9 s => R.fld rfl) ?_
          refine SL.val rfl rfl (fun w9 F9 S9 s => R.ldB (v := .pointer (some ⟨x.m, 0, none⟩)) rfl (s.cel (by repeat (first | exact SelB.blk | exact SelB.fz | apply SelB.there))) (by rfl)) ?_
          refine SL.val rfl rfl (fun w9 F9 S9 s => R.fld rfl) ?_
          refine SL.val rfl rfl (fun w9 F9 S9 s => R.ldB (v := .int .i64 (nn + 1)) rfl (s.cel (by repeat (first | exact SelB.blk | exact SelB.fz | apply SelB.there))) (by rfl)) ?_
          refine SL.val rfl rfl (fun w9 F9 S9 s => R.mv rfl) ?_
          refine SL.imp (Imp.lnOpen (by repeat (first | exact Sel.keep | exact Sel.here | apply Sel.there)) hw.srt hx) ?_
          refine SL.step rfl rfl (CS.call rfl go36 (dputX x.m x.ds (nn + 1) ⟨b2, (withF d.l (ws.map wv)).1⟩ (by have := ds_len hw hx; omega)) (by repeat (first | exact Sels.nil | apply Sels.cons | exact Sel.keep | exact Sel.here | apply Sel.there))) ?_
          rintro _ _ ⟨_, ⟨rfl, rfl⟩, rfl⟩
          refine SL.n1 ?_
          refine SL.nil ?_
          refine SN.imp (Imp.lnClose (L := L) (t := tt) (x := { x with ds := putT x.ds (nn + 1) ⟨b2, (withF d.l (ws.map wv)).1⟩ }) (by repeat (first | exact Sel.keep | exact Sel.here | apply Sel.there)) (by repeat (first | exact Sel.keep | exact Sel.here | apply Sel.there)) hw.srt) ?_
          refine SN.seq ?_
          refine SG.seq ?_
          refine SG.region ?_
          refine SL.val rfl rfl (fun w9 F9 S9 s => R.mv rfl) ?_
          refine SL.val rfl rfl (fun w9 F9 S9 s => R.ldBN (cs := #[.int .i64 tt, .int .i64 (nn + 1)]) rfl (s.cel (by repeat (first | exact SelB.blk | exact SelB.fz | apply SelB.there))) (by rfl)) ?_
          refine SL.val rfl rfl (fun w9 F9 S9 s => R.nilChk rfl) ?_
          refine SL.val rfl rfl (fun w9 F9 S9 s => R.fld rfl) ?_
          refine SL.step0 rfl (CS.stN (k := 1) (vs := [.int .i64 tt, .int .i64 (nn + 1)]) (cs' := [.pointer (some ⟨m, 0, none⟩), .int .i64 tt, .int .i64 (nn + 1)]) rfl rfl (show Sel _ (blk p _ _) _ from (by repeat (first | exact Sel.keep | exact Sel.here | apply Sel.there))) rfl (by show 1 + 2 ≤ 3; decide) (by intro u hu; simp only [List.mem_cons, List.not_mem_nil, or_false] at hu; rcases hu with rfl | rfl <;> rfl) rfl) ?_
          rintro _ _ rfl
          refine SL.nil ?_
          refine SN.seq ?_
          refine SG.seq ?_
          refine SG.region ?_
          refine SL.val rfl rfl (fun w9 F9 S9 s => R.fld rfl) ?_
          refine SL.val rfl rfl (fun w9 F9 S9 s => R.ldB (v := .int .i64 (nn + 1)) rfl (s.cel (by repeat (first | exact SelB.blk | exact SelB.fz | apply SelB.there))) (by rfl)) ?_
          refine SL.val rfl rfl (fun w9 F9 S9 s => R.as rfl) ?_
          refine SL.val rfl rfl (fun w9 F9 S9 s => R.as rfl) ?_
          refine SL.nil ?_
          refine SN.imp (Imp.both (p := DkP L) (q := fun w => DiskAt w b2 (withF d.l (ws.map wv)).1) (show Sel _ (dkS L) _ from (by repeat (first | exact Sel.keep | exact Sel.here | apply Sel.there))) (by repeat (first | exact Sel.keep | exact Sel.here | apply Sel.there))) ?_
          refine SN.imp (Imp.weak (p := fun w => DkP L w ∧ DiskAt w b2 (withF d.l (ws.map wv)).1) (q := DkP (addD L tt x (nn + 1) ⟨b2, (withF d.l (ws.map wv)).1⟩)) (by repeat (first | exact Sel.keep | exact Sel.here | apply Sel.there)) (fun w h => dkS_put h.1 (fun e he => (mem_putT he).elim (fun e1 => by rw [e1]; exact h.2) (h.1 _ (getT_some hx) e)))) ?_
          refine SN.imp (Imp.same (A := mp (κ := Int) 124 128 3 m (psL L)) (B := mp (κ := Int) 124 128 3 m (psL (addD L tt x (nn + 1) ⟨b2, (withF d.l (ws.map wv)).1⟩))) (by repeat (first | exact Sel.keep | exact Sel.here | apply Sel.there)) (fun F S w h => by rw [psL_add hw.srt hx]; exact h)) ?_
          refine SN.seq ?_
          exact SG.ret2 rfl rfl rfl ((Imp.sels (by repeat (first | exact Sels.nil | apply Sels.cons | exact Sel.keep | exact Sel.here | apply Sel.there)))) (⟨(addD L tt x (nn + 1) ⟨b2, (withF d.l (ws.map wv)).1⟩), nn + 1, nn + 1, 0, rfl, .inr (.inr ⟨h0, hq, rfl, rfl, rfl, x, b2, hx, rfl⟩), rfl⟩)
        refine TW.step rfl rfl rfl rfl (CS.alloc [.pointer none, .int .i64 0, .int .i64 0] rfl) ?_
        rintro _ _ ⟨b11, rfl, rfl⟩
        refine ⟨⟨.inr (fun w9 F9 S9 s => R.ldB (v := .int .i64 tt) rfl (s.cel (by repeat (first | exact SelB.blk | exact SelB.fz | apply SelB.there))) (by rfl)), ⟨.inr (fun w9 F9 S9 s => R.ldB (v := .pointer (some ⟨m, 0, none⟩)) rfl (s.cel (by repeat (first | exact SelB.blk | exact SelB.fz | apply SelB.there))) (by rfl)), trivial⟩⟩, ?_⟩
        refine TW.step rfl rfl rfl rfl (CS.callR rfl go35 (fun w9 F9 S9 s => (s.mp (show Sel _ (mp (κ := Int) 124 128 3 m (psL L)) _ from (by repeat (first | exact Sel.keep | exact Sel.here | apply Sel.there)))).elim fun S9 h9 => lgetS m L tt x S9 w9 h9 (by have := hw.len; omega) hx)) ?_
        rintro _ _ ⟨rfl, rfl⟩
        refine ⟨⟨.inl (by decide +kernel), ⟨.inl (by decide +kernel), trivial⟩⟩, ?_⟩
        refine TW.pure rfl rfl rfl rfl (fun w9 => R.mv rfl) ?_
        refine TW.pure rfl rfl rfl rfl (fun w9 => R.ext rfl rfl) ?_
        refine TW.pure rfl rfl rfl rfl (fun w9 => R.ext rfl rfl) ?_
        refine TW.step0 rfl rfl rfl (CS.stA (vs := lnC x) rfl rfl (by repeat (first | exact Sel.keep | exact Sel.here | apply Sel.there)) (by rfl) (by rfl) (lnC_one x)) ?_
        rintro _ _ rfl
        refine ⟨⟨.inl (by decide +kernel), ⟨.inl (by decide +kernel), trivial⟩⟩, ?_⟩
        refine TW.pure rfl rfl rfl rfl (fun w9 => R.as rfl) ?_
        refine TW.nil ?_
        refine SN.seq ?_
        refine SG.seq ?_
        refine SG.region ?_
        refine SL.val rfl rfl (fun w9 F9 S9 s => R.fld rfl) ?_
        refine SL.val rfl rfl (fun w9 F9 S9 s => R.ldB (v := .pointer (some ⟨x.m, 0, none⟩)) rfl (s.cel (by repeat (first | exact SelB.blk | exact SelB.fz | apply SelB.there))) (by rfl)) ?_
        refine SL.val rfl rfl (fun w9 F9 S9 s => R.fld rfl) ?_
        refine SL.val rfl rfl (fun w9 F9 S9 s => R.ldB (v := .int .i64 (nn + 1)) rfl (s.cel (by repeat (first | exact SelB.blk | exact SelB.fz | apply SelB.there))) (by rfl)) ?_
        refine SL.val rfl rfl (fun w9 F9 S9 s => R.mv rfl) ?_
        refine SL.imp (Imp.lnOpen (by repeat (first | exact Sel.keep | exact Sel.here | apply Sel.there)) hw.srt hx) ?_
        refine SL.step rfl rfl (CS.call rfl go36 (dputX x.m x.ds (nn + 1) ⟨b2, (withF d.l (ws.map wv)).1⟩ (by have := ds_len hw hx; omega)) (by repeat (first | exact Sels.nil | apply Sels.cons | exact Sel.keep | exact Sel.here | apply Sel.there))) ?_
        rintro _ _ ⟨_, ⟨rfl, rfl⟩, rfl⟩
        refine SL.n1 ?_
        refine SL.nil ?_
        refine SN.imp (Imp.lnClose (L := L) (t := tt) (x := { x with ds := putT x.ds (nn + 1) ⟨b2, (withF d.l (ws.map wv)).1⟩ }) (by repeat (first | exact Sel.keep | exact Sel.here | apply Sel.there)) (by repeat (first | exact Sel.keep | exact Sel.here | apply Sel.there)) hw.srt) ?_
        refine SN.seq ?_
        refine SG.seq ?_
        refine SG.region ?_
        refine SL.val rfl rfl (fun w9 F9 S9 s => R.mv rfl) ?_
        refine SL.val rfl rfl (fun w9 F9 S9 s => R.ldBN (cs := #[.int .i64 tt, .int .i64 (nn + 1)]) rfl (s.cel (by repeat (first | exact SelB.blk | exact SelB.fz | apply SelB.there))) (by rfl)) ?_
        refine SL.val rfl rfl (fun w9 F9 S9 s => R.nilChk rfl) ?_
        refine SL.val rfl rfl (fun w9 F9 S9 s => R.fld rfl) ?_
        refine SL.step0 rfl (CS.stN (k := 1) (vs := [.int .i64 tt, .int .i64 (nn + 1)]) (cs' := [.pointer (some ⟨m, 0, none⟩), .int .i64 tt, .int .i64 (nn + 1)]) rfl rfl (show Sel _ (blk p _ _) _ from (by repeat (first | exact Sel.keep | exact Sel.here | apply Sel.there))) rfl (by show 1 + 2 ≤ 3; decide) (by intro u hu; simp only [List.mem_cons, List.not_mem_nil, or_false] at hu; rcases hu with rfl | rfl <;> rfl) rfl) ?_
        rintro _ _ rfl
        refine SL.nil ?_
        refine SN.seq ?_
        refine SG.seq ?_
        refine SG.region ?_
        refine SL.val rfl rfl (fun w9 F9 S9 s => R.fld rfl) ?_
        refine SL.val rfl rfl (fun w9 F9 S9 s => R.ldB (v := .int .i64 (nn + 1)) rfl (s.cel (by repeat (first | exact SelB.blk | exact SelB.fz | apply SelB.there))) (by rfl)) ?_
        refine SL.val rfl rfl (fun w9 F9 S9 s => R.as rfl) ?_
        refine SL.val rfl rfl (fun w9 F9 S9 s => R.as rfl) ?_
        refine SL.nil ?_
        refine SN.imp (Imp.both (p := DkP L) (q := fun w => DiskAt w b2 (withF d.l (ws.map wv)).1) (show Sel _ (dkS L) _ from (by repeat (first | exact Sel.keep | exact Sel.here | apply Sel.there))) (by repeat (first | exact Sel.keep | exact Sel.here | apply Sel.there))) ?_
        refine SN.imp (Imp.weak (p := fun w => DkP L w ∧ DiskAt w b2 (withF d.l (ws.map wv)).1) (q := DkP (addD L tt x (nn + 1) ⟨b2, (withF d.l (ws.map wv)).1⟩)) (by repeat (first | exact Sel.keep | exact Sel.here | apply Sel.there)) (fun w h => dkS_put h.1 (fun e he => (mem_putT he).elim (fun e1 => by rw [e1]; exact h.2) (h.1 _ (getT_some hx) e)))) ?_
        refine SN.imp (Imp.same (A := mp (κ := Int) 124 128 3 m (psL L)) (B := mp (κ := Int) 124 128 3 m (psL (addD L tt x (nn + 1) ⟨b2, (withF d.l (ws.map wv)).1⟩))) (by repeat (first | exact Sel.keep | exact Sel.here | apply Sel.there)) (fun F S w h => by rw [psL_add hw.srt hx]; exact h)) ?_
        refine SN.seq ?_
        exact SG.ret2 rfl rfl rfl ((Imp.sels (by repeat (first | exact Sels.nil | apply Sels.cons | exact Sel.keep | exact Sel.here | apply Sel.there)))) (⟨(addD L tt x (nn + 1) ⟨b2, (withF d.l (ws.map wv)).1⟩), nn + 1, nn + 1, 0, rfl, .inr (.inr ⟨h0, hq, rfl, rfl, rfl, x, b2, hx, rfl⟩), rfl⟩)
      · refine SG.region ?_
        refine SL.val rfl rfl (fun w9 F9 S9 s => R.mv rfl) ?_
        refine SL.val rfl rfl (fun w9 F9 S9 s => R.ldBN (cs := #[.int .i64 tt, .int .i64 (nn + 1)]) rfl (s.cel (by repeat (first | exact SelB.blk | exact SelB.fz | apply SelB.there))) (by rfl)) ?_
        refine SL.step rfl rfl (CS.call rfl go34 (wwasE p m L tt nn kk tt (nn + 1) hw hk (some q) hq) (by repeat (first | exact Sels.nil | apply Sels.cons | exact Sel.keep | exact Sel.here | apply Sel.there))) ?_
        rintro _ _ ⟨_, ⟨rfl, rfl⟩, rfl⟩
        refine SL.n4 ?_
        refine SL.val rfl rfl (fun w9 F9 S9 s => R.mv rfl) ?_
        refine SL.val rfl rfl (fun w9 F9 S9 s => R.ext rfl rfl) ?_
        refine SL.val rfl rfl (fun w9 F9 S9 s => R.ext rfl rfl) ?_
        refine SL.val rfl rfl (fun w9 F9 S9 s => R.as rfl) ?_
        refine SL.val rfl rfl (fun w9 F9 S9 s => R.as rfl) ?_
        refine SL.nil ?_
        refine SN.seq ?_
        refine SG.seq ?_
        refine SG.region ?_
        refine SL.val rfl rfl (fun w9 F9 S9 s => R.mv rfl) ?_
        refine SL.nil ?_
        refine SN.seq ?_
        refine SG.condT rfl ?_
        refine SG.seq ?_
        refine SG.region ?_
        refine SL.val rfl rfl (fun w9 F9 S9 s => R.as rfl) ?_
        refine SL.val rfl rfl (fun w9 F9 S9 s => R.as rfl) ?_
        refine SL.nil ?_
        refine SN.seq ?_
        exact SG.ret2 rfl rfl rfl ((Imp.sels (by repeat (first | exact Sels.nil | apply Sels.cons | exact Sel.keep | exact Sel.here | apply Sel.there)))) (⟨L, nn, 0, 52, rfl, .inr (.inl ⟨h0, ⟨q, hq⟩, rfl, rfl, rfl, rfl⟩), rfl⟩)
  · refine SG.region ?_
    refine SL.val rfl rfl (fun w9 F9 S9 s => R.mv rfl) ?_
    refine SL.step rfl rfl (CS.call rfl go13 (wdisk_ok p m L tt nn kk d hw hk hd) (by repeat (first | exact Sels.nil | apply Sels.cons | exact Sel.keep | exact Sel.here | apply Sel.there))) ?_
    rintro _ _ ⟨_, ⟨rfl, rfl⟩, rfl⟩
    refine SL.n4 ?_
    refine SL.val rfl rfl (fun w9 F9 S9 s => R.mv rfl) ?_
    refine SL.step rfl rfl (CS.callR rfl go15 (fun w9 F9 S9 s => iwithR d.b d.l la ln lc ws hln h0 w9 (dkS_one (s.sh (p := DkP L) (show Sel _ (dkS L) _ from (by repeat (first | exact Sel.keep | exact Sel.here | apply Sel.there)))) hd) (s.sh (p := fun w => WsP w la ln ws) (by repeat (first | exact Sel.keep | exact Sel.here | apply Sel.there))))) ?_
    rintro _ _ ⟨rfl, rfl⟩
    refine SL.val rfl rfl (fun w9 F9 S9 s => R.mv rfl) ?_
    refine SL.val rfl rfl (fun w9 F9 S9 s => R.ext rfl rfl) ?_
    refine SL.val rfl rfl (fun w9 F9 S9 s => R.ext rfl rfl) ?_
    refine SL.val rfl rfl (fun w9 F9 S9 s => R.as rfl) ?_
    refine SL.val rfl rfl (fun w9 F9 S9 s => R.as rfl) ?_
    refine SL.nil ?_
    refine SN.seq ?_
    refine SG.seq ?_
    refine SG.seq ?_
    refine SG.region ?_
    refine SL.val rfl rfl (fun w9 F9 S9 s => R.mv rfl) ?_
    refine SL.val rfl rfl (fun w9 F9 S9 s => R.neI rfl rfl) ?_
    refine SL.nil ?_
    refine SN.seq ?_
    refine SG.condP rfl (fun h1 => ?_) (fun h1 => ?_)
    · refine SG.seq ?_
      refine SG.region ?_
      refine SL.val rfl rfl (fun w9 F9 S9 s => R.mv rfl) ?_
      refine SL.val rfl rfl (fun w9 F9 S9 s => R.as rfl) ?_
      refine SL.val rfl rfl (fun w9 F9 S9 s => R.as rfl) ?_
      refine SL.nil ?_
      refine SN.seq ?_
      exact SG.ret2 rfl rfl rfl ((Imp.sels (by repeat (first | exact Sels.nil | apply Sels.cons | exact Sel.keep | exact Sel.here | apply Sel.there)))) (⟨L, nn, 0, _, rfl, .inl ⟨h0, rfl, rfl, rfl, rfl⟩, rfl⟩)
    · exact (h1 h0).elim

end Go.Proofs.Ythdaelmjiaegfaa
/-
  The walks of package model.
-/
set_option linter.unusedVariables false
set_option linter.unusedSimpArgs false
set_option maxRecDepth 4000
namespace Go.Proofs.Ythdaelmjiaegfaa
open Go Brv Brv.Image Brv.Model
theorem wbra_ok (p m : Nat) (L : Lns) (tt nn : Int) (kk : Nat) (tx nx ux : Int) (hw : Wf L kk) (hk : kk ≤ 9000) : SpecS Try.prog 9 [.pointer (some ⟨p, 0, none⟩), .int .i64 tx, .int .i64 nx, .int .i64 ux] [blk p [.pointer (some ⟨m, 0, none⟩), .int .i64 tt, .int .i64 nn] 85, mp (κ := Int) 124 128 3 m (psL L), lnA L, dkS L] (fun v H' => ∃ L' t' n' e, v = .int .i64 e ∧ BraR L tt nn tx nx ux L' t' n' e ∧ H' = [blk p [.pointer (some ⟨m, 0, none⟩), .int .i64 t', .int .i64 n'] 85, mp (κ := Int) 124 128 3 m (psL L'), lnA L', dkS L']) := by
  refine SpecS.enter Try.func9 rfl 56 rfl (Nat.le_of_ble_eq_true rfl) (fun o => ?_)
  obtain ⟨rk, hrk⟩ := hw.rk
  obtain ⟨r, hr⟩ := at_ex hrk nx (rk tx) tx (Nat.le_refl _)
  refine SG.seq ?_
  refine SG.region ?_
  refine SL.val rfl rfl (fun w9 F9 S9 s => R.as rfl) ?_
  refine SL.nil ?_
  refine SN.seq ?_
  refine SG.seq ?_
  refine SG.seq ?_
  refine SG.region ?_
  refine SL.val rfl rfl (fun w9 F9 S9 s => R.mv rfl) ?_
  refine SL.val rfl rfl (fun w9 F9 S9 s => R.eqNilP rfl rfl) ?_
  refine SL.nil ?_
  refine SN.seq ?_
  refine SG.condF rfl ?_
  refine SG.skip ?_
  refine SN.seq ?_
  refine SG.seq ?_
  rcases r with _ | d
  · refine SG.region ?_
    refine SL.val rfl rfl (fun w9 F9 S9 s => R.mv rfl) ?_
    refine SL.val rfl rfl (fun w9 F9 S9 s => R.mv rfl) ?_
    refine SL.val rfl rfl (fun w9 F9 S9 s => R.mv rfl) ?_
    refine SL.step rfl rfl (CS.call rfl go14 (watE p m L tt nn kk tx nx hw hk none hr) (by repeat (first | exact Sels.nil | apply Sels.cons | exact Sel.keep | exact Sel.here | apply Sel.there))) ?_
    rintro _ _ ⟨_, ⟨rfl, rfl⟩, rfl⟩
    refine SL.n4 ?_
    refine SL.val rfl rfl (fun w9 F9 S9 s => R.mv rfl) ?_
    refine SL.val rfl rfl (fun w9 F9 S9 s => R.ext rfl rfl) ?_
    refine SL.val rfl rfl (fun w9 F9 S9 s => R.ext rfl rfl) ?_
    refine SL.val rfl rfl (fun w9 F9 S9 s => R.as rfl) ?_
    refine SL.val rfl rfl (fun w9 F9 S9 s => R.as rfl) ?_
    refine SL.nil ?_
    refine SN.seq ?_
    refine SG.seq ?_
    refine SG.seq ?_
    refine SG.region ?_
    refine SL.val rfl rfl (fun w9 F9 S9 s => R.mv rfl) ?_
    refine SL.val rfl rfl (fun w9 F9 S9 s => R.not rfl) ?_
    refine SL.nil ?_
    refine SN.seq ?_
    refine SG.condT rfl ?_
    refine SG.seq ?_
    refine SG.region ?_
    refine SL.val rfl rfl (fun w9 F9 S9 s => R.as rfl) ?_
    refine SL.nil ?_
    refine SN.seq ?_
    exact SG.ret1 rfl rfl ((Imp.sels (by repeat (first | exact Sels.nil | apply Sels.cons | exact Sel.keep | exact Sel.here | apply Sel.there)))) (⟨L, tt, nn, 50, rfl, .inl ⟨hr, rfl, rfl, rfl, rfl⟩, rfl⟩)
  · refine SG.region ?_
    refine SL.val rfl rfl (fun w9 F9 S9 s => R.mv rfl) ?_
    refine SL.val rfl rfl (fun w9 F9 S9 s => R.mv rfl) ?_
    refine SL.val rfl rfl (fun w9 F9 S9 s => R.mv rfl) ?_
    refine SL.step rfl rfl (CS.call rfl go14 (watE p m L tt nn kk tx nx hw hk (some d) hr) (by repeat (first | exact Sels.nil | apply Sels.cons | exact Sel.keep | exact Sel.here | apply Sel.there))) ?_
    rintro _ _ ⟨_, ⟨rfl, rfl⟩, rfl⟩
    refine SL.n4 ?_
    refine SL.val rfl rfl (fun w9 F9 S9 s => R.mv rfl) ?_
    refine SL.val rfl rfl (fun w9 F9 S9 s => R.ext rfl rfl) ?_
    refine SL.val rfl rfl (fun w9 F9 S9 s => R.ext rfl rfl) ?_
    refine SL.val rfl rfl (fun w9 F9 S9 s => R.as rfl) ?_
    refine SL.val rfl rfl (fun w9 F9 S9 s => R.as rfl) ?_
    refine SL.nil ?_
    refine SN.seq ?_
    refine SG.seq ?_
    refine SG.seq ?_
    refine SG.region ?_
    refine SL.val rfl rfl (fun w9 F9 S9 s => R.mv rfl) ?_
    refine SL.val rfl rfl (fun w9 F9 S9 s => R.not rfl) ?_
    refine SL.nil ?_
    refine SN.seq ?_
    refine SG.condF rfl ?_
    refine SG.skip ?_
    refine SN.seq ?_
    refine SG.seq ?_
    refine SG.seq ?_
    rcases hg : getT L ux with _ | y
    · refine SG.region ?_
      refine SL.val rfl rfl (fun w9 F9 S9 s => R.mv rfl) ?_
      refine SL.val rfl rfl (fun w9 F9 S9 s => R.nilChk rfl) ?_
      refine SL.val rfl rfl (fun w9 F9 S9 s => R.fld rfl) ?_
      refine SL.val rfl rfl (fun w9 F9 S9 s => R.ldB (v := .pointer (some ⟨m, 0, none⟩)) rfl (s.cel (by repeat (first | exact SelB.blk | exact SelB.fz | apply SelB.there))) (by rfl)) ?_
      refine SL.val rfl rfl (fun w9 F9 S9 s => R.mv rfl) ?_
      refine SL.step rfl rfl (CS.callR rfl go35 (fun w9 F9 S9 s => (s.mp (show Sel _ (mp (κ := Int) 124 128 3 m (psL L)) _ from (by repeat (first | exact Sel.keep | exact Sel.here | apply Sel.there)))).elim fun S9 h9 => lgetN m L ux S9 w9 h9 (by have := hw.len; omega) hg)) ?_
      rintro _ _ ⟨rfl, rfl⟩
      refine SL.val rfl rfl (fun w9 F9 S9 s => R.mv rfl) ?_
      refine SL.val rfl rfl (fun w9 F9 S9 s => R.ext rfl rfl) ?_
      refine SL.val rfl rfl (fun w9 F9 S9 s => R.ext rfl rfl) ?_
      refine SL.step rfl rfl (CS.alloc [.pointer none, .int .i64 0, .int .i64 0] rfl) ?_
      rintro _ _ ⟨b11, rfl, rfl⟩
      refine SL.step0 rfl (CS.stA (vs := [.pointer none, .int .i64 0, .int .i64 0]) rfl rfl (by repeat (first | exact Sel.keep | exact Sel.here | apply Sel.there)) (by rfl) (by rfl) (by intro u hu; simp only [List.mem_cons, List.not_mem_nil, or_false] at hu; rcases hu with rfl | rfl | rfl <;> rfl)) ?_
      rintro _ _ rfl
      refine SL.val rfl rfl (fun w9 F9 S9 s => R.as rfl) ?_
      refine SL.nil ?_
      refine SN.seq ?_
      refine SG.seq ?_
      refine SG.region ?_
      refine SL.val rfl rfl (fun w9 F9 S9 s => R.mv rfl) ?_
      refine SL.val rfl rfl (fun w9 F9 S9 s => R.mv rfl) ?_
      refine SL.isF 34 rfl (rfl) ?_
      refine SL.val rfl rfl (fun w9 F9 S9 s => R.mv rfl) ?_
      refine SL.val rfl rfl (fun w9 F9 S9 s => R.lss rfl rfl) ?_
      first | refine SL.val rfl rfl (fun w9 F9 S9 s => R.pickT rfl rfl) ?_ | refine SL.val rfl rfl (fun w9 F9 S9 s => R.pickF rfl rfl) ?_
      refine SL.nil ?_
      refine SN.seq ?_
      refine SG.condP rfl (fun h2 => ?_) (fun h2 => ?_)
      · refine SG.seq ?_
        refine SG.region ?_
        refine SL.val rfl rfl (fun w9 F9 S9 s => R.as rfl) ?_
        refine SL.nil ?_
        refine SN.seq ?_
        exact SG.ret1 rfl rfl ((Imp.sels (by repeat (first | exact Sels.nil | apply Sels.cons | exact Sel.keep | exact Sel.here | apply Sel.there)))) (⟨L, tt, nn, 52, rfl, .inr (.inl ⟨d, hr, .inr h2, rfl, rfl, rfl, rfl⟩), rfl⟩)
      · refine SG.skip ?_
        refine SN.seq ?_
        refine SG.seq ?_
        refine SG.draw [10, 11] [0, 1, 2, 3, 4, 5, 6, 7, 8, 9, 10, 11] (by decide +kernel) rfl ?_
        refine SW.pure rfl rfl rfl rfl (fun w9 => R.mv rfl) ?_
        refine SW.pure rfl rfl rfl rfl (fun w9 => R.nilChk rfl) ?_
        refine SW.pure rfl rfl rfl rfl (fun w9 => R.fld rfl) ?_
        refine SW.read rfl rfl rfl rfl (fun w9 F9 S9 s => R.ldB (v := .pointer (some ⟨m, 0, none⟩)) rfl (s.cel (by repeat (first | exact SelB.blk | exact SelB.fz | apply SelB.there))) (by rfl)) ?_
        refine SW.pure rfl rfl rfl rfl (fun w9 => R.mv rfl) ?_
        refine SW.pure rfl rfl rfl rfl (fun w9 => R.mv rfl) ?_
        refine SW.pure rfl rfl rfl rfl (fun w9 => R.mv rfl) ?_
        refine SW.pure rfl rfl rfl rfl (fun w9 => R.mv rfl) ?_
        refine SW.pure rfl rfl rfl rfl (fun w9 => R.mv rfl) ?_
        refine SW.pure rfl rfl rfl rfl (fun w9 => R.buildN (l := [.int .i64 tx, .int .i64 nx]) rfl rfl) ?_
        refine SW.step rfl rfl rfl rfl (CS.call rfl go33 (begun_ok nx tx nx d) (by repeat (first | exact Sels.nil | apply Sels.cons | exact Sel.keep | exact Sel.here | apply Sel.there))) ?_
        rintro _ _ ⟨_, ⟨m2, rfl, rfl⟩, rfl⟩
        refine ⟨⟨.inr (fun w9 F9 S9 s => R.ldB (v := .pointer (some ⟨m, 0, none⟩)) rfl (s.cel (by repeat (first | exact SelB.blk | exact SelB.fz | apply SelB.there))) (by rfl)), trivial⟩, ?_⟩
        refine SW.n1 ?_
        refine SW.step rfl rfl rfl rfl (CS.call rfl go32 (lputX m L ux ⟨m2, tx, nx, [(nx, d)]⟩ (by have := hw.len; omega)) (by repeat (first | exact Sels.nil | apply Sels.cons | exact Sel.keep | exact Sel.here | apply Sel.there))) ?_
        rintro _ _ ⟨_, ⟨rfl, rfl⟩, rfl⟩
        refine ⟨⟨.inl (by decide +kernel), trivial⟩, ?_⟩
        refine SW.n1 ?_
        refine SW.nil ?_
        refine SN.imp (Imp.lnClose (L := L) (t := ux) (x := ⟨m2, tx, nx, [(nx, d)]⟩) (by repeat (first | exact Sel.keep | exact Sel.here | apply Sel.there)) (show Sel _ (lnR L ux) _ by rw [lnR_no (getT_none hw.srt hg)]; exact (by repeat (first | exact Sel.keep | exact Sel.here | apply Sel.there))) hw.srt) ?_
        refine SN.imp (Imp.weak (p := DkP L) (q := DkP (newL L ux m2 tx nx d)) (show Sel _ (dkS L) _ from (by repeat (first | exact Sel.keep | exact Sel.here | apply Sel.there))) (fun w h => dkS_put h (fun e he => by rw [List.mem_singleton.1 he]; obtain ⟨t9, h9⟩ := at_was hr d rfl; exact dkS_one h h9))) ?_
        refine SN.seq ?_
        refine SG.seq ?_
        refine SG.region ?_
        refine SL.val rfl rfl (fun w9 F9 S9 s => R.mv rfl) ?_
        refine SL.val rfl rfl (fun w9 F9 S9 s => R.mv rfl) ?_
        refine SL.val rfl rfl (fun w9 F9 S9 s => R.mv rfl) ?_
        refine SL.val rfl rfl (fun w9 F9 S9 s => R.buildN (l := [.int .i64 ux, .int .i64 nx]) rfl rfl) ?_
        refine SL.val rfl rfl (fun w9 F9 S9 s => R.nilChk rfl) ?_
        refine SL.val rfl rfl (fun w9 F9 S9 s => R.fld rfl) ?_
        refine SL.step0 rfl (CS.stN (k := 1) (vs := [.int .i64 ux, .int .i64 nx]) (cs' := [.pointer (some ⟨m, 0, none⟩), .int .i64 ux, .int .i64 nx]) rfl rfl (show Sel _ (blk p _ _) _ from (by repeat (first | exact Sel.keep | exact Sel.here | apply Sel.there))) rfl (by show 1 + 2 ≤ 3; decide) (by intro u hu; simp only [List.mem_cons, List.not_mem_nil, or_false] at hu; rcases hu with rfl | rfl <;> rfl) rfl) ?_
        rintro _ _ rfl
        refine SL.nil ?_
        refine SN.seq ?_
        refine SG.seq ?_
        refine SG.region ?_
        refine SL.val rfl rfl (fun w9 F9 S9 s => R.as rfl) ?_
        refine SL.nil ?_
        refine SN.seq ?_
        exact SG.ret1 rfl rfl ((Imp.sels (by repeat (first | exact Sels.nil | apply Sels.cons | exact Sel.keep | exact Sel.here | apply Sel.there)))) (⟨(newL L ux m2 tx nx d), ux, nx, 0, rfl, .inr (.inr ⟨d, hr, hg, by omega, rfl, rfl, rfl, m2, rfl⟩), rfl⟩)
    · refine SG.region ?_
      refine SL.val rfl rfl (fun w9 F9 S9 s => R.mv rfl) ?_
      refine SL.val rfl rfl (fun w9 F9 S9 s => R.nilChk rfl) ?_
      refine SL.val rfl rfl (fun w9 F9 S9 s => R.fld rfl) ?_
      refine SL.val rfl rfl (fun w9 F9 S9 s => R.ldB (v := .pointer (some ⟨m, 0, none⟩)) rfl (s.cel (by repeat (first | exact SelB.blk | exact SelB.fz | apply SelB.there))) (by rfl)) ?_
      refine SL.val rfl rfl (fun w9 F9 S9 s => R.mv rfl) ?_
      refine SL.step rfl rfl (CS.callR rfl go35 (fun w9 F9 S9 s => (s.mp (show Sel _ (mp (κ := Int) 124 128 3 m (psL L)) _ from (by repeat (first | exact Sel.keep | exact Sel.here | apply Sel.there)))).elim fun S9 h9 => lgetS m L ux y S9 w9 h9 (by have := hw.len; omega) hg)) ?_
      rintro _ _ ⟨rfl, rfl⟩
      refine SL.val rfl rfl (fun w9 F9 S9 s => R.mv rfl) ?_
      refine SL.val rfl rfl (fun w9 F9 S9 s => R.ext rfl rfl) ?_
      refine SL.val rfl rfl (fun w9 F9 S9 s => R.ext rfl rfl) ?_
      refine SL.step rfl rfl (CS.alloc [.pointer none, .int .i64 0, .int .i64 0] rfl) ?_
      rintro _ _ ⟨b11, rfl, rfl⟩
      refine SL.step0 rfl (CS.stA (vs := lnC y) rfl rfl (by repeat (first | exact Sel.keep | exact Sel.here | apply Sel.there)) (by rfl) (by rfl) (lnC_one y)) ?_
      rintro _ _ rfl
      refine SL.val rfl rfl (fun w9 F9 S9 s => R.as rfl) ?_
      refine SL.nil ?_
      refine SN.seq ?_
      refine SG.seq ?_
      refine SG.region ?_
      refine SL.val rfl rfl (fun w9 F9 S9 s => R.mv rfl) ?_
      refine SL.val rfl rfl (fun w9 F9 S9 s => R.mv rfl) ?_
      refine SL.isT 34 rfl (rfl) ?_
      refine SL.pass rfl rfl ?_
      refine SL.pass rfl rfl ?_
      first | refine SL.val rfl rfl (fun w9 F9 S9 s => R.pickT rfl rfl) ?_ | refine SL.val rfl rfl (fun w9 F9 S9 s => R.pickF rfl rfl) ?_
      refine SL.nil ?_
      refine SN.seq ?_
      refine SG.condT rfl ?_
      refine SG.seq ?_
      refine SG.region ?_
      refine SL.val rfl rfl (fun w9 F9 S9 s => R.as rfl) ?_
      refine SL.nil ?_
      refine SN.seq ?_
      exact SG.ret1 rfl rfl ((Imp.sels (by repeat (first | exact Sels.nil | apply Sels.cons | exact Sel.keep | exact Sel.here | apply Sel.there)))) (⟨L, tt, nn, 52, rfl, .inr (.inl ⟨d, hr, .inl ⟨y, hg⟩, rfl, rfl, rfl, rfl⟩), rfl⟩)

end Go.Proofs.Ythdaelmjiaegfaa
/-
  Plain laws on the document's worlds: pairs that were, who left whom.
-/
set_option linter.unusedVariables false
set_option linter.unusedSimpArgs false
namespace Brv.Model
open Go Brv Brv.Image
structure WasV where
  t : Int
  n : Int
  d : List UInt8
structure LeftV where
  u : Int
  t : Int
  n : Int
def WasV.cells (x : WasV) : List Value := [.int .i64 x.t, .int .i64 x.n, .string (str x.d)]
def LeftV.cells (x : LeftV) : List Value := [.int .i64 x.u, .int .i64 x.t, .int .i64 x.n]
def WasV.pr (x : WasV) : Int × Int := (x.t, x.n)
def isW (t n : Int) (x : WasV) : Bool := decide (x.t = t ∧ x.n = n)
def isL (t : Int) (x : LeftV) : Bool := decide (x.u = t)
def isT (t : Int) (x : WasV) : Bool := decide (x.t = t)
def exR (l : List WasV) (t n : Int) : Option (List UInt8) := (l.find? (isW t n)).map WasV.d
def parR (f : List LeftV) (t : Int) : Option (Int × Int) := (f.find? (isL t)).map fun x => (x.t, x.n)
def hasR (l : List WasV) (t : Int) : Bool := (l.find? (isT t)).isSome
theorem find_at {α : Type} {p : α → Bool} {l : List α} {i : Nat} {x : α} (h : l[i]? = some x) (hp : p x = true) (hn : ∀ j y, j < i → l[j]? = some y → p y = false) : l.find? p = some x := by
  induction l generalizing i with
  | nil => cases h
  | cons z l ih =>
    cases i with
    | zero => cases h; rw [List.find?_cons, hp]
    | succ i =>
      rw [List.find?_cons, hn 0 z (by omega) rfl]
      exact ih h (fun j y hj hy => hn (j + 1) y (by omega) hy)
theorem find_no {α : Type} {p : α → Bool} {l : List α} (hn : ∀ j y, j < l.length → l[j]? = some y → p y = false) : l.find? p = none := by
  rw [List.find?_eq_none]
  intro x hx
  obtain ⟨j, hj⟩ := List.getElem?_of_mem hx
  rw [hn j x (List.getElem?_eq_some_iff.1 hj).1 hj]; simp
theorem find_snoc {α : Type} (p : α → Bool) (l : List α) (x : α) : (l ++ [x]).find? p = (l.find? p).or (if p x then some x else none) := by
  rw [List.find?_append]
  cases h : p x <;> simp [List.find?_cons, h]
theorem exR_snoc (l : List WasV) (x : WasV) (t n : Int) : exR (l ++ [x]) t n = (exR l t n).or (if x.t = t ∧ x.n = n then some x.d else none) := by
  unfold exR
  rw [find_snoc]
  cases l.find? (isW t n) with
  | some y => rfl
  | none =>
    by_cases h : x.t = t ∧ x.n = n
    · simp [isW, h]
    · simp [isW, h]
theorem parR_snoc (f : List LeftV) (x : LeftV) (t : Int) : parR (f ++ [x]) t = (parR f t).or (if x.u = t then some (x.t, x.n) else none) := by
  unfold parR
  rw [find_snoc]
  cases f.find? (isL t) with
  | some y => rfl
  | none =>
    by_cases h : x.u = t
    · simp [isL, h]
    · simp [isL, h]
theorem hasR_snoc (l : List WasV) (x : WasV) (t : Int) : hasR (l ++ [x]) t = (hasR l t || decide (x.t = t)) := by
  unfold hasR
  rw [find_snoc]
  cases l.find? (isT t) with
  | some y => rfl
  | none =>
    by_cases h : x.t = t
    · simp [isT, h]
    · simp [isT, h]
/-- Pairs of a timeline, and of all. -/
def prsD (e : Int × Ln) : List (Int × Int) := e.2.ds.map fun d => (e.1, d.1)
def prsL (L : Lns) : List (Int × Int) := (L.map prsD).flatten
theorem mem_prs {L : Lns} (hs : Srt L) (hd : ∀ p ∈ L, Srt p.2.ds) (t n : Int) : (t, n) ∈ prsL L ↔ (wasV L t n).isSome = true := by
  unfold prsL
  rw [List.mem_flatten]
  constructor
  · rintro ⟨q, hq, h⟩
    obtain ⟨e, he, rfl⟩ := List.mem_map.1 hq
    obtain ⟨d, hdm, h2⟩ := List.mem_map.1 h
    cases h2
    have h1 : getT L e.1 = some e.2 := (getT_iff hs).2 he
    unfold wasV
    rw [h1]
    show (getT e.2.ds d.1).isSome = true
    rw [(getT_iff (hd _ he)).2 hdm]; rfl
  · intro h
    cases hw : wasV L t n with
    | none => rw [hw] at h; cases h
    | some d =>
      obtain ⟨x, h1, h2⟩ := was_mem hw
      exact ⟨_, List.mem_map.2 ⟨_, h1, rfl⟩, List.mem_map.2 ⟨_, h2, rfl⟩⟩
def prLt (a b : Int × Int) : Prop := a.1 < b.1 ∨ (a.1 = b.1 ∧ a.2 < b.2)
instance (a b : Int × Int) : Decidable (prLt a b) := by unfold prLt; exact inferInstance
theorem prLt_trans {a b c : Int × Int} (h : prLt a b) (k : prLt b c) : prLt a c := by unfold prLt at *; omega
theorem prLt_irr (a : Int × Int) : ¬ prLt a a := by unfold prLt; omega
theorem prLt_tri {a b : Int × Int} (h : ¬ prLt a b) (k : ¬ prLt b a) : a = b := by
  unfold prLt at *
  exact Prod.ext (by omega) (by omega)
theorem prs_sorted {L : Lns} (hs : Srt L) (hd : ∀ p ∈ L, Srt p.2.ds) : (prsL L).Pairwise prLt := by
  unfold prsL
  rw [List.pairwise_flatten]
  constructor
  · intro q hq
    obtain ⟨e, he, rfl⟩ := List.mem_map.1 hq
    unfold prsD
    rw [List.pairwise_map]
    exact (hd e he).imp fun h => .inr ⟨rfl, h⟩
  · rw [List.pairwise_map]
    refine hs.imp fun {a b} h x hx y hy => ?_
    obtain ⟨d, _, rfl⟩ := List.mem_map.1 hx
    obtain ⟨e, _, rfl⟩ := List.mem_map.1 hy
    exact .inl h
theorem prs_len_put {L : Lns} (hs : Srt L) (t : Int) (x : Ln) : (prsL (putT L t x)).length + ((getT L t).map fun y => y.ds.length).getD 0 = (prsL L).length + x.ds.length := by
  have gen : ∀ (l : Lns), (prsL l).length = (l.map fun e => e.2.ds.length).sum := by
    intro l
    unfold prsL
    rw [List.length_flatten, List.map_map]
    congr 1
    apply List.map_congr_left
    intro e _; simp [prsD]
  rw [gen, gen]
  cases hg : getT L t with
  | none =>
    unfold putT
    have hh : hasT L t = false := by
      unfold getT at hg
      cases hh : hasT L t with
      | false => rfl
      | true => obtain ⟨p, hp, _⟩ := hasT_mem hh; rw [hh, hp] at hg; cases hg
    rw [hh]
    have e0 : L.map (fun e => e.2.ds.length) = (L.take (lowT L t)).map (fun e => e.2.ds.length) ++ (L.drop (lowT L t)).map (fun e => e.2.ds.length) := by rw [← List.map_append, List.take_append_drop]
    rw [e0]
    simp only [Bool.false_eq_true, if_false, List.map_append, List.map_cons, List.sum_append, List.sum_cons, Option.map_none, Option.getD_none]
    omega
  | some y =>
    obtain ⟨i, hi⟩ := List.getElem?_of_mem (getT_some hg)
    rw [putT_at hs hi]
    obtain ⟨hlt, hx⟩ := List.getElem?_eq_some_iff.1 hi
    have e1 : L = L.take i ++ (t, y) :: L.drop (i + 1) := by
      conv => lhs; rw [← List.take_append_drop i L, List.drop_eq_getElem_cons hlt, hx]
    have e2 : L.set i (t, x) = L.take i ++ (t, x) :: L.drop (i + 1) := by rw [List.set_eq_take_append_cons_drop, if_pos hlt]
    rw [e2]
    conv => rhs; rw [e1]
    simp; omega
/-- What the document's world tells of the program's. -/
structure Rel (L : Lns) (l : List WasV) (f : List LeftV) : Prop where
  ex : ∀ t n, exR l t n = (wasV L t n).map Dk.l
  pr : ∀ t, parR f t = parV L t
  has : ∀ t, hasR l t = (getT L t).isSome
  prs : ∀ p, p ∈ prsL L ↔ p ∈ l.map WasV.pr
  len : l.length = (prsL L).length
theorem rel_at {L : Lns} {l : List WasV} {f : List LeftV} (h : Rel L l f) {n t : Int} {r : Option Dk} (hr : AtR (wasV L) (parV L) n t r) : AtR (exR l) (parR f) n t (r.map Dk.l) := by
  have := AtR.map Dk.l (was' := exR l) h.ex hr
  rwa [show parV L = parR f from funext fun t => (h.pr t).symm] at this
theorem wf_ds {L : Lns} {k : Nat} (h : Wf L k) : ∀ p ∈ L, Srt p.2.ds := fun p hp => (h.ln p hp).2.1
/-- A commit, in the document's world. -/
def comL (l : List WasV) (t n : Int) (ws : List (Int × List UInt8)) : List WasV × Int × Int × Int :=
  if (withF ((exR l t n).getD []) ws).2 ≠ 0 then (l, n, 0, (withF ((exR l t n).getD []) ws).2)
  else if (exR l t (n + 1)).isSome then (l, n, 0, 52) else (l ++ [⟨t, n + 1, (withF ((exR l t n).getD []) ws).1⟩], n + 1, n + 1, 0)
theorem rel_add {L : Lns} {l : List WasV} {f : List LeftV} {k : Nat} (h : Rel L l f) (hw : Wf L k) {t n : Int} {x : Ln} (hx : getT L t = some x) (hno : wasV L t n = none) (d : Dk) : Rel (addD L t x n d) (l ++ [⟨t, n, d.l⟩]) f := by
  have hds := (hw.ln _ (getT_some hx)).2.1
  have hnx : getT x.ds n = none := by unfold wasV at hno; rw [hx] at hno; exact hno
  have hdsA : ∀ p ∈ addD L t x n d, Srt p.2.ds := fun p hp => (mem_putT hp).elim (fun e => by rw [e]; exact srt_put hds _ _) (wf_ds hw p)
  refine ⟨fun t' n' => ?_, fun t' => ?_, fun t' => ?_, fun p => ?_, ?_⟩
  · rw [exR_snoc, h.ex, addD_was hw.srt hx hds]
    by_cases hc : t' = t ∧ n' = n
    · obtain ⟨rfl, rfl⟩ := hc
      rw [hno]; simp
    · rw [if_neg hc, if_neg (fun e => hc ⟨e.1.symm, e.2.symm⟩)]; simp
  · rw [h.pr, addD_par hw.srt hx]
  · rw [hasR_snoc, h.has, addD_get hw.srt]
    by_cases hc : t' = t
    · subst hc; simp
    · rw [if_neg hc, show decide (t = t') = false from decide_eq_false (fun e => hc e.symm), Bool.or_false]
  · obtain ⟨pt, pn⟩ := p
    rw [mem_prs (show Srt (addD L t x n d) from srt_put hw.srt _ _) hdsA, addD_was hw.srt hx hds, List.map_append, List.mem_append, ← h.prs, mem_prs hw.srt (wf_ds hw)]
    by_cases hc : pt = t ∧ pn = n
    · obtain ⟨rfl, rfl⟩ := hc; simp [WasV.pr]
    · rw [if_neg hc]
      constructor
      · exact .inl
      · rintro (h1 | h1)
        · exact h1
        · simp [WasV.pr] at h1; exact absurd h1 hc
  · have := prs_len_put hw.srt t { x with ds := putT x.ds n d }
    rw [hx] at this
    simp only [Option.map_some, Option.getD_some, putT_len2 hds, hnx] at this
    rw [List.length_append, h.len]
    show _ = (prsL (putT L t { x with ds := putT x.ds n d })).length
    simp at this ⊢; omega
theorem rel_new {L : Lns} {l : List WasV} {f : List LeftV} {k : Nat} (h : Rel L l f) (hw : Wf L k) {u t n : Int} (hu : getT L u = none) (ht : t ≠ 0) (m : Nat) (d : Dk) : Rel (newL L u m t n d) (l ++ [⟨u, n, d.l⟩]) (f ++ [⟨u, t, n⟩]) := by
  have hno : ∀ i, wasV L u i = none := fun i => by unfold wasV; rw [hu]; rfl
  have hdsA : ∀ p ∈ newL L u m t n d, Srt p.2.ds := fun p hp => (mem_putT hp).elim (fun e => by rw [e]; exact List.pairwise_singleton _ _) (wf_ds hw p)
  refine ⟨fun t' n' => ?_, fun t' => ?_, fun t' => ?_, fun p => ?_, ?_⟩
  · rw [exR_snoc, h.ex, newL_was hw.srt hu]
    by_cases hc : t' = u ∧ n' = n
    · obtain ⟨rfl, rfl⟩ := hc
      rw [hno]; simp
    · rw [if_neg hc, if_neg (fun e => hc ⟨e.1.symm, e.2.symm⟩)]; simp
  · rw [parR_snoc, h.pr, newL_par hw.srt m ht]
    by_cases hc : t' = u
    · subst hc
      have : parV L t' = none := by unfold parV; rw [hu]; rfl
      rw [this]; simp
    · rw [if_neg hc, if_neg (fun e => hc e.symm)]; simp
  · rw [hasR_snoc, h.has, newL_get hw.srt]
    by_cases hc : t' = u
    · subst hc; simp
    · rw [if_neg hc, show decide (u = t') = false from decide_eq_false (fun e => hc e.symm), Bool.or_false]
  · obtain ⟨pt, pn⟩ := p
    rw [mem_prs (show Srt (newL L u m t n d) from srt_put hw.srt _ _) hdsA, newL_was hw.srt hu, List.map_append, List.mem_append, ← h.prs, mem_prs hw.srt (wf_ds hw)]
    by_cases hc : pt = u ∧ pn = n
    · obtain ⟨rfl, rfl⟩ := hc; simp [WasV.pr]
    · rw [if_neg hc]
      constructor
      · exact .inl
      · rintro (h1 | h1)
        · exact h1
        · simp [WasV.pr] at h1; exact absurd h1 hc
  · have := prs_len_put hw.srt u ⟨m, t, n, [(n, d)]⟩
    rw [hu] at this
    simp at this
    rw [List.length_append, h.len]
    show _ = (prsL (putT L u _)).length
    simp [this]
/-- What is behind the last one; the next one among some. -/
def behind (last : Option (Int × Int)) (p : Int × Int) : Prop := match last with
  | none => True
  | some q => prLt q p
instance (last : Option (Int × Int)) (p : Int × Int) : Decidable (behind last p) := by unfold behind; cases last <;> exact inferInstance
def takeB (last s : Option (Int × Int)) (p : Int × Int) : Prop := behind last p ∧ match s with
  | none => True
  | some q => prLt p q
instance (last s : Option (Int × Int)) (p : Int × Int) : Decidable (takeB last s p) := by unfold takeB; cases s <;> exact inferInstance
def stepB (last s : Option (Int × Int)) (p : Int × Int) : Option (Int × Int) := if takeB last s p then some p else s
def foldB (last : Option (Int × Int)) (l : List (Int × Int)) : Option (Int × Int) := l.foldl (stepB last) none
theorem foldB_snoc (last : Option (Int × Int)) (l : List (Int × Int)) (p : Int × Int) : foldB last (l ++ [p]) = stepB last (foldB last l) p := by simp [foldB]
theorem foldB_spec (last : Option (Int × Int)) (l : List (Int × Int)) : (foldB last l = none ∧ ∀ p ∈ l, ¬ behind last p) ∨ ∃ b, foldB last l = some b ∧ b ∈ l ∧ behind last b ∧ ∀ p ∈ l, behind last p → ¬ prLt p b := by
  have gen : ∀ (k : Nat), k ≤ l.length → (foldB last (l.take k) = none ∧ ∀ p ∈ l.take k, ¬ behind last p) ∨ ∃ b, foldB last (l.take k) = some b ∧ b ∈ l.take k ∧ behind last b ∧ ∀ p ∈ l.take k, behind last p → ¬ prLt p b := by
    intro k
    induction k with
    | zero => exact fun _ => .inl ⟨rfl, fun p hp => by simp at hp⟩
    | succ k ih =>
      intro hk
      obtain ⟨q, hq⟩ : ∃ q, l[k]? = some q := ⟨_, List.getElem?_eq_getElem (by omega)⟩
      rw [List.take_add_one, hq, Option.toList_some, foldB_snoc]
      unfold stepB
      rcases ih (by omega) with ⟨h1, h2⟩ | ⟨b, h1, h2, h3, h4⟩
      · rw [h1]
        by_cases hb : behind last q
        · refine .inr ⟨q, by rw [if_pos]; exact ⟨hb, trivial⟩, by simp, hb, fun p hp hpb => ?_⟩
          rcases List.mem_append.1 hp with hp | hp
          · exact absurd hpb (h2 p hp)
          · rw [List.mem_singleton.1 hp]; exact prLt_irr q
        · refine .inl ⟨by rw [if_neg]; exact fun h => hb h.1, fun p hp => ?_⟩
          rcases List.mem_append.1 hp with hp | hp
          · exact h2 p hp
          · rw [List.mem_singleton.1 hp]; exact hb
      · rw [h1]
        by_cases hb : behind last q ∧ prLt q b
        · refine .inr ⟨q, by rw [if_pos]; exact hb, by simp, hb.1, fun p hp hpb h => ?_⟩
          rcases List.mem_append.1 hp with hp | hp
          · exact h4 p hp hpb (prLt_trans h hb.2)
          · rw [List.mem_singleton.1 hp] at h; exact prLt_irr q h
        · refine .inr ⟨b, by rw [if_neg]; exact hb, by simp [h2], h3, fun p hp hpb h => ?_⟩
          rcases List.mem_append.1 hp with hp | hp
          · exact h4 p hp hpb h
          · rw [List.mem_singleton.1 hp] at h hpb; exact hb ⟨hpb, h⟩
  have := gen l.length (Nat.le_refl _)
  rwa [List.take_length] at this
def lastP (P : List (Int × Int)) (i : Nat) : Option (Int × Int) := if i = 0 then none else P[i - 1]?
theorem foldB_next {P l : List (Int × Int)} (hs : P.Pairwise prLt) (hm : ∀ p, p ∈ P ↔ p ∈ l) {i : Nat} {q : Int × Int} (hq : P[i]? = some q) : foldB (lastP P i) l = some q := by
  have hlt := (List.getElem?_eq_some_iff.1 hq).1
  have ord : ∀ j k a b, P[j]? = some a → P[k]? = some b → j < k → prLt a b := fun j k a b ha hb hjk => by
    obtain ⟨h1, rfl⟩ := List.getElem?_eq_some_iff.1 ha
    obtain ⟨h2, rfl⟩ := List.getElem?_eq_some_iff.1 hb
    exact List.pairwise_iff_getElem.1 hs j k h1 h2 hjk
  have hbq : behind (lastP P i) q := by
    unfold lastP
    by_cases h0 : i = 0
    · rw [if_pos h0]; trivial
    · rw [if_neg h0]
      obtain ⟨a, ha⟩ : ∃ a, P[i - 1]? = some a := ⟨_, List.getElem?_eq_getElem (by omega)⟩
      rw [ha]
      exact ord _ _ _ _ ha hq (by omega)
  have hge : ∀ p ∈ l, behind (lastP P i) p → ¬ prLt p q := fun p hp hb h => by
    obtain ⟨j, hj⟩ := List.getElem?_of_mem ((hm p).2 hp)
    have hji : j < i := by
      rcases Nat.lt_or_ge j i with h9 | h9
      · exact h9
      · rcases Nat.eq_or_lt_of_le h9 with e | e
        · subst e; rw [hq] at hj; cases hj; exact absurd h (prLt_irr _)
        · exact absurd (prLt_trans h (ord _ _ _ _ hq hj e)) (prLt_irr _)
    unfold lastP at hb
    rw [if_neg (by omega)] at hb
    obtain ⟨a, ha⟩ : ∃ a, P[i - 1]? = some a := ⟨_, List.getElem?_eq_getElem (by omega)⟩
    rw [ha] at hb
    have hb : prLt a p := hb
    rcases Nat.lt_or_ge j (i - 1) with h9 | h9
    · exact prLt_irr _ (prLt_trans hb (ord _ _ _ _ hj ha h9))
    · obtain rfl : j = i - 1 := by omega
      rw [ha] at hj; cases hj; exact prLt_irr _ hb
  have hql : q ∈ l := (hm q).1 (List.mem_of_getElem? hq)
  rcases foldB_spec (lastP P i) l with ⟨_, h2⟩ | ⟨b, h1, h2, h3, h4⟩
  · exact absurd hbq (h2 q hql)
  · rw [h1, prLt_tri (hge b h2 h3) (h4 q hql hbq)]
end Brv.Model
/-
  The walks of package model.
-/
set_option linter.unusedVariables false
set_option linter.unusedSimpArgs false
set_option maxRecDepth 4000
namespace Go.Proofs.Ythdaelmjiaegfaa
open Go Brv Brv.Image Brv.Model
theorem psL_at {L : Lns} {k : Nat} {q : Pr Int} (h : (psL L)[k]? = some q) : ∃ e, L[k]? = some e ∧ q = (e.1, lnC e.2) := by
  unfold psL mapT at h
  rw [List.getElem?_map] at h
  cases ht : L[k]? with
  | none => rw [ht] at h; cases h
  | some e => rw [ht] at h; cases h; exact ⟨e, rfl, rfl⟩
theorem dsP_at {ds : List (Int × Dk)} {k : Nat} {q : Pr Int} (h : (dsP ds)[k]? = some q) : ∃ e, ds[k]? = some e ∧ q = (e.1, dkC e.2) := by
  unfold dsP mapT at h
  rw [List.getElem?_map] at h
  cases ht : ds[k]? with
  | none => rw [ht] at h; cases h
  | some e => rw [ht] at h; cases h; exact ⟨e, rfl, rfl⟩
def baseL (L : Lns) (k : Nat) : Nat := (prsL (L.take k)).length
theorem baseL_succ {L : Lns} {k : Nat} {e : Int × Ln} (h : L[k]? = some e) : baseL L (k + 1) = baseL L k + e.2.ds.length := by
  unfold baseL prsL
  rw [List.take_add_one, h]
  simp [prsD]
theorem prs_at {L : Lns} {k j : Nat} {e : Int × Ln} {d : Int × Dk} (h : L[k]? = some e) (hd : e.2.ds[j]? = some d) : (prsL L)[baseL L k + j]? = some (e.1, d.1) := by
  have hs : prsL L = prsL (L.take k) ++ (prsD e ++ prsL (L.drop (k + 1))) := by
    conv => lhs; rw [← List.take_append_drop k L]
    obtain ⟨hk, rfl⟩ := List.getElem?_eq_some_iff.1 h
    rw [List.drop_eq_getElem_cons hk]
    unfold prsL
    rw [List.map_append, List.flatten_append, List.map_cons, List.flatten_cons]
  have hj := (List.getElem?_eq_some_iff.1 hd).1
  rw [hs, List.getElem?_append_right (by unfold baseL; omega), show baseL L k + j - (prsL (L.take k)).length = j by unfold baseL; omega, List.getElem?_append_left (by simpa [prsD] using hj)]
  simp [prsD, hd]
theorem baseL_all (L : Lns) : baseL L L.length = (prsL L).length := by unfold baseL; rw [List.take_length]
theorem Imp.lnBack {L : Lns} {H H1 H2 : List Asn} {t : Int} {x : Ln} (h : Sel H (mp (κ := Int) 135 132 1 x.m (dsP x.ds)) H1) (k : Sel H1 (lnR L t) H2) (hs : Srt L) (hg : getT L t = some x) : Imp H (lnA L :: H2) :=
  (Imp.spClose h k).trans (Imp.spPerm .here ((perm_has hs hg).symm.map (fun q : Int × Ln => mp (κ := Int) 135 132 1 q.2.m (dsP q.2.ds))))

theorem prs1_ok (p m : Nat) (L : Lns) (tt nn : Int) (kk : Nat) (y : Value) (b1 : Nat) (J : Nat → Asn) (hw : Wf L kk) (hk : kk ≤ 9000) (hy1 : y.oneCell' = true) (hY : ∀ k t n, (prsL L)[k]? = some (t, n) → YSpec Try.prog y [.int .i64 t, .int .i64 n] [J k] (fun b H' => b = true ∧ H' = [J (k + 1)])) : SpecS Try.prog 44 [y, .pointer (some ⟨b1, 0, none⟩)] [J 0, blk p [.pointer (some ⟨m, 0, none⟩), .int .i64 tt, .int .i64 nn] 85, mp (κ := Int) 124 128 3 m (psL L), lnA L, dkS L, blk b1 [.pointer (some ⟨p, 0, none⟩)] 24] (fun v H' => v = .tuple #[] ∧ H' = [J (prsL L).length, blk p [.pointer (some ⟨m, 0, none⟩), .int .i64 tt, .int .i64 nn] 85, mp (κ := Int) 124 128 3 m (psL L), lnA L, dkS L, blk b1 [.pointer (some ⟨p, 0, none⟩)] 24]) := by
  refine SpecS.enter Try.func44 rfl 25 rfl (Nat.le_of_ble_eq_true rfl) (fun o => ?_)
  have hLl := hw.len
  refine SG.seq ?_
  refine SG.region ?_
  refine SL.step rfl rfl (CS.box1 rfl hy1) ?_
  rintro _ _ ⟨b2, rfl, rfl⟩
  refine SL.nil ?_
  refine SN.seq ?_
  refine SG.seq ?_
  refine SG.seq ?_
  refine SG.region ?_
  refine SL.val rfl rfl (fun w9 F9 S9 s => R.ldB (v := .pointer (some ⟨p, 0, none⟩)) rfl (s.cel (by repeat (first | exact SelB.blk | exact SelB.fz | apply SelB.there))) (by rfl)) ?_
  refine SL.val rfl rfl (fun w9 F9 S9 s => R.eqNilP rfl rfl) ?_
  refine SL.nil ?_
  refine SN.seq ?_
  refine SG.condF rfl ?_
  refine SG.skip ?_
  refine SN.seq ?_
  refine SG.seq ?_
  refine SG.region ?_
  refine SL.val rfl rfl (fun w9 F9 S9 s => R.ldB (v := .pointer (some ⟨p, 0, none⟩)) rfl (s.cel (by repeat (first | exact SelB.blk | exact SelB.fz | apply SelB.there))) (by rfl)) ?_
  refine SL.val rfl rfl (fun w9 F9 S9 s => R.nilChk rfl) ?_
  refine SL.val rfl rfl (fun w9 F9 S9 s => R.fld rfl) ?_
  refine SL.val rfl rfl (fun w9 F9 S9 s => R.ldB (v := .pointer (some ⟨m, 0, none⟩)) rfl (s.cel (by repeat (first | exact SelB.blk | exact SelB.fz | apply SelB.there))) (by rfl)) ?_
  refine SL.step rfl rfl (CS.call rfl go39 (oallModellineS m (psL L) (by rw [psL_len]; omega)) (by repeat (first | exact Sels.nil | apply Sels.cons | exact Sel.keep | exact Sel.here | apply Sel.there))) ?_
  rintro _ _ ⟨_, ⟨lb, rfl, rfl⟩, rfl⟩
  refine SL.n2 ?_
  refine SL.nil ?_
  refine SN.seq ?_
  refine SG.block ?_
  refine SG.rangeL rfl rfl go74 (itModelline_run lb (psL L)) (X := Unit) (Y := Unit) (fun k _ => [J (baseL L k), blk p [.pointer (some ⟨m, 0, none⟩), .int .i64 tt, .int .i64 nn] 85, mp (κ := Int) 124 128 3 m (psL L), lnA L, dkS L, blk b1 [.pointer (some ⟨p, 0, none⟩)] 24, blk b2 [y] 74]) (fun k _ => True) (fun c k _ => []) (fun c k _ => False) (()) ((Imp.sels (by repeat (first | exact Sels.nil | apply Sels.cons | exact Sel.keep | exact Sel.here | apply Sel.there)))) (trivial) ?_ ?_ ?_
  · rintro l Rl k _ vs p hk _ ⟨⟨q, hq, rfl⟩, rfl⟩
    obtain ⟨e, he, rfl⟩ := psL_at hq
    have hel := (List.getElem?_eq_some_iff.1 he).1
    have hge := getT_at hw.srt he
    have hdl := ds_len hw hge
    refine ⟨rfl, ?_⟩
    intro o8
    refine SG.seq ?_
    refine SG.region ?_
    refine SL.step rfl rfl (CS.alloc [.int .i64 0] rfl) ?_
    rintro _ _ ⟨b3, rfl, rfl⟩
    refine SL.step0 rfl (CS.st rfl rfl (by repeat (first | exact Sel.keep | exact Sel.here | apply Sel.there)) (by repeat (first | exact SetAt.here | apply SetAt.there)) rfl) ?_
    rintro _ _ rfl
    refine SL.nil ?_
    refine SN.seq ?_
    refine SG.region ?_
    refine SL.step rfl rfl (CS.alloc [.pointer none, .int .i64 0, .int .i64 0] rfl) ?_
    rintro _ _ ⟨b4, rfl, rfl⟩
    refine SL.step0 rfl (CS.stA (vs := lnC e.2) rfl rfl (by repeat (first | exact Sel.keep | exact Sel.here | apply Sel.there)) (by rfl) (by rfl) (lnC_one e.2)) ?_
    rintro _ _ rfl
    refine SL.nil ?_
    refine SN.roundL (fun o9 => ?_)
    refine SG.block ?_
    refine SG.seq ?_
    refine SG.region ?_
    refine SL.val rfl rfl (fun w9 F9 S9 s => R.fld rfl) ?_
    refine SL.val rfl rfl (fun w9 F9 S9 s => R.ldB (v := .pointer (some ⟨e.2.m, 0, none⟩)) rfl (s.cel (by repeat (first | exact SelB.blk | exact SelB.fz | apply SelB.there))) (by rfl)) ?_
    refine SL.imp (Imp.lnOpen (by repeat (first | exact Sel.keep | exact Sel.here | apply Sel.there)) hw.srt hge) ?_
    refine SL.step rfl rfl (CS.call rfl go45 (oallImageDiskS e.2.m (dsP e.2.ds) (by rw [dsP_len]; omega)) (by repeat (first | exact Sels.nil | apply Sels.cons | exact Sel.keep | exact Sel.here | apply Sel.there))) ?_
    rintro _ _ ⟨_, ⟨lb2, rfl, rfl⟩, rfl⟩
    refine SL.n2 ?_
    refine SL.nil ?_
    refine SN.imp (Imp.lnBack (by repeat (first | exact Sel.keep | exact Sel.here | apply Sel.there)) (by repeat (first | exact Sel.keep | exact Sel.here | apply Sel.there)) hw.srt hge) ?_
    refine SN.seq ?_
    refine SG.block ?_
    obtain ⟨k0, rfl⟩ : ∃ k0, k0 = k := ⟨_, rfl⟩
    refine SG.rangeI (by repeat (first | exact Sel.keep | exact Sel.here | apply Sel.there)) rfl rfl go76 (itImageDisk_run lb2 (dsP e.2.ds)) (X := Unit) (Y := Unit) (fun k _ => [J (baseL L k0 + k), lp l Rl, blk b3 [.int .i64 e.1] 3, blk p [.pointer (some ⟨m, 0, none⟩), .int .i64 tt, .int .i64 nn] 85, mp (κ := Int) 124 128 3 m (psL L), lnA L, dkS L, blk b1 [.pointer (some ⟨p, 0, none⟩)] 24, blk b2 [y] 74]) (fun k _ => True) (fun c k _ => []) (fun c k _ => False) (()) ((Imp.sels (by repeat (first | exact Sels.nil | apply Sels.cons | exact Sel.keep | exact Sel.here | apply Sel.there)))) (trivial) ?_ ?_ ?_
    · rintro l k _ vs p hk _ ⟨⟨q, hq2, rfl⟩, rfl⟩
      obtain ⟨d, hd, rfl⟩ := dsP_at hq2
      refine ⟨rfl, ?_⟩
      intro o8
      refine SG.region ?_
      refine SL.val rfl rfl (fun w9 F9 S9 s => R.as rfl) ?_
      refine SL.nil ?_
      refine SN.roundA (fun o9 => ?_)
      refine SG.block ?_
      refine SG.seq ?_
      refine SG.region ?_
      refine SL.val rfl rfl (fun w9 F9 S9 s => R.ldB (v := y) rfl (s.cel (by repeat (first | exact SelB.blk | exact SelB.fz | apply SelB.there))) (by rfl)) ?_
      refine SL.val rfl rfl (fun w9 F9 S9 s => R.ldB (v := .int .i64 e.1) rfl (s.cel (by repeat (first | exact SelB.blk | exact SelB.fz | apply SelB.there))) (by rfl)) ?_
      refine SL.val rfl rfl (fun w9 F9 S9 s => R.mv rfl) ?_
      refine SL.step rfl rfl (CS.yield rfl rfl (hY _ _ _ (prs_at he hd)) (by repeat (first | exact Sels.nil | apply Sels.cons | exact Sel.keep | exact Sel.here | apply Sel.there))) ?_
      rintro _ _ ⟨_, ⟨bq, rfl, rfl, rfl⟩, rfl⟩
      refine SL.n1 ?_
      refine SL.val rfl rfl (fun w9 F9 S9 s => R.not rfl) ?_
      refine SL.nil ?_
      refine SN.seq ?_
      refine SG.condF rfl ?_
      refine SG.skip ?_
      refine SN.block ?_
      exact SN.next () (Imp.sels (by repeat (first | exact Sels.nil | apply Sels.cons | exact Sel.keep | exact Sel.here | apply Sel.there))) trivial
    · rintro _ _
      rw [dsP_len]
      refine SN.block ?_
      refine SN.block ?_
      exact SN.next () (show Imp _ _ by rw [baseL_succ he]; exact (Imp.sels (by repeat (first | exact Sels.nil | apply Sels.cons | exact Sel.keep | exact Sel.here | apply Sel.there)))) trivial
    · rintro k c _ hk ⟨⟩
  · rintro d2 _ _
    rw [psL_len, baseL_all]
    refine SN.block ?_
    exact SN.end0M rfl (by repeat (first | exact Dfrs.nil | apply Dfrs.cons | exact Sel.here | apply Sel.there)) ((Imp.sels (by repeat (first | exact Sels.nil | apply Sels.cons | exact Sel.keep | exact Sel.here | apply Sel.there)))) (⟨rfl, rfl⟩)
  · rintro d k c _ hk ⟨⟩

end Go.Proofs.Ythdaelmjiaegfaa
/-
  The walks of package model.
-/
set_option linter.unusedVariables false
set_option linter.unusedSimpArgs false
set_option maxRecDepth 4000
namespace Go.Proofs.Ythdaelmjiaegfaa
open Go Brv Brv.Image Brv.Model
def Lf1 (m1 d b5 : Nat) : Lns := [(1, ⟨m1, 0, 0, [(0, ⟨d, List.replicate (64 * 2) 0⟩), (1, ⟨b5, List.replicate (64 * 2) 0⟩)]⟩)]
def Lf2 (m1 m2 d b5 : Nat) : Lns := [(1, ⟨m1, 0, 0, [(0, ⟨d, List.replicate (64 * 2) 0⟩), (1, ⟨b5, List.replicate (64 * 2) 0⟩)]⟩), (2, ⟨m2, 1, 0, [(0, ⟨d, List.replicate (64 * 2) 0⟩)]⟩)]
theorem Lf1_eq (m1 d b5 : Nat) : Lf1 m1 d b5 = addD (newW m1 d 2) 1 ⟨m1, 0, 0, [(0, ⟨d, List.replicate (64 * 2) 0⟩)]⟩ 1 ⟨b5, List.replicate (64 * 2) 0⟩ := rfl
theorem Lf1_wf (m1 d b5 : Nat) : Wf (Lf1 m1 d b5) 1 := by
  rw [Lf1_eq]
  exact (newW_wf m1 d 2).add rfl ⟨by decide, by decide⟩ _
theorem Lf2_wf (m1 m2 d b5 : Nat) : Wf (Lf2 m1 m2 d b5) 2 := by
  rw [show Lf2 m1 m2 d b5 = newL (Lf1 m1 d b5) 2 m2 1 0 ⟨d, List.replicate (64 * 2) 0⟩ from rfl]
  exact (Lf1_wf m1 d b5).new (x := ⟨m1, 0, 0, _⟩) rfl (by decide) ⟨by decide, by decide⟩ rfl m2 _
theorem first_com {m1 d : Nat} {L' : Lns} {n' a e : Int} (h : ComR (newW m1 d 2) 1 0 ⟨d, List.replicate (64 * 2) 0⟩ [] L' n' a e) : e = 0 ∧ a = 1 ∧ n' = 1 ∧ ∃ b5, L' = Lf1 m1 d b5 := by
  rcases h with ⟨h, _⟩ | ⟨_, ⟨q, hq⟩, _⟩ | ⟨_, _, h1, h2, h3, x, b, hx, hL⟩
  · exact absurd (show (withF (List.replicate (64 * 2) 0) []).2 = 0 from rfl) h
  · exact absurd (show wasV (newW m1 d 2) 1 (0 + 1) = none from rfl) (by rw [hq]; simp)
  · have hx2 : getT (newW m1 d 2) 1 = some ⟨m1, 0, 0, [(0, ⟨d, List.replicate (64 * 2) 0⟩)]⟩ := rfl
    rw [hx2] at hx
    cases hx
    exact ⟨h1, h2, h3, b, hL⟩
theorem first_bra {m1 d b5 : Nat} {L' : Lns} {t' n' e : Int} (h : BraR (Lf1 m1 d b5) 1 1 1 0 2 L' t' n' e) : e = 0 ∧ t' = 2 ∧ n' = 0 ∧ ∃ m2, L' = Lf2 m1 m2 d b5 := by
  have hh : AtR (wasV (Lf1 m1 d b5)) (parV (Lf1 m1 d b5)) 0 1 (some ⟨d, List.replicate (64 * 2) 0⟩) := .hit rfl
  rcases h with ⟨h, _⟩ | ⟨q, hq, h, _⟩ | ⟨q, hq, _, _, h1, h2, h3, m2, hL⟩
  · exact absurd (hh.one h) (by simp)
  · rcases h with ⟨x, hx⟩ | h
    · exact absurd (show getT (Lf1 m1 d b5) 2 = none from rfl) (by rw [hx]; simp)
    · exact absurd h (by decide)
  · cases hh.one hq
    exact ⟨h1, h2, h3, m2, hL⟩
theorem first_bra2 {m1 m2 d b5 : Nat} {L' : Lns} {t' n' e : Int} (h : BraR (Lf2 m1 m2 d b5) 2 0 1 5 3 L' t' n' e) : e = 50 ∧ t' = 2 ∧ n' = 0 ∧ L' = Lf2 m1 m2 d b5 := by
  have hh : AtR (wasV (Lf2 m1 m2 d b5)) (parV (Lf2 m1 m2 d b5)) 5 1 none := .root rfl rfl
  rcases h with ⟨_, h1, h2, h3, h4⟩ | ⟨q, hq, _⟩ | ⟨q, hq, _⟩
  · exact ⟨h1, h3, h4, h2⟩
  · exact absurd (hh.one hq) (by simp)
  · exact absurd (hh.one hq) (by simp)

theorem wprs_ok (p : Nat) : SpecS Try.prog 27 [.pointer (some ⟨p, 0, none⟩)] [] (fun v H' => ∃ b1, v = .func (.func 44) #[] #[.pointer (some ⟨b1, 0, none⟩)] ∧ H' = [blk b1 [.pointer (some ⟨p, 0, none⟩)] 24]) := by
  refine SpecS.enter Try.func27 rfl 4 rfl (Nat.le_of_ble_eq_true rfl) (fun o => ?_)
  refine SG.seq ?_
  refine SG.region ?_
  refine SL.step rfl rfl (CS.box1 rfl rfl) ?_
  rintro _ _ ⟨b1, rfl, rfl⟩
  refine SL.val rfl rfl (fun w9 F9 S9 s => R.as rfl) ?_
  refine SL.nil ?_
  refine SN.seq ?_
  refine SG.seq ?_
  refine SG.region ?_
  refine SL.val rfl rfl (fun w9 F9 S9 s => R.mkFunc rfl rfl) ?_
  refine SL.val rfl rfl (fun w9 F9 S9 s => R.as rfl) ?_
  refine SL.nil ?_
  refine SN.seq ?_
  exact SG.ret1 rfl rfl ((Imp.sels (by repeat (first | exact Sels.nil | apply Sels.cons | exact Sel.keep | exact Sel.here | apply Sel.there)))) (⟨b1, rfl, rfl⟩)

theorem cnt27_ok (b : Nat) (k : Nat) (tx nx : Int) (hk : k ≤ 1000000) : SpecS Try.prog 29 [.int .i64 tx, .int .i64 nx, .pointer (some ⟨b, 0, none⟩)] [blk b [.int .i64 (k : Int)] 3] (fun v H' => ∃ b', v = .bool b' ∧ b' = true ∧ H' = [blk b [.int .i64 ((k + 1 : Nat) : Int)] 3]) := by
  refine SpecS.enter Try.func29 rfl 8 rfl (Nat.le_of_ble_eq_true rfl) (fun o => ?_)
  refine SG.seq ?_
  refine SG.region ?_
  refine SL.val rfl rfl (fun w9 F9 S9 s => R.as rfl) ?_
  refine SL.nil ?_
  refine SN.seq ?_
  refine SG.seq ?_
  refine SG.region ?_
  refine SL.val rfl rfl (fun w9 F9 S9 s => R.ldB (v := .int .i64 (k : Int)) rfl (s.cel (by repeat (first | exact SelB.blk | exact SelB.fz | apply SelB.there))) (by rfl)) ?_
  refine SL.val rfl rfl (fun w9 F9 S9 s => R.add rfl rfl (by omega)) ?_
  refine SL.step0 rfl (CS.st rfl rfl (by repeat (first | exact Sel.keep | exact Sel.here | apply Sel.there)) (by repeat (first | exact SetAt.here | apply SetAt.there)) rfl) ?_
  rintro _ _ rfl
  refine SL.nil ?_
  refine SN.seq ?_
  refine SG.seq ?_
  refine SG.region ?_
  refine SL.val rfl rfl (fun w9 F9 S9 s => R.as rfl) ?_
  refine SL.nil ?_
  refine SN.seq ?_
  exact SG.ret1 rfl rfl ((Imp.sels (by repeat (first | exact Sels.nil | apply Sels.cons | exact Sel.keep | exact Sel.here | apply Sel.there)))) (⟨true, rfl, rfl, rfl⟩)

set_option maxHeartbeats 2000000 in
theorem first27_ok  : SpecS Try.prog 6 [] [] (fun v H' => v = .bool true ∧ H' = []) := by
  refine SpecS.enter Try.func6 rfl 115 rfl (Nat.le_of_ble_eq_true rfl) (fun o => ?_)
  refine SG.seq ?_
  refine SG.region ?_
  refine SL.val rfl rfl (fun w9 F9 S9 s => R.as rfl) ?_
  refine SL.nil ?_
  refine SN.seq ?_
  refine SG.seq ?_
  refine SG.region ?_
  refine SL.step rfl rfl (CS.call rfl go7 (wnew_ok 2 (by decide) (by decide)) (by repeat (first | exact Sels.nil | apply Sels.cons | exact Sel.keep | exact Sel.here | apply Sel.there))) ?_
  rintro _ _ ⟨_, ⟨p, m, m1, d, rfl, rfl⟩, rfl⟩
  refine SL.n4 ?_
  refine SL.val rfl rfl (fun w9 F9 S9 s => R.mv rfl) ?_
  refine SL.val rfl rfl (fun w9 F9 S9 s => R.ext rfl rfl) ?_
  refine SL.val rfl rfl (fun w9 F9 S9 s => R.ext rfl rfl) ?_
  refine SL.val rfl rfl (fun w9 F9 S9 s => R.as rfl) ?_
  refine SL.val rfl rfl (fun w9 F9 S9 s => R.as rfl) ?_
  refine SL.nil ?_
  refine SN.seq ?_
  refine SG.seq ?_
  refine SG.region ?_
  refine SL.val rfl rfl (fun w9 F9 S9 s => R.mv rfl) ?_
  refine SL.imp (Imp.pure (p := fun w => WsP w none 0 []) (fun w => ⟨⟨fun j v hj => (by cases hj), rfl, by simp⟩, by simp⟩)) ?_
  refine SL.step rfl rfl (CS.call rfl go8 (wcom_ok p m (newW m1 d 2) 1 0 0 ⟨d, List.replicate (64 * 2) 0⟩ none 0 0 [] (newW_wf m1 d 2) (by decide) (newW_was m1 d 2) (by decide)) (by repeat (first | exact Sels.nil | apply Sels.cons | exact Sel.keep | exact Sel.here | apply Sel.there))) ?_
  rintro _ _ ⟨_, ⟨L1, n1, a1, e1, rfl, hC, rfl, rfl⟩, rfl⟩
  refine SL.n4 ?_
  obtain ⟨rfl, rfl, rfl, b5, rfl⟩ := first_com hC
  refine SL.val rfl rfl (fun w9 F9 S9 s => R.mv rfl) ?_
  refine SL.val rfl rfl (fun w9 F9 S9 s => R.ext rfl rfl) ?_
  refine SL.val rfl rfl (fun w9 F9 S9 s => R.ext rfl rfl) ?_
  refine SL.val rfl rfl (fun w9 F9 S9 s => R.as rfl) ?_
  refine SL.val rfl rfl (fun w9 F9 S9 s => R.as rfl) ?_
  refine SL.nil ?_
  refine SN.seq ?_
  refine SG.seq ?_
  refine SG.region ?_
  refine SL.val rfl rfl (fun w9 F9 S9 s => R.mv rfl) ?_
  refine SL.step rfl rfl (CS.call rfl go9 (wbra_ok p m (Lf1 m1 d b5) 1 1 1 1 0 2 (Lf1_wf m1 d b5) (by decide)) (by repeat (first | exact Sels.nil | apply Sels.cons | exact Sel.keep | exact Sel.here | apply Sel.there))) ?_
  rintro _ _ ⟨_, ⟨L2, t2, n2, e2, rfl, hB, rfl, rfl⟩, rfl⟩
  refine SL.n4 ?_
  obtain ⟨rfl, rfl, rfl, m2, rfl⟩ := first_bra hB
  refine SL.val rfl rfl (fun w9 F9 S9 s => R.as rfl) ?_
  refine SL.nil ?_
  refine SN.seq ?_
  refine SG.seq ?_
  refine SG.region ?_
  refine SL.val rfl rfl (fun w9 F9 S9 s => R.mv rfl) ?_
  have hw2 := Lf2_wf m1 m2 d b5
  refine SL.step rfl rfl (CS.call rfl go11 (wnow_ok p m (Lf2 m1 m2 d b5) 2 0 2) (by repeat (first | exact Sels.nil | apply Sels.cons | exact Sel.keep | exact Sel.here | apply Sel.there))) ?_
  rintro _ _ ⟨_, ⟨rfl, rfl⟩, rfl⟩
  refine SL.n1 ?_
  refine SL.val rfl rfl (fun w9 F9 S9 s => R.mv rfl) ?_
  refine SL.val rfl rfl (fun w9 F9 S9 s => R.ext rfl rfl) ?_
  refine SL.val rfl rfl (fun w9 F9 S9 s => R.ext rfl rfl) ?_
  refine SL.val rfl rfl (fun w9 F9 S9 s => R.as rfl) ?_
  refine SL.val rfl rfl (fun w9 F9 S9 s => R.as rfl) ?_
  refine SL.nil ?_
  refine SN.seq ?_
  refine SG.seq ?_
  refine SG.region ?_
  refine SL.val rfl rfl (fun w9 F9 S9 s => R.mv rfl) ?_
  refine SL.step rfl rfl (CS.call rfl go22 (wparE p m (Lf2 m1 m2 d b5) 2 0 2 2 hw2 (by decide) (some (1, 0)) rfl) (by repeat (first | exact Sels.nil | apply Sels.cons | exact Sel.keep | exact Sel.here | apply Sel.there))) ?_
  rintro _ _ ⟨_, ⟨rfl, rfl⟩, rfl⟩
  refine SL.n4 ?_
  refine SL.val rfl rfl (fun w9 F9 S9 s => R.mv rfl) ?_
  refine SL.val rfl rfl (fun w9 F9 S9 s => R.ext rfl rfl) ?_
  refine SL.val rfl rfl (fun w9 F9 S9 s => R.ext rfl rfl) ?_
  refine SL.val rfl rfl (fun w9 F9 S9 s => R.ext rfl rfl) ?_
  refine SL.val rfl rfl (fun w9 F9 S9 s => R.as rfl) ?_
  refine SL.val rfl rfl (fun w9 F9 S9 s => R.as rfl) ?_
  refine SL.val rfl rfl (fun w9 F9 S9 s => R.as rfl) ?_
  refine SL.nil ?_
  refine SN.seq ?_
  refine SG.seq ?_
  refine SG.region ?_
  refine SL.val rfl rfl (fun w9 F9 S9 s => R.mv rfl) ?_
  refine SL.step rfl rfl (CS.call rfl go14 (watE p m (Lf2 m1 m2 d b5) 2 0 2 2 0 hw2 (by decide) (some ⟨d, List.replicate (64 * 2) 0⟩) (.hit rfl)) (by repeat (first | exact Sels.nil | apply Sels.cons | exact Sel.keep | exact Sel.here | apply Sel.there))) ?_
  rintro _ _ ⟨_, ⟨rfl, rfl⟩, rfl⟩
  refine SL.n4 ?_
  refine SL.val rfl rfl (fun w9 F9 S9 s => R.mv rfl) ?_
  refine SL.val rfl rfl (fun w9 F9 S9 s => R.ext rfl rfl) ?_
  refine SL.val rfl rfl (fun w9 F9 S9 s => R.ext rfl rfl) ?_
  refine SL.val rfl rfl (fun w9 F9 S9 s => R.as rfl) ?_
  refine SL.val rfl rfl (fun w9 F9 S9 s => R.as rfl) ?_
  refine SL.nil ?_
  refine SN.seq ?_
  refine SG.seq ?_
  refine SG.region ?_
  refine SL.val rfl rfl (fun w9 F9 S9 s => R.mv rfl) ?_
  refine SL.step rfl rfl (CS.call rfl go14 (watE p m (Lf2 m1 m2 d b5) 2 0 2 2 1 hw2 (by decide) none (.late (p := 1) (a := 0) rfl rfl (by decide))) (by repeat (first | exact Sels.nil | apply Sels.cons | exact Sel.keep | exact Sel.here | apply Sel.there))) ?_
  rintro _ _ ⟨_, ⟨rfl, rfl⟩, rfl⟩
  refine SL.n4 ?_
  refine SL.val rfl rfl (fun w9 F9 S9 s => R.mv rfl) ?_
  refine SL.val rfl rfl (fun w9 F9 S9 s => R.ext rfl rfl) ?_
  refine SL.val rfl rfl (fun w9 F9 S9 s => R.ext rfl rfl) ?_
  refine SL.val rfl rfl (fun w9 F9 S9 s => R.as rfl) ?_
  refine SL.val rfl rfl (fun w9 F9 S9 s => R.as rfl) ?_
  refine SL.nil ?_
  refine SN.seq ?_
  refine SG.seq ?_
  refine SG.region ?_
  refine SL.step rfl rfl (CS.alloc [.int .i64 0] rfl) ?_
  rintro _ _ ⟨b15, rfl, rfl⟩
  refine SL.step0 rfl (CS.st rfl rfl (by repeat (first | exact Sel.keep | exact Sel.here | apply Sel.there)) (by repeat (first | exact SetAt.here | apply SetAt.there)) rfl) ?_
  rintro _ _ rfl
  refine SL.nil ?_
  refine SN.seq ?_
  refine SG.seq ?_
  refine SG.seq ?_
  refine SG.region ?_
  refine SL.val rfl rfl (fun w9 F9 S9 s => R.mv rfl) ?_
  refine SL.step rfl rfl (CS.call rfl go27 (wprs_ok p) (by repeat (first | exact Sels.nil | apply Sels.cons | exact Sel.keep | exact Sel.here | apply Sel.there))) ?_
  rintro _ _ ⟨_, ⟨b1, rfl, rfl⟩, rfl⟩
  refine SL.n1 ?_
  refine SL.val rfl rfl (fun w9 F9 S9 s => R.as rfl) ?_
  refine SL.nil ?_
  refine SN.seq ?_
  refine SG.seq ?_
  refine SG.region ?_
  refine SL.val rfl rfl (fun w9 F9 S9 s => R.mv rfl) ?_
  refine SL.val rfl rfl (fun w9 F9 S9 s => R.neNilF Try.underlying71 rfl rfl) ?_
  refine SL.nil ?_
  refine SN.seq ?_
  refine SG.condT rfl ?_
  refine SG.region ?_
  refine SL.val rfl rfl (fun w9 F9 S9 s => R.mv rfl) ?_
  refine SL.val rfl rfl (fun w9 F9 S9 s => R.mkFunc rfl rfl) ?_
  refine SL.step rfl rfl (CS.callV rfl rfl rfl go44 (prs1_ok p m (Lf2 m1 m2 d b5) 2 0 2 (.func (.func 29) #[] #[.pointer (some ⟨b15, 0, none⟩)]) b1 (fun k => blk b15 [.int .i64 (k : Int)] 3) hw2 (by decide) rfl (fun k t n hk => YSpec.ofFn (vs' := [.int .i64 t, .int .i64 n, .pointer (some ⟨b15, 0, none⟩)]) go29 rfl (cnt27_ok b15 k t n (by have := (List.getElem?_eq_some_iff.1 hk).1; have h3 : (prsL (Lf2 m1 m2 d b5)).length = 3 := rfl; omega)))) (by repeat (first | exact Sels.nil | apply Sels.cons | exact Sel.keep | exact Sel.here | apply Sel.there))) ?_
  rintro _ _ ⟨_, ⟨rfl, rfl, rfl⟩, rfl⟩
  refine SL.n6 ?_
  refine SL.nil ?_
  refine SN.seq ?_
  refine SG.seq ?_
  refine SG.region ?_
  refine SL.val rfl rfl (fun w9 F9 S9 s => R.mv rfl) ?_
  refine SL.val rfl rfl (fun w9 F9 S9 s => R.eqI rfl rfl) ?_
  refine SL.val rfl rfl (fun w9 F9 S9 s => R.mv rfl) ?_
  refine SL.isT 58 rfl (rfl) ?_
  refine SL.val rfl rfl (fun w9 F9 S9 s => R.mv rfl) ?_
  refine SL.val rfl rfl (fun w9 F9 S9 s => R.eqI rfl rfl) ?_
  first | refine SL.val rfl rfl (fun w9 F9 S9 s => R.pickT rfl rfl) ?_ | refine SL.val rfl rfl (fun w9 F9 S9 s => R.pickF rfl rfl) ?_
  refine SL.val rfl rfl (fun w9 F9 S9 s => R.mv rfl) ?_
  refine SL.isT 62 rfl (rfl) ?_
  refine SL.val rfl rfl (fun w9 F9 S9 s => R.mv rfl) ?_
  refine SL.val rfl rfl (fun w9 F9 S9 s => R.eqI rfl rfl) ?_
  first | refine SL.val rfl rfl (fun w9 F9 S9 s => R.pickT rfl rfl) ?_ | refine SL.val rfl rfl (fun w9 F9 S9 s => R.pickF rfl rfl) ?_
  refine SL.val rfl rfl (fun w9 F9 S9 s => R.mv rfl) ?_
  refine SL.isT 66 rfl (rfl) ?_
  refine SL.val rfl rfl (fun w9 F9 S9 s => R.mv rfl) ?_
  refine SL.val rfl rfl (fun w9 F9 S9 s => R.eqI rfl rfl) ?_
  first | refine SL.val rfl rfl (fun w9 F9 S9 s => R.pickT rfl rfl) ?_ | refine SL.val rfl rfl (fun w9 F9 S9 s => R.pickF rfl rfl) ?_
  refine SL.val rfl rfl (fun w9 F9 S9 s => R.mv rfl) ?_
  refine SL.isT 70 rfl (rfl) ?_
  refine SL.val rfl rfl (fun w9 F9 S9 s => R.mv rfl) ?_
  refine SL.val rfl rfl (fun w9 F9 S9 s => R.eqI rfl rfl) ?_
  first | refine SL.val rfl rfl (fun w9 F9 S9 s => R.pickT rfl rfl) ?_ | refine SL.val rfl rfl (fun w9 F9 S9 s => R.pickF rfl rfl) ?_
  refine SL.val rfl rfl (fun w9 F9 S9 s => R.mv rfl) ?_
  refine SL.isT 74 rfl (rfl) ?_
  refine SL.val rfl rfl (fun w9 F9 S9 s => R.mv rfl) ?_
  refine SL.val rfl rfl (fun w9 F9 S9 s => R.eqI rfl rfl) ?_
  first | refine SL.val rfl rfl (fun w9 F9 S9 s => R.pickT rfl rfl) ?_ | refine SL.val rfl rfl (fun w9 F9 S9 s => R.pickF rfl rfl) ?_
  refine SL.val rfl rfl (fun w9 F9 S9 s => R.mv rfl) ?_
  refine SL.isT 78 rfl (rfl) ?_
  refine SL.val rfl rfl (fun w9 F9 S9 s => R.mv rfl) ?_
  refine SL.val rfl rfl (fun w9 F9 S9 s => R.eqI rfl rfl) ?_
  first | refine SL.val rfl rfl (fun w9 F9 S9 s => R.pickT rfl rfl) ?_ | refine SL.val rfl rfl (fun w9 F9 S9 s => R.pickF rfl rfl) ?_
  refine SL.val rfl rfl (fun w9 F9 S9 s => R.mv rfl) ?_
  refine SL.isT 82 rfl (rfl) ?_
  refine SL.val rfl rfl (fun w9 F9 S9 s => R.mv rfl) ?_
  refine SL.val rfl rfl (fun w9 F9 S9 s => R.eqI rfl rfl) ?_
  first | refine SL.val rfl rfl (fun w9 F9 S9 s => R.pickT rfl rfl) ?_ | refine SL.val rfl rfl (fun w9 F9 S9 s => R.pickF rfl rfl) ?_
  refine SL.val rfl rfl (fun w9 F9 S9 s => R.mv rfl) ?_
  refine SL.isT 86 rfl (rfl) ?_
  refine SL.val rfl rfl (fun w9 F9 S9 s => R.mv rfl) ?_
  first | refine SL.val rfl rfl (fun w9 F9 S9 s => R.pickT rfl rfl) ?_ | refine SL.val rfl rfl (fun w9 F9 S9 s => R.pickF rfl rfl) ?_
  refine SL.val rfl rfl (fun w9 F9 S9 s => R.mv rfl) ?_
  refine SL.isT 89 rfl (rfl) ?_
  refine SL.val rfl rfl (fun w9 F9 S9 s => R.mv rfl) ?_
  first | refine SL.val rfl rfl (fun w9 F9 S9 s => R.pickT rfl rfl) ?_ | refine SL.val rfl rfl (fun w9 F9 S9 s => R.pickF rfl rfl) ?_
  refine SL.val rfl rfl (fun w9 F9 S9 s => R.mv rfl) ?_
  refine SL.isT 92 rfl (rfl) ?_
  refine SL.val rfl rfl (fun w9 F9 S9 s => R.mv rfl) ?_
  refine SL.val rfl rfl (fun w9 F9 S9 s => R.not rfl) ?_
  first | refine SL.val rfl rfl (fun w9 F9 S9 s => R.pickT rfl rfl) ?_ | refine SL.val rfl rfl (fun w9 F9 S9 s => R.pickF rfl rfl) ?_
  refine SL.val rfl rfl (fun w9 F9 S9 s => R.mv rfl) ?_
  refine SL.isT 96 rfl (rfl) ?_
  refine SL.val rfl rfl (fun w9 F9 S9 s => R.ldB (v := .int .i64 3) rfl (s.cel (by repeat (first | exact SelB.blk | exact SelB.fz | apply SelB.there))) (by rfl)) ?_
  refine SL.val rfl rfl (fun w9 F9 S9 s => R.eqI rfl rfl) ?_
  first | refine SL.val rfl rfl (fun w9 F9 S9 s => R.pickT rfl rfl) ?_ | refine SL.val rfl rfl (fun w9 F9 S9 s => R.pickF rfl rfl) ?_
  refine SL.val rfl rfl (fun w9 F9 S9 s => R.mv rfl) ?_
  refine SL.isT 100 rfl (rfl) ?_
  refine SL.val rfl rfl (fun w9 F9 S9 s => R.mv rfl) ?_
  refine SL.step rfl rfl (CS.call rfl go9 (wbra_ok p m (Lf2 m1 m2 d b5) 2 0 2 1 5 3 hw2 (by decide)) (by repeat (first | exact Sels.nil | apply Sels.cons | exact Sel.keep | exact Sel.here | apply Sel.there))) ?_
  rintro _ _ ⟨_, ⟨L3, t3, n3, e3, rfl, hB3, rfl, rfl⟩, rfl⟩
  refine SL.n4 ?_
  obtain ⟨rfl, rfl, rfl, rfl⟩ := first_bra2 hB3
  refine SL.val rfl rfl (fun w9 F9 S9 s => R.eqI rfl rfl) ?_
  first | refine SL.val rfl rfl (fun w9 F9 S9 s => R.pickT rfl rfl) ?_ | refine SL.val rfl rfl (fun w9 F9 S9 s => R.pickF rfl rfl) ?_
  refine SL.val rfl rfl (fun w9 F9 S9 s => R.mv rfl) ?_
  refine SL.isT 105 rfl (rfl) ?_
  refine SL.val rfl rfl (fun w9 F9 S9 s => R.mv rfl) ?_
  refine SL.step rfl rfl (CS.call rfl go13 (wdisk_ok p m (Lf2 m1 m2 d b5) 2 0 2 ⟨d, List.replicate (64 * 2) 0⟩ hw2 (by decide) rfl) (by repeat (first | exact Sels.nil | apply Sels.cons | exact Sel.keep | exact Sel.here | apply Sel.there))) ?_
  rintro _ _ ⟨_, ⟨rfl, rfl⟩, rfl⟩
  refine SL.n4 ?_
  refine SL.val rfl rfl (fun w9 F9 S9 s => R.neNilP rfl rfl) ?_
  first | refine SL.val rfl rfl (fun w9 F9 S9 s => R.pickT rfl rfl) ?_ | refine SL.val rfl rfl (fun w9 F9 S9 s => R.pickF rfl rfl) ?_
  refine SL.val rfl rfl (fun w9 F9 S9 s => R.mv rfl) ?_
  refine SL.isT 110 rfl (rfl) ?_
  refine SL.val rfl rfl (fun w9 F9 S9 s => R.mv rfl) ?_
  refine SL.step rfl rfl (CS.call rfl go10 (wjmp_ok p m (Lf2 m1 m2 d b5) 2 0 2 1 1 hw2 (by decide)) (by repeat (first | exact Sels.nil | apply Sels.cons | exact Sel.keep | exact Sel.here | apply Sel.there))) ?_
  rintro _ _ ⟨_, ⟨rfl, rfl⟩, rfl⟩
  refine SL.n4 ?_
  refine SL.val rfl rfl (fun w9 F9 S9 s => R.eqI rfl rfl) ?_
  first | refine SL.val rfl rfl (fun w9 F9 S9 s => R.pickT rfl rfl) ?_ | refine SL.val rfl rfl (fun w9 F9 S9 s => R.pickF rfl rfl) ?_
  refine SL.val rfl rfl (fun w9 F9 S9 s => R.as rfl) ?_
  refine SL.nil ?_
  refine SN.seq ?_
  exact SG.ret1 rfl rfl ((Imp.sels (by repeat (first | exact Sels.nil | apply Sels.cons | exact Sel.keep | exact Sel.here | apply Sel.there)))) (⟨rfl, rfl⟩)

end Go.Proofs.Ythdaelmjiaegfaa
/-
  The walks of package model.
-/
set_option linter.unusedVariables false
set_option linter.unusedSimpArgs false
set_option maxRecDepth 4000
namespace Go.Proofs.Ythdaelmjiaegfaa
open Go Brv Brv.Image Brv.Model
structure OpV where
  mk ::
  (Kind' : Int)
  (T' : Int)
  (N' : Int)
  (U' : Int)
  (L'a : Option Addr) (L'n L'c : Nat) (L' : List WriteV)
def OpV.cells (o : OpV) : List Value := [.int .i64 o.Kind', .int .i64 o.T', .int .i64 o.N', .int .i64 o.U', .slice o.L'a o.L'n o.L'c]
def OpV.ok (w : World) (o : OpV) : Prop := (Lit.int .i64 o.Kind').wf = true ∧ (Lit.int .i64 o.T').wf = true ∧ (Lit.int .i64 o.N').wf = true ∧ (Lit.int .i64 o.U').wf = true ∧ (o.L'n ≤ o.L'c ∧ o.L'c * 32 ≤ 140737488351232 ∧ Tab w o.L'a o.L'n 2 (o.L'.map WriteV.cells) ∧ ∀ x ∈ o.L', x.ok w)
theorem OpV.ok.ext0 {w w' : World} {o : OpV} (h : o.ok w) (he : Ext [] w w') : o.ok w' := by
  obtain ⟨h0, h1, h2, h3, h4⟩ := h
  exact ⟨h0, h1, h2, h3, ⟨h4.1, h4.2.1, h4.2.2.1.ext0 he, fun x hx => (h4.2.2.2 x hx).ext0 he⟩⟩
theorem OpV.cells.length (o : OpV) : o.cells.length = 5 := rfl
theorem OpV.cells.one (o : OpV) : ∀ u ∈ o.cells.toArray.toList, u.oneCell' = true := by
  intro u hu
  simp only [OpV.cells, List.mem_cons, List.not_mem_nil, or_false] at hu
  rcases hu with rfl | rfl | rfl | rfl | rfl <;> rfl
set_option maxRecDepth 100000 in
theorem opV_of {w : World} {f : Nat} {cs : List Value} (h : Rd Try.prog w f 31 cs) : ∃ o : OpV, cs = o.cells ∧ o.ok w := by
  cases f with
  | zero => exact h.elim
  | succ f =>
    unfold Rd at h
    rw [Try.underlying31] at h
    obtain ⟨hl, hf⟩ := h
    rw [show Try.prog.cellsOf 31 = 5 from by kernel_rfl] at hl
    obtain ⟨v0, v1, v2, v3, v4, rfl⟩ : ∃ v0 v1 v2 v3 v4, cs = [v0, v1, v2, v3, v4] := by
      match cs, hl with
      | [v0, v1, v2, v3, v4], _ => exact ⟨v0, v1, v2, v3, v4, rfl⟩
    have r0 : Rd Try.prog w f 3 (List.take (Try.prog.cellsOf 3) (List.drop 0 [v0, v1, v2, v3, v4])) := hf 0 _ rfl
    rw [show Try.prog.cellsOf 3 = 1 from by kernel_rfl] at r0
    replace r0 : Rd Try.prog w f 3 [v0] := r0
    have r1 : Rd Try.prog w f 3 (List.take (Try.prog.cellsOf 3) (List.drop 1 [v0, v1, v2, v3, v4])) := hf 1 _ rfl
    rw [show Try.prog.cellsOf 3 = 1 from by kernel_rfl] at r1
    replace r1 : Rd Try.prog w f 3 [v1] := r1
    have r2 : Rd Try.prog w f 3 (List.take (Try.prog.cellsOf 3) (List.drop 2 [v0, v1, v2, v3, v4])) := hf 2 _ rfl
    rw [show Try.prog.cellsOf 3 = 1 from by kernel_rfl] at r2
    replace r2 : Rd Try.prog w f 3 [v2] := r2
    have r3 : Rd Try.prog w f 3 (List.take (Try.prog.cellsOf 3) (List.drop 3 [v0, v1, v2, v3, v4])) := hf 3 _ rfl
    rw [show Try.prog.cellsOf 3 = 1 from by kernel_rfl] at r3
    replace r3 : Rd Try.prog w f 3 [v3] := r3
    have r4 : Rd Try.prog w f 29 (List.take (Try.prog.cellsOf 29) (List.drop 4 [v0, v1, v2, v3, v4])) := hf 4 _ rfl
    rw [show Try.prog.cellsOf 29 = 1 from by kernel_rfl] at r4
    replace r4 : Rd Try.prog w f 29 [v4] := r4
    obtain ⟨x0, e0, w0⟩ := r0.int
    cases e0
    obtain ⟨x1, e1, w1⟩ := r1.int
    cases e1
    obtain ⟨x2, e2, w2⟩ := r2.int
    cases e2
    obtain ⟨x3, e3, w3⟩ := r3.int
    cases e3
    obtain ⟨a4, n4, c4, l4, e4, z4, y4, b4, q4⟩ := writeV_rows29 r4
    cases e4
    exact ⟨⟨x0, x1, x2, x3, a4, n4, c4, l4⟩, rfl, ⟨w0, w1, w2, w3, ⟨z4, y4, b4, q4⟩⟩⟩
set_option maxRecDepth 100000 in
theorem opV_rows22 {w : World} {f : Nat} {cs : List Value} (h : Rd Try.prog w f 22 cs) : ∃ a n c, ∃ os : List OpV, cs = [.slice a n c] ∧ n ≤ c ∧ c * 56 ≤ 140737488351232 ∧ Tab w a n 5 (os.map OpV.cells) ∧ ∀ o ∈ os, o.ok w := by
  cases f with
  | zero => exact h.elim
  | succ f =>
    unfold Rd at h
    rw [Try.underlying22] at h
    obtain ⟨a, n, c, rfl, hnc, _, hb, vss, hl, hcell, hv⟩ := h
    rw [show Try.prog.bytesOf 31 = 56 from by kernel_rfl] at hb
    have hex : ∃ os : List OpV, vss = os.map OpV.cells ∧ ∀ o ∈ os, o.ok w := by
      clear hcell hl
      induction vss with
      | nil => exact ⟨[], rfl, by simp⟩
      | cons vs r ih =>
        obtain ⟨o, rfl, ho⟩ := opV_of (hv vs (by simp)).2
        obtain ⟨os, rfl, hos⟩ := ih (fun x hx => hv x (by simp [hx]))
        exact ⟨o :: os, rfl, fun x hx => (List.mem_cons.1 hx).elim (fun e => e ▸ ho) (hos x)⟩
    obtain ⟨os, rfl, hos⟩ := hex
    exact ⟨a, n, c, os, rfl, hnc, hb, ⟨hcell, hl.symm, fun vs hvs => by obtain ⟨o, _, rfl⟩ := List.mem_map.1 hvs; rfl⟩, hos⟩

structure OpsOk (w : World) (a : Option Addr) (n : Nat) (os : List OpV) : Prop where
  len : n = os.length
  tab : Tab w a n 5 (os.map OpV.cells)
  ok : ∀ o ∈ os, o.ok w
theorem OpsOk.ext0 {w w' : World} {a : Option Addr} {n : Nat} {os : List OpV} (h : OpsOk w a n os) (he : Ext [] w w') : OpsOk w' a n os := ⟨h.len, h.tab.ext0 he, fun o ho => (h.ok o ho).ext0 he⟩
theorem ops_pt {w : World} {a : Option Addr} {n : Nat} {os : List OpV} {i : Nat} {o : OpV} (h : OpsOk w a n os) (ho : os[i]? = some o) : ∃ q, a = some q := by
  obtain ⟨hi, _⟩ := List.getElem?_eq_some_iff.1 ho
  obtain ⟨q, hq, _⟩ := h.tab.at (by decide) i (by simpa using hi)
  exact ⟨q, hq⟩
theorem ops_cells {w : World} {a : Option Addr} {n : Nat} {os : List OpV} {i : Nat} {o : OpV} {p : Addr} (h : OpsOk w a n os) (hp : a = some p) (ho : os[i]? = some o) : Cells w (some (p.add ((i : Int).toNat * 5))) (OpV.cells o) := by
  obtain ⟨hi, rfl⟩ := List.getElem?_eq_some_iff.1 ho
  obtain ⟨q, hq, hc⟩ := h.tab.at (by decide) i (by simpa using hi)
  rw [hp] at hq; cases hq
  simpa [Int.toNat_natCast] using hc
theorem op_ws {w : World} {o : OpV} (h : o.ok w) : WsP w o.L'a o.L'n o.L' := ⟨h.2.2.2.2.2.2.1, fun z hz => (h.2.2.2.2.2.2.2 z hz).2.2.2⟩
theorem op_ln {w : World} {o : OpV} (h : o.ok w) : o.L'n ≤ o.L'c := h.2.2.2.2.1
/-- What was stays. -/
def Stays (L L2 : Lns) : Prop := ∀ t n d, wasV L t n = some d → wasV L2 t n = some d
theorem com_stays {L L' : Lns} {tt nn n' a e : Int} {d : Dk} {ws : List (Int × List UInt8)} {k : Nat} (h : ComR L tt nn d ws L' n' a e) (hw : Wf L k) (hd : wasV L tt nn = some d) : ∃ d', Wf L' (k + 1) ∧ wasV L' tt n' = some d' ∧ Stays L L' := by
  rcases h with ⟨_, _, _, rfl, rfl⟩ | ⟨_, _, _, _, rfl, rfl⟩ | ⟨_, hno, _, _, rfl, x, b, hx, rfl⟩
  · exact ⟨d, hw.more, hd, fun _ _ _ h => h⟩
  · exact ⟨d, hw.more, hd, fun _ _ _ h => h⟩
  · obtain ⟨x9, hx9, hxd⟩ := was_has hd
    have hnb := (hw.ln _ (getT_some hx9)).2.2.2 _ (getT_some hxd)
    have hds := (hw.ln _ (getT_some hx)).2.1
    have hn0 : 0 ≤ nn := hnb.1
    have hn1 : nn ≤ (k : Int) := hnb.2
    refine ⟨⟨b, (withF d.l ws).1⟩, hw.add hx ⟨by omega, by omega⟩ _, by rw [addD_was hw.srt hx hds, if_pos ⟨rfl, rfl⟩], fun t n q h => ?_⟩
    rw [addD_was hw.srt hx hds, if_neg (fun e => by rw [e.1, e.2, hno] at h; cases h)]
    exact h
theorem bra_stays {L L' : Lns} {tt nn tx nx ux t' n' e : Int} {d : Dk} {k : Nat} (h : BraR L tt nn tx nx ux L' t' n' e) (hw : Wf L k) (hd : wasV L tt nn = some d) : ∃ d', Wf L' (k + 1) ∧ wasV L' t' n' = some d' ∧ Stays L L' := by
  rcases h with ⟨_, _, rfl, rfl, rfl⟩ | ⟨_, _, _, _, rfl, rfl, rfl⟩ | ⟨q, hq, hu, h1, _, rfl, rfl, m', rfl⟩
  · exact ⟨d, hw.more, hd, fun _ _ _ h => h⟩
  · exact ⟨d, hw.more, hd, fun _ _ _ h => h⟩
  · obtain ⟨x, hx⟩ := at_has hq
    obtain ⟨t9, h9⟩ := at_was hq q rfl
    obtain ⟨y, hy, hyn⟩ := was_has h9
    have hnb := (hw.ln _ (getT_some hy)).2.2.2 _ (getT_some hyn)
    refine ⟨q, hw.new hu h1 hnb hx m' q, by rw [newL_was hw.srt hu, if_pos ⟨rfl, rfl⟩], fun t n d2 h => ?_⟩
    rw [newL_was hw.srt hu, if_neg (fun e => by rw [e.1] at h; unfold wasV at h; rw [hu] at h; cases h)]
    exact h
theorem jmp_stays {L : Lns} {tt nn tx nx : Int} {d : Dk} (hd : wasV L tt nn = some d) : ∃ d', wasV L (jmpN L tt nn tx nx).1 (jmpN L tt nn tx nx).2 = some d' := by
  cases h : wasV L tx nx with
  | none => rw [jmp_no h]; exact ⟨d, hd⟩
  | some q => rw [jmp_so h]; exact ⟨q, h⟩

end Go.Proofs.Ythdaelmjiaegfaa
/-
  The walks of package model.
-/
set_option linter.unusedVariables false
set_option linter.unusedSimpArgs false
set_option maxRecDepth 4000
namespace Go.Proofs.Ythdaelmjiaegfaa
open Go Brv Brv.Image Brv.Model
def RefW (w : World) (la : Option Addr) (ln : Nat) (l : List WasV) (fa : Option Addr) (fn : Nat) (f : List LeftV) : Prop := Tab w la ln 3 (l.map WasV.cells) ∧ Tab w fa fn 3 (f.map LeftV.cells)
theorem WasV.one (x : WasV) : ∀ u ∈ x.cells, u.oneCell' = true := by
  intro u hu
  simp only [WasV.cells, List.mem_cons, List.not_mem_nil, or_false] at hu
  rcases hu with rfl | rfl | rfl <;> rfl
theorem LeftV.one (x : LeftV) : ∀ u ∈ x.cells, u.oneCell' = true := by
  intro u hu
  simp only [LeftV.cells, List.mem_cons, List.not_mem_nil, or_false] at hu
  rcases hu with rfl | rfl | rfl <;> rfl
theorem tab_pt {α : Type} {g : α → List Value} {w : World} {a : Option Addr} {n i : Nat} {l : List α} {x : α} (h : Tab w a n 3 (l.map g)) (hx : l[i]? = some x) : ∃ q, a = some q := by
  obtain ⟨hi, _⟩ := List.getElem?_eq_some_iff.1 hx
  obtain ⟨q, hq, _⟩ := h.at (by decide) i (by simpa using hi)
  exact ⟨q, hq⟩
theorem tab_ld {α : Type} {g : α → List Value} {w : World} {a : Option Addr} {n i : Nat} {l : List α} {x : α} {q : Addr} (h : Tab w a n 3 (l.map g)) (hq : a = some q) (hx : l[i]? = some x) : Cells w (some (q.add ((i : Int).toNat * 3))) (g x) := by
  obtain ⟨hi, rfl⟩ := List.getElem?_eq_some_iff.1 hx
  obtain ⟨p, hp, hc⟩ := h.at (by decide) i (by simpa using hi)
  rw [hq] at hp; cases hp
  simpa [Int.toNat_natCast] using hc
theorem tab_ln {α : Type} {g : α → List Value} {w : World} {a : Option Addr} {n : Nat} {l : List α} (h : Tab w a n 3 (l.map g)) : n = l.length := by have := h.len; simpa using this
theorem exR_at {l : List WasV} {i : Nat} {x : WasV} {t n : Int} (h : l[i]? = some x) (h1 : x.t = t) (h2 : x.n = n) (hn : ∀ j y, j < i → l[j]? = some y → isW t n y = false) : exR l t n = some x.d := by
  unfold exR; rw [find_at h (by simp [isW, h1, h2]) hn]; rfl
theorem exR_no {l : List WasV} {t n : Int} (hn : ∀ j y, j < l.length → l[j]? = some y → isW t n y = false) : exR l t n = none := by
  unfold exR; rw [find_no hn]; rfl
theorem parR_at {l : List LeftV} {i : Nat} {x : LeftV} {t : Int} (h : l[i]? = some x) (h1 : x.u = t) (hn : ∀ j y, j < i → l[j]? = some y → isL t y = false) : parR l t = some (x.t, x.n) := by
  unfold parR; rw [find_at h (by simp [isL, h1]) hn]; rfl
theorem parR_no {l : List LeftV} {t : Int} (hn : ∀ j y, j < l.length → l[j]? = some y → isL t y = false) : parR l t = none := by
  unfold parR; rw [find_no hn]; rfl
theorem hasR_at {l : List WasV} {i : Nat} {x : WasV} {t : Int} (h : l[i]? = some x) (h1 : x.t = t) (hn : ∀ j y, j < i → l[j]? = some y → isT t y = false) : hasR l t = true := by
  unfold hasR; rw [find_at h (by simp [isT, h1]) hn]; rfl
theorem hasR_no {l : List WasV} {t : Int} (hn : ∀ j y, j < l.length → l[j]? = some y → isT t y = false) : hasR l t = false := by
  unfold hasR; rw [find_no hn]; rfl
theorem no_succ {α : Type} {p : α → Bool} {l : List α} {i : Nat} {x : α} (h : ∀ j y, j < i → l[j]? = some y → p y = false) (hx : l[i]? = some x) (hp : p x = false) : ∀ j y, j < i + 1 → l[j]? = some y → p y = false := by
  intro j y hj hy
  rcases Nat.lt_or_ge j i with h1 | h1
  · exact h j y h1 hy
  · obtain rfl : j = i := by omega
    rw [hx] at hy; cases hy; exact hp
theorem pExact {l : List WasV} {t n : Int} {r : Option (List UInt8)} {K : List Asn} (h : exR l t n = r) (hK : K = []) : Value.tuple #[.string (str (r.getD [])), .bool r.isSome] = .tuple #[.string (str ((exR l t n).getD [])), .bool (exR l t n).isSome] ∧ K = [] := by subst h; exact ⟨rfl, hK⟩
theorem pPar {f : List LeftV} {t : Int} {r : Option (Int × Int)} {K : List Asn} (h : parR f t = r) (hK : K = []) : parC r = parC (parR f t) ∧ K = [] := by subst h; exact ⟨rfl, hK⟩

theorem rexact_ok (la : Option Addr) (ln lc : Nat) (l : List WasV) (fa : Option Addr) (fn fc : Nat) (f : List LeftV) (tt nn bl : Int) (tx nx : Int) (hl : l.length ≤ 1000000) : SpecS Try.prog 24 [.agg #[.slice la ln lc, .slice fa fn fc, .int .i64 tt, .int .i64 nn, .int .i64 bl], .int .i64 tx, .int .i64 nx] [sh (fun w => RefW w la ln l fa fn f)] (fun v H' => v = .tuple #[.string (str ((exR l tx nx).getD [])), .bool (exR l tx nx).isSome] ∧ H' = []) := by
  refine SpecS.enter Try.func24 rfl 30 rfl (Nat.le_of_ble_eq_true rfl) (fun o => ?_)
  refine SG.fact (fun w9 F9 S9 s => tab_ln (s.sh (p := fun w => RefW w la ln l fa fn f) (by repeat (first | exact Sel.keep | exact Sel.here | apply Sel.there))).1) (fun hf9 => ?_)
  have hll := hf9; clear hf9
  refine SG.fact (fun w9 F9 S9 s => tab_ln (s.sh (p := fun w => RefW w la ln l fa fn f) (by repeat (first | exact Sel.keep | exact Sel.here | apply Sel.there))).2) (fun hf9 => ?_)
  have hfl := hf9; clear hf9
  refine SG.seq ?_
  refine SG.region ?_
  refine SL.step rfl rfl (CS.boxA rfl) ?_
  rintro _ _ ⟨b3, rfl, rfl⟩
  refine SL.val rfl rfl (fun w9 F9 S9 s => R.as rfl) ?_
  refine SL.val rfl rfl (fun w9 F9 S9 s => R.as rfl) ?_
  refine SL.nil ?_
  refine SN.seq ?_
  refine SG.seq ?_
  refine SG.seq ?_
  refine SG.region ?_
  refine SL.val rfl rfl (fun w9 F9 S9 s => R.fld rfl) ?_
  refine SL.val rfl rfl (fun w9 F9 S9 s => R.ldB (v := .slice la ln lc) rfl (s.cel (by repeat (first | exact SelB.blk | exact SelB.fz | apply SelB.there))) (by rfl)) ?_
  refine SL.val rfl rfl (fun w9 F9 S9 s => R.lenS rfl) ?_
  refine SL.val rfl rfl (fun w9 F9 S9 s => R.mv rfl) ?_
  refine SL.nil ?_
  refine SN.seq ?_
  refine SG.block ?_
  refine SG.loop (X := Nat) (fun i => [(1, .int .i64 tx), (2, .int .i64 nx), (11, .slice la ln lc), (12, .int .i64 (ln : Int)), (13, .int .i64 (i : Int))]) (fun i => [sh (fun w => RefW w la ln l fa fn f)]) (fun i => i ≤ ln ∧ ∀ j y, j < i → l[j]? = some y → isW tx nx y = false) (fun i => ln - i) (0) (Sub.cons rfl (Sub.cons rfl (Sub.cons rfl (Sub.cons rfl (Sub.cons rfl (Sub.nil _)))))) ((Imp.sels (by repeat (first | exact Sels.nil | apply Sels.cons | exact Sel.keep | exact Sel.here | apply Sel.there)))) (⟨Nat.zero_le _, fun j y hj => by omega⟩) ?_
  rintro i ⟨hi, hall⟩
  show SG _ _ _ _ _ [(1, .int .i64 tx), (2, .int .i64 nx), (11, .slice la ln lc), (12, .int .i64 (ln : Int)), (13, .int .i64 (i : Int))] [sh (fun w => RefW w la ln l fa fn f)] _
  refine SG.seq ?_
  refine SG.region ?_
  refine SL.val rfl rfl (fun w9 F9 S9 s => R.lss rfl rfl) ?_
  refine SL.nil ?_
  refine SN.seq ?_
  refine SG.seq ?_
  refine SG.condP rfl (fun h0 => ?_) (fun h0 => ?_)
  · obtain ⟨x, hx⟩ : ∃ x, l[i]? = some x := ⟨_, List.getElem?_eq_getElem (by omega)⟩
    refine SG.fact (fun w9 F9 S9 s => tab_pt (s.sh (p := fun w => RefW w la ln l fa fn f) (by repeat (first | exact Sel.keep | exact Sel.here | apply Sel.there))).1 hx) (fun hf9 => ?_)
    obtain ⟨q, hq⟩ := hf9
    refine SG.skip ?_
    refine SN.seq ?_
    refine SG.seq ?_
    refine SG.block ?_
    refine SG.seq ?_
    refine SG.region ?_
    refine SL.val rfl rfl (fun w9 F9 S9 s => R.idx rfl rfl (by omega) (by omega) q hq) ?_
    refine SL.val rfl rfl (fun w9 F9 S9 s => R.ldN (vs := WasV.cells x) rfl (tab_ld (s.sh (p := fun w => RefW w la ln l fa fn f) (by repeat (first | exact Sel.keep | exact Sel.here | apply Sel.there))).1 hq hx) rfl) ?_
    refine SL.step rfl rfl (CS.alloc [.int .i64 0, .int .i64 0, .string ByteArray.empty] rfl) ?_
    rintro _ _ ⟨b9, rfl, rfl⟩
    refine SL.step0 rfl (CS.stA (vs := WasV.cells x) rfl rfl (by repeat (first | exact Sel.keep | exact Sel.here | apply Sel.there)) (by rfl) (by rfl) (WasV.one x)) ?_
    rintro _ _ rfl
    refine SL.nil ?_
    refine SN.seq ?_
    refine SG.seq ?_
    refine SG.region ?_
    refine SL.val rfl rfl (fun w9 F9 S9 s => R.fld rfl) ?_
    refine SL.val rfl rfl (fun w9 F9 S9 s => R.ldB (v := .int .i64 x.t) rfl (s.cel (by repeat (first | exact SelB.blk | exact SelB.fz | apply SelB.there))) (by rfl)) ?_
    refine SL.val rfl rfl (fun w9 F9 S9 s => R.mv rfl) ?_
    refine SL.val rfl rfl (fun w9 F9 S9 s => R.eqI rfl rfl) ?_
    refine SL.val rfl rfl (fun w9 F9 S9 s => R.mv rfl) ?_
    refine SL.caseP 21 rfl (fun hg4_4 => ?_) (fun hg4_4 => ?_)
    · refine SL.val rfl rfl (fun w9 F9 S9 s => R.fld rfl) ?_
      refine SL.val rfl rfl (fun w9 F9 S9 s => R.ldB (v := .int .i64 x.n) rfl (s.cel (by repeat (first | exact SelB.blk | exact SelB.fz | apply SelB.there))) (by rfl)) ?_
      refine SL.val rfl rfl (fun w9 F9 S9 s => R.mv rfl) ?_
      refine SL.val rfl rfl (fun w9 F9 S9 s => R.eqI rfl rfl) ?_
      first | refine SL.val rfl rfl (fun w9 F9 S9 s => R.pickT rfl rfl) ?_ | refine SL.val rfl rfl (fun w9 F9 S9 s => R.pickF rfl rfl) ?_
      refine SL.nil ?_
      refine SN.seq ?_
      refine SG.condP rfl (fun h1 => ?_) (fun h1 => ?_)
      · refine SG.seq ?_
        refine SG.region ?_
        refine SL.val rfl rfl (fun w9 F9 S9 s => R.fld rfl) ?_
        refine SL.val rfl rfl (fun w9 F9 S9 s => R.ldB (v := .string (str x.d)) rfl (s.cel (by repeat (first | exact SelB.blk | exact SelB.fz | apply SelB.there))) (by rfl)) ?_
        refine SL.val rfl rfl (fun w9 F9 S9 s => R.as rfl) ?_
        refine SL.val rfl rfl (fun w9 F9 S9 s => R.as rfl) ?_
        refine SL.nil ?_
        refine SN.seq ?_
        exact SG.ret2 rfl rfl rfl (Imp.sels Sels.nil) (pExact (r := some x.d) (exR_at hx hg4_4 h1 hall) rfl)
      · refine SG.skip ?_
        refine SN.block ?_
        refine SN.seq ?_
        refine SG.region ?_
        refine SL.val rfl rfl (fun w9 F9 S9 s => R.add rfl rfl (by omega)) ?_
        refine SL.val rfl rfl (fun w9 F9 S9 s => R.mv rfl) ?_
        refine SL.nil ?_
        exact SN.again (i + 1) (by show ln - (i + 1) < ln - i; omega) (Sub.cons rfl (Sub.cons rfl (Sub.cons rfl (Sub.cons rfl (Sub.cons rfl (Sub.nil _)))))) ((Imp.sels (by repeat (first | exact Sels.nil | apply Sels.cons | exact Sel.keep | exact Sel.here | apply Sel.there)))) (⟨by show i + 1 ≤ ln; omega, no_succ hall hx (by simp [isW]; intro e; omega)⟩)
    · refine SL.pass rfl rfl ?_
      refine SL.pass rfl rfl ?_
      refine SL.pass rfl rfl ?_
      refine SL.pass rfl rfl ?_
      first | refine SL.val rfl rfl (fun w9 F9 S9 s => R.pickT rfl rfl) ?_ | refine SL.val rfl rfl (fun w9 F9 S9 s => R.pickF rfl rfl) ?_
      refine SL.nil ?_
      refine SN.seq ?_
      refine SG.condF rfl ?_
      refine SG.skip ?_
      refine SN.block ?_
      refine SN.seq ?_
      refine SG.region ?_
      refine SL.val rfl rfl (fun w9 F9 S9 s => R.add rfl rfl (by omega)) ?_
      refine SL.val rfl rfl (fun w9 F9 S9 s => R.mv rfl) ?_
      refine SL.nil ?_
      exact SN.again (i + 1) (by show ln - (i + 1) < ln - i; omega) (Sub.cons rfl (Sub.cons rfl (Sub.cons rfl (Sub.cons rfl (Sub.cons rfl (Sub.nil _)))))) ((Imp.sels (by repeat (first | exact Sels.nil | apply Sels.cons | exact Sel.keep | exact Sel.here | apply Sel.there)))) (⟨by show i + 1 ≤ ln; omega, no_succ hall hx (by simp [isW]; intro e; omega)⟩)
  · obtain rfl : i = ln := by omega
    refine SG.exit _ rfl ?_
    refine SN.seq ?_
    refine SG.seq ?_
    refine SG.region ?_
    refine SL.val rfl rfl (fun w9 F9 S9 s => R.as rfl) ?_
    refine SL.val rfl rfl (fun w9 F9 S9 s => R.as rfl) ?_
    refine SL.nil ?_
    refine SN.seq ?_
    exact SG.ret2 rfl rfl rfl (Imp.sels Sels.nil) (pExact (r := none) (exR_no (by rw [← hll]; exact hall)) rfl)

theorem rparent_ok (la : Option Addr) (ln lc : Nat) (l : List WasV) (fa : Option Addr) (fn fc : Nat) (f : List LeftV) (tt nn bl : Int) (tx : Int) (hl : f.length ≤ 1000000) : SpecS Try.prog 23 [.agg #[.slice la ln lc, .slice fa fn fc, .int .i64 tt, .int .i64 nn, .int .i64 bl], .int .i64 tx] [sh (fun w => RefW w la ln l fa fn f)] (fun v H' => v = parC (parR f tx) ∧ H' = []) := by
  refine SpecS.enter Try.func23 rfl 25 rfl (Nat.le_of_ble_eq_true rfl) (fun o => ?_)
  refine SG.fact (fun w9 F9 S9 s => tab_ln (s.sh (p := fun w => RefW w la ln l fa fn f) (by repeat (first | exact Sel.keep | exact Sel.here | apply Sel.there))).1) (fun hf9 => ?_)
  have hll := hf9; clear hf9
  refine SG.fact (fun w9 F9 S9 s => tab_ln (s.sh (p := fun w => RefW w la ln l fa fn f) (by repeat (first | exact Sel.keep | exact Sel.here | apply Sel.there))).2) (fun hf9 => ?_)
  have hfl := hf9; clear hf9
  refine SG.seq ?_
  refine SG.region ?_
  refine SL.step rfl rfl (CS.boxA rfl) ?_
  rintro _ _ ⟨b2, rfl, rfl⟩
  refine SL.val rfl rfl (fun w9 F9 S9 s => R.as rfl) ?_
  refine SL.val rfl rfl (fun w9 F9 S9 s => R.as rfl) ?_
  refine SL.val rfl rfl (fun w9 F9 S9 s => R.as rfl) ?_
  refine SL.nil ?_
  refine SN.seq ?_
  refine SG.seq ?_
  refine SG.seq ?_
  refine SG.region ?_
  refine SL.val rfl rfl (fun w9 F9 S9 s => R.fld rfl) ?_
  refine SL.val rfl rfl (fun w9 F9 S9 s => R.ldB (v := .slice fa fn fc) rfl (s.cel (by repeat (first | exact SelB.blk | exact SelB.fz | apply SelB.there))) (by rfl)) ?_
  refine SL.val rfl rfl (fun w9 F9 S9 s => R.lenS rfl) ?_
  refine SL.val rfl rfl (fun w9 F9 S9 s => R.mv rfl) ?_
  refine SL.nil ?_
  refine SN.seq ?_
  refine SG.block ?_
  refine SG.loop (X := Nat) (fun i => [(1, .int .i64 tx), (10, .slice fa fn fc), (11, .int .i64 (fn : Int)), (12, .int .i64 (i : Int))]) (fun i => [sh (fun w => RefW w la ln l fa fn f)]) (fun i => i ≤ fn ∧ ∀ j y, j < i → f[j]? = some y → isL tx y = false) (fun i => fn - i) (0) (Sub.cons rfl (Sub.cons rfl (Sub.cons rfl (Sub.cons rfl (Sub.nil _))))) ((Imp.sels (by repeat (first | exact Sels.nil | apply Sels.cons | exact Sel.keep | exact Sel.here | apply Sel.there)))) (⟨Nat.zero_le _, fun j y hj => by omega⟩) ?_
  rintro i ⟨hi, hall⟩
  show SG _ _ _ _ _ [(1, .int .i64 tx), (10, .slice fa fn fc), (11, .int .i64 (fn : Int)), (12, .int .i64 (i : Int))] [sh (fun w => RefW w la ln l fa fn f)] _
  refine SG.seq ?_
  refine SG.region ?_
  refine SL.val rfl rfl (fun w9 F9 S9 s => R.lss rfl rfl) ?_
  refine SL.nil ?_
  refine SN.seq ?_
  refine SG.seq ?_
  refine SG.condP rfl (fun h0 => ?_) (fun h0 => ?_)
  · obtain ⟨x, hx⟩ : ∃ x, f[i]? = some x := ⟨_, List.getElem?_eq_getElem (by omega)⟩
    refine SG.fact (fun w9 F9 S9 s => tab_pt (s.sh (p := fun w => RefW w la ln l fa fn f) (by repeat (first | exact Sel.keep | exact Sel.here | apply Sel.there))).2 hx) (fun hf9 => ?_)
    obtain ⟨q, hq⟩ := hf9
    refine SG.skip ?_
    refine SN.seq ?_
    refine SG.seq ?_
    refine SG.block ?_
    refine SG.seq ?_
    refine SG.region ?_
    refine SL.val rfl rfl (fun w9 F9 S9 s => R.idx rfl rfl (by omega) (by omega) q hq) ?_
    refine SL.val rfl rfl (fun w9 F9 S9 s => R.ldN (vs := LeftV.cells x) rfl (tab_ld (s.sh (p := fun w => RefW w la ln l fa fn f) (by repeat (first | exact Sel.keep | exact Sel.here | apply Sel.there))).2 hq hx) rfl) ?_
    refine SL.step rfl rfl (CS.alloc [.int .i64 0, .int .i64 0, .int .i64 0] rfl) ?_
    rintro _ _ ⟨b8, rfl, rfl⟩
    refine SL.step0 rfl (CS.stA (vs := LeftV.cells x) rfl rfl (by repeat (first | exact Sel.keep | exact Sel.here | apply Sel.there)) (by rfl) (by rfl) (LeftV.one x)) ?_
    rintro _ _ rfl
    refine SL.nil ?_
    refine SN.seq ?_
    refine SG.seq ?_
    refine SG.region ?_
    refine SL.val rfl rfl (fun w9 F9 S9 s => R.fld rfl) ?_
    refine SL.val rfl rfl (fun w9 F9 S9 s => R.ldB (v := .int .i64 x.u) rfl (s.cel (by repeat (first | exact SelB.blk | exact SelB.fz | apply SelB.there))) (by rfl)) ?_
    refine SL.val rfl rfl (fun w9 F9 S9 s => R.mv rfl) ?_
    refine SL.val rfl rfl (fun w9 F9 S9 s => R.eqI rfl rfl) ?_
    refine SL.nil ?_
    refine SN.seq ?_
    refine SG.condP rfl (fun h1 => ?_) (fun h1 => ?_)
    · refine SG.seq ?_
      refine SG.draw [] [0, 1, 2, 3, 4, 5, 6] (by decide +kernel) rfl ?_
      refine SW.pure rfl rfl rfl rfl (fun w9 => R.fld rfl) ?_
      refine SW.read rfl rfl rfl rfl (fun w9 F9 S9 s => R.ldB (v := .int .i64 x.t) rfl (s.cel (by repeat (first | exact SelB.blk | exact SelB.fz | apply SelB.there))) (by rfl)) ?_
      refine SW.pure rfl rfl rfl rfl (fun w9 => R.fld rfl) ?_
      refine SW.read rfl rfl rfl rfl (fun w9 F9 S9 s => R.ldB (v := .int .i64 x.n) rfl (s.cel (by repeat (first | exact SelB.blk | exact SelB.fz | apply SelB.there))) (by rfl)) ?_
      refine SW.pure rfl rfl rfl rfl (fun w9 => R.as rfl) ?_
      refine SW.pure rfl rfl rfl rfl (fun w9 => R.as rfl) ?_
      refine SW.pure rfl rfl rfl rfl (fun w9 => R.as rfl) ?_
      refine SW.nil ?_
      refine SN.seq ?_
      exact SG.ret3 rfl rfl rfl rfl (Imp.sels Sels.nil) (pPar (r := some (x.t, x.n)) (parR_at hx h1 hall) rfl)
    · refine SG.skip ?_
      refine SN.block ?_
      refine SN.seq ?_
      refine SG.region ?_
      refine SL.val rfl rfl (fun w9 F9 S9 s => R.add rfl rfl (by omega)) ?_
      refine SL.val rfl rfl (fun w9 F9 S9 s => R.mv rfl) ?_
      refine SL.nil ?_
      exact SN.again (i + 1) (by show fn - (i + 1) < fn - i; omega) (Sub.cons rfl (Sub.cons rfl (Sub.cons rfl (Sub.cons rfl (Sub.nil _))))) ((Imp.sels (by repeat (first | exact Sels.nil | apply Sels.cons | exact Sel.keep | exact Sel.here | apply Sel.there)))) (⟨by show i + 1 ≤ fn; omega, no_succ hall hx (by simp [isL]; omega)⟩)
  · obtain rfl : i = fn := by omega
    refine SG.exit _ rfl ?_
    refine SN.seq ?_
    refine SG.seq ?_
    refine SG.region ?_
    refine SL.val rfl rfl (fun w9 F9 S9 s => R.as rfl) ?_
    refine SL.val rfl rfl (fun w9 F9 S9 s => R.as rfl) ?_
    refine SL.val rfl rfl (fun w9 F9 S9 s => R.as rfl) ?_
    refine SL.nil ?_
    refine SN.seq ?_
    exact SG.ret3 rfl rfl rfl rfl (Imp.sels Sels.nil) (pPar (r := none) (parR_no (by rw [← hfl]; exact hall)) rfl)

theorem rexactE (la : Option Addr) (ln lc : Nat) (l : List WasV) (fa : Option Addr) (fn fc : Nat) (f : List LeftV) (tt nn bl : Int) (tx nx : Int) (hl : l.length ≤ 1000000) (r : Option (List UInt8)) (hr : exR l tx nx = r) : SpecS Try.prog 24 [.agg #[.slice la ln lc, .slice fa fn fc, .int .i64 tt, .int .i64 nn, .int .i64 bl], .int .i64 tx, .int .i64 nx] [sh (fun w => RefW w la ln l fa fn f)] (fun v H' => v = .tuple #[.string (str (r.getD [])), .bool r.isSome] ∧ H' = []) := by
  subst hr; exact rexact_ok la ln lc l fa fn fc f tt nn bl tx nx hl
theorem rparentE (la : Option Addr) (ln lc : Nat) (l : List WasV) (fa : Option Addr) (fn fc : Nat) (f : List LeftV) (tt nn bl : Int) (tx : Int) (hl : f.length ≤ 1000000) (r : Option (Int × Int)) (hr : parR f tx = r) : SpecS Try.prog 23 [.agg #[.slice la ln lc, .slice fa fn fc, .int .i64 tt, .int .i64 nn, .int .i64 bl], .int .i64 tx] [sh (fun w => RefW w la ln l fa fn f)] (fun v H' => v = parC r ∧ H' = []) := by
  subst hr; exact rparent_ok la ln lc l fa fn fc f tt nn bl tx hl
/-- One step of what is told at a pair. -/
def AtStep (l : List WasV) (f : List LeftV) (n t : Int) (r : Option (List UInt8)) (Q : Int → Prop) : Prop :=
  (∃ d, exR l t n = some d ∧ r = some d) ∨ (exR l t n = none ∧ parR f t = none ∧ r = none) ∨ (∃ q, exR l t n = none ∧ parR f t = some q ∧ n > q.2 ∧ r = none) ∨ (∃ q, exR l t n = none ∧ parR f t = some q ∧ ¬ n > q.2 ∧ Q q.1)

theorem rat_step (la : Option Addr) (ln lc : Nat) (l : List WasV) (fa : Option Addr) (fn fc : Nat) (f : List LeftV) (tt nn bl : Int) (tx nx : Int) (r : Option (List UInt8)) (hl : l.length ≤ 1000000) (hf : f.length ≤ 1000000) (hs : AtStep l f nx tx r (fun t => SpecS Try.prog 21 [.agg #[.slice la ln lc, .slice fa fn fc, .int .i64 tt, .int .i64 nn, .int .i64 bl], .int .i64 t, .int .i64 nx] [sh (fun w => RefW w la ln l fa fn f)] (fun v H' => v = .tuple #[.string (str (r.getD [])), .bool r.isSome] ∧ H' = []))) : SpecS Try.prog 21 [.agg #[.slice la ln lc, .slice fa fn fc, .int .i64 tt, .int .i64 nn, .int .i64 bl], .int .i64 tx, .int .i64 nx] [sh (fun w => RefW w la ln l fa fn f)] (fun v H' => v = .tuple #[.string (str (r.getD [])), .bool r.isSome] ∧ H' = []) := by
  refine SpecS.enter Try.func21 rfl 42 rfl (Nat.le_of_ble_eq_true rfl) (fun o => ?_)
  refine SG.seq ?_
  refine SG.region ?_
  refine SL.step rfl rfl (CS.boxA rfl) ?_
  rintro _ _ ⟨b3, rfl, rfl⟩
  refine SL.val rfl rfl (fun w9 F9 S9 s => R.as rfl) ?_
  refine SL.val rfl rfl (fun w9 F9 S9 s => R.as rfl) ?_
  refine SL.nil ?_
  refine SN.seq ?_
  refine SG.seq ?_
  rcases hs with ⟨d, he, rfl⟩ | ⟨he, hp, rfl⟩ | ⟨q, he, hp, hn, rfl⟩ | ⟨q, he, hp, hn, hQ⟩
  · refine SG.region ?_
    refine SL.val rfl rfl (fun w9 F9 S9 s => R.ldBN (cs := #[.slice la ln lc, .slice fa fn fc, .int .i64 tt, .int .i64 nn, .int .i64 bl]) rfl (s.cel (by repeat (first | exact SelB.blk | exact SelB.fz | apply SelB.there))) (by rfl)) ?_
    refine SL.val rfl rfl (fun w9 F9 S9 s => R.mv rfl) ?_
    refine SL.val rfl rfl (fun w9 F9 S9 s => R.mv rfl) ?_
    refine SL.step rfl rfl (CS.call rfl go24 (rexactE la ln lc l fa fn fc f tt nn bl tx nx hl (some d) he) (by repeat (first | exact Sels.nil | apply Sels.cons | exact Sel.keep | exact Sel.here | apply Sel.there))) ?_
    rintro _ _ ⟨_, ⟨rfl, rfl⟩, rfl⟩
    refine SL.n0 ?_
    refine SL.val rfl rfl (fun w9 F9 S9 s => R.mv rfl) ?_
    refine SL.val rfl rfl (fun w9 F9 S9 s => R.ext rfl rfl) ?_
    refine SL.val rfl rfl (fun w9 F9 S9 s => R.ext rfl rfl) ?_
    refine SL.val rfl rfl (fun w9 F9 S9 s => R.as rfl) ?_
    refine SL.val rfl rfl (fun w9 F9 S9 s => R.as rfl) ?_
    refine SL.nil ?_
    refine SN.seq ?_
    refine SG.seq ?_
    refine SG.seq ?_
    refine SG.region ?_
    refine SL.val rfl rfl (fun w9 F9 S9 s => R.mv rfl) ?_
    refine SL.nil ?_
    refine SN.seq ?_
    refine SG.condT rfl ?_
    refine SG.seq ?_
    refine SG.region ?_
    refine SL.val rfl rfl (fun w9 F9 S9 s => R.mv rfl) ?_
    refine SL.val rfl rfl (fun w9 F9 S9 s => R.as rfl) ?_
    refine SL.val rfl rfl (fun w9 F9 S9 s => R.as rfl) ?_
    refine SL.nil ?_
    refine SN.seq ?_
    exact SG.ret2 rfl rfl rfl (Imp.sels Sels.nil) (⟨rfl, rfl⟩)
  · refine SG.region ?_
    refine SL.val rfl rfl (fun w9 F9 S9 s => R.ldBN (cs := #[.slice la ln lc, .slice fa fn fc, .int .i64 tt, .int .i64 nn, .int .i64 bl]) rfl (s.cel (by repeat (first | exact SelB.blk | exact SelB.fz | apply SelB.there))) (by rfl)) ?_
    refine SL.val rfl rfl (fun w9 F9 S9 s => R.mv rfl) ?_
    refine SL.val rfl rfl (fun w9 F9 S9 s => R.mv rfl) ?_
    refine SL.step rfl rfl (CS.call rfl go24 (rexactE la ln lc l fa fn fc f tt nn bl tx nx hl none he) (by repeat (first | exact Sels.nil | apply Sels.cons | exact Sel.keep | exact Sel.here | apply Sel.there))) ?_
    rintro _ _ ⟨_, ⟨rfl, rfl⟩, rfl⟩
    refine SL.n0 ?_
    refine SL.val rfl rfl (fun w9 F9 S9 s => R.mv rfl) ?_
    refine SL.val rfl rfl (fun w9 F9 S9 s => R.ext rfl rfl) ?_
    refine SL.val rfl rfl (fun w9 F9 S9 s => R.ext rfl rfl) ?_
    refine SL.val rfl rfl (fun w9 F9 S9 s => R.as rfl) ?_
    refine SL.val rfl rfl (fun w9 F9 S9 s => R.as rfl) ?_
    refine SL.nil ?_
    refine SN.seq ?_
    refine SG.seq ?_
    refine SG.seq ?_
    refine SG.region ?_
    refine SL.val rfl rfl (fun w9 F9 S9 s => R.mv rfl) ?_
    refine SL.nil ?_
    refine SN.seq ?_
    refine SG.condF rfl ?_
    refine SG.skip ?_
    refine SN.seq ?_
    refine SG.seq ?_
    refine SG.region ?_
    refine SL.val rfl rfl (fun w9 F9 S9 s => R.ldBN (cs := #[.slice la ln lc, .slice fa fn fc, .int .i64 tt, .int .i64 nn, .int .i64 bl]) rfl (s.cel (by repeat (first | exact SelB.blk | exact SelB.fz | apply SelB.there))) (by rfl)) ?_
    refine SL.val rfl rfl (fun w9 F9 S9 s => R.mv rfl) ?_
    refine SL.step rfl rfl (CS.call rfl go23 (rparentE la ln lc l fa fn fc f tt nn bl tx hf none hp) (by repeat (first | exact Sels.nil | apply Sels.cons | exact Sel.keep | exact Sel.here | apply Sel.there))) ?_
    rintro _ _ ⟨_, ⟨rfl, rfl⟩, rfl⟩
    refine SL.n0 ?_
    refine SL.val rfl rfl (fun w9 F9 S9 s => R.mv rfl) ?_
    refine SL.val rfl rfl (fun w9 F9 S9 s => R.ext rfl rfl) ?_
    refine SL.val rfl rfl (fun w9 F9 S9 s => R.ext rfl rfl) ?_
    refine SL.val rfl rfl (fun w9 F9 S9 s => R.ext rfl rfl) ?_
    refine SL.val rfl rfl (fun w9 F9 S9 s => R.as rfl) ?_
    refine SL.val rfl rfl (fun w9 F9 S9 s => R.as rfl) ?_
    refine SL.val rfl rfl (fun w9 F9 S9 s => R.as rfl) ?_
    refine SL.nil ?_
    refine SN.seq ?_
    refine SG.seq ?_
    refine SG.seq ?_
    refine SG.region ?_
    refine SL.val rfl rfl (fun w9 F9 S9 s => R.mv rfl) ?_
    refine SL.val rfl rfl (fun w9 F9 S9 s => R.not rfl) ?_
    refine SL.val rfl rfl (fun w9 F9 S9 s => R.mv rfl) ?_
    refine SL.isT 31 rfl (rfl) ?_
    refine SL.pass rfl rfl ?_
    refine SL.pass rfl rfl ?_
    refine SL.pass rfl rfl ?_
    first | refine SL.val rfl rfl (fun w9 F9 S9 s => R.pickT rfl rfl) ?_ | refine SL.val rfl rfl (fun w9 F9 S9 s => R.pickF rfl rfl) ?_
    refine SL.nil ?_
    refine SN.seq ?_
    refine SG.condT rfl ?_
    refine SG.seq ?_
    refine SG.region ?_
    refine SL.val rfl rfl (fun w9 F9 S9 s => R.as rfl) ?_
    refine SL.val rfl rfl (fun w9 F9 S9 s => R.as rfl) ?_
    refine SL.nil ?_
    refine SN.seq ?_
    exact SG.ret2 rfl rfl rfl (Imp.sels Sels.nil) (⟨rfl, rfl⟩)
  · refine SG.region ?_
    refine SL.val rfl rfl (fun w9 F9 S9 s => R.ldBN (cs := #[.slice la ln lc, .slice fa fn fc, .int .i64 tt, .int .i64 nn, .int .i64 bl]) rfl (s.cel (by repeat (first | exact SelB.blk | exact SelB.fz | apply SelB.there))) (by rfl)) ?_
    refine SL.val rfl rfl (fun w9 F9 S9 s => R.mv rfl) ?_
    refine SL.val rfl rfl (fun w9 F9 S9 s => R.mv rfl) ?_
    refine SL.step rfl rfl (CS.call rfl go24 (rexactE la ln lc l fa fn fc f tt nn bl tx nx hl none he) (by repeat (first | exact Sels.nil | apply Sels.cons | exact Sel.keep | exact Sel.here | apply Sel.there))) ?_
    rintro _ _ ⟨_, ⟨rfl, rfl⟩, rfl⟩
    refine SL.n0 ?_
    refine SL.val rfl rfl (fun w9 F9 S9 s => R.mv rfl) ?_
    refine SL.val rfl rfl (fun w9 F9 S9 s => R.ext rfl rfl) ?_
    refine SL.val rfl rfl (fun w9 F9 S9 s => R.ext rfl rfl) ?_
    refine SL.val rfl rfl (fun w9 F9 S9 s => R.as rfl) ?_
    refine SL.val rfl rfl (fun w9 F9 S9 s => R.as rfl) ?_
    refine SL.nil ?_
    refine SN.seq ?_
    refine SG.seq ?_
    refine SG.seq ?_
    refine SG.region ?_
    refine SL.val rfl rfl (fun w9 F9 S9 s => R.mv rfl) ?_
    refine SL.nil ?_
    refine SN.seq ?_
    refine SG.condF rfl ?_
    refine SG.skip ?_
    refine SN.seq ?_
    refine SG.seq ?_
    refine SG.region ?_
    refine SL.val rfl rfl (fun w9 F9 S9 s => R.ldBN (cs := #[.slice la ln lc, .slice fa fn fc, .int .i64 tt, .int .i64 nn, .int .i64 bl]) rfl (s.cel (by repeat (first | exact SelB.blk | exact SelB.fz | apply SelB.there))) (by rfl)) ?_
    refine SL.val rfl rfl (fun w9 F9 S9 s => R.mv rfl) ?_
    refine SL.step rfl rfl (CS.call rfl go23 (rparentE la ln lc l fa fn fc f tt nn bl tx hf (some q) hp) (by repeat (first | exact Sels.nil | apply Sels.cons | exact Sel.keep | exact Sel.here | apply Sel.there))) ?_
    rintro _ _ ⟨_, ⟨rfl, rfl⟩, rfl⟩
    refine SL.n0 ?_
    refine SL.val rfl rfl (fun w9 F9 S9 s => R.mv rfl) ?_
    refine SL.val rfl rfl (fun w9 F9 S9 s => R.ext rfl rfl) ?_
    refine SL.val rfl rfl (fun w9 F9 S9 s => R.ext rfl rfl) ?_
    refine SL.val rfl rfl (fun w9 F9 S9 s => R.ext rfl rfl) ?_
    refine SL.val rfl rfl (fun w9 F9 S9 s => R.as rfl) ?_
    refine SL.val rfl rfl (fun w9 F9 S9 s => R.as rfl) ?_
    refine SL.val rfl rfl (fun w9 F9 S9 s => R.as rfl) ?_
    refine SL.nil ?_
    refine SN.seq ?_
    refine SG.seq ?_
    refine SG.seq ?_
    refine SG.region ?_
    refine SL.val rfl rfl (fun w9 F9 S9 s => R.mv rfl) ?_
    refine SL.val rfl rfl (fun w9 F9 S9 s => R.not rfl) ?_
    refine SL.val rfl rfl (fun w9 F9 S9 s => R.mv rfl) ?_
    refine SL.isF 31 rfl (rfl) ?_
    refine SL.val rfl rfl (fun w9 F9 S9 s => R.mv rfl) ?_
    refine SL.val rfl rfl (fun w9 F9 S9 s => R.mv rfl) ?_
    refine SL.val rfl rfl (fun w9 F9 S9 s => R.gtr rfl rfl) ?_
    first | refine SL.val rfl rfl (fun w9 F9 S9 s => R.pickT rfl rfl) ?_ | refine SL.val rfl rfl (fun w9 F9 S9 s => R.pickF rfl rfl) ?_
    refine SL.nil ?_
    refine SN.seq ?_
    refine SG.condP rfl (fun h1 => ?_) (fun h1 => ?_)
    · refine SG.seq ?_
      refine SG.region ?_
      refine SL.val rfl rfl (fun w9 F9 S9 s => R.as rfl) ?_
      refine SL.val rfl rfl (fun w9 F9 S9 s => R.as rfl) ?_
      refine SL.nil ?_
      refine SN.seq ?_
      exact SG.ret2 rfl rfl rfl (Imp.sels Sels.nil) (⟨rfl, rfl⟩)
    · exact absurd hn h1
  · refine SG.region ?_
    refine SL.val rfl rfl (fun w9 F9 S9 s => R.ldBN (cs := #[.slice la ln lc, .slice fa fn fc, .int .i64 tt, .int .i64 nn, .int .i64 bl]) rfl (s.cel (by repeat (first | exact SelB.blk | exact SelB.fz | apply SelB.there))) (by rfl)) ?_
    refine SL.val rfl rfl (fun w9 F9 S9 s => R.mv rfl) ?_
    refine SL.val rfl rfl (fun w9 F9 S9 s => R.mv rfl) ?_
    refine SL.step rfl rfl (CS.call rfl go24 (rexactE la ln lc l fa fn fc f tt nn bl tx nx hl none he) (by repeat (first | exact Sels.nil | apply Sels.cons | exact Sel.keep | exact Sel.here | apply Sel.there))) ?_
    rintro _ _ ⟨_, ⟨rfl, rfl⟩, rfl⟩
    refine SL.n0 ?_
    refine SL.val rfl rfl (fun w9 F9 S9 s => R.mv rfl) ?_
    refine SL.val rfl rfl (fun w9 F9 S9 s => R.ext rfl rfl) ?_
    refine SL.val rfl rfl (fun w9 F9 S9 s => R.ext rfl rfl) ?_
    refine SL.val rfl rfl (fun w9 F9 S9 s => R.as rfl) ?_
    refine SL.val rfl rfl (fun w9 F9 S9 s => R.as rfl) ?_
    refine SL.nil ?_
    refine SN.seq ?_
    refine SG.seq ?_
    refine SG.seq ?_
    refine SG.region ?_
    refine SL.val rfl rfl (fun w9 F9 S9 s => R.mv rfl) ?_
    refine SL.nil ?_
    refine SN.seq ?_
    refine SG.condF rfl ?_
    refine SG.skip ?_
    refine SN.seq ?_
    refine SG.seq ?_
    refine SG.region ?_
    refine SL.val rfl rfl (fun w9 F9 S9 s => R.ldBN (cs := #[.slice la ln lc, .slice fa fn fc, .int .i64 tt, .int .i64 nn, .int .i64 bl]) rfl (s.cel (by repeat (first | exact SelB.blk | exact SelB.fz | apply SelB.there))) (by rfl)) ?_
    refine SL.val rfl rfl (fun w9 F9 S9 s => R.mv rfl) ?_
    refine SL.step rfl rfl (CS.call rfl go23 (rparentE la ln lc l fa fn fc f tt nn bl tx hf (some q) hp) (by repeat (first | exact Sels.nil | apply Sels.cons | exact Sel.keep | exact Sel.here | apply Sel.there))) ?_
    rintro _ _ ⟨_, ⟨rfl, rfl⟩, rfl⟩
    refine SL.n0 ?_
    refine SL.val rfl rfl (fun w9 F9 S9 s => R.mv rfl) ?_
    refine SL.val rfl rfl (fun w9 F9 S9 s => R.ext rfl rfl) ?_
    refine SL.val rfl rfl (fun w9 F9 S9 s => R.ext rfl rfl) ?_
    refine SL.val rfl rfl (fun w9 F9 S9 s => R.ext rfl rfl) ?_
    refine SL.val rfl rfl (fun w9 F9 S9 s => R.as rfl) ?_
    refine SL.val rfl rfl (fun w9 F9 S9 s => R.as rfl) ?_
    refine SL.val rfl rfl (fun w9 F9 S9 s => R.as rfl) ?_
    refine SL.nil ?_
    refine SN.seq ?_
    refine SG.seq ?_
    refine SG.seq ?_
    refine SG.region ?_
    refine SL.val rfl rfl (fun w9 F9 S9 s => R.mv rfl) ?_
    refine SL.val rfl rfl (fun w9 F9 S9 s => R.not rfl) ?_
    refine SL.val rfl rfl (fun w9 F9 S9 s => R.mv rfl) ?_
    refine SL.isF 31 rfl (rfl) ?_
    refine SL.val rfl rfl (fun w9 F9 S9 s => R.mv rfl) ?_
    refine SL.val rfl rfl (fun w9 F9 S9 s => R.mv rfl) ?_
    refine SL.val rfl rfl (fun w9 F9 S9 s => R.gtr rfl rfl) ?_
    first | refine SL.val rfl rfl (fun w9 F9 S9 s => R.pickT rfl rfl) ?_ | refine SL.val rfl rfl (fun w9 F9 S9 s => R.pickF rfl rfl) ?_
    refine SL.nil ?_
    refine SN.seq ?_
    refine SG.condP rfl (fun h1 => ?_) (fun h1 => ?_)
    · exact absurd h1 hn
    · refine SG.skip ?_
      refine SN.seq ?_
      refine SG.seq ?_
      refine SG.region ?_
      refine SL.val rfl rfl (fun w9 F9 S9 s => R.ldBN (cs := #[.slice la ln lc, .slice fa fn fc, .int .i64 tt, .int .i64 nn, .int .i64 bl]) rfl (s.cel (by repeat (first | exact SelB.blk | exact SelB.fz | apply SelB.there))) (by rfl)) ?_
      refine SL.val rfl rfl (fun w9 F9 S9 s => R.mv rfl) ?_
      refine SL.val rfl rfl (fun w9 F9 S9 s => R.mv rfl) ?_
      refine SL.step rfl rfl (CS.call rfl go21 (hQ) (by repeat (first | exact Sels.nil | apply Sels.cons | exact Sel.keep | exact Sel.here | apply Sel.there))) ?_
      rintro _ _ ⟨_, ⟨rfl, rfl⟩, rfl⟩
      refine SL.n0 ?_
      refine SL.val rfl rfl (fun w9 F9 S9 s => R.ext rfl rfl) ?_
      refine SL.val rfl rfl (fun w9 F9 S9 s => R.ext rfl rfl) ?_
      refine SL.val rfl rfl (fun w9 F9 S9 s => R.as rfl) ?_
      refine SL.val rfl rfl (fun w9 F9 S9 s => R.as rfl) ?_
      refine SL.nil ?_
      refine SN.seq ?_
      exact SG.ret2 rfl rfl rfl (Imp.sels Sels.nil) (⟨rfl, rfl⟩)

theorem ratE (la : Option Addr) (ln lc : Nat) (l : List WasV) (fa : Option Addr) (fn fc : Nat) (f : List LeftV) (tt nn bl : Int) (tx nx : Int) (r : Option (List UInt8)) (hl : l.length ≤ 1000000) (hf : f.length ≤ 1000000) (hr : AtR (exR l) (parR f) nx tx r) : SpecS Try.prog 21 [.agg #[.slice la ln lc, .slice fa fn fc, .int .i64 tt, .int .i64 nn, .int .i64 bl], .int .i64 tx, .int .i64 nx] [sh (fun w => RefW w la ln l fa fn f)] (fun v H' => v = .tuple #[.string (str (r.getD [])), .bool r.isSome] ∧ H' = []) := by
  induction hr with
  | hit h1 => exact rat_step la ln lc l fa fn fc f tt nn bl _ nx _ hl hf (.inl ⟨_, h1, rfl⟩)
  | root h1 h2 => exact rat_step la ln lc l fa fn fc f tt nn bl _ nx _ hl hf (.inr (.inl ⟨h1, h2, rfl⟩))
  | late h1 h2 h3 => exact rat_step la ln lc l fa fn fc f tt nn bl _ nx _ hl hf (.inr (.inr (.inl ⟨_, h1, h2, h3, rfl⟩)))
  | up h1 h2 h3 _ ih => exact rat_step la ln lc l fa fn fc f tt nn bl _ nx _ hl hf (.inr (.inr (.inr ⟨_, h1, h2, h3, ih⟩)))

end Go.Proofs.Ythdaelmjiaegfaa
/-
  The walks of package model.
-/
set_option linter.unusedVariables false
set_option linter.unusedSimpArgs false
set_option maxRecDepth 4000
namespace Go.Proofs.Ythdaelmjiaegfaa
open Go Brv Brv.Image Brv.Model
theorem zeroRow (w : World) : Tab w none 0 3 (([] : List LeftV).map LeftV.cells) := ⟨fun j v hj => (by cases hj), rfl, by simp⟩
theorem tab_snoc {α : Type} {g : α → List Value} {w : World} {a a' : Option Addr} {n m : Nat} {l : List α} {x : α} (h : Tab w a n 3 (l.map g)) (hx : (g x).length = 3) (hc : Cells w a' ([] ++ (l.map g).flatten ++ g x)) (hm : m = n + 1) : Tab w a' m 3 ((l ++ [x]).map g) :=
  ⟨by rw [List.map_append, List.flatten_append]; simpa using hc, by rw [hm, h.len]; simp, fun vs hv => by
    rw [List.map_append, List.mem_append] at hv
    exact hv.elim (h.each vs) (fun h => by rw [List.mem_singleton.1 h]; exact hx)⟩
theorem flat_len {α : Type} {g : α → List Value} {w : World} {a : Option Addr} {n : Nat} {l : List α} (h : Tab w a n 3 (l.map g)) : (l.map g).flatten.length = n * 3 := by
  have hl := tab_ln h
  have he := h.each
  subst hl
  clear h
  induction l with
  | nil => rfl
  | cons x l ih =>
    rw [List.map_cons, List.flatten_cons, List.length_append, ih (fun vs hv => he vs (List.mem_cons_of_mem _ hv)), he (g x) (by simp), List.length_cons]; omega
theorem flat_one {α : Type} {g : α → List Value} (hg : ∀ x, ∀ u ∈ g x, u.oneCell' = true) (l : List α) : ∀ u ∈ (l.map g).flatten, u.oneCell' = true := by
  intro u hu
  obtain ⟨q, hq, h⟩ := List.mem_flatten.1 hu
  obtain ⟨x, _, rfl⟩ := List.mem_map.1 hq
  exact hg x u h
/-- Leaving a timeline, in the document's world. -/
def braL (l : List WasV) (f : List LeftV) (tt nn : Int) (r : Option (List UInt8)) (tx nx ux : Int) : List WasV × List LeftV × Int × Int × Int := match r with
  | none => (l, f, tt, nn, 50)
  | some d => if hasR l ux = true ∨ ux < 1 then (l, f, tt, nn, 52) else (l ++ [⟨ux, nx, d⟩], f ++ [⟨ux, tx, nx⟩], ux, nx, 0)
def jumL (l : List WasV) (tt nn tx nx : Int) : Int × Int × Int := if (exR l tx nx).isSome then (tx, nx, 0) else (tt, nn, 50)
theorem pCom {l l' : List WasV} {t n n' a e bl : Int} {ws : List (Int × List UInt8)} {la fa : Option Addr} {ln lc fn fc : Nat} {f : List LeftV} {K : List Asn} (h : comL l t n ws = (l', n', a, e)) (hK : K = [sh (fun w => RefW w la ln l' fa fn f)]) :
    ∃ la' ln' lc', Value.tuple #[.agg #[.slice la ln lc, .slice fa fn fc, .int .i64 t, .int .i64 n', .int .i64 bl], .int .i64 a, .int .i64 e] = .tuple #[.agg #[.slice la' ln' lc', .slice fa fn fc, .int .i64 t, .int .i64 (comL l t n ws).2.1, .int .i64 bl], .int .i64 (comL l t n ws).2.2.1, .int .i64 (comL l t n ws).2.2.2] ∧ K = [sh (fun w => RefW w la' ln' (comL l t n ws).1 fa fn f)] := by
  rw [h]; exact ⟨la, ln, lc, rfl, hK⟩
theorem pBra {l l' : List WasV} {f f' : List LeftV} {tt nn t' n' tx nx ux e bl : Int} {r : Option (List UInt8)} {la fa : Option Addr} {ln lc fn fc : Nat} {K : List Asn} (h : braL l f tt nn r tx nx ux = (l', f', t', n', e)) (hK : K = [sh (fun w => RefW w la ln l' fa fn f')]) :
    ∃ la' ln' lc' fa' fn' fc', Value.tuple #[.agg #[.slice la ln lc, .slice fa fn fc, .int .i64 t', .int .i64 n', .int .i64 bl], .int .i64 e] = .tuple #[.agg #[.slice la' ln' lc', .slice fa' fn' fc', .int .i64 (braL l f tt nn r tx nx ux).2.2.1, .int .i64 (braL l f tt nn r tx nx ux).2.2.2.1, .int .i64 bl], .int .i64 (braL l f tt nn r tx nx ux).2.2.2.2] ∧ K = [sh (fun w => RefW w la' ln' (braL l f tt nn r tx nx ux).1 fa' fn' (braL l f tt nn r tx nx ux).2.1)] := by
  rw [h]; exact ⟨la, ln, lc, fa, fn, fc, rfl, hK⟩
theorem pJum {l : List WasV} {tt nn t' n' tx nx e bl : Int} {la fa : Option Addr} {ln lc fn fc : Nat} {K : List Asn} (h : jumL l tt nn tx nx = (t', n', e)) (hK : K = []) :
    Value.tuple #[.agg #[.slice la ln lc, .slice fa fn fc, .int .i64 t', .int .i64 n', .int .i64 bl], .int .i64 e] = .tuple #[.agg #[.slice la ln lc, .slice fa fn fc, .int .i64 (jumL l tt nn tx nx).1, .int .i64 (jumL l tt nn tx nx).2.1, .int .i64 bl], .int .i64 (jumL l tt nn tx nx).2.2] ∧ K = [] := by
  rw [h]; exact ⟨rfl, hK⟩

theorem rwnew_ok (k : Nat) (hk : k ≤ 64) : SpecS Try.prog 17 [.int .i64 (k : Int)] [] (fun v H' => ∃ la, v = .agg #[.slice la 1 1, .slice none 0 0, .int .i64 1, .int .i64 0, .int .i64 (k : Int)] ∧ H' = [sh (fun w => RefW w la 1 [⟨1, 0, (List.replicate (64 * k) 0)⟩] none 0 [])]) := by
  refine SpecS.enter Try.func17 rfl 9 rfl (Nat.le_of_ble_eq_true rfl) (fun o => ?_)
  refine SG.seq ?_
  refine SG.region ?_
  refine SL.step rfl rfl (CS.alloc [.slice none 0 0, .slice none 0 0, .int .i64 0, .int .i64 0, .int .i64 0] rfl) ?_
  rintro _ _ ⟨b2, rfl, rfl⟩
  refine SL.nil ?_
  refine SN.seq ?_
  refine SG.seq ?_
  refine SG.region ?_
  refine SL.val rfl rfl (fun w9 F9 S9 s => R.mv rfl) ?_
  refine SL.step rfl rfl (CS.callR rfl go41 (fun w9 F9 S9 s => rzero_ok k w9 hk)) ?_
  rintro _ _ ⟨rfl, rfl⟩
  refine SL.val rfl rfl (fun w9 F9 S9 s => R.buildN (l := WasV.cells ⟨1, 0, (List.replicate (64 * k) 0)⟩) rfl rfl) ?_
  refine SL.step rfl rfl (CS.buildA rfl rfl rfl rfl rfl (WasV.cells ⟨1, 0, (List.replicate (64 * k) 0)⟩) rfl) ?_
  rintro _ _ ⟨b6, rfl, rfl⟩
  refine SL.val rfl rfl (fun w9 F9 S9 s => R.mv rfl) ?_
  refine SL.val rfl rfl (fun w9 F9 S9 s => R.buildN (l := [.slice (some ⟨b6, 0, none⟩) 1 1, .slice none 0 0, .int .i64 1, .int .i64 0, .int .i64 (k : Int)]) rfl rfl) ?_
  refine SL.step0 rfl (CS.stA (vs := [.slice (some ⟨b6, 0, none⟩) 1 1, .slice none 0 0, .int .i64 1, .int .i64 0, .int .i64 (k : Int)]) rfl rfl (by repeat (first | exact Sel.keep | exact Sel.here | apply Sel.there)) (by rfl) (by rfl) (by intro u hu; simp only [List.mem_cons, List.not_mem_nil, or_false] at hu; rcases hu with rfl | rfl | rfl | rfl | rfl <;> rfl)) ?_
  rintro _ _ rfl
  refine SL.nil ?_
  refine SN.imp (Imp.blkSh (p := fun w => RefW w (some ⟨b6, 0, none⟩) 1 [⟨1, 0, (List.replicate (64 * k) 0)⟩] none 0 []) (show Sel _ (blk b6 (WasV.cells ⟨1, 0, (List.replicate (64 * k) 0)⟩) _) _ from (by repeat (first | exact Sel.keep | exact Sel.here | apply Sel.there))) (fun w h => ⟨⟨by simpa using Cells.of_blk h 0 _ (fun j v hj => by simpa using hj), rfl, fun vs hv => by rw [List.mem_singleton.1 hv]; rfl⟩, zeroRow w⟩)) ?_
  refine SN.seq ?_
  exact SG.retC rfl rfl (by repeat (first | exact Sel.keep | exact Sel.here | apply Sel.there)) (by rfl) ((Imp.sels (by repeat (first | exact Sels.nil | apply Sels.cons | exact Sel.keep | exact Sel.here | apply Sel.there)))) (⟨some ⟨b6, 0, none⟩, rfl, rfl⟩)

set_option maxHeartbeats 2000000 in
theorem rcommit_ok (la : Option Addr) (ln lc : Nat) (l : List WasV) (fa : Option Addr) (fn fc : Nat) (f : List LeftV) (tt nn bl : Int) (a : Option Addr) (n c : Nat) (ws : List WriteV) (hll0 : ln ≤ 100000) (hn : n ≤ 1000000) (hnn : 0 ≤ nn ∧ nn ≤ 100000) (hx : ((exR l tt nn).getD []).length ≤ 4096) : SpecS Try.prog 18 [.agg #[.slice la ln lc, .slice fa fn fc, .int .i64 tt, .int .i64 nn, .int .i64 bl], .slice a n c] [sh (fun w => RefW w la ln l fa fn f), sh (fun w => WsP w a n ws)] (fun v H' => ∃ la' ln' lc', v = .tuple #[.agg #[.slice la' ln' lc', .slice fa fn fc, .int .i64 tt, .int .i64 (comL l tt nn (ws.map wv)).2.1, .int .i64 bl], .int .i64 (comL l tt nn (ws.map wv)).2.2.1, .int .i64 (comL l tt nn (ws.map wv)).2.2.2] ∧ H' = [sh (fun w => RefW w la' ln' (comL l tt nn (ws.map wv)).1 fa fn f)]) := by
  refine SpecS.enter Try.func18 rfl 67 rfl (Nat.le_of_ble_eq_true rfl) (fun o => ?_)
  refine SG.fact (fun w9 F9 S9 s => tab_ln (s.sh (p := fun w => RefW w la ln l fa fn f) (by repeat (first | exact Sel.keep | exact Sel.here | apply Sel.there))).1) (fun hf9 => ?_)
  have hll := hf9; clear hf9
  refine SG.fact (fun w9 F9 S9 s => tab_ln (s.sh (p := fun w => RefW w la ln l fa fn f) (by repeat (first | exact Sel.keep | exact Sel.here | apply Sel.there))).2) (fun hf9 => ?_)
  have hfl := hf9; clear hf9
  refine SG.seq ?_
  refine SG.region ?_
  refine SL.step rfl rfl (CS.boxA rfl) ?_
  rintro _ _ ⟨b2, rfl, rfl⟩
  refine SL.step rfl rfl (CS.alloc [.slice none 0 0, .slice none 0 0, .int .i64 0, .int .i64 0, .int .i64 0] rfl) ?_
  rintro _ _ ⟨b4, rfl, rfl⟩
  refine SL.val rfl rfl (fun w9 F9 S9 s => R.as rfl) ?_
  refine SL.val rfl rfl (fun w9 F9 S9 s => R.as rfl) ?_
  refine SL.nil ?_
  refine SN.seq ?_
  refine SG.seq ?_
  refine SG.region ?_
  refine SL.val rfl rfl (fun w9 F9 S9 s => R.ldBN (cs := #[.slice la ln lc, .slice fa fn fc, .int .i64 tt, .int .i64 nn, .int .i64 bl]) rfl (s.cel (by repeat (first | exact SelB.blk | exact SelB.fz | apply SelB.there))) (by rfl)) ?_
  refine SL.val rfl rfl (fun w9 F9 S9 s => R.fld rfl) ?_
  refine SL.val rfl rfl (fun w9 F9 S9 s => R.ldB (v := .int .i64 tt) rfl (s.cel (by repeat (first | exact SelB.blk | exact SelB.fz | apply SelB.there))) (by rfl)) ?_
  refine SL.val rfl rfl (fun w9 F9 S9 s => R.fld rfl) ?_
  refine SL.val rfl rfl (fun w9 F9 S9 s => R.ldB (v := .int .i64 nn) rfl (s.cel (by repeat (first | exact SelB.blk | exact SelB.fz | apply SelB.there))) (by rfl)) ?_
  refine SL.step rfl rfl (CS.call rfl go24 (rexact_ok la ln lc l fa fn fc f tt nn bl tt nn (by omega)) (by repeat (first | exact Sels.nil | apply Sels.cons | exact Sel.keep | exact Sel.here | apply Sel.there))) ?_
  rintro _ _ ⟨_, ⟨rfl, rfl⟩, rfl⟩
  refine SL.n0 ?_
  refine SL.val rfl rfl (fun w9 F9 S9 s => R.mv rfl) ?_
  refine SL.val rfl rfl (fun w9 F9 S9 s => R.ext rfl rfl) ?_
  refine SL.val rfl rfl (fun w9 F9 S9 s => R.ext rfl rfl) ?_
  refine SL.val rfl rfl (fun w9 F9 S9 s => R.as rfl) ?_
  refine SL.val rfl rfl (fun w9 F9 S9 s => R.as rfl) ?_
  refine SL.nil ?_
  refine SN.seq ?_
  refine SG.seq ?_
  refine SG.region ?_
  refine SL.val rfl rfl (fun w9 F9 S9 s => R.mv rfl) ?_
  refine SL.val rfl rfl (fun w9 F9 S9 s => R.mv rfl) ?_
  refine SL.step rfl rfl (CS.callR rfl go42 (fun w9 F9 S9 s => rwith_ok ((exR l tt nn).getD []) a n c ws w9 hx (s.sh (p := fun w => WsP w a n ws) (by repeat (first | exact Sel.keep | exact Sel.here | apply Sel.there))).1 (s.sh (p := fun w => WsP w a n ws) (by repeat (first | exact Sel.keep | exact Sel.here | apply Sel.there))).2 hn)) ?_
  rintro _ _ ⟨rfl, rfl⟩
  refine SL.val rfl rfl (fun w9 F9 S9 s => R.mv rfl) ?_
  refine SL.val rfl rfl (fun w9 F9 S9 s => R.ext rfl rfl) ?_
  refine SL.val rfl rfl (fun w9 F9 S9 s => R.ext rfl rfl) ?_
  refine SL.val rfl rfl (fun w9 F9 S9 s => R.as rfl) ?_
  refine SL.val rfl rfl (fun w9 F9 S9 s => R.as rfl) ?_
  refine SL.nil ?_
  refine SN.seq ?_
  refine SG.seq ?_
  refine SG.seq ?_
  refine SG.region ?_
  refine SL.val rfl rfl (fun w9 F9 S9 s => R.mv rfl) ?_
  refine SL.val rfl rfl (fun w9 F9 S9 s => R.neI rfl rfl) ?_
  refine SL.nil ?_
  refine SN.seq ?_
  refine SG.condP rfl (fun h0 => ?_) (fun h0 => ?_)
  · refine SG.seq ?_
    refine SG.region ?_
    refine SL.val rfl rfl (fun w9 F9 S9 s => R.ldBN (cs := #[.slice la ln lc, .slice fa fn fc, .int .i64 tt, .int .i64 nn, .int .i64 bl]) rfl (s.cel (by repeat (first | exact SelB.blk | exact SelB.fz | apply SelB.there))) (by rfl)) ?_
    refine SL.val rfl rfl (fun w9 F9 S9 s => R.mv rfl) ?_
    refine SL.step0 rfl (CS.stA (vs := [.slice la ln lc, .slice fa fn fc, .int .i64 tt, .int .i64 nn, .int .i64 bl]) rfl rfl (by repeat (first | exact Sel.keep | exact Sel.here | apply Sel.there)) (by rfl) (by rfl) (by intro u hu; simp only [List.mem_cons, List.not_mem_nil, or_false] at hu; rcases hu with rfl | rfl | rfl | rfl | rfl <;> rfl)) ?_
    rintro _ _ rfl
    refine SL.val rfl rfl (fun w9 F9 S9 s => R.as rfl) ?_
    refine SL.val rfl rfl (fun w9 F9 S9 s => R.as rfl) ?_
    refine SL.nil ?_
    refine SN.seq ?_
    exact SG.retCTT rfl rfl rfl rfl (by repeat (first | exact Sel.keep | exact Sel.here | apply Sel.there)) (by rfl) ((Imp.sels (by repeat (first | exact Sels.nil | apply Sels.cons | exact Sel.keep | exact Sel.here | apply Sel.there)))) (pCom (by unfold comL; rw [if_pos h0]) rfl)
  · refine SG.skip ?_
    refine SN.seq ?_
    refine SG.seq ?_
    refine SG.seq ?_
    refine SG.region ?_
    refine SL.val rfl rfl (fun w9 F9 S9 s => R.fld rfl) ?_
    refine SL.val rfl rfl (fun w9 F9 S9 s => R.ldB (v := .int .i64 nn) rfl (s.cel (by repeat (first | exact SelB.blk | exact SelB.fz | apply SelB.there))) (by rfl)) ?_
    refine SL.val rfl rfl (fun w9 F9 S9 s => R.geq rfl rfl) ?_
    refine SL.nil ?_
    refine SN.seq ?_
    refine SG.condP rfl (fun h1 => ?_) (fun h1 => ?_)
    · exfalso; omega
    · refine SG.skip ?_
      refine SN.seq ?_
      refine SG.seq ?_
      refine SG.seq ?_
      refine SG.region ?_
      refine SL.val rfl rfl (fun w9 F9 S9 s => R.ldBN (cs := #[.slice la ln lc, .slice fa fn fc, .int .i64 tt, .int .i64 nn, .int .i64 bl]) rfl (s.cel (by repeat (first | exact SelB.blk | exact SelB.fz | apply SelB.there))) (by rfl)) ?_
      refine SL.val rfl rfl (fun w9 F9 S9 s => R.fld rfl) ?_
      refine SL.val rfl rfl (fun w9 F9 S9 s => R.ldB (v := .int .i64 tt) rfl (s.cel (by repeat (first | exact SelB.blk | exact SelB.fz | apply SelB.there))) (by rfl)) ?_
      refine SL.val rfl rfl (fun w9 F9 S9 s => R.fld rfl) ?_
      refine SL.val rfl rfl (fun w9 F9 S9 s => R.ldB (v := .int .i64 nn) rfl (s.cel (by repeat (first | exact SelB.blk | exact SelB.fz | apply SelB.there))) (by rfl)) ?_
      refine SL.val rfl rfl (fun w9 F9 S9 s => R.add rfl rfl (by omega)) ?_
      refine SL.step rfl rfl (CS.call rfl go24 (rexact_ok la ln lc l fa fn fc f tt nn bl tt (nn + 1) (by omega)) (by repeat (first | exact Sels.nil | apply Sels.cons | exact Sel.keep | exact Sel.here | apply Sel.there))) ?_
      rintro _ _ ⟨_, ⟨rfl, rfl⟩, rfl⟩
      refine SL.n0 ?_
      refine SL.val rfl rfl (fun w9 F9 S9 s => R.mv rfl) ?_
      refine SL.val rfl rfl (fun w9 F9 S9 s => R.ext rfl rfl) ?_
      refine SL.val rfl rfl (fun w9 F9 S9 s => R.ext rfl rfl) ?_
      refine SL.val rfl rfl (fun w9 F9 S9 s => R.as rfl) ?_
      refine SL.val rfl rfl (fun w9 F9 S9 s => R.as rfl) ?_
      refine SL.nil ?_
      refine SN.seq ?_
      refine SG.seq ?_
      refine SG.region ?_
      refine SL.val rfl rfl (fun w9 F9 S9 s => R.mv rfl) ?_
      refine SL.nil ?_
      refine SN.seq ?_
      refine SG.condB rfl (fun h2 => ?_) (fun h2 => ?_)
      · refine SG.seq ?_
        refine SG.region ?_
        refine SL.val rfl rfl (fun w9 F9 S9 s => R.ldBN (cs := #[.slice la ln lc, .slice fa fn fc, .int .i64 tt, .int .i64 nn, .int .i64 bl]) rfl (s.cel (by repeat (first | exact SelB.blk | exact SelB.fz | apply SelB.there))) (by rfl)) ?_
        refine SL.step0 rfl (CS.stA (vs := [.slice la ln lc, .slice fa fn fc, .int .i64 tt, .int .i64 nn, .int .i64 bl]) rfl rfl (by repeat (first | exact Sel.keep | exact Sel.here | apply Sel.there)) (by rfl) (by rfl) (by intro u hu; simp only [List.mem_cons, List.not_mem_nil, or_false] at hu; rcases hu with rfl | rfl | rfl | rfl | rfl <;> rfl)) ?_
        rintro _ _ rfl
        refine SL.val rfl rfl (fun w9 F9 S9 s => R.as rfl) ?_
        refine SL.val rfl rfl (fun w9 F9 S9 s => R.as rfl) ?_
        refine SL.nil ?_
        refine SN.seq ?_
        exact SG.retCTT rfl rfl rfl rfl (by repeat (first | exact Sel.keep | exact Sel.here | apply Sel.there)) (by rfl) ((Imp.sels (by repeat (first | exact Sels.nil | apply Sels.cons | exact Sel.keep | exact Sel.here | apply Sel.there)))) (pCom (by unfold comL; rw [if_neg h0, if_pos h2]) rfl)
      · refine SG.skip ?_
        refine SN.seq ?_
        refine SG.seq ?_
        refine SG.region ?_
        refine SL.val rfl rfl (fun w9 F9 S9 s => R.fld rfl) ?_
        refine SL.val rfl rfl (fun w9 F9 S9 s => R.ldB (v := .int .i64 nn) rfl (s.cel (by repeat (first | exact SelB.blk | exact SelB.fz | apply SelB.there))) (by rfl)) ?_
        refine SL.val rfl rfl (fun w9 F9 S9 s => R.add rfl rfl (by omega)) ?_
        refine SL.val rfl rfl (fun w9 F9 S9 s => R.fld rfl) ?_
        refine SL.step0 rfl (CS.st rfl rfl (by repeat (first | exact Sel.keep | exact Sel.here | apply Sel.there)) (by repeat (first | exact SetAt.here | apply SetAt.there)) rfl) ?_
        rintro _ _ rfl
        refine SL.nil ?_
        refine SN.seq ?_
        refine SG.seq ?_
        refine SG.fact (fun w9 F9 S9 s => flat_len (s.sh (p := fun w => RefW w la ln l fa fn f) (by repeat (first | exact Sel.keep | exact Sel.here | apply Sel.there))).1) (fun hf9 => ?_)
        have hfw := hf9; clear hf9
        refine SG.cut (X := Option Addr × Nat) (fun x => [(2, .pointer (some ⟨b2, 0, none⟩)), (4, .pointer (some ⟨b4, 0, none⟩))]) (fun x => [blk b2 [.slice x.1 (0 + ln + 1) x.2, .slice fa fn fc, .int .i64 tt, .int .i64 (nn + 1), .int .i64 bl] 55, blk b4 [.slice none 0 0, .slice none 0 0, .int .i64 0, .int .i64 0, .int .i64 0] 55, sh (fun w => RefW w x.1 (0 + ln + 1) (l ++ [(⟨tt, nn + 1, (withF ((exR l tt nn).getD []) (ws.map wv)).1⟩ : WasV)]) fa fn f)]) (fun x => True) ?_ ?_
        · refine SG.fact (fun w9 F9 S9 s => flat_len (s.sh (p := fun w => RefW w la ln l fa fn f) (by repeat (first | exact Sel.keep | exact Sel.here | apply Sel.there))).1) (fun hf9 => ?_)
          have hfw := hf9; clear hf9
          refine SG.drawT (.flo 1 (.flo 2 (.flo 4 (.flo 5 (.flo 6 (.flo 7 (.flo 8 (.flo 9 (.alt 0 (.alt 3 (.alt 10 (.alt 11 (.flo 12 (.alt 13 .nil .stop)) .stop) .stop) (.alt 10 (.alt 3 (.alt 11 (.flo 12 (.alt 13 .nil .stop)) .stop) .stop) .stop)) (.alt 10 (.alt 0 (.alt 3 (.alt 11 (.flo 12 (.alt 13 .nil .stop)) .stop) .stop) .stop) .stop)))))))))) (by decide +kernel) rfl ?_
          refine TW.pure rfl rfl rfl rfl (fun w9 => R.fld rfl) ?_
          refine TW.read rfl rfl rfl rfl (fun w9 F9 S9 s => R.ldB (v := .slice la ln lc) rfl (s.cel (by repeat (first | exact SelB.blk | exact SelB.fz | apply SelB.there))) (by rfl)) ?_
          refine TW.pure rfl rfl rfl rfl (fun w9 => R.fld rfl) ?_
          refine TW.read rfl rfl rfl rfl (fun w9 F9 S9 s => R.ldB (v := .int .i64 tt) rfl (s.cel (by repeat (first | exact SelB.blk | exact SelB.fz | apply SelB.there))) (by rfl)) ?_
          refine TW.pure rfl rfl rfl rfl (fun w9 => R.fld rfl) ?_
          refine TW.read rfl rfl rfl rfl (fun w9 F9 S9 s => R.ldB (v := .int .i64 (nn + 1)) rfl (s.cel (by repeat (first | exact SelB.blk | exact SelB.fz | apply SelB.there))) (by rfl)) ?_
          refine TW.pure rfl rfl rfl rfl (fun w9 => R.mv rfl) ?_
          refine TW.pure rfl rfl rfl rfl (fun w9 => R.buildN (l := WasV.cells (⟨tt, nn + 1, (withF ((exR l tt nn).getD []) (ws.map wv)).1⟩ : WasV)) rfl rfl) ?_
          refine TW.or ?_ ?_
          · refine TW.step rfl rfl rfl rfl (CS.buildA rfl rfl rfl rfl rfl [] rfl) ?_
            rintro _ _ ⟨b51, rfl, rfl⟩
            refine ⟨⟨.inr (fun w9 F9 S9 s => R.ldB (v := .int .i64 (nn + 1)) rfl (s.cel (by repeat (first | exact SelB.blk | exact SelB.fz | apply SelB.there))) (by rfl)), ⟨.inr (fun w9 F9 S9 s => R.ldB (v := .int .i64 tt) rfl (s.cel (by repeat (first | exact SelB.blk | exact SelB.fz | apply SelB.there))) (by rfl)), ⟨.inr (fun w9 F9 S9 s => R.ldB (v := .slice la ln lc) rfl (s.cel (by repeat (first | exact SelB.blk | exact SelB.fz | apply SelB.there))) (by rfl)), trivial⟩⟩⟩, ?_⟩
            refine TW.or ?_ ?_
            · refine TW.step rfl rfl rfl rfl (CS.imp (Imp.ownBlk (size := 3) (k := 0) (show Sel _ (blk b51 [] 109) _ from (by repeat (first | exact Sel.keep | exact Sel.here | apply Sel.there))) rfl (Nat.zero_le _)) (CS.app rfl rfl (by repeat (first | exact Sel.keep | exact Sel.here | apply Sel.there)) (fun w9 F9 S9 s => (s.sh (p := fun w => RefW w la ln l fa fn f) (by repeat (first | exact Sel.keep | exact Sel.here | apply Sel.there))).1.cells) hfw (flat_one WasV.one l) (by simp [maxLen]; omega) (by omega))) ?_
              rintro _ _ ⟨a54, c54, rfl, rfl⟩
              refine ⟨⟨.inr (fun w9 F9 S9 s => R.ldB (v := .int .i64 (nn + 1)) rfl (s.cel (by repeat (first | exact SelB.blk | exact SelB.fz | apply SelB.there))) (by rfl)), ⟨.inr (fun w9 F9 S9 s => R.ldB (v := .int .i64 tt) rfl (s.cel (by repeat (first | exact SelB.blk | exact SelB.fz | apply SelB.there))) (by rfl)), ⟨.inl (by decide +kernel), trivial⟩⟩⟩, ?_⟩
              refine TW.step rfl rfl rfl rfl (CS.buildA rfl rfl rfl rfl rfl (WasV.cells (⟨tt, nn + 1, (withF ((exR l tt nn).getD []) (ws.map wv)).1⟩ : WasV)) rfl) ?_
              rintro _ _ ⟨b61, rfl, rfl⟩
              refine ⟨⟨.inl (by decide +kernel), ⟨.inl (by decide +kernel), ⟨.inr (fun w9 F9 S9 s => R.ldB (v := .slice la ln lc) rfl (s.cel (by repeat (first | exact SelB.blk | exact SelB.fz | apply SelB.there))) (by rfl)), trivial⟩⟩⟩, ?_⟩
              refine TW.step rfl rfl rfl rfl (CS.app rfl rfl (show Sel _ (own 109 3 a54 (0 + ln) c54 ([] ++ (l.map WasV.cells).flatten)) _ from (by repeat (first | exact Sel.keep | exact Sel.here | apply Sel.there))) (fun w9 F9 S9 s => s.blkC (show Sel _ (blk b61 (WasV.cells (⟨tt, nn + 1, (withF ((exR l tt nn).getD []) (ws.map wv)).1⟩ : WasV)) _) _ from (by repeat (first | exact Sel.keep | exact Sel.here | apply Sel.there)))) rfl (WasV.one (⟨tt, nn + 1, (withF ((exR l tt nn).getD []) (ws.map wv)).1⟩ : WasV)) (by simp [maxLen]; omega) (by omega)) ?_
              rintro _ _ ⟨a62, c62, rfl, rfl⟩
              refine ⟨⟨.inl (by decide +kernel), ⟨.inl (by decide +kernel), ⟨.inl (by decide +kernel), trivial⟩⟩⟩, ?_⟩
              refine TW.pure rfl rfl rfl rfl (fun w9 => R.fld rfl) ?_
              refine TW.step0 rfl rfl rfl (CS.st rfl rfl (show Sel _ (blk b2 _ _) _ from (by repeat (first | exact Sel.keep | exact Sel.here | apply Sel.there))) (by repeat (first | exact SetAt.here | apply SetAt.there)) rfl) ?_
              rintro _ _ rfl
              refine ⟨⟨.inl (by decide +kernel), ⟨.inl (by decide +kernel), ⟨.inl (by decide +kernel), trivial⟩⟩⟩, ?_⟩
              refine TW.nil ?_
              refine SN.imp (Imp.ownSh (show Sel _ (own 109 3 a62 (0 + ln + 1) c62 ([] ++ (l.map WasV.cells).flatten ++ WasV.cells (⟨tt, nn + 1, (withF ((exR l tt nn).getD []) (ws.map wv)).1⟩ : WasV))) _ from (by repeat (first | exact Sel.keep | exact Sel.here | apply Sel.there))) (p := fun w => Cells w a62 ([] ++ (l.map WasV.cells).flatten ++ WasV.cells (⟨tt, nn + 1, (withF ((exR l tt nn).getD []) (ws.map wv)).1⟩ : WasV))) (fun w h => h)) ?_
              refine SN.imp (Imp.both (p := fun w => RefW w la ln l fa fn f) (q := fun w => Cells w a62 ([] ++ (l.map WasV.cells).flatten ++ WasV.cells (⟨tt, nn + 1, (withF ((exR l tt nn).getD []) (ws.map wv)).1⟩ : WasV))) (by repeat (first | exact Sel.keep | exact Sel.here | apply Sel.there)) (by repeat (first | exact Sel.keep | exact Sel.here | apply Sel.there))) ?_
              refine SN.imp (Imp.weak (p := fun w => RefW w la ln l fa fn f ∧ Cells w a62 ([] ++ (l.map WasV.cells).flatten ++ WasV.cells (⟨tt, nn + 1, (withF ((exR l tt nn).getD []) (ws.map wv)).1⟩ : WasV))) (q := fun w => RefW w a62 (0 + ln + 1) (l ++ [(⟨tt, nn + 1, (withF ((exR l tt nn).getD []) (ws.map wv)).1⟩ : WasV)]) fa fn f) (by repeat (first | exact Sel.keep | exact Sel.here | apply Sel.there)) (fun w hw => ⟨tab_snoc hw.1.1 rfl hw.2 (by omega), hw.1.2⟩)) ?_
              exact SN.handX (a62, c62) (Sub.cons rfl (Sub.cons rfl (Sub.nil _))) (Imp.sels (by repeat (first | exact Sels.nil | apply Sels.cons | exact Sel.keep | exact Sel.here | apply Sel.there))) trivial
            refine TW.step rfl rfl rfl rfl (CS.buildA rfl rfl rfl rfl rfl (WasV.cells (⟨tt, nn + 1, (withF ((exR l tt nn).getD []) (ws.map wv)).1⟩ : WasV)) rfl) ?_
            rintro _ _ ⟨b61, rfl, rfl⟩
            refine ⟨⟨.inl (by decide +kernel), ⟨.inl (by decide +kernel), ⟨.inr (fun w9 F9 S9 s => R.ldB (v := .slice la ln lc) rfl (s.cel (by repeat (first | exact SelB.blk | exact SelB.fz | apply SelB.there))) (by rfl)), trivial⟩⟩⟩, ?_⟩
            refine TW.step rfl rfl rfl rfl (CS.imp (Imp.ownBlk (size := 3) (k := 0) (show Sel _ (blk b51 [] 109) _ from (by repeat (first | exact Sel.keep | exact Sel.here | apply Sel.there))) rfl (Nat.zero_le _)) (CS.app rfl rfl (by repeat (first | exact Sel.keep | exact Sel.here | apply Sel.there)) (fun w9 F9 S9 s => (s.sh (p := fun w => RefW w la ln l fa fn f) (by repeat (first | exact Sel.keep | exact Sel.here | apply Sel.there))).1.cells) hfw (flat_one WasV.one l) (by simp [maxLen]; omega) (by omega))) ?_
            rintro _ _ ⟨a54, c54, rfl, rfl⟩
            refine ⟨⟨.inr (fun w9 F9 S9 s => R.ldB (v := .int .i64 (nn + 1)) rfl (s.cel (by repeat (first | exact SelB.blk | exact SelB.fz | apply SelB.there))) (by rfl)), ⟨.inr (fun w9 F9 S9 s => R.ldB (v := .int .i64 tt) rfl (s.cel (by repeat (first | exact SelB.blk | exact SelB.fz | apply SelB.there))) (by rfl)), ⟨.inl (by decide +kernel), trivial⟩⟩⟩, ?_⟩
            refine TW.step rfl rfl rfl rfl (CS.app rfl rfl (show Sel _ (own 109 3 a54 (0 + ln) c54 ([] ++ (l.map WasV.cells).flatten)) _ from (by repeat (first | exact Sel.keep | exact Sel.here | apply Sel.there))) (fun w9 F9 S9 s => s.blkC (show Sel _ (blk b61 (WasV.cells (⟨tt, nn + 1, (withF ((exR l tt nn).getD []) (ws.map wv)).1⟩ : WasV)) _) _ from (by repeat (first | exact Sel.keep | exact Sel.here | apply Sel.there)))) rfl (WasV.one (⟨tt, nn + 1, (withF ((exR l tt nn).getD []) (ws.map wv)).1⟩ : WasV)) (by simp [maxLen]; omega) (by omega)) ?_
            rintro _ _ ⟨a62, c62, rfl, rfl⟩
            refine ⟨⟨.inl (by decide +kernel), ⟨.inl (by decide +kernel), ⟨.inl (by decide +kernel), trivial⟩⟩⟩, ?_⟩
            refine TW.pure rfl rfl rfl rfl (fun w9 => R.fld rfl) ?_
            refine TW.step0 rfl rfl rfl (CS.st rfl rfl (show Sel _ (blk b2 _ _) _ from (by repeat (first | exact Sel.keep | exact Sel.here | apply Sel.there))) (by repeat (first | exact SetAt.here | apply SetAt.there)) rfl) ?_
            rintro _ _ rfl
            refine ⟨⟨.inl (by decide +kernel), ⟨.inl (by decide +kernel), ⟨.inl (by decide +kernel), trivial⟩⟩⟩, ?_⟩
            refine TW.nil ?_
            refine SN.imp (Imp.ownSh (show Sel _ (own 109 3 a62 (0 + ln + 1) c62 ([] ++ (l.map WasV.cells).flatten ++ WasV.cells (⟨tt, nn + 1, (withF ((exR l tt nn).getD []) (ws.map wv)).1⟩ : WasV))) _ from (by repeat (first | exact Sel.keep | exact Sel.here | apply Sel.there))) (p := fun w => Cells w a62 ([] ++ (l.map WasV.cells).flatten ++ WasV.cells (⟨tt, nn + 1, (withF ((exR l tt nn).getD []) (ws.map wv)).1⟩ : WasV))) (fun w h => h)) ?_
            refine SN.imp (Imp.both (p := fun w => RefW w la ln l fa fn f) (q := fun w => Cells w a62 ([] ++ (l.map WasV.cells).flatten ++ WasV.cells (⟨tt, nn + 1, (withF ((exR l tt nn).getD []) (ws.map wv)).1⟩ : WasV))) (by repeat (first | exact Sel.keep | exact Sel.here | apply Sel.there)) (by repeat (first | exact Sel.keep | exact Sel.here | apply Sel.there))) ?_
            refine SN.imp (Imp.weak (p := fun w => RefW w la ln l fa fn f ∧ Cells w a62 ([] ++ (l.map WasV.cells).flatten ++ WasV.cells (⟨tt, nn + 1, (withF ((exR l tt nn).getD []) (ws.map wv)).1⟩ : WasV))) (q := fun w => RefW w a62 (0 + ln + 1) (l ++ [(⟨tt, nn + 1, (withF ((exR l tt nn).getD []) (ws.map wv)).1⟩ : WasV)]) fa fn f) (by repeat (first | exact Sel.keep | exact Sel.here | apply Sel.there)) (fun w hw => ⟨tab_snoc hw.1.1 rfl hw.2 (by omega), hw.1.2⟩)) ?_
            exact SN.handX (a62, c62) (Sub.cons rfl (Sub.cons rfl (Sub.nil _))) (Imp.sels (by repeat (first | exact Sels.nil | apply Sels.cons | exact Sel.keep | exact Sel.here | apply Sel.there))) trivial
          refine TW.step rfl rfl rfl rfl (CS.buildA rfl rfl rfl rfl rfl (WasV.cells (⟨tt, nn + 1, (withF ((exR l tt nn).getD []) (ws.map wv)).1⟩ : WasV)) rfl) ?_
          rintro _ _ ⟨b61, rfl, rfl⟩
          refine ⟨⟨.inl (by decide +kernel), ⟨.inl (by decide +kernel), ⟨.inr (fun w9 F9 S9 s => R.ldB (v := .slice la ln lc) rfl (s.cel (by repeat (first | exact SelB.blk | exact SelB.fz | apply SelB.there))) (by rfl)), trivial⟩⟩⟩, ?_⟩
          refine TW.step rfl rfl rfl rfl (CS.buildA rfl rfl rfl rfl rfl [] rfl) ?_
          rintro _ _ ⟨b51, rfl, rfl⟩
          refine ⟨⟨.inr (fun w9 F9 S9 s => R.ldB (v := .int .i64 (nn + 1)) rfl (s.cel (by repeat (first | exact SelB.blk | exact SelB.fz | apply SelB.there))) (by rfl)), ⟨.inr (fun w9 F9 S9 s => R.ldB (v := .int .i64 tt) rfl (s.cel (by repeat (first | exact SelB.blk | exact SelB.fz | apply SelB.there))) (by rfl)), ⟨.inr (fun w9 F9 S9 s => R.ldB (v := .slice la ln lc) rfl (s.cel (by repeat (first | exact SelB.blk | exact SelB.fz | apply SelB.there))) (by rfl)), trivial⟩⟩⟩, ?_⟩
          refine TW.step rfl rfl rfl rfl (CS.imp (Imp.ownBlk (size := 3) (k := 0) (show Sel _ (blk b51 [] 109) _ from (by repeat (first | exact Sel.keep | exact Sel.here | apply Sel.there))) rfl (Nat.zero_le _)) (CS.app rfl rfl (by repeat (first | exact Sel.keep | exact Sel.here | apply Sel.there)) (fun w9 F9 S9 s => (s.sh (p := fun w => RefW w la ln l fa fn f) (by repeat (first | exact Sel.keep | exact Sel.here | apply Sel.there))).1.cells) hfw (flat_one WasV.one l) (by simp [maxLen]; omega) (by omega))) ?_
          rintro _ _ ⟨a54, c54, rfl, rfl⟩
          refine ⟨⟨.inr (fun w9 F9 S9 s => R.ldB (v := .int .i64 (nn + 1)) rfl (s.cel (by repeat (first | exact SelB.blk | exact SelB.fz | apply SelB.there))) (by rfl)), ⟨.inr (fun w9 F9 S9 s => R.ldB (v := .int .i64 tt) rfl (s.cel (by repeat (first | exact SelB.blk | exact SelB.fz | apply SelB.there))) (by rfl)), ⟨.inl (by decide +kernel), trivial⟩⟩⟩, ?_⟩
          refine TW.step rfl rfl rfl rfl (CS.app rfl rfl (show Sel _ (own 109 3 a54 (0 + ln) c54 ([] ++ (l.map WasV.cells).flatten)) _ from (by repeat (first | exact Sel.keep | exact Sel.here | apply Sel.there))) (fun w9 F9 S9 s => s.blkC (show Sel _ (blk b61 (WasV.cells (⟨tt, nn + 1, (withF ((exR l tt nn).getD []) (ws.map wv)).1⟩ : WasV)) _) _ from (by repeat (first | exact Sel.keep | exact Sel.here | apply Sel.there)))) rfl (WasV.one (⟨tt, nn + 1, (withF ((exR l tt nn).getD []) (ws.map wv)).1⟩ : WasV)) (by simp [maxLen]; omega) (by omega)) ?_
          rintro _ _ ⟨a62, c62, rfl, rfl⟩
          refine ⟨⟨.inl (by decide +kernel), ⟨.inl (by decide +kernel), ⟨.inl (by decide +kernel), trivial⟩⟩⟩, ?_⟩
          refine TW.pure rfl rfl rfl rfl (fun w9 => R.fld rfl) ?_
          refine TW.step0 rfl rfl rfl (CS.st rfl rfl (show Sel _ (blk b2 _ _) _ from (by repeat (first | exact Sel.keep | exact Sel.here | apply Sel.there))) (by repeat (first | exact SetAt.here | apply SetAt.there)) rfl) ?_
          rintro _ _ rfl
          refine ⟨⟨.inl (by decide +kernel), ⟨.inl (by decide +kernel), ⟨.inl (by decide +kernel), trivial⟩⟩⟩, ?_⟩
          refine TW.nil ?_
          refine SN.imp (Imp.ownSh (show Sel _ (own 109 3 a62 (0 + ln + 1) c62 ([] ++ (l.map WasV.cells).flatten ++ WasV.cells (⟨tt, nn + 1, (withF ((exR l tt nn).getD []) (ws.map wv)).1⟩ : WasV))) _ from (by repeat (first | exact Sel.keep | exact Sel.here | apply Sel.there))) (p := fun w => Cells w a62 ([] ++ (l.map WasV.cells).flatten ++ WasV.cells (⟨tt, nn + 1, (withF ((exR l tt nn).getD []) (ws.map wv)).1⟩ : WasV))) (fun w h => h)) ?_
          refine SN.imp (Imp.both (p := fun w => RefW w la ln l fa fn f) (q := fun w => Cells w a62 ([] ++ (l.map WasV.cells).flatten ++ WasV.cells (⟨tt, nn + 1, (withF ((exR l tt nn).getD []) (ws.map wv)).1⟩ : WasV))) (by repeat (first | exact Sel.keep | exact Sel.here | apply Sel.there)) (by repeat (first | exact Sel.keep | exact Sel.here | apply Sel.there))) ?_
          refine SN.imp (Imp.weak (p := fun w => RefW w la ln l fa fn f ∧ Cells w a62 ([] ++ (l.map WasV.cells).flatten ++ WasV.cells (⟨tt, nn + 1, (withF ((exR l tt nn).getD []) (ws.map wv)).1⟩ : WasV))) (q := fun w => RefW w a62 (0 + ln + 1) (l ++ [(⟨tt, nn + 1, (withF ((exR l tt nn).getD []) (ws.map wv)).1⟩ : WasV)]) fa fn f) (by repeat (first | exact Sel.keep | exact Sel.here | apply Sel.there)) (fun w hw => ⟨tab_snoc hw.1.1 rfl hw.2 (by omega), hw.1.2⟩)) ?_
          exact SN.handX (a62, c62) (Sub.cons rfl (Sub.cons rfl (Sub.nil _))) (Imp.sels (by repeat (first | exact Sels.nil | apply Sels.cons | exact Sel.keep | exact Sel.here | apply Sel.there))) trivial
        · rintro ⟨a62, c62⟩ _
          show SN _ _ _ _ _ [(2, .pointer (some ⟨b2, 0, none⟩)), (4, .pointer (some ⟨b4, 0, none⟩))] [blk b2 [.slice a62 (0 + ln + 1) c62, .slice fa fn fc, .int .i64 tt, .int .i64 (nn + 1), .int .i64 bl] 55, blk b4 [.slice none 0 0, .slice none 0 0, .int .i64 0, .int .i64 0, .int .i64 0] 55, sh (fun w => RefW w a62 (0 + ln + 1) (l ++ [(⟨tt, nn + 1, (withF ((exR l tt nn).getD []) (ws.map wv)).1⟩ : WasV)]) fa fn f)]
          refine SN.seq ?_
          refine SG.seq ?_
          refine SG.draw [3] [0, 1, 2, 3, 4, 5] (by decide +kernel) rfl ?_
          refine SW.read rfl rfl rfl rfl (fun w9 F9 S9 s => R.ldBN (cs := #[.slice a62 (0 + ln + 1) c62, .slice fa fn fc, .int .i64 tt, .int .i64 (nn + 1), .int .i64 bl]) rfl (s.cel (by repeat (first | exact SelB.blk | exact SelB.fz | apply SelB.there))) (by rfl)) ?_
          refine SW.pure rfl rfl rfl rfl (fun w9 => R.fld rfl) ?_
          refine SW.read rfl rfl rfl rfl (fun w9 F9 S9 s => R.ldB (v := .int .i64 (nn + 1)) rfl (s.cel (by repeat (first | exact SelB.blk | exact SelB.fz | apply SelB.there))) (by rfl)) ?_
          refine SW.step0 rfl rfl rfl (CS.stA (vs := [.slice a62 (0 + ln + 1) c62, .slice fa fn fc, .int .i64 tt, .int .i64 (nn + 1), .int .i64 bl]) rfl rfl (by repeat (first | exact Sel.keep | exact Sel.here | apply Sel.there)) (by rfl) (by rfl) (by intro u hu; simp only [List.mem_cons, List.not_mem_nil, or_false] at hu; rcases hu with rfl | rfl | rfl | rfl | rfl <;> rfl)) ?_
          rintro _ _ rfl
          refine ⟨⟨.inr (fun w9 F9 S9 s => R.ldB (v := .int .i64 (nn + 1)) rfl (s.cel (by repeat (first | exact SelB.blk | exact SelB.fz | apply SelB.there))) (by rfl)), ⟨.inl (by decide +kernel), trivial⟩⟩, ?_⟩
          refine SW.pure rfl rfl rfl rfl (fun w9 => R.as rfl) ?_
          refine SW.pure rfl rfl rfl rfl (fun w9 => R.as rfl) ?_
          refine SW.nil ?_
          refine SN.seq ?_
          exact SG.retCTT rfl rfl rfl rfl (by repeat (first | exact Sel.keep | exact Sel.here | apply Sel.there)) (by rfl) ((Imp.sels (by repeat (first | exact Sels.nil | apply Sels.cons | exact Sel.keep | exact Sel.here | apply Sel.there)))) (pCom (by unfold comL; rw [if_neg h0, if_neg (by simpa using h2)]) rfl)

end Go.Proofs.Ythdaelmjiaegfaa
