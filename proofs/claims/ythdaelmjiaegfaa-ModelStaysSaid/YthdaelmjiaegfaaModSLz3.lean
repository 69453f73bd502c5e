/-
  Texts of this claim, put together.
-/
import Derived.WideKeyRuns
import Derived.Maps.RangeRun
import Derived.Test.YthdaelmjiaegfaaModSLz2
/-
  The walks of package image.
-/
set_option linter.unusedVariables false
set_option linter.unusedSimpArgs false
namespace Go.Proofs.Ythdaelmjiaegfaa
open Go Brv Brv.Image
theorem Blks.put {w w' : World} {qs : List Nat} {y s : List UInt8} {gl j z : Nat} {cur : Array Value} (h : Blks w qs y) (he : Ext [gl] w w') (hl : Blk w gl cur 96 (0, 0)) (hz : Blk w z (vbs s).toArray 102 (0, 0)) (hs : s.length = 64) (hj : j < dn y) : Blks w' (qs.set j z) (laid y j s) := by
  refine ⟨by rw [List.length_set, laid_dn hs hj]; exact h.len, fun k hk => ?_⟩
  rw [List.length_set] at hk
  rw [laid_blk hs hj, List.getElem_set]
  by_cases e : j = k
  · subst e
    rw [if_pos rfl, if_pos rfl]
    exact hz.ext he (fun hm => hz.ne hl (by decide) (List.mem_singleton.1 hm))
  · rw [if_neg e, if_neg (fun e' => e e'.symm)]
    exact (h.each k hk).ext he (fun hm => (h.each k hk).ne hl (by decide) (List.mem_singleton.1 hm))

/-- A disk, whose blocks are old ones of ps or new. -/
def DiskQ (w : World) (s : Nat) (ps : List Nat) (d : Nat) (x : List UInt8) : Prop := ∃ g c cur qs, DiskL w d g c cur qs x ∧ ∀ y ∈ d :: g :: qs, y ∈ ps ∨ s ≤ y
theorem DiskQ.at {w : World} {s : Nat} {ps : List Nat} {d : Nat} {x : List UInt8} (h : DiskQ w s ps d x) : DiskAt w d x := let ⟨g, c, cur, qs, h, _⟩ := h; ⟨g, c, cur, qs, h⟩
theorem DiskQ.mk2 {w : World} {s d c : Nat} {ps qs : List Nat} {x : List UInt8} {a : Option Addr} {M : List Nat} (h1 : Blk w d #[.slice a (dn x) c] 98 (0, 0)) (hd : s ≤ d) (h2 : x.length = 64 * dn x) (h3 : 1 ≤ dn x) (h4 : dn x ≤ 64) (ho : Own w 96 1 a (dn x) c (qs.map ptr) M) (hM : ∀ g ∈ M, s ≤ g) (h5 : Blks w qs x) (hq : ∀ q ∈ qs, q ∈ ps ∨ s ≤ q) : DiskQ w s ps d x := by
  rcases ho.2 with ⟨_, h0, _, _⟩ | ⟨g, cur, rfl, hg, hb, _, _, _, ht⟩
  · omega
  · rw [Nat.mul_one] at ht
    refine ⟨g, c, cur, qs, ⟨h1, h2, h3, h4, hb, ht, h5⟩, fun y hy => ?_⟩
    rcases List.mem_cons.1 hy with rfl | hy
    · exact .inr hd
    rcases List.mem_cons.1 hy with rfl | hy
    · exact .inr (hM _ (by rw [hg]; simp))
    · exact hq y hy

theorem iwith_okF (d g c : Nat) (cur : Array Value) (ps : List Nat) (x : List UInt8) (la : Option Addr) (ln lc : Nat) (ws : List WriteV) (w : World) (hD0 : DiskL w d g c cur ps x) (hT : Tab w la ln 2 (ws.map WriteV.cells)) (hO : ∀ o ∈ ws, Bs w o.B'a o.B'n o.B') (hln : ln ≤ 1000000) : Meets Try.prog 15 [.pointer (some ⟨d, 0, none⟩), .slice la ln lc] w (fun v w' => Ext [] w w' ∧ ((withF x (ws.map wv)).2 = 0 → ∃ d', v = .tuple #[ptr d', .int .i64 0] ∧ DiskQ w' w.heap.size ps d' (withF x (ws.map wv)).1) ∧ ((withF x (ws.map wv)).2 ≠ 0 → v = .tuple #[.pointer none, .int .i64 (withF x (ws.map wv)).2])) := by
  refine Meets.enter Try.func15 rfl 57 rfl (Nat.le_of_ble_eq_true rfl) ?_
  have E := Ext.refl [] w
  have hn := hT.len
  rw [List.length_map] at hn
  have D := hD0
  have hx64 := D.le
  have hpl := D.hb.len
  refine G.seq ?_
  refine G.region ?_
  refine L.val rfl rfl (R.as rfl) ?_
  refine L.val rfl rfl (R.as rfl) ?_
  refine L.nil ?_
  refine N.seq ?_
  refine G.seq ?_
  refine G.seq ?_
  refine G.region ?_
  refine L.val rfl rfl (R.mv rfl) ?_
  refine L.val rfl rfl (R.eqNilP rfl rfl) ?_
  refine L.nil ?_
  refine N.seq ?_
  refine G.condF rfl ?_
  refine G.skip ?_
  refine N.seq ?_
  refine G.seq ?_
  refine G.region ?_
  refine L.val rfl rfl (R.mv rfl) ?_
  refine L.val rfl rfl (R.nilChk rfl) ?_
  refine L.val rfl rfl (R.fld rfl) ?_
  refine L.val rfl rfl (R.ldB rfl D.hd rfl) ?_
  refine L.callF rfl rfl rfl go38 (pclone_ok (some ⟨g, 0, none⟩) (dn x) c (ps.map ptr) _ D.cells (by simp [hpl]) (ptrs_one ps) (by omega)) ?_
  rintro _ w1 ⟨a6, c6, M6, rfl, e1, o6, hM6⟩
  replace E := E.trans0 e1
  replace D := D.ext0 e1
  refine L.val rfl rfl (R.build (cs := #[.slice a6 (dn x) c6]) rfl rfl) ?_
  refine L.do rfl rfl (R.box rfl) ?_
  rintro _ w2 ⟨b18, rfl, hb18, hs18, e2, B6⟩
  have hb18w : w.heap.size ≤ b18 := by have := E.size; omega
  replace E := E.trans0 e2
  replace D := D.ext0 e2
  replace o6 := o6.ext0 e2
  refine L.val rfl rfl (R.as rfl) ?_
  refine L.nil ?_
  refine N.seq ?_
  refine G.seq ?_
  refine G.seq ?_
  refine G.region ?_
  refine L.val rfl rfl (R.mv rfl) ?_
  refine L.val rfl rfl (R.lenS rfl) ?_
  refine L.val rfl rfl (R.mv rfl) ?_
  refine L.nil ?_
  refine N.seq ?_
  refine G.block ?_
  refine G.loop (X := Nat × List UInt8 × List Nat) (fun s => [(0, .pointer (some ⟨d, 0, none⟩)), (6, .pointer (some ⟨b18, 0, none⟩)), (19, .slice la ln lc), (20, .int .i64 (ln : Int)), (21, .int .i64 (s.1 : Int))]) (fun s w' => s.1 ≤ ln ∧ s.2.1.length = x.length ∧ withF x (ws.map wv) = withF s.2.1 ((ws.map wv).drop s.1) ∧ Ext [] w w' ∧ Blk w' b18 #[.slice a6 (dn x) c6] 98 (0, 0) ∧ Own w' 96 1 a6 (dn x) c6 (s.2.2.map ptr) M6 ∧ Blks w' s.2.2 s.2.1 ∧ ∀ q ∈ s.2.2, q ∈ ps ∨ w.heap.size ≤ q) (fun s => ln - s.1) ((0, x, ps)) (Sub.cons rfl (Sub.cons rfl (Sub.cons rfl (Sub.cons rfl (Sub.cons rfl (Sub.nil _)))))) ⟨Nat.zero_le _, rfl, rfl, E, B6, o6, D.hb, fun q h => .inl h⟩ ?_
  rintro ⟨i, y, qs⟩ w1 ⟨hi, hyl, hiw, E, B6, o6, hB, hqs⟩
  dsimp only at hi hyl hiw o6 hB hqs
  refine G.sub [(0, .pointer (some ⟨d, 0, none⟩)), (6, .pointer (some ⟨b18, 0, none⟩)), (19, .slice la ln lc), (20, .int .i64 (ln : Int)), (21, .int .i64 (i : Int))] (Sub.cons rfl (Sub.cons rfl (Sub.cons rfl (Sub.cons rfl (Sub.cons rfl (Sub.nil _)))))) ?_
  have hdy : dn y = dn x := by unfold dn; rw [hyl]
  have D := hD0.ext0 E
  refine G.seq ?_
  refine G.region ?_
  refine L.val rfl rfl (R.lss rfl rfl) ?_
  refine L.nil ?_
  refine N.seq ?_
  refine G.seq ?_
  refine G.condP rfl (fun h1 => ?_) (fun h1 => ?_)
  · refine G.skip ?_
    refine N.seq ?_
    refine G.seq ?_
    refine G.block ?_
    refine G.seq ?_
    refine G.region ?_
    have hdr : (ws.map wv).drop i = wv (ws[i]'(by omega)) :: (ws.map wv).drop (i + 1) := by rw [List.drop_eq_getElem_cons (by rw [List.length_map]; omega), List.getElem_map]
    obtain ⟨q9, hq9, hcl⟩ := hT.at (by decide) i (by rw [List.length_map]; omega)
    rw [List.getElem_map] at hcl
    have hok' := hO _ (List.getElem_mem (show i < ws.length by omega))
    generalize hoe : ws[i]'(by omega) = o at *
    refine L.val rfl rfl (R.idx rfl rfl (by omega) (by omega) q9 hq9) ?_
    refine L.val rfl rfl (R.ldN rfl (hcl.ext0 E) rfl) ?_
    refine L.do rfl rfl (R.alloc) ?_
    rintro _ w2 ⟨b9, rfl, hb9, hs9, e2, B9⟩
    have hEb := E.size
    replace E := E.trans0 e2
    refine L.set rfl (R.stN rfl rfl B9 rfl (Nat.le_refl 2) (WriteV.cells.one _)) ?_
    rintro w3 ⟨e3, hs3, B9⟩
    replace B9 : Blk w3 b9 o.cells.toArray 100 (0, 0) := B9
    replace E := E.trans e3 (M := []) (by simp) (by intro x hx; rw [List.mem_singleton.1 hx]; exact .inr (by omega))
    have n3 := e2.news2 e3 (by omega)
    replace B6 := B6.ext0 n3
    replace o6 := o6.ext0 n3
    replace hB := hB.ext0 n3
    replace D := D.ext0 n3
    refine L.nil ?_
    refine N.seq ?_
    refine G.seq ?_
    refine G.block ?_
    refine G.seq ?_
    refine G.quiet (by decide +kernel) rfl ?_
    refine Q.val rfl rfl rfl rfl (fun w4 hE => R.fld rfl) ?_
    refine Q.val rfl rfl rfl rfl (fun w4 hE => R.ldB rfl (B9.ext0 hE) rfl) ?_
    refine Q.val rfl rfl rfl rfl (fun w4 hE => R.lss rfl rfl) ?_
    refine Q.val rfl rfl rfl rfl (fun w4 hE => R.mv rfl) ?_
    refine Q.caseP 29 rfl (fun hg7_3 => ?_) (fun hg7_3 => ?_)
    · refine Q.pass rfl rfl rfl ?_
      refine Q.pass rfl rfl rfl ?_
      refine Q.pass rfl rfl rfl ?_
      refine Q.pass rfl rfl rfl ?_
      refine Q.pass rfl rfl rfl ?_
      refine Q.pass rfl rfl rfl ?_
      refine Q.pass rfl rfl rfl ?_
      refine Q.pass rfl rfl rfl ?_
      first | refine Q.val rfl rfl rfl rfl (fun w4 hE => R.pickT rfl rfl) ?_ | refine Q.val rfl rfl rfl rfl (fun w4 hE => R.pickF rfl rfl) ?_
      refine Q.val rfl rfl rfl rfl (fun w4 hE => R.as rfl) ?_
      refine Q.nil (fun w4 e4 => ?_)
      replace E := E.trans0 e4
      replace B9 := B9.ext0 e4
      replace B6 := B6.ext0 e4
      replace o6 := o6.ext0 e4
      replace hB := hB.ext0 e4
      replace D := D.ext0 e4
      refine N.seq ?_
      refine G.condT rfl ?_
      have hw2 : withF x (ws.map wv) = ([], 41) := by rw [hiw, hdr]; exact withF_blk (by show o.Block' < 0 ∨ (dn y : Int) ≤ o.Block'; omega)
      refine G.seq ?_
      refine G.region ?_
      refine L.val rfl rfl (R.as rfl) ?_
      refine L.val rfl rfl (R.as rfl) ?_
      refine L.nil ?_
      refine N.seq ?_
      refine G.ret2 rfl rfl rfl ?_
      first
        | (rw [hw2]; exact ⟨E, fun h => absurd h (by decide), fun _ => rfl⟩)
        | (rw [hw2]; exact ⟨E, fun _ => ⟨b18, rfl, DiskQ.mk2 (by rw [hdy]; exact B6) hb18w (by rw [hdy, hyl]; exact D.len) (by rw [hdy]; exact D.pos) (by rw [hdy]; exact D.le) (by rw [hdy]; exact o6) hM6 hB hqs⟩, fun h => (h rfl).elim⟩)
    · refine Q.val rfl rfl rfl rfl (fun w4 hE => R.fld rfl) ?_
      refine Q.val rfl rfl rfl rfl (fun w4 hE => R.ldB rfl (B9.ext0 hE) rfl) ?_
      refine Q.val rfl rfl rfl rfl (fun w4 hE => R.mv rfl) ?_
      refine Q.val rfl rfl rfl rfl (fun w4 hE => R.nilChk rfl) ?_
      refine Q.val rfl rfl rfl rfl (fun w4 hE => R.fld rfl) ?_
      refine Q.val rfl rfl rfl rfl (fun w4 hE => R.ldB rfl (D.hd.ext0 hE) rfl) ?_
      refine Q.val rfl rfl rfl rfl (fun w4 hE => R.lenS rfl) ?_
      refine Q.val rfl rfl rfl rfl (fun w4 hE => R.geq rfl rfl) ?_
      first | refine Q.val rfl rfl rfl rfl (fun w4 hE => R.pickT rfl rfl) ?_ | refine Q.val rfl rfl rfl rfl (fun w4 hE => R.pickF rfl rfl) ?_
      refine Q.val rfl rfl rfl rfl (fun w4 hE => R.as rfl) ?_
      refine Q.nil (fun w4 e4 => ?_)
      replace E := E.trans0 e4
      replace B9 := B9.ext0 e4
      replace B6 := B6.ext0 e4
      replace o6 := o6.ext0 e4
      replace hB := hB.ext0 e4
      replace D := D.ext0 e4
      refine N.seq ?_
      refine G.condP rfl (fun h2 => ?_) (fun h2 => ?_)
      · have hw2 : withF x (ws.map wv) = ([], 41) := by rw [hiw, hdr]; exact withF_blk (by show o.Block' < 0 ∨ (dn y : Int) ≤ o.Block'; omega)
        refine G.seq ?_
        refine G.region ?_
        refine L.val rfl rfl (R.as rfl) ?_
        refine L.val rfl rfl (R.as rfl) ?_
        refine L.nil ?_
        refine N.seq ?_
        refine G.ret2 rfl rfl rfl ?_
        first
          | (rw [hw2]; exact ⟨E, fun h => absurd h (by decide), fun _ => rfl⟩)
          | (rw [hw2]; exact ⟨E, fun _ => ⟨b18, rfl, DiskQ.mk2 (by rw [hdy]; exact B6) hb18w (by rw [hdy, hyl]; exact D.len) (by rw [hdy]; exact D.pos) (by rw [hdy]; exact D.le) (by rw [hdy]; exact o6) hM6 hB hqs⟩, fun h => (h rfl).elim⟩)
      · obtain ⟨j, hj0⟩ := Int.eq_ofNat_of_zero_le (show 0 ≤ o.Block' by omega)
        have hj : j < dn y := by omega
        have hBs := hok'
        have hBl := hBs.len
        refine G.seq ?_
        refine G.region ?_
        refine L.val rfl rfl (R.fld rfl) ?_
        refine L.val rfl rfl (R.ldB rfl B9 rfl) ?_
        refine L.val rfl rfl (R.lenS rfl) ?_
        refine L.val rfl rfl (R.neI rfl rfl) ?_
        refine L.val rfl rfl (R.as rfl) ?_
        refine L.nil ?_
        refine N.seq ?_
        refine G.condP rfl (fun h3 => ?_) (fun h3 => ?_)
        · have hw2 : withF x (ws.map wv) = ([], 42) := by rw [hiw, hdr]; exact withF_size (by show ¬ (o.Block' < 0 ∨ (dn y : Int) ≤ o.Block'); omega) (by show o.B'.length ≠ 64; omega)
          refine G.seq ?_
          refine G.region ?_
          refine L.val rfl rfl (R.as rfl) ?_
          refine L.val rfl rfl (R.as rfl) ?_
          refine L.nil ?_
          refine N.seq ?_
          refine G.ret2 rfl rfl rfl ?_
          first
            | (rw [hw2]; exact ⟨E, fun h => absurd h (by decide), fun _ => rfl⟩)
            | (rw [hw2]; exact ⟨E, fun _ => ⟨b18, rfl, DiskQ.mk2 (by rw [hdy]; exact B6) hb18w (by rw [hdy, hyl]; exact D.len) (by rw [hdy]; exact D.pos) (by rw [hdy]; exact D.le) (by rw [hdy]; exact o6) hM6 hB hqs⟩, fun h => (h rfl).elim⟩)
        · have h64 : o.B'.length = 64 := by omega
          have hw2 : withF x (ws.map wv) = withF (laid y j o.B') ((ws.map wv).drop (i + 1)) := by rw [hiw, hdr, withF_next (by show ¬ (o.Block' < 0 ∨ (dn y : Int) ≤ o.Block'); omega) h64]; rw [show (wv o).1.toNat = j by show o.Block'.toNat = j; omega]; rfl
          refine G.skip ?_
          refine N.block ?_
          refine N.seq ?_
          refine G.seq ?_
          refine G.region ?_
          obtain ⟨pa, hpa⟩ : ∃ pa, o.B'a = some pa := by
            cases hq : o.B'a with
            | none => rw [hq] at hBs; have := hBs.none.1; rw [this] at h64; cases h64
            | some pa => exact ⟨pa, rfl⟩
          rw [hpa] at hBs
          refine L.val rfl rfl (R.fld rfl) ?_
          refine L.val rfl rfl (R.ldB rfl B9 rfl) ?_
          refine L.val rfl rfl (R.s2ap rfl (by omega)) ?_
          refine L.be 46 rfl (show _ = Value.pointer (some pa) by rw [hpa]) ?_
          refine L.val rfl rfl (R.ldN rfl (hBs.ext0 E).cells (by rw [vbs_length, h64])) ?_
          refine L.do rfl rfl (R.alloc) ?_
          rintro _ w6 ⟨b47, rfl, hb47, hs47, e6, B47⟩
          have hE6 := E.size
          have hb47w : w.heap.size ≤ b47 := by omega
          refine L.set rfl (R.stN rfl rfl B47 (by simp [vbs_length, h64]) (by simp [vbs_length, h64, Value.cells]) (by simpa using vbs_one _)) ?_
          rintro w7 ⟨e7, hs7, B47⟩
          rw [all_stored (by simp [vbs_length, h64, Value.cells])] at B47
          have n7 := e6.news2 e7 (by omega)
          replace E := E.trans0 n7
          replace B9 := B9.ext0 n7
          replace B6 := B6.ext0 n7
          replace o6 := o6.ext0 n7
          replace hB := hB.ext0 n7
          replace D := D.ext0 n7
          refine L.nil ?_
          refine N.seq ?_
          obtain ⟨gl, curl, rfl, rfl, L6, hkl, hO6⟩ := o6.set j (by omega)
          have hE7 := E.size
          have hgl := hM6 gl (by simp)
          refine G.staged [7] [.blocks ([gl])] [fun w' => Ext [] w7 w', fun w' => Ext [gl] w7 w' ∧ Blk w' gl (curl.setIfInBounds j (ptr b47)) 96 (0, 0)] [] (by decide +kernel) (by decide +kernel) rfl rfl rfl (fun _ h => h) ?_
          refine Z.val rfl rfl rfl rfl rfl (fun w8 => R.mv rfl) ?_
          refine Z.val rfl rfl rfl rfl rfl (fun w8 => R.nilChk rfl) ?_
          refine Z.val rfl rfl rfl rfl rfl (fun w8 => R.fld rfl) ?_
          refine Z.read 0 (by decide +kernel) rfl rfl rfl rfl rfl rfl (fun w8 hJ => R.ldB rfl (B6.ext0 hJ) rfl) ?_
          refine Z.val rfl rfl rfl rfl rfl (fun w8 => R.fld rfl) ?_
          refine Z.read 0 (by decide +kernel) rfl rfl rfl rfl rfl rfl (fun w8 hJ => R.ldB rfl (B9.ext0 hJ) rfl) ?_
          refine Z.val rfl rfl rfl rfl rfl (fun w8 => R.idx rfl rfl (by omega) (by omega) _ rfl) ?_
          refine Z.be 54 rfl (show _ = Value.pointer (some ⟨gl, j, none⟩) by rw [Go.Addr.add_lit, hj0]; simp) ?_
          refine Z.set 0 (by decide +kernel) rfl rfl rfl rfl rfl rfl (fun w8 hJ => (R.st rfl rfl (L6.ext0 hJ) hkl rfl).mono (fun _ h => ⟨h.1, h.1.after hJ, h.2.2⟩)) ?_
          refine Z.nil rfl rfl (fun w8 hJ => ?_)
          obtain ⟨e12, L12⟩ := hJ
          replace o6 := hO6 (ptr b47) _ e12 L12
          replace E := E.news2 e12 (by omega)
          replace B6 := B6.ext e12 (fun hm => B6.ne L6 (by decide) (List.mem_singleton.1 hm))
          replace hB := hB.put e12 L6 B47 h64 hj
          refine N.block ?_
          refine N.seq ?_
          refine G.region ?_
          refine L.val rfl rfl (R.add rfl rfl (by omega)) ?_
          refine L.val rfl rfl (R.mv rfl) ?_
          refine L.nil ?_
          exact N.again (i + 1, laid y j o.B', qs.set j b47) (by show ln - (i + 1) < ln - i; omega) (Sub.cons rfl (Sub.cons rfl (Sub.cons rfl (Sub.cons rfl (Sub.cons rfl (Sub.nil _)))))) ⟨by show i + 1 ≤ ln; omega, (laid_length h64 hj).trans hyl, hw2, E, B6, by rw [List.map_set]; exact o6, hB, fun q hq => (List.mem_or_eq_of_mem_set hq).elim (hqs q) (fun h => .inr (by rw [h]; exact hb47w))⟩
  · have hw2 : withF x (ws.map wv) = (y, 0) := by rw [hiw, List.drop_of_length_le (by rw [List.length_map]; omega)]; rfl
    refine G.exit _ rfl ?_
    refine N.seq ?_
    refine G.seq ?_
    refine G.region ?_
    refine L.val rfl rfl (R.mv rfl) ?_
    refine L.val rfl rfl (R.as rfl) ?_
    refine L.val rfl rfl (R.as rfl) ?_
    refine L.nil ?_
    refine N.seq ?_
    refine G.ret2 rfl rfl rfl ?_
    first
      | (rw [hw2]; exact ⟨E, fun h => absurd h (by decide), fun _ => rfl⟩)
      | (rw [hw2]; exact ⟨E, fun _ => ⟨b18, rfl, DiskQ.mk2 (by rw [hdy]; exact B6) hb18w (by rw [hdy, hyl]; exact D.len) (by rw [hdy]; exact D.pos) (by rw [hdy]; exact D.le) (by rw [hdy]; exact o6) hM6 hB hqs⟩, fun h => (h rfl).elim⟩)

theorem iwith_ok (d : Nat) (x : List UInt8) (la : Option Addr) (ln lc : Nat) (ws : List WriteV) (w : World) (hd : DiskAt w d x) (hT : Tab w la ln 2 (ws.map WriteV.cells)) (hO : ∀ o ∈ ws, Bs w o.B'a o.B'n o.B') (hln : ln ≤ 1000000) : Meets Try.prog 15 [.pointer (some ⟨d, 0, none⟩), .slice la ln lc] w (fun v w' => Ext [] w w' ∧ ((withF x (ws.map wv)).2 = 0 → ∃ d', v = .tuple #[ptr d', .int .i64 0] ∧ DiskAt w' d' (withF x (ws.map wv)).1) ∧ ((withF x (ws.map wv)).2 ≠ 0 → v = .tuple #[.pointer none, .int .i64 (withF x (ws.map wv)).2])) := by
  obtain ⟨g, c, cur, ps, hD⟩ := hd
  exact (iwith_okF d g c cur ps x la ln lc ws w hD hT hO hln).mono fun v w' ⟨h1, h2, h3⟩ => ⟨h1, fun h => let ⟨d', e, q⟩ := h2 h; ⟨d', e, q.at⟩, h3⟩

end Go.Proofs.Ythdaelmjiaegfaa
/-
  The walks of package image.
-/
set_option linter.unusedVariables false
set_option linter.unusedSimpArgs false
namespace Go.Proofs.Ythdaelmjiaegfaa
open Go Brv Brv.Image



end Go.Proofs.Ythdaelmjiaegfaa
/-
  The walks of package image.
-/
set_option linter.unusedVariables false
set_option linter.unusedSimpArgs false
namespace Go.Proofs.Ythdaelmjiaegfaa
open Go Brv Brv.Image
/-- What the iterator over the disk reads. -/
def fpIs (w : World) (F : List Nat) (b1 : Nat) (d : Option Addr) (x : List UInt8) : Prop := (∀ g ∈ F, g < w.heap.size) ∧ ∀ M w', Ext M w w' → (∀ g ∈ F, g ∉ M) → Blk w' b1 #[.pointer d] 41 (0, 0) ∧ DiskO w' d x
theorem fpIs.ext0 {w w' : World} {F : List Nat} {b1 : Nat} {d : Option Addr} {x : List UInt8} (h : fpIs w F b1 d x) (he : Ext [] w w') : fpIs w' F b1 d x :=
  ⟨fun g hg => Nat.lt_of_lt_of_le (h.1 g hg) he.size, fun M w2 e hm => by
    have e2 : Ext (M.filter (fun g => decide (g < w.heap.size))) w w2 := by
      refine he.trans e (by simp) (fun g hg => ?_)
      by_cases hl : g < w.heap.size
      · exact .inl (List.mem_filter.2 ⟨hg, by simpa using hl⟩)
      · exact .inr (by omega)
    exact h.2 _ w2 e2 (fun g hg hmem => hm g hg (List.mem_filter.1 hmem).1)⟩
end Go.Proofs.Ythdaelmjiaegfaa
/-
  The walks of package image.
-/
set_option linter.unusedVariables false
set_option linter.unusedSimpArgs false
namespace Go.Proofs.Ythdaelmjiaegfaa
open Go Brv Brv.Image
end Go.Proofs.Ythdaelmjiaegfaa
/-
  The walks of package image.
-/
set_option linter.unusedVariables false
set_option linter.unusedSimpArgs false
namespace Go.Proofs.Ythdaelmjiaegfaa
open Go Brv Brv.Image
end Go.Proofs.Ythdaelmjiaegfaa
/-
  The walks of package model.
-/
set_option linter.unusedVariables false
set_option linter.unusedSimpArgs false
set_option maxRecDepth 4000
namespace Go.Proofs.Ythdaelmjiaegfaa
open Go Brv Brv.Image Brv.Model
/-- The orders of all timelines' disks. -/
def lnA (L : Lns) : Asn := sp (L.map fun q => mp (κ := Int) 135 132 1 q.2.m (dsP q.2.ds))
/-- All disks, that stay. -/
def DkP (L : Lns) (w : World) : Prop := ∀ q ∈ L, ∀ d ∈ q.2.ds, DiskAt w d.2.b d.2.l
def dkS (L : Lns) : Asn := sh (DkP L)
instance (L : Lns) : Pers (dkS L) := ⟨fun _ _ _ h => h⟩
theorem _root_.Brv.St.lnAt {L : Lns} {H H1 : List Asn} {F S : List Nat} {w : World} {t : Int} {x : Ln} (s : St H F S w) (h : Sel H (lnA L) H1) (hg : getT L t = some x) : ∃ S', MapAt (κ := Int) 135 132 1 w x.m (dsP x.ds) S' := by
  obtain ⟨F', S', h⟩ := St.spAt s (show Sel H (sp (L.map fun q => mp (κ := Int) 135 132 1 q.2.m (dsP q.2.ds))) H1 from h) (List.mem_map.2 ⟨_, getT_some hg, rfl⟩)
  exact ⟨F', h⟩
theorem _root_.Brv.St.dk {L : Lns} {H H1 : List Asn} {F S : List Nat} {w : World} {t n : Int} {d : Dk} (s : St H F S w) (h : Sel H (dkS L) H1) (hg : wasV L t n = some d) : DiskAt w d.b d.l := by
  obtain ⟨x, h1, h2⟩ := was_mem hg
  exact s.sh (p := DkP L) h _ h1 _ h2
theorem perm_put {L : Lns} (hs : Srt L) (t : Int) (x : Ln) : (putT L t x).Perm ((t, x) :: L.filter (fun q => decide (q.1 ≠ t))) := by
  rw [putT_ins]
  induction L with
  | nil => exact List.Perm.refl _
  | cons q L ih =>
    unfold Srt at hs
    rw [List.pairwise_cons] at hs
    rw [insT]
    by_cases h : q.1 < t
    · rw [if_pos h, List.filter_cons_of_pos (by simp; omega)]
      exact ((ih hs.2).cons q).trans (List.Perm.swap _ _ _)
    · have hall : L.filter (fun q => decide (q.1 ≠ t)) = L := List.filter_eq_self.2 fun r hr => by have := hs.1 r hr; simp; omega
      rw [if_neg h]
      by_cases h2 : t < q.1
      · rw [if_pos h2, List.filter_cons_of_pos (by simp; omega), hall]
      · rw [if_neg h2, List.filter_cons_of_neg (by simp; omega), hall]
theorem perm_has {L : Lns} (hs : Srt L) {t : Int} {x : Ln} (hg : getT L t = some x) : L.Perm ((t, x) :: L.filter (fun q => decide (q.1 ≠ t))) := by
  have h := perm_put hs t x
  obtain ⟨i, hi⟩ := List.getElem?_of_mem (getT_some hg)
  have e : putT L t x = L := by
    rw [putT_at hs hi]
    refine List.ext_getElem? fun j => ?_
    rw [List.getElem?_set]
    split
    · rename_i e; subst e; rw [hi]; simp [(List.getElem?_eq_some_iff.1 hi).1]
    · rfl
  rwa [e] at h
/-- All timelines' orders but one's. -/
def lnR (L : Lns) (t : Int) : Asn := sp ((L.filter (fun q => decide (q.1 ≠ t))).map fun q => mp (κ := Int) 135 132 1 q.2.m (dsP q.2.ds))
theorem Imp.lnOpen {L : Lns} {H H1 : List Asn} {t : Int} {x : Ln} (h : Sel H (lnA L) H1) (hs : Srt L) (hg : getT L t = some x) : Imp H (mp (κ := Int) 135 132 1 x.m (dsP x.ds) :: lnR L t :: H1) :=
  (Imp.spPerm (show Sel H (sp (L.map fun q => mp (κ := Int) 135 132 1 q.2.m (dsP q.2.ds))) H1 from h) ((perm_has hs hg).map _)).trans (Imp.spOpen .here)
theorem Imp.lnClose {L : Lns} {H H1 H2 : List Asn} {t : Int} {x : Ln} (h : Sel H (mp (κ := Int) 135 132 1 x.m (dsP x.ds)) H1) (k : Sel H1 (lnR L t) H2) (hs : Srt L) : Imp H (lnA (putT L t x) :: H2) :=
  (Imp.spClose h k).trans (Imp.spPerm .here ((perm_put hs t x).symm.map (fun q : Int × Ln => mp (κ := Int) 135 132 1 q.2.m (dsP q.2.ds))))
theorem lnR_no {L : Lns} {t : Int} (h : ∀ p ∈ L, p.1 ≠ t) : lnR L t = lnA L := by
  unfold lnR lnA
  rw [List.filter_eq_self.2 fun r hr => by simpa using h r hr]
theorem hasK_get {α : Type} (g : α → List Value) (l : List (Int × α)) (k : Int) : hasK (mapT g l) k = (getT l k).isSome := by
  rw [← hasT_eq, hasT_map]
  unfold getT
  cases h : hasT l k with
  | false => rfl
  | true => obtain ⟨p, hp, _⟩ := hasT_mem h; simp [hp]
theorem getK_get {α : Type} (g : α → List Value) (l : List (Int × α)) (k : Int) : getK (mapT g l) k = (getT l k).map g := by rw [← getT_eq, getT_map]
theorem lgetN (m : Nat) (L : Lns) (k : Int) (S : List Nat) (w : World) (hm : MapAt (κ := Int) 124 128 3 w m (psL L) S) (hl : L.length ≤ 99999) (hg : getT L k = none) : Meets Try.prog 35 [.pointer (some ⟨m, 0, none⟩), .int .i64 k] w (fun v w' => v = .tuple #[.agg #[.pointer none, .int .i64 0, .int .i64 0], .bool false] ∧ Ext [] w w') :=
  (getModelline_ok m (psL L) S k w hm (by rw [psL_len]; exact hl)).mono fun v w' ⟨h1, h2⟩ => ⟨by rw [h1]; unfold psL; rw [hasK_get, getK_get, hg]; rfl, h2⟩
theorem lgetS (m : Nat) (L : Lns) (k : Int) (x : Ln) (S : List Nat) (w : World) (hm : MapAt (κ := Int) 124 128 3 w m (psL L) S) (hl : L.length ≤ 99999) (hg : getT L k = some x) : Meets Try.prog 35 [.pointer (some ⟨m, 0, none⟩), .int .i64 k] w (fun v w' => v = .tuple #[.agg (lnC x).toArray, .bool true] ∧ Ext [] w w') :=
  (getModelline_ok m (psL L) S k w hm (by rw [psL_len]; exact hl)).mono fun v w' ⟨h1, h2⟩ => ⟨by rw [h1]; unfold psL; rw [hasK_get, getK_get, hg]; rfl, h2⟩
theorem dgetX (m : Nat) (ds : List (Int × Dk)) (k : Int) (S : List Nat) (w : World) (hm : MapAt (κ := Int) 135 132 1 w m (dsP ds) S) (hl : ds.length ≤ 99999) : Meets Try.prog 51 [.pointer (some ⟨m, 0, none⟩), .int .i64 k] w (fun v w' => v = .tuple #[dkO (getT ds k), .bool (getT ds k).isSome] ∧ Ext [] w w') :=
  (getImageDisk_ok m (dsP ds) S k w hm (by rw [dsP_len]; exact hl)).mono fun v w' ⟨h1, h2⟩ => ⟨by rw [h1]; unfold dsP; rw [hasK_get, getK_get]; cases getT ds k <;> rfl, h2⟩
theorem lputX (m : Nat) (L : Lns) (k : Int) (x : Ln) (hl : L.length ≤ 99999) : SpecS Try.prog 32 [.pointer (some ⟨m, 0, none⟩), .int .i64 k, .agg (lnC x).toArray] [mp (κ := Int) 124 128 3 m (psL L)] (fun v H' => v = .bool (!hasK (psL L) k) ∧ H' = [mp (κ := Int) 124 128 3 m (psL (putT L k x))]) := by
  have := SpecS.ofMap (φ := fun v => v = .bool (!hasK (psL L) k)) (fun w S hm => putModelline_ok m (psL L) S k (lnC x) w hm (by rw [psL_len]; exact hl) ⟨rfl, lnC_one x⟩)
  rw [psL_put] at this
  exact this
theorem dputX (m : Nat) (ds : List (Int × Dk)) (k : Int) (d : Dk) (hl : ds.length ≤ 99999) : SpecS Try.prog 36 [.pointer (some ⟨m, 0, none⟩), .int .i64 k, .pointer (some ⟨d.b, 0, none⟩)] [mp (κ := Int) 135 132 1 m (dsP ds)] (fun v H' => v = .bool (!hasK (dsP ds) k) ∧ H' = [mp (κ := Int) 135 132 1 m (dsP (putT ds k d))]) := by
  have := SpecS.ofMap (φ := fun v => v = .bool (!hasK (dsP ds) k)) (fun w S hm => putImageDisk_ok m (dsP ds) S k (some ⟨d.b, 0, none⟩) w hm (by rw [dsP_len]; exact hl))
  rw [show ([.pointer (some ⟨d.b, 0, none⟩)] : List Value) = dkC d from rfl, dsP_put] at this
  exact this
theorem ds_len {L : Lns} {k : Nat} (h : Wf L k) {t : Int} {x : Ln} (hg : getT L t = some x) : x.ds.length ≤ k + 1 := (h.ln _ (getT_some hg)).2.2.1
theorem was_no {L : Lns} {t : Int} (h : getT L t = none) (n : Int) : wasV L t n = none := by unfold wasV; rw [h]; rfl
theorem was_so {L : Lns} {t : Int} {x : Ln} (h : getT L t = some x) (n : Int) : wasV L t n = getT x.ds n := by unfold wasV; rw [h]; rfl
theorem par_no {L : Lns} {t : Int} (h : getT L t = none) : parV L t = none := by unfold parV; rw [h]; rfl
theorem par_z {L : Lns} {t : Int} {x : Ln} (h : getT L t = some x) (h0 : x.pt = 0) : parV L t = none := by unfold parV; rw [h]; exact if_pos h0
theorem par_so {L : Lns} {t : Int} {x : Ln} (h : getT L t = some x) (h0 : x.pt ≠ 0) : parV L t = some (x.pt, x.pn) := by unfold parV; rw [h]; exact if_neg h0
def parC : Option (Int × Int) → Value
  | some q => .tuple #[.int .i64 q.1, .int .i64 q.2, .bool true]
  | none => .tuple #[.int .i64 0, .int .i64 0, .bool false]

end Go.Proofs.Ythdaelmjiaegfaa
/-
  The walks of package model.
-/
set_option linter.unusedVariables false
set_option linter.unusedSimpArgs false
set_option maxRecDepth 4000
namespace Go.Proofs.Ythdaelmjiaegfaa
open Go Brv Brv.Image Brv.Model
theorem wwas_ok (p m : Nat) (L : Lns) (tt nn : Int) (kk : Nat) (tx nx : Int) (hw : Wf L kk) (hk : kk ≤ 9000) : SpecS Try.prog 34 [.pointer (some ⟨p, 0, none⟩), .agg #[.int .i64 tx, .int .i64 nx]] [blk p [.pointer (some ⟨m, 0, none⟩), .int .i64 tt, .int .i64 nn] 85, mp (κ := Int) 124 128 3 m (psL L), lnA L, dkS L] (fun v H' => v = .tuple #[dkO (wasV L tx nx), .bool (wasV L tx nx).isSome] ∧ H' = [blk p [.pointer (some ⟨m, 0, none⟩), .int .i64 tt, .int .i64 nn] 85, mp (κ := Int) 124 128 3 m (psL L), lnA L, dkS L]) := by
  refine SpecS.enter Try.func34 rfl 29 rfl (Nat.le_of_ble_eq_true rfl) (fun o => ?_)
  refine SG.seq ?_
  refine SG.region ?_
  refine SL.step rfl rfl (CS.boxA rfl) ?_
  rintro _ _ ⟨b3, rfl, rfl⟩
  refine SL.val rfl rfl (fun w9 F9 S9 s => R.as rfl) ?_
  refine SL.val rfl rfl (fun w9 F9 S9 s => R.as rfl) ?_
  refine SL.nil ?_
  refine SN.seq ?_
  refine SG.seq ?_
  refine SG.seq ?_
  refine SG.region ?_
  refine SL.val rfl rfl (fun w9 F9 S9 s => R.mv rfl) ?_
  refine SL.val rfl rfl (fun w9 F9 S9 s => R.eqNilP rfl rfl) ?_
  refine SL.nil ?_
  refine SN.seq ?_
  refine SG.condF rfl ?_
  refine SG.skip ?_
  refine SN.seq ?_
  refine SG.seq ?_
  rcases hg : getT L tx with _ | x
  · refine SG.drawT (.flo 0 (.flo 1 (.flo 2 (.flo 3 (.flo 4 (.flo 5 (.alt 6 (.flo 7 (.flo 8 (.flo 9 (.alt 10 (.alt 11 (.flo 12 .nil) .stop) .stop)))) (.alt 10 (.alt 6 (.flo 7 (.flo 8 (.flo 9 (.alt 11 (.flo 12 .nil) .stop)))) .stop) .stop)))))))) (by decide +kernel) rfl ?_
    refine TW.pure rfl rfl rfl rfl (fun w9 => R.mv rfl) ?_
    refine TW.pure rfl rfl rfl rfl (fun w9 => R.nilChk rfl) ?_
    refine TW.pure rfl rfl rfl rfl (fun w9 => R.fld rfl) ?_
    refine TW.read rfl rfl rfl rfl (fun w9 F9 S9 s => R.ldB rfl (s.cel (by repeat (first | exact SelB.blk | exact SelB.fz | apply SelB.there))) (by rfl)) ?_
    refine TW.pure rfl rfl rfl rfl (fun w9 => R.fld rfl) ?_
    refine TW.read rfl rfl rfl rfl (fun w9 F9 S9 s => R.ldB rfl (s.cel (by repeat (first | exact SelB.blk | exact SelB.fz | apply SelB.there))) (by rfl)) ?_
    refine TW.or ?_ ?_
    · refine TW.step rfl rfl rfl rfl (CS.callR rfl go35 (fun w9 F9 S9 s => (s.mp (show Sel _ (mp (κ := Int) 124 128 3 m (psL L)) _ from (by repeat (first | exact Sel.keep | exact Sel.here | apply Sel.there)))).elim fun S9 h9 => lgetN m L tx S9 w9 h9 (by have := hw.len; omega) hg)) ?_
      rintro _ _ ⟨rfl, rfl⟩
      refine ⟨⟨.inl (by decide +kernel), ⟨.inl (by decide +kernel), trivial⟩⟩, ?_⟩
      refine TW.pure rfl rfl rfl rfl (fun w9 => R.mv rfl) ?_
      refine TW.pure rfl rfl rfl rfl (fun w9 => R.ext rfl rfl) ?_
      refine TW.pure rfl rfl rfl rfl (fun w9 => R.ext rfl rfl) ?_
      refine TW.step rfl rfl rfl rfl (CS.alloc [.pointer none, .int .i64 0, .int .i64 0] rfl) ?_
      rintro _ _ ⟨b6, rfl, rfl⟩
      refine ⟨⟨.inr (fun w9 F9 S9 s => R.ldB rfl (s.cel (by repeat (first | exact SelB.blk | exact SelB.fz | apply SelB.there))) (by rfl)), ⟨.inr (fun w9 F9 S9 s => R.ldB rfl (s.cel (by repeat (first | exact SelB.blk | exact SelB.fz | apply SelB.there))) (by rfl)), trivial⟩⟩, ?_⟩
      refine TW.step0 rfl rfl rfl (CS.stA (vs := [.pointer none, .int .i64 0, .int .i64 0]) rfl rfl (by repeat (first | exact Sel.keep | exact Sel.here | apply Sel.there)) (by rfl) (by rfl) (by intro u hu; simp only [List.mem_cons, List.not_mem_nil, or_false] at hu; rcases hu with rfl | rfl | rfl <;> rfl)) ?_
      rintro _ _ rfl
      refine ⟨⟨.inl (by decide +kernel), ⟨.inl (by decide +kernel), trivial⟩⟩, ?_⟩
      refine TW.pure rfl rfl rfl rfl (fun w9 => R.as rfl) ?_
      refine TW.nil ?_
      refine SN.seq ?_
      refine SG.seq ?_
      refine SG.seq ?_
      refine SG.region ?_
      refine SL.val rfl rfl (fun w9 F9 S9 s => R.mv rfl) ?_
      refine SL.val rfl rfl (fun w9 F9 S9 s => R.not rfl) ?_
      refine SL.nil ?_
      refine SN.seq ?_
      refine SG.condT rfl ?_
      refine SG.seq ?_
      refine SG.region ?_
      refine SL.val rfl rfl (fun w9 F9 S9 s => R.as rfl) ?_
      refine SL.val rfl rfl (fun w9 F9 S9 s => R.as rfl) ?_
      refine SL.nil ?_
      refine SN.seq ?_
      exact SG.ret2 rfl rfl rfl ((Imp.sels (by repeat (first | exact Sels.nil | apply Sels.cons | exact Sel.keep | exact Sel.here | apply Sel.there)))) (⟨by rw [was_no hg]; rfl, rfl⟩)
    refine TW.step rfl rfl rfl rfl (CS.alloc [.pointer none, .int .i64 0, .int .i64 0] rfl) ?_
    rintro _ _ ⟨b6, rfl, rfl⟩
    refine ⟨⟨.inr (fun w9 F9 S9 s => R.ldB rfl (s.cel (by repeat (first | exact SelB.blk | exact SelB.fz | apply SelB.there))) (by rfl)), ⟨.inr (fun w9 F9 S9 s => R.ldB rfl (s.cel (by repeat (first | exact SelB.blk | exact SelB.fz | apply SelB.there))) (by rfl)), trivial⟩⟩, ?_⟩
    refine TW.step rfl rfl rfl rfl (CS.callR rfl go35 (fun w9 F9 S9 s => (s.mp (show Sel _ (mp (κ := Int) 124 128 3 m (psL L)) _ from (by repeat (first | exact Sel.keep | exact Sel.here | apply Sel.there)))).elim fun S9 h9 => lgetN m L tx S9 w9 h9 (by have := hw.len; omega) hg)) ?_
    rintro _ _ ⟨rfl, rfl⟩
    refine ⟨⟨.inl (by decide +kernel), ⟨.inl (by decide +kernel), trivial⟩⟩, ?_⟩
    refine TW.pure rfl rfl rfl rfl (fun w9 => R.mv rfl) ?_
    refine TW.pure rfl rfl rfl rfl (fun w9 => R.ext rfl rfl) ?_
    refine TW.pure rfl rfl rfl rfl (fun w9 => R.ext rfl rfl) ?_
    refine TW.step0 rfl rfl rfl (CS.stA (vs := [.pointer none, .int .i64 0, .int .i64 0]) rfl rfl (by repeat (first | exact Sel.keep | exact Sel.here | apply Sel.there)) (by rfl) (by rfl) (by intro u hu; simp only [List.mem_cons, List.not_mem_nil, or_false] at hu; rcases hu with rfl | rfl | rfl <;> rfl)) ?_
    rintro _ _ rfl
    refine ⟨⟨.inl (by decide +kernel), ⟨.inl (by decide +kernel), trivial⟩⟩, ?_⟩
    refine TW.pure rfl rfl rfl rfl (fun w9 => R.as rfl) ?_
    refine TW.nil ?_
    refine SN.seq ?_
    refine SG.seq ?_
    refine SG.seq ?_
    refine SG.region ?_
    refine SL.val rfl rfl (fun w9 F9 S9 s => R.mv rfl) ?_
    refine SL.val rfl rfl (fun w9 F9 S9 s => R.not rfl) ?_
    refine SL.nil ?_
    refine SN.seq ?_
    refine SG.condT rfl ?_
    refine SG.seq ?_
    refine SG.region ?_
    refine SL.val rfl rfl (fun w9 F9 S9 s => R.as rfl) ?_
    refine SL.val rfl rfl (fun w9 F9 S9 s => R.as rfl) ?_
    refine SL.nil ?_
    refine SN.seq ?_
    exact SG.ret2 rfl rfl rfl ((Imp.sels (by repeat (first | exact Sels.nil | apply Sels.cons | exact Sel.keep | exact Sel.here | apply Sel.there)))) (⟨by rw [was_no hg]; rfl, rfl⟩)
  · refine SG.drawT (.flo 0 (.flo 1 (.flo 2 (.flo 3 (.flo 4 (.flo 5 (.alt 6 (.flo 7 (.flo 8 (.flo 9 (.alt 10 (.alt 11 (.flo 12 .nil) .stop) .stop)))) (.alt 10 (.alt 6 (.flo 7 (.flo 8 (.flo 9 (.alt 11 (.flo 12 .nil) .stop)))) .stop) .stop)))))))) (by decide +kernel) rfl ?_
    refine TW.pure rfl rfl rfl rfl (fun w9 => R.mv rfl) ?_
    refine TW.pure rfl rfl rfl rfl (fun w9 => R.nilChk rfl) ?_
    refine TW.pure rfl rfl rfl rfl (fun w9 => R.fld rfl) ?_
    refine TW.read rfl rfl rfl rfl (fun w9 F9 S9 s => R.ldB rfl (s.cel (by repeat (first | exact SelB.blk | exact SelB.fz | apply SelB.there))) (by rfl)) ?_
    refine TW.pure rfl rfl rfl rfl (fun w9 => R.fld rfl) ?_
    refine TW.read rfl rfl rfl rfl (fun w9 F9 S9 s => R.ldB rfl (s.cel (by repeat (first | exact SelB.blk | exact SelB.fz | apply SelB.there))) (by rfl)) ?_
    refine TW.or ?_ ?_
    · refine TW.step rfl rfl rfl rfl (CS.callR rfl go35 (fun w9 F9 S9 s => (s.mp (show Sel _ (mp (κ := Int) 124 128 3 m (psL L)) _ from (by repeat (first | exact Sel.keep | exact Sel.here | apply Sel.there)))).elim fun S9 h9 => lgetS m L tx x S9 w9 h9 (by have := hw.len; omega) hg)) ?_
      rintro _ _ ⟨rfl, rfl⟩
      refine ⟨⟨.inl (by decide +kernel), ⟨.inl (by decide +kernel), trivial⟩⟩, ?_⟩
      refine TW.pure rfl rfl rfl rfl (fun w9 => R.mv rfl) ?_
      refine TW.pure rfl rfl rfl rfl (fun w9 => R.ext rfl rfl) ?_
      refine TW.pure rfl rfl rfl rfl (fun w9 => R.ext rfl rfl) ?_
      refine TW.step rfl rfl rfl rfl (CS.alloc [.pointer none, .int .i64 0, .int .i64 0] rfl) ?_
      rintro _ _ ⟨b6, rfl, rfl⟩
      refine ⟨⟨.inr (fun w9 F9 S9 s => R.ldB rfl (s.cel (by repeat (first | exact SelB.blk | exact SelB.fz | apply SelB.there))) (by rfl)), ⟨.inr (fun w9 F9 S9 s => R.ldB rfl (s.cel (by repeat (first | exact SelB.blk | exact SelB.fz | apply SelB.there))) (by rfl)), trivial⟩⟩, ?_⟩
      refine TW.step0 rfl rfl rfl (CS.stA (vs := lnC x) rfl rfl (by repeat (first | exact Sel.keep | exact Sel.here | apply Sel.there)) (by rfl) (by rfl) (lnC_one x)) ?_
      rintro _ _ rfl
      refine ⟨⟨.inl (by decide +kernel), ⟨.inl (by decide +kernel), trivial⟩⟩, ?_⟩
      refine TW.pure rfl rfl rfl rfl (fun w9 => R.as rfl) ?_
      refine TW.nil ?_
      refine SN.seq ?_
      refine SG.seq ?_
      refine SG.seq ?_
      refine SG.region ?_
      refine SL.val rfl rfl (fun w9 F9 S9 s => R.mv rfl) ?_
      refine SL.val rfl rfl (fun w9 F9 S9 s => R.not rfl) ?_
      refine SL.nil ?_
      refine SN.seq ?_
      refine SG.condF rfl ?_
      refine SG.skip ?_
      refine SN.seq ?_
      refine SG.seq ?_
      refine SG.region ?_
      refine SL.val rfl rfl (fun w9 F9 S9 s => R.fld rfl) ?_
      refine SL.val rfl rfl (fun w9 F9 S9 s => R.ldB (v := .pointer (some ⟨x.m, 0, none⟩)) rfl (s.cel (by repeat (first | exact SelB.blk | exact SelB.fz | apply SelB.there))) (by rfl)) ?_
      refine SL.val rfl rfl (fun w9 F9 S9 s => R.fld rfl) ?_
      refine SL.val rfl rfl (fun w9 F9 S9 s => R.ldB rfl (s.cel (by repeat (first | exact SelB.blk | exact SelB.fz | apply SelB.there))) (by rfl)) ?_
      refine SL.step rfl rfl (CS.callR rfl go51 (fun w9 F9 S9 s => (s.lnAt (show Sel _ (lnA L) _ from (by repeat (first | exact Sel.keep | exact Sel.here | apply Sel.there))) hg).elim fun S9 h9 => dgetX x.m x.ds nx S9 w9 h9 (by have := ds_len hw hg; omega))) ?_
      rintro _ _ ⟨rfl, rfl⟩
      refine SL.val rfl rfl (fun w9 F9 S9 s => R.ext rfl rfl) ?_
      refine SL.val rfl rfl (fun w9 F9 S9 s => R.ext rfl rfl) ?_
      refine SL.val rfl rfl (fun w9 F9 S9 s => R.as rfl) ?_
      refine SL.val rfl rfl (fun w9 F9 S9 s => R.as rfl) ?_
      refine SL.nil ?_
      refine SN.seq ?_
      exact SG.ret2 rfl rfl rfl ((Imp.sels (by repeat (first | exact Sels.nil | apply Sels.cons | exact Sel.keep | exact Sel.here | apply Sel.there)))) (⟨by rw [was_so hg]; rfl, rfl⟩)
    refine TW.step rfl rfl rfl rfl (CS.alloc [.pointer none, .int .i64 0, .int .i64 0] rfl) ?_
    rintro _ _ ⟨b6, rfl, rfl⟩
    refine ⟨⟨.inr (fun w9 F9 S9 s => R.ldB rfl (s.cel (by repeat (first | exact SelB.blk | exact SelB.fz | apply SelB.there))) (by rfl)), ⟨.inr (fun w9 F9 S9 s => R.ldB rfl (s.cel (by repeat (first | exact SelB.blk | exact SelB.fz | apply SelB.there))) (by rfl)), trivial⟩⟩, ?_⟩
    refine TW.step rfl rfl rfl rfl (CS.callR rfl go35 (fun w9 F9 S9 s => (s.mp (show Sel _ (mp (κ := Int) 124 128 3 m (psL L)) _ from (by repeat (first | exact Sel.keep | exact Sel.here | apply Sel.there)))).elim fun S9 h9 => lgetS m L tx x S9 w9 h9 (by have := hw.len; omega) hg)) ?_
    rintro _ _ ⟨rfl, rfl⟩
    refine ⟨⟨.inl (by decide +kernel), ⟨.inl (by decide +kernel), trivial⟩⟩, ?_⟩
    refine TW.pure rfl rfl rfl rfl (fun w9 => R.mv rfl) ?_
    refine TW.pure rfl rfl rfl rfl (fun w9 => R.ext rfl rfl) ?_
    refine TW.pure rfl rfl rfl rfl (fun w9 => R.ext rfl rfl) ?_
    refine TW.step0 rfl rfl rfl (CS.stA (vs := lnC x) rfl rfl (by repeat (first | exact Sel.keep | exact Sel.here | apply Sel.there)) (by rfl) (by rfl) (lnC_one x)) ?_
    rintro _ _ rfl
    refine ⟨⟨.inl (by decide +kernel), ⟨.inl (by decide +kernel), trivial⟩⟩, ?_⟩
    refine TW.pure rfl rfl rfl rfl (fun w9 => R.as rfl) ?_
    refine TW.nil ?_
    refine SN.seq ?_
    refine SG.seq ?_
    refine SG.seq ?_
    refine SG.region ?_
    refine SL.val rfl rfl (fun w9 F9 S9 s => R.mv rfl) ?_
    refine SL.val rfl rfl (fun w9 F9 S9 s => R.not rfl) ?_
    refine SL.nil ?_
    refine SN.seq ?_
    refine SG.condF rfl ?_
    refine SG.skip ?_
    refine SN.seq ?_
    refine SG.seq ?_
    refine SG.region ?_
    refine SL.val rfl rfl (fun w9 F9 S9 s => R.fld rfl) ?_
    refine SL.val rfl rfl (fun w9 F9 S9 s => R.ldB (v := .pointer (some ⟨x.m, 0, none⟩)) rfl (s.cel (by repeat (first | exact SelB.blk | exact SelB.fz | apply SelB.there))) (by rfl)) ?_
    refine SL.val rfl rfl (fun w9 F9 S9 s => R.fld rfl) ?_
    refine SL.val rfl rfl (fun w9 F9 S9 s => R.ldB rfl (s.cel (by repeat (first | exact SelB.blk | exact SelB.fz | apply SelB.there))) (by rfl)) ?_
    refine SL.step rfl rfl (CS.callR rfl go51 (fun w9 F9 S9 s => (s.lnAt (show Sel _ (lnA L) _ from (by repeat (first | exact Sel.keep | exact Sel.here | apply Sel.there))) hg).elim fun S9 h9 => dgetX x.m x.ds nx S9 w9 h9 (by have := ds_len hw hg; omega))) ?_
    rintro _ _ ⟨rfl, rfl⟩
    refine SL.val rfl rfl (fun w9 F9 S9 s => R.ext rfl rfl) ?_
    refine SL.val rfl rfl (fun w9 F9 S9 s => R.ext rfl rfl) ?_
    refine SL.val rfl rfl (fun w9 F9 S9 s => R.as rfl) ?_
    refine SL.val rfl rfl (fun w9 F9 S9 s => R.as rfl) ?_
    refine SL.nil ?_
    refine SN.seq ?_
    exact SG.ret2 rfl rfl rfl ((Imp.sels (by repeat (first | exact Sels.nil | apply Sels.cons | exact Sel.keep | exact Sel.here | apply Sel.there)))) (⟨by rw [was_so hg]; rfl, rfl⟩)

theorem wwasE (p m : Nat) (L : Lns) (tt nn : Int) (kk : Nat) (tx nx : Int) (hw : Wf L kk) (hk : kk ≤ 9000) (r : Option Dk) (hr : wasV L tx nx = r) : SpecS Try.prog 34 [.pointer (some ⟨p, 0, none⟩), .agg #[.int .i64 tx, .int .i64 nx]] [blk p [.pointer (some ⟨m, 0, none⟩), .int .i64 tt, .int .i64 nn] 85, mp (κ := Int) 124 128 3 m (psL L), lnA L, dkS L] (fun v H' => v = .tuple #[dkO r, .bool r.isSome] ∧ H' = [blk p [.pointer (some ⟨m, 0, none⟩), .int .i64 tt, .int .i64 nn] 85, mp (κ := Int) 124 128 3 m (psL L), lnA L, dkS L]) := by
  subst hr; exact wwas_ok p m L tt nn kk tx nx hw hk

theorem wnow_ok (p m : Nat) (L : Lns) (tt nn : Int) (kk : Nat) : SpecS Try.prog 11 [.pointer (some ⟨p, 0, none⟩)] [blk p [.pointer (some ⟨m, 0, none⟩), .int .i64 tt, .int .i64 nn] 85] (fun v H' => v = .tuple #[.int .i64 tt, .int .i64 nn] ∧ H' = [blk p [.pointer (some ⟨m, 0, none⟩), .int .i64 tt, .int .i64 nn] 85]) := by
  refine SpecS.enter Try.func11 rfl 16 rfl (Nat.le_of_ble_eq_true rfl) (fun o => ?_)
  refine SG.seq ?_
  refine SG.region ?_
  refine SL.val rfl rfl (fun w9 F9 S9 s => R.as rfl) ?_
  refine SL.val rfl rfl (fun w9 F9 S9 s => R.as rfl) ?_
  refine SL.nil ?_
  refine SN.seq ?_
  refine SG.seq ?_
  refine SG.seq ?_
  refine SG.region ?_
  refine SL.val rfl rfl (fun w9 F9 S9 s => R.mv rfl) ?_
  refine SL.val rfl rfl (fun w9 F9 S9 s => R.eqNilP rfl rfl) ?_
  refine SL.nil ?_
  refine SN.seq ?_
  refine SG.condF rfl ?_
  refine SG.skip ?_
  refine SN.seq ?_
  refine SG.seq ?_
  refine SG.draw [] [0, 1, 2, 3, 4, 5, 6, 7, 8, 9, 10, 11] (by decide +kernel) rfl ?_
  refine SW.pure rfl rfl rfl rfl (fun w9 => R.mv rfl) ?_
  refine SW.pure rfl rfl rfl rfl (fun w9 => R.nilChk rfl) ?_
  refine SW.pure rfl rfl rfl rfl (fun w9 => R.fld rfl) ?_
  refine SW.pure rfl rfl rfl rfl (fun w9 => R.fld rfl) ?_
  refine SW.read rfl rfl rfl rfl (fun w9 F9 S9 s => R.ldB rfl (s.cel (by repeat (first | exact SelB.blk | exact SelB.fz | apply SelB.there))) (by rfl)) ?_
  refine SW.pure rfl rfl rfl rfl (fun w9 => R.mv rfl) ?_
  refine SW.pure rfl rfl rfl rfl (fun w9 => R.nilChk rfl) ?_
  refine SW.pure rfl rfl rfl rfl (fun w9 => R.fld rfl) ?_
  refine SW.pure rfl rfl rfl rfl (fun w9 => R.fld rfl) ?_
  refine SW.read rfl rfl rfl rfl (fun w9 F9 S9 s => R.ldB rfl (s.cel (by repeat (first | exact SelB.blk | exact SelB.fz | apply SelB.there))) (by rfl)) ?_
  refine SW.pure rfl rfl rfl rfl (fun w9 => R.as rfl) ?_
  refine SW.pure rfl rfl rfl rfl (fun w9 => R.as rfl) ?_
  refine SW.nil ?_
  refine SN.seq ?_
  exact SG.ret2 rfl rfl rfl ((Imp.sels (by repeat (first | exact Sels.nil | apply Sels.cons | exact Sel.keep | exact Sel.here | apply Sel.there)))) (⟨rfl, rfl⟩)

theorem wdisk_ok (p m : Nat) (L : Lns) (tt nn : Int) (kk : Nat) (d : Dk) (hw : Wf L kk) (hk : kk ≤ 9000) (hd : wasV L tt nn = some d) : SpecS Try.prog 13 [.pointer (some ⟨p, 0, none⟩)] [blk p [.pointer (some ⟨m, 0, none⟩), .int .i64 tt, .int .i64 nn] 85, mp (κ := Int) 124 128 3 m (psL L), lnA L, dkS L] (fun v H' => v = .pointer (some ⟨d.b, 0, none⟩) ∧ H' = [blk p [.pointer (some ⟨m, 0, none⟩), .int .i64 tt, .int .i64 nn] 85, mp (κ := Int) 124 128 3 m (psL L), lnA L, dkS L]) := by
  refine SpecS.enter Try.func13 rfl 21 rfl (Nat.le_of_ble_eq_true rfl) (fun o => ?_)
  refine SG.seq ?_
  refine SG.region ?_
  refine SL.val rfl rfl (fun w9 F9 S9 s => R.as rfl) ?_
  refine SL.nil ?_
  refine SN.seq ?_
  refine SG.seq ?_
  refine SG.region ?_
  refine SL.val rfl rfl (fun w9 F9 S9 s => R.mv rfl) ?_
  refine SL.step rfl rfl (CS.call rfl go11 (wnow_ok p m L tt nn kk) (by repeat (first | exact Sels.nil | apply Sels.cons | exact Sel.keep | exact Sel.here | apply Sel.there))) ?_
  rintro _ _ ⟨_, ⟨rfl, rfl⟩, rfl⟩
  refine SL.n1 ?_
  refine SL.val rfl rfl (fun w9 F9 S9 s => R.mv rfl) ?_
  refine SL.val rfl rfl (fun w9 F9 S9 s => R.ext rfl rfl) ?_
  refine SL.val rfl rfl (fun w9 F9 S9 s => R.ext rfl rfl) ?_
  refine SL.val rfl rfl (fun w9 F9 S9 s => R.as rfl) ?_
  refine SL.val rfl rfl (fun w9 F9 S9 s => R.as rfl) ?_
  refine SL.nil ?_
  refine SN.seq ?_
  refine SG.seq ?_
  refine SG.region ?_
  refine SL.val rfl rfl (fun w9 F9 S9 s => R.mv rfl) ?_
  refine SL.val rfl rfl (fun w9 F9 S9 s => R.mv rfl) ?_
  refine SL.val rfl rfl (fun w9 F9 S9 s => R.mv rfl) ?_
  refine SL.val rfl rfl (fun w9 F9 S9 s => R.build rfl rfl) ?_
  refine SL.step rfl rfl (CS.call rfl go34 (wwasE p m L tt nn kk tt nn hw hk (some d) hd) (by repeat (first | exact Sels.nil | apply Sels.cons | exact Sel.keep | exact Sel.here | apply Sel.there))) ?_
  rintro _ _ ⟨_, ⟨rfl, rfl⟩, rfl⟩
  refine SL.n4 ?_
  refine SL.val rfl rfl (fun w9 F9 S9 s => R.mv rfl) ?_
  refine SL.val rfl rfl (fun w9 F9 S9 s => R.ext rfl rfl) ?_
  refine SL.val rfl rfl (fun w9 F9 S9 s => R.ext rfl rfl) ?_
  refine SL.val rfl rfl (fun w9 F9 S9 s => R.as rfl) ?_
  refine SL.val rfl rfl (fun w9 F9 S9 s => R.as rfl) ?_
  refine SL.nil ?_
  refine SN.seq ?_
  refine SG.seq ?_
  refine SG.region ?_
  refine SL.val rfl rfl (fun w9 F9 S9 s => R.mv rfl) ?_
  refine SL.val rfl rfl (fun w9 F9 S9 s => R.as rfl) ?_
  refine SL.nil ?_
  refine SN.seq ?_
  exact SG.ret1 rfl rfl ((Imp.sels (by repeat (first | exact Sels.nil | apply Sels.cons | exact Sel.keep | exact Sel.here | apply Sel.there)))) (⟨rfl, rfl⟩)

theorem wpar_ok (p m : Nat) (L : Lns) (tt nn : Int) (kk : Nat) (tx : Int) (hw : Wf L kk) (hk : kk ≤ 9000) : SpecS Try.prog 22 [.pointer (some ⟨p, 0, none⟩), .int .i64 tx] [blk p [.pointer (some ⟨m, 0, none⟩), .int .i64 tt, .int .i64 nn] 85, mp (κ := Int) 124 128 3 m (psL L), lnA L, dkS L] (fun v H' => v = parC (parV L tx) ∧ H' = [blk p [.pointer (some ⟨m, 0, none⟩), .int .i64 tt, .int .i64 nn] 85, mp (κ := Int) 124 128 3 m (psL L), lnA L, dkS L]) := by
  refine SpecS.enter Try.func22 rfl 34 rfl (Nat.le_of_ble_eq_true rfl) (fun o => ?_)
  refine SG.seq ?_
  refine SG.region ?_
  refine SL.val rfl rfl (fun w9 F9 S9 s => R.as rfl) ?_
  refine SL.val rfl rfl (fun w9 F9 S9 s => R.as rfl) ?_
  refine SL.val rfl rfl (fun w9 F9 S9 s => R.as rfl) ?_
  refine SL.nil ?_
  refine SN.seq ?_
  refine SG.seq ?_
  refine SG.seq ?_
  refine SG.region ?_
  refine SL.val rfl rfl (fun w9 F9 S9 s => R.mv rfl) ?_
  refine SL.val rfl rfl (fun w9 F9 S9 s => R.eqNilP rfl rfl) ?_
  refine SL.nil ?_
  refine SN.seq ?_
  refine SG.condF rfl ?_
  refine SG.skip ?_
  refine SN.seq ?_
  refine SG.seq ?_
  rcases hg : getT L tx with _ | x
  · refine SG.region ?_
    refine SL.val rfl rfl (fun w9 F9 S9 s => R.mv rfl) ?_
    refine SL.val rfl rfl (fun w9 F9 S9 s => R.nilChk rfl) ?_
    refine SL.val rfl rfl (fun w9 F9 S9 s => R.fld rfl) ?_
    refine SL.val rfl rfl (fun w9 F9 S9 s => R.ldB rfl (s.cel (by repeat (first | exact SelB.blk | exact SelB.fz | apply SelB.there))) (by rfl)) ?_
    refine SL.val rfl rfl (fun w9 F9 S9 s => R.mv rfl) ?_
    refine SL.step rfl rfl (CS.callR rfl go35 (fun w9 F9 S9 s => (s.mp (show Sel _ (mp (κ := Int) 124 128 3 m (psL L)) _ from (by repeat (first | exact Sel.keep | exact Sel.here | apply Sel.there)))).elim fun S9 h9 => lgetN m L tx S9 w9 h9 (by have := hw.len; omega) hg)) ?_
    rintro _ _ ⟨rfl, rfl⟩
    refine SL.val rfl rfl (fun w9 F9 S9 s => R.mv rfl) ?_
    refine SL.val rfl rfl (fun w9 F9 S9 s => R.ext rfl rfl) ?_
    refine SL.val rfl rfl (fun w9 F9 S9 s => R.ext rfl rfl) ?_
    refine SL.step rfl rfl (CS.alloc [.pointer none, .int .i64 0, .int .i64 0] rfl) ?_
    rintro _ _ ⟨b7, rfl, rfl⟩
    refine SL.step0 rfl (CS.stA (vs := [.pointer none, .int .i64 0, .int .i64 0]) rfl rfl (by repeat (first | exact Sel.keep | exact Sel.here | apply Sel.there)) (by rfl) (by rfl) (by intro u hu; simp only [List.mem_cons, List.not_mem_nil, or_false] at hu; rcases hu with rfl | rfl | rfl <;> rfl)) ?_
    rintro _ _ rfl
    refine SL.val rfl rfl (fun w9 F9 S9 s => R.as rfl) ?_
    refine SL.nil ?_
    refine SN.seq ?_
    refine SG.seq ?_
    refine SG.seq ?_
    refine SG.region ?_
    refine SL.val rfl rfl (fun w9 F9 S9 s => R.mv rfl) ?_
    refine SL.val rfl rfl (fun w9 F9 S9 s => R.not rfl) ?_
    refine SL.val rfl rfl (fun w9 F9 S9 s => R.mv rfl) ?_
    refine SL.isT 22 rfl (rfl) ?_
    refine SL.pass rfl rfl ?_
    refine SL.pass rfl rfl ?_
    refine SL.pass rfl rfl ?_
    refine SL.pass rfl rfl ?_
    first | refine SL.val rfl rfl (fun w9 F9 S9 s => R.pickT rfl rfl) ?_ | refine SL.val rfl rfl (fun w9 F9 S9 s => R.pickF rfl rfl) ?_
    refine SL.nil ?_
    refine SN.seq ?_
    refine SG.condT rfl ?_
    refine SG.seq ?_
    refine SG.region ?_
    refine SL.val rfl rfl (fun w9 F9 S9 s => R.as rfl) ?_
    refine SL.val rfl rfl (fun w9 F9 S9 s => R.as rfl) ?_
    refine SL.val rfl rfl (fun w9 F9 S9 s => R.as rfl) ?_
    refine SL.nil ?_
    refine SN.seq ?_
    exact SG.ret3 rfl rfl rfl rfl ((Imp.sels (by repeat (first | exact Sels.nil | apply Sels.cons | exact Sel.keep | exact Sel.here | apply Sel.there)))) (⟨by rw [par_no hg]; rfl, rfl⟩)
  · refine SG.region ?_
    refine SL.val rfl rfl (fun w9 F9 S9 s => R.mv rfl) ?_
    refine SL.val rfl rfl (fun w9 F9 S9 s => R.nilChk rfl) ?_
    refine SL.val rfl rfl (fun w9 F9 S9 s => R.fld rfl) ?_
    refine SL.val rfl rfl (fun w9 F9 S9 s => R.ldB rfl (s.cel (by repeat (first | exact SelB.blk | exact SelB.fz | apply SelB.there))) (by rfl)) ?_
    refine SL.val rfl rfl (fun w9 F9 S9 s => R.mv rfl) ?_
    refine SL.step rfl rfl (CS.callR rfl go35 (fun w9 F9 S9 s => (s.mp (show Sel _ (mp (κ := Int) 124 128 3 m (psL L)) _ from (by repeat (first | exact Sel.keep | exact Sel.here | apply Sel.there)))).elim fun S9 h9 => lgetS m L tx x S9 w9 h9 (by have := hw.len; omega) hg)) ?_
    rintro _ _ ⟨rfl, rfl⟩
    refine SL.val rfl rfl (fun w9 F9 S9 s => R.mv rfl) ?_
    refine SL.val rfl rfl (fun w9 F9 S9 s => R.ext rfl rfl) ?_
    refine SL.val rfl rfl (fun w9 F9 S9 s => R.ext rfl rfl) ?_
    refine SL.step rfl rfl (CS.alloc [.pointer none, .int .i64 0, .int .i64 0] rfl) ?_
    rintro _ _ ⟨b7, rfl, rfl⟩
    refine SL.step0 rfl (CS.stA (vs := lnC x) rfl rfl (by repeat (first | exact Sel.keep | exact Sel.here | apply Sel.there)) (by rfl) (by rfl) (lnC_one x)) ?_
    rintro _ _ rfl
    refine SL.val rfl rfl (fun w9 F9 S9 s => R.as rfl) ?_
    refine SL.nil ?_
    refine SN.seq ?_
    refine SG.seq ?_
    refine SG.seq ?_
    refine SG.region ?_
    refine SL.val rfl rfl (fun w9 F9 S9 s => R.mv rfl) ?_
    refine SL.val rfl rfl (fun w9 F9 S9 s => R.not rfl) ?_
    refine SL.val rfl rfl (fun w9 F9 S9 s => R.mv rfl) ?_
    refine SL.isF 22 rfl (rfl) ?_
    refine SL.val rfl rfl (fun w9 F9 S9 s => R.fld rfl) ?_
    refine SL.val rfl rfl (fun w9 F9 S9 s => R.fld rfl) ?_
    refine SL.val rfl rfl (fun w9 F9 S9 s => R.ldB (v := .int .i64 x.pt) rfl (s.cel (by repeat (first | exact SelB.blk | exact SelB.fz | apply SelB.there))) (by rfl)) ?_
    refine SL.val rfl rfl (fun w9 F9 S9 s => R.eqI rfl rfl) ?_
    first | refine SL.val rfl rfl (fun w9 F9 S9 s => R.pickT rfl rfl) ?_ | refine SL.val rfl rfl (fun w9 F9 S9 s => R.pickF rfl rfl) ?_
    refine SL.nil ?_
    refine SN.seq ?_
    refine SG.condP rfl (fun h1 => ?_) (fun h1 => ?_)
    · refine SG.seq ?_
      refine SG.region ?_
      refine SL.val rfl rfl (fun w9 F9 S9 s => R.as rfl) ?_
      refine SL.val rfl rfl (fun w9 F9 S9 s => R.as rfl) ?_
      refine SL.val rfl rfl (fun w9 F9 S9 s => R.as rfl) ?_
      refine SL.nil ?_
      refine SN.seq ?_
      exact SG.ret3 rfl rfl rfl rfl ((Imp.sels (by repeat (first | exact Sels.nil | apply Sels.cons | exact Sel.keep | exact Sel.here | apply Sel.there)))) (⟨by rw [par_z hg h1]; rfl, rfl⟩)
    · refine SG.skip ?_
      refine SN.seq ?_
      refine SG.seq ?_
      refine SG.draw [] [0, 1, 2, 3, 4, 5, 6, 7, 8] (by decide +kernel) rfl ?_
      refine SW.pure rfl rfl rfl rfl (fun w9 => R.fld rfl) ?_
      refine SW.pure rfl rfl rfl rfl (fun w9 => R.fld rfl) ?_
      refine SW.read rfl rfl rfl rfl (fun w9 F9 S9 s => R.ldB (v := .int .i64 x.pt) rfl (s.cel (by repeat (first | exact SelB.blk | exact SelB.fz | apply SelB.there))) (by rfl)) ?_
      refine SW.pure rfl rfl rfl rfl (fun w9 => R.fld rfl) ?_
      refine SW.pure rfl rfl rfl rfl (fun w9 => R.fld rfl) ?_
      refine SW.read rfl rfl rfl rfl (fun w9 F9 S9 s => R.ldB (v := .int .i64 x.pn) rfl (s.cel (by repeat (first | exact SelB.blk | exact SelB.fz | apply SelB.there))) (by rfl)) ?_
      refine SW.pure rfl rfl rfl rfl (fun w9 => R.as rfl) ?_
      refine SW.pure rfl rfl rfl rfl (fun w9 => R.as rfl) ?_
      refine SW.pure rfl rfl rfl rfl (fun w9 => R.as rfl) ?_
      refine SW.nil ?_
      refine SN.seq ?_
      exact SG.ret3 rfl rfl rfl rfl ((Imp.sels (by repeat (first | exact Sels.nil | apply Sels.cons | exact Sel.keep | exact Sel.here | apply Sel.there)))) (⟨by rw [par_so hg h1]; rfl, rfl⟩)

theorem wparE (p m : Nat) (L : Lns) (tt nn : Int) (kk : Nat) (tx : Int) (hw : Wf L kk) (hk : kk ≤ 9000) (r : Option (Int × Int)) (hr : parV L tx = r) : SpecS Try.prog 22 [.pointer (some ⟨p, 0, none⟩), .int .i64 tx] [blk p [.pointer (some ⟨m, 0, none⟩), .int .i64 tt, .int .i64 nn] 85, mp (κ := Int) 124 128 3 m (psL L), lnA L, dkS L] (fun v H' => v = parC r ∧ H' = [blk p [.pointer (some ⟨m, 0, none⟩), .int .i64 tt, .int .i64 nn] 85, mp (κ := Int) 124 128 3 m (psL L), lnA L, dkS L]) := by
  subst hr; exact wpar_ok p m L tt nn kk tx hw hk

end Go.Proofs.Ythdaelmjiaegfaa
/-
  The walks of package model.
-/
set_option linter.unusedVariables false
set_option linter.unusedSimpArgs false
set_option maxRecDepth 4000
namespace Go.Proofs.Ythdaelmjiaegfaa
open Go Brv Brv.Image Brv.Model
theorem wat_ok (p m : Nat) (L : Lns) (tt nn : Int) (kk : Nat) (tx nx : Int) (hw : Wf L kk) (hk : kk ≤ 9000) : SpecS Try.prog 14 [.pointer (some ⟨p, 0, none⟩), .int .i64 tx, .int .i64 nx] [blk p [.pointer (some ⟨m, 0, none⟩), .int .i64 tt, .int .i64 nn] 85, mp (κ := Int) 124 128 3 m (psL L), lnA L, dkS L] (fun v H' => ∃ r, AtR (wasV L) (parV L) nx tx r ∧ v = .tuple #[dkO r, .bool r.isSome] ∧ H' = [blk p [.pointer (some ⟨m, 0, none⟩), .int .i64 tt, .int .i64 nn] 85, mp (κ := Int) 124 128 3 m (psL L), lnA L, dkS L]) := by
  refine SpecS.enter Try.func14 rfl 38 rfl (Nat.le_of_ble_eq_true rfl) (fun o => ?_)
  obtain ⟨rk, hrk⟩ := hw.rk
  refine SG.seq ?_
  refine SG.region ?_
  refine SL.val rfl rfl (fun w9 F9 S9 s => R.as rfl) ?_
  refine SL.val rfl rfl (fun w9 F9 S9 s => R.as rfl) ?_
  refine SL.nil ?_
  refine SN.seq ?_
  refine SG.block ?_
  refine SG.loop (X := Int) (fun y => [(0, .pointer (some ⟨p, 0, none⟩)), (1, .int .i64 y), (2, .int .i64 nx)]) (fun y => [blk p [.pointer (some ⟨m, 0, none⟩), .int .i64 tt, .int .i64 nn] 85, mp (κ := Int) 124 128 3 m (psL L), lnA L, dkS L]) (fun y => ∀ r, AtR (wasV L) (parV L) nx y r → AtR (wasV L) (parV L) nx tx r) (fun y => rk y) (tx) (Sub.cons rfl (Sub.cons rfl (Sub.cons rfl (Sub.nil _)))) ((Imp.sels (by repeat (first | exact Sels.nil | apply Sels.cons | exact Sel.keep | exact Sel.here | apply Sel.there)))) (fun r h => h) ?_
  intro y hy
  show SG _ _ _ _ _ [(0, .pointer (some ⟨p, 0, none⟩)), (1, .int .i64 y), (2, .int .i64 nx)] [blk p [.pointer (some ⟨m, 0, none⟩), .int .i64 tt, .int .i64 nn] 85, mp (κ := Int) 124 128 3 m (psL L), lnA L, dkS L] _
  refine SG.block ?_
  refine SG.seq ?_
  refine SG.seq ?_
  rcases hg : wasV L y nx with _ | d
  · refine SG.region ?_
    refine SL.val rfl rfl (fun w9 F9 S9 s => R.mv rfl) ?_
    refine SL.val rfl rfl (fun w9 F9 S9 s => R.mv rfl) ?_
    refine SL.val rfl rfl (fun w9 F9 S9 s => R.mv rfl) ?_
    refine SL.val rfl rfl (fun w9 F9 S9 s => R.build rfl rfl) ?_
    refine SL.step rfl rfl (CS.call rfl go34 (wwasE p m L tt nn kk y nx hw hk none hg) (by repeat (first | exact Sels.nil | apply Sels.cons | exact Sel.keep | exact Sel.here | apply Sel.there))) ?_
    rintro _ _ ⟨_, ⟨rfl, rfl⟩, rfl⟩
    refine SL.n4 ?_
    refine SL.val rfl rfl (fun w9 F9 S9 s => R.mv rfl) ?_
    refine SL.val rfl rfl (fun w9 F9 S9 s => R.ext rfl rfl) ?_
    refine SL.val rfl rfl (fun w9 F9 S9 s => R.ext rfl rfl) ?_
    refine SL.val rfl rfl (fun w9 F9 S9 s => R.as rfl) ?_
    refine SL.val rfl rfl (fun w9 F9 S9 s => R.as rfl) ?_
    refine SL.nil ?_
    refine SN.seq ?_
    refine SG.seq ?_
    refine SG.region ?_
    refine SL.val rfl rfl (fun w9 F9 S9 s => R.mv rfl) ?_
    refine SL.nil ?_
    refine SN.seq ?_
    refine SG.condF rfl ?_
    refine SG.skip ?_
    refine SN.seq ?_
    refine SG.seq ?_
    rcases hp : parV L y with _ | q
    · refine SG.region ?_
      refine SL.val rfl rfl (fun w9 F9 S9 s => R.mv rfl) ?_
      refine SL.val rfl rfl (fun w9 F9 S9 s => R.mv rfl) ?_
      refine SL.step rfl rfl (CS.call rfl go22 (wparE p m L tt nn kk y hw hk none hp) (by repeat (first | exact Sels.nil | apply Sels.cons | exact Sel.keep | exact Sel.here | apply Sel.there))) ?_
      rintro _ _ ⟨_, ⟨rfl, rfl⟩, rfl⟩
      refine SL.n4 ?_
      refine SL.val rfl rfl (fun w9 F9 S9 s => R.mv rfl) ?_
      refine SL.val rfl rfl (fun w9 F9 S9 s => R.ext rfl rfl) ?_
      refine SL.val rfl rfl (fun w9 F9 S9 s => R.ext rfl rfl) ?_
      refine SL.val rfl rfl (fun w9 F9 S9 s => R.ext rfl rfl) ?_
      refine SL.val rfl rfl (fun w9 F9 S9 s => R.as rfl) ?_
      refine SL.val rfl rfl (fun w9 F9 S9 s => R.as rfl) ?_
      refine SL.val rfl rfl (fun w9 F9 S9 s => R.as rfl) ?_
      refine SL.nil ?_
      refine SN.seq ?_
      refine SG.seq ?_
      refine SG.seq ?_
      refine SG.region ?_
      refine SL.val rfl rfl (fun w9 F9 S9 s => R.mv rfl) ?_
      refine SL.val rfl rfl (fun w9 F9 S9 s => R.not rfl) ?_
      refine SL.val rfl rfl (fun w9 F9 S9 s => R.mv rfl) ?_
      refine SL.isT 32 rfl (rfl) ?_
      refine SL.pass rfl rfl ?_
      refine SL.pass rfl rfl ?_
      refine SL.pass rfl rfl ?_
      first | refine SL.val rfl rfl (fun w9 F9 S9 s => R.pickT rfl rfl) ?_ | refine SL.val rfl rfl (fun w9 F9 S9 s => R.pickF rfl rfl) ?_
      refine SL.nil ?_
      refine SN.seq ?_
      refine SG.condT rfl ?_
      refine SG.seq ?_
      refine SG.region ?_
      refine SL.val rfl rfl (fun w9 F9 S9 s => R.as rfl) ?_
      refine SL.val rfl rfl (fun w9 F9 S9 s => R.as rfl) ?_
      refine SL.nil ?_
      refine SN.seq ?_
      exact SG.ret2 rfl rfl rfl ((Imp.sels (by repeat (first | exact Sels.nil | apply Sels.cons | exact Sel.keep | exact Sel.here | apply Sel.there)))) (⟨_, hy _ (.root hg hp), rfl, rfl⟩)
    · refine SG.region ?_
      refine SL.val rfl rfl (fun w9 F9 S9 s => R.mv rfl) ?_
      refine SL.val rfl rfl (fun w9 F9 S9 s => R.mv rfl) ?_
      refine SL.step rfl rfl (CS.call rfl go22 (wparE p m L tt nn kk y hw hk (some q) hp) (by repeat (first | exact Sels.nil | apply Sels.cons | exact Sel.keep | exact Sel.here | apply Sel.there))) ?_
      rintro _ _ ⟨_, ⟨rfl, rfl⟩, rfl⟩
      refine SL.n4 ?_
      refine SL.val rfl rfl (fun w9 F9 S9 s => R.mv rfl) ?_
      refine SL.val rfl rfl (fun w9 F9 S9 s => R.ext rfl rfl) ?_
      refine SL.val rfl rfl (fun w9 F9 S9 s => R.ext rfl rfl) ?_
      refine SL.val rfl rfl (fun w9 F9 S9 s => R.ext rfl rfl) ?_
      refine SL.val rfl rfl (fun w9 F9 S9 s => R.as rfl) ?_
      refine SL.val rfl rfl (fun w9 F9 S9 s => R.as rfl) ?_
      refine SL.val rfl rfl (fun w9 F9 S9 s => R.as rfl) ?_
      refine SL.nil ?_
      refine SN.seq ?_
      refine SG.seq ?_
      refine SG.seq ?_
      refine SG.region ?_
      refine SL.val rfl rfl (fun w9 F9 S9 s => R.mv rfl) ?_
      refine SL.val rfl rfl (fun w9 F9 S9 s => R.not rfl) ?_
      refine SL.val rfl rfl (fun w9 F9 S9 s => R.mv rfl) ?_
      refine SL.isF 32 rfl (rfl) ?_
      refine SL.val rfl rfl (fun w9 F9 S9 s => R.mv rfl) ?_
      refine SL.val rfl rfl (fun w9 F9 S9 s => R.mv rfl) ?_
      refine SL.val rfl rfl (fun w9 F9 S9 s => R.gtr rfl rfl) ?_
      first | refine SL.val rfl rfl (fun w9 F9 S9 s => R.pickT rfl rfl) ?_ | refine SL.val rfl rfl (fun w9 F9 S9 s => R.pickF rfl rfl) ?_
      refine SL.nil ?_
      refine SN.seq ?_
      refine SG.condP rfl (fun h1 => ?_) (fun h1 => ?_)
      · refine SG.seq ?_
        refine SG.region ?_
        refine SL.val rfl rfl (fun w9 F9 S9 s => R.as rfl) ?_
        refine SL.val rfl rfl (fun w9 F9 S9 s => R.as rfl) ?_
        refine SL.nil ?_
        refine SN.seq ?_
        exact SG.ret2 rfl rfl rfl ((Imp.sels (by repeat (first | exact Sels.nil | apply Sels.cons | exact Sel.keep | exact Sel.here | apply Sel.there)))) (⟨_, hy _ (.late hg hp h1), rfl, rfl⟩)
      · refine SG.skip ?_
        refine SN.seq ?_
        refine SG.region ?_
        refine SL.val rfl rfl (fun w9 F9 S9 s => R.mv rfl) ?_
        refine SL.val rfl rfl (fun w9 F9 S9 s => R.as rfl) ?_
        refine SL.nil ?_
        refine SN.block ?_
        exact SN.again (q.1) (by have := (par_rk hrk (p := q.1) (a := q.2) hp).1; exact this) (Sub.cons rfl (Sub.cons rfl (Sub.cons rfl (Sub.nil _)))) ((Imp.sels (by repeat (first | exact Sels.nil | apply Sels.cons | exact Sel.keep | exact Sel.here | apply Sel.there)))) (fun r h => hy r (.up hg hp h1 h))
  · refine SG.region ?_
    refine SL.val rfl rfl (fun w9 F9 S9 s => R.mv rfl) ?_
    refine SL.val rfl rfl (fun w9 F9 S9 s => R.mv rfl) ?_
    refine SL.val rfl rfl (fun w9 F9 S9 s => R.mv rfl) ?_
    refine SL.val rfl rfl (fun w9 F9 S9 s => R.build rfl rfl) ?_
    refine SL.step rfl rfl (CS.call rfl go34 (wwasE p m L tt nn kk y nx hw hk (some d) hg) (by repeat (first | exact Sels.nil | apply Sels.cons | exact Sel.keep | exact Sel.here | apply Sel.there))) ?_
    rintro _ _ ⟨_, ⟨rfl, rfl⟩, rfl⟩
    refine SL.n4 ?_
    refine SL.val rfl rfl (fun w9 F9 S9 s => R.mv rfl) ?_
    refine SL.val rfl rfl (fun w9 F9 S9 s => R.ext rfl rfl) ?_
    refine SL.val rfl rfl (fun w9 F9 S9 s => R.ext rfl rfl) ?_
    refine SL.val rfl rfl (fun w9 F9 S9 s => R.as rfl) ?_
    refine SL.val rfl rfl (fun w9 F9 S9 s => R.as rfl) ?_
    refine SL.nil ?_
    refine SN.seq ?_
    refine SG.seq ?_
    refine SG.region ?_
    refine SL.val rfl rfl (fun w9 F9 S9 s => R.mv rfl) ?_
    refine SL.nil ?_
    refine SN.seq ?_
    refine SG.condT rfl ?_
    refine SG.seq ?_
    refine SG.region ?_
    refine SL.val rfl rfl (fun w9 F9 S9 s => R.mv rfl) ?_
    refine SL.val rfl rfl (fun w9 F9 S9 s => R.as rfl) ?_
    refine SL.val rfl rfl (fun w9 F9 S9 s => R.as rfl) ?_
    refine SL.nil ?_
    refine SN.seq ?_
    exact SG.ret2 rfl rfl rfl ((Imp.sels (by repeat (first | exact Sels.nil | apply Sels.cons | exact Sel.keep | exact Sel.here | apply Sel.there)))) (⟨_, hy _ (.hit hg), rfl, rfl⟩)

theorem watE (p m : Nat) (L : Lns) (tt nn : Int) (kk : Nat) (tx nx : Int) (hw : Wf L kk) (hk : kk ≤ 9000) (r : Option Dk) (hr : AtR (wasV L) (parV L) nx tx r) : SpecS Try.prog 14 [.pointer (some ⟨p, 0, none⟩), .int .i64 tx, .int .i64 nx] [blk p [.pointer (some ⟨m, 0, none⟩), .int .i64 tt, .int .i64 nn] 85, mp (κ := Int) 124 128 3 m (psL L), lnA L, dkS L] (fun v H' => v = .tuple #[dkO r, .bool r.isSome] ∧ H' = [blk p [.pointer (some ⟨m, 0, none⟩), .int .i64 tt, .int .i64 nn] 85, mp (κ := Int) 124 128 3 m (psL L), lnA L, dkS L]) :=
  (wat_ok p m L tt nn kk tx nx hw hk).mono fun v H' ⟨s, h1, h2, h3⟩ => by rw [hr.one h1]; exact ⟨h2, h3⟩

theorem post_at {q : Int × Int} {a b : Int} {K : List Asn} {A : Int → Int → List Asn} (h : q = (a, b)) (hK : K = A a b) : K = A q.1 q.2 := by rw [h]; exact hK
/-- Jump: the error, and what is now. -/
def jmpE (L : Lns) (tx nx : Int) : Int := if (wasV L tx nx).isSome then 0 else 50
def jmpN (L : Lns) (tt nn tx nx : Int) : Int × Int := if (wasV L tx nx).isSome then (tx, nx) else (tt, nn)
theorem jmp_no {L : Lns} {tt nn tx nx : Int} (h : wasV L tx nx = none) : jmpN L tt nn tx nx = (tt, nn) := by unfold jmpN; rw [h]; rfl
theorem jmp_so {L : Lns} {tt nn tx nx : Int} {d : Dk} (h : wasV L tx nx = some d) : jmpN L tt nn tx nx = (tx, nx) := by unfold jmpN; rw [h]; rfl

theorem wjmp_ok (p m : Nat) (L : Lns) (tt nn : Int) (kk : Nat) (tx nx : Int) (hw : Wf L kk) (hk : kk ≤ 9000) : SpecS Try.prog 10 [.pointer (some ⟨p, 0, none⟩), .int .i64 tx, .int .i64 nx] [blk p [.pointer (some ⟨m, 0, none⟩), .int .i64 tt, .int .i64 nn] 85, mp (κ := Int) 124 128 3 m (psL L), lnA L, dkS L] (fun v H' => v = .int .i64 (jmpE L tx nx) ∧ H' = [blk p [.pointer (some ⟨m, 0, none⟩), .int .i64 (jmpN L tt nn tx nx).1, .int .i64 (jmpN L tt nn tx nx).2] 85, mp (κ := Int) 124 128 3 m (psL L), lnA L, dkS L]) := by
  refine SpecS.enter Try.func10 rfl 27 rfl (Nat.le_of_ble_eq_true rfl) (fun o => ?_)
  refine SG.seq ?_
  refine SG.region ?_
  refine SL.val rfl rfl (fun w9 F9 S9 s => R.as rfl) ?_
  refine SL.nil ?_
  refine SN.seq ?_
  refine SG.seq ?_
  refine SG.seq ?_
  refine SG.region ?_
  refine SL.val rfl rfl (fun w9 F9 S9 s => R.mv rfl) ?_
  refine SL.val rfl rfl (fun w9 F9 S9 s => R.eqNilP rfl rfl) ?_
  refine SL.nil ?_
  refine SN.seq ?_
  refine SG.condF rfl ?_
  refine SG.skip ?_
  refine SN.seq ?_
  refine SG.seq ?_
  refine SG.seq ?_
  rcases hg : wasV L tx nx with _ | d
  · refine SG.region ?_
    refine SL.val rfl rfl (fun w9 F9 S9 s => R.mv rfl) ?_
    refine SL.val rfl rfl (fun w9 F9 S9 s => R.mv rfl) ?_
    refine SL.val rfl rfl (fun w9 F9 S9 s => R.mv rfl) ?_
    refine SL.val rfl rfl (fun w9 F9 S9 s => R.build rfl rfl) ?_
    refine SL.step rfl rfl (CS.call rfl go34 (wwasE p m L tt nn kk tx nx hw hk none hg) (by repeat (first | exact Sels.nil | apply Sels.cons | exact Sel.keep | exact Sel.here | apply Sel.there))) ?_
    rintro _ _ ⟨_, ⟨rfl, rfl⟩, rfl⟩
    refine SL.n4 ?_
    refine SL.val rfl rfl (fun w9 F9 S9 s => R.mv rfl) ?_
    refine SL.val rfl rfl (fun w9 F9 S9 s => R.ext rfl rfl) ?_
    refine SL.val rfl rfl (fun w9 F9 S9 s => R.ext rfl rfl) ?_
    refine SL.val rfl rfl (fun w9 F9 S9 s => R.as rfl) ?_
    refine SL.val rfl rfl (fun w9 F9 S9 s => R.as rfl) ?_
    refine SL.nil ?_
    refine SN.seq ?_
    refine SG.seq ?_
    refine SG.region ?_
    refine SL.val rfl rfl (fun w9 F9 S9 s => R.mv rfl) ?_
    refine SL.val rfl rfl (fun w9 F9 S9 s => R.not rfl) ?_
    refine SL.nil ?_
    refine SN.seq ?_
    refine SG.condT rfl ?_
    refine SG.seq ?_
    refine SG.region ?_
    refine SL.val rfl rfl (fun w9 F9 S9 s => R.as rfl) ?_
    refine SL.nil ?_
    refine SN.seq ?_
    exact SG.ret1 rfl rfl ((Imp.sels (by repeat (first | exact Sels.nil | apply Sels.cons | exact Sel.keep | exact Sel.here | apply Sel.there)))) (⟨congrArg (Value.int .i64) (show (50 : Int) = jmpE L tx nx by unfold jmpE; rw [hg]; rfl), post_at (A := fun a b => [blk p [.pointer (some ⟨m, 0, none⟩), .int .i64 a, .int .i64 b] 85, mp (κ := Int) 124 128 3 m (psL L), lnA L, dkS L]) (jmp_no hg) rfl⟩)
  · refine SG.region ?_
    refine SL.val rfl rfl (fun w9 F9 S9 s => R.mv rfl) ?_
    refine SL.val rfl rfl (fun w9 F9 S9 s => R.mv rfl) ?_
    refine SL.val rfl rfl (fun w9 F9 S9 s => R.mv rfl) ?_
    refine SL.val rfl rfl (fun w9 F9 S9 s => R.build rfl rfl) ?_
    refine SL.step rfl rfl (CS.call rfl go34 (wwasE p m L tt nn kk tx nx hw hk (some d) hg) (by repeat (first | exact Sels.nil | apply Sels.cons | exact Sel.keep | exact Sel.here | apply Sel.there))) ?_
    rintro _ _ ⟨_, ⟨rfl, rfl⟩, rfl⟩
    refine SL.n4 ?_
    refine SL.val rfl rfl (fun w9 F9 S9 s => R.mv rfl) ?_
    refine SL.val rfl rfl (fun w9 F9 S9 s => R.ext rfl rfl) ?_
    refine SL.val rfl rfl (fun w9 F9 S9 s => R.ext rfl rfl) ?_
    refine SL.val rfl rfl (fun w9 F9 S9 s => R.as rfl) ?_
    refine SL.val rfl rfl (fun w9 F9 S9 s => R.as rfl) ?_
    refine SL.nil ?_
    refine SN.seq ?_
    refine SG.seq ?_
    refine SG.region ?_
    refine SL.val rfl rfl (fun w9 F9 S9 s => R.mv rfl) ?_
    refine SL.val rfl rfl (fun w9 F9 S9 s => R.not rfl) ?_
    refine SL.nil ?_
    refine SN.seq ?_
    refine SG.condF rfl ?_
    refine SG.skip ?_
    refine SN.seq ?_
    refine SG.seq ?_
    refine SG.region ?_
    refine SL.val rfl rfl (fun w9 F9 S9 s => R.mv rfl) ?_
    refine SL.val rfl rfl (fun w9 F9 S9 s => R.mv rfl) ?_
    refine SL.val rfl rfl (fun w9 F9 S9 s => R.mv rfl) ?_
    refine SL.val rfl rfl (fun w9 F9 S9 s => R.build rfl rfl) ?_
    refine SL.val rfl rfl (fun w9 F9 S9 s => R.nilChk rfl) ?_
    refine SL.val rfl rfl (fun w9 F9 S9 s => R.fld rfl) ?_
    refine SL.step0 rfl (CS.stN (k := 1) (vs := [.int .i64 tx, .int .i64 nx]) (cs' := [.pointer (some ⟨m, 0, none⟩), .int .i64 tx, .int .i64 nx]) rfl rfl (show Sel _ (blk p _ _) _ from (by repeat (first | exact Sel.keep | exact Sel.here | apply Sel.there))) rfl (by show 1 + 2 ≤ 3; decide) (by intro u hu; simp only [List.mem_cons, List.not_mem_nil, or_false] at hu; rcases hu with rfl | rfl <;> rfl) rfl) ?_
    rintro _ _ rfl
    refine SL.nil ?_
    refine SN.seq ?_
    refine SG.seq ?_
    refine SG.region ?_
    refine SL.val rfl rfl (fun w9 F9 S9 s => R.as rfl) ?_
    refine SL.nil ?_
    refine SN.seq ?_
    exact SG.ret1 rfl rfl ((Imp.sels (by repeat (first | exact Sels.nil | apply Sels.cons | exact Sel.keep | exact Sel.here | apply Sel.there)))) (⟨congrArg (Value.int .i64) (show (0 : Int) = jmpE L tx nx by unfold jmpE; rw [hg]; rfl), post_at (A := fun a b => [blk p [.pointer (some ⟨m, 0, none⟩), .int .i64 a, .int .i64 b] 85, mp (κ := Int) 124 128 3 m (psL L), lnA L, dkS L]) (jmp_so hg) rfl⟩)

end Go.Proofs.Ythdaelmjiaegfaa
/-
  A slice that is made to grow from nothing; what is known of bytes beside blocks that are turned.
-/
set_option linter.unusedVariables false
set_option linter.unusedSimpArgs false
namespace Brv
open Go
section
variable {P : Program} {n : Fm} {o : Org} {ρ : Env} {H H' : List Asn} {ty : TypeId} {pos : String} {af : Array Edge} {gd : Option (Nat × Bool)}
end
/-! ## Structs that are built of parts of many cells -/
def putN : List Value → Nat → List Value → List Value
  | cs, _, [] => cs
  | cs, off, x :: l => putN (cs.set off x) (off + 1) l
theorem putN_spec (off : Nat) : ∀ (l : List Value) (k : Nat) (cells : Array Value), ((l.zipIdx k).foldl (fun cs p => cs.setIfInBounds (off + p.2) p.1) cells).toList = putN cells.toList (off + k) l := by
  intro l
  induction l with
  | nil => intro k cells; rfl
  | cons x l ih =>
    intro k cells
    rw [List.zipIdx_cons, List.foldl_cons, ih (k + 1), putN]
    simp [Nat.add_assoc]
def fillN (pl : Nat → Option (Nat × Nat)) : List Value → List (Nat × Value) → Option (List Value)
  | cs, [] => some cs
  | cs, (i, v) :: rest => match pl i with
    | some (off, sz) => match Nat.beq v.cells.toList.length sz && Nat.ble (off + sz) cs.length with
      | true => fillN pl (putN cs off v.cells.toList) rest
      | false => none
    | none => none
theorem fillN_spec {pl : Nat → Option (Nat × Nat)} : ∀ {vs : List (Nat × Value)} {cs : Array Value} {l : List Value}, fillN pl cs.toList vs = some l → Instr.fill pl cs vs = some l.toArray
  | [], cs, l, h => by
    simp only [fillN, Option.some.injEq] at h
    subst h
    simp [Instr.fill]
  | (i, v) :: rest, cs, l, h => by
    simp only [fillN] at h
    split at h
    · rename_i off sz hp
      split at h
      · rename_i hb
        rw [Bool.and_eq_true] at hb
        have hsz := Nat.eq_of_beq_eq_true hb.1
        have hlt := Nat.le_of_ble_eq_true hb.2
        have e := putN_spec off v.cells.toList 0 cs
        rw [Nat.add_zero] at e
        have e2 : (v.cells.zipIdx.foldl (fun cs (p : Value × Nat) => cs.setIfInBounds (off + p.2) p.1) cs).toList = putN cs.toList off v.cells.toList := by
          rw [← e, ← Array.foldl_toList, Array.toList_zipIdx]
        rw [← e2] at h
        have ih := fillN_spec h
        simp only [Instr.fill, hp]
        rw [if_neg (by simp at hsz hlt ⊢; omega)]
        exact ih
      · cases h
    · cases h
section
variable {P : Program} {n : Fm} {ρ : Env} {w : World} {d : Nat} {ty : TypeId} {pos : String} {af : Array Edge} {gd : Option (Nat × Bool)}
theorem R.buildN {T : TypeId} {pl : Nat → Option (Nat × Nat)} {z : Value} [t : TyBuilt P T pl z] {parts : Array (Nat × Operand)} {vs : List (Nat × Value)} {l : List Value} (hp : evps ρ parts.toList = some vs) (hb : fillN pl z.cells.toList vs = some l) :
    Runs P n ρ w ⟨some d, .build T parts, ty, pos, af, gd⟩ (.agg l.toArray) w := R.build hp (fillN_spec hb)
end
end Brv
/-
  The walks of package model.
-/
set_option linter.unusedVariables false
set_option linter.unusedSimpArgs false
set_option maxRecDepth 4000
namespace Go.Proofs.Ythdaelmjiaegfaa
open Go Brv Brv.Image Brv.Model
/-- Writes among arguments. -/
def WsP (w : World) (a : Option Addr) (n : Nat) (ws : List WriteV) : Prop := Tab w a n 2 (ws.map WriteV.cells) ∧ ∀ z ∈ ws, Bs w z.B'a z.B'n z.B'
theorem disk_in {w : World} {d : Nat} {x : List UInt8} {S1 : List Nat} (h : ∀ M w', Ext M w w' → Apart S1 M → DiskAt w' d x) : ∃ g c cur ps, DiskL w d g c cur ps x ∧ ∀ y ∈ d :: g :: ps, y ∈ S1 := by
  obtain ⟨g, c, cur, ps, hD⟩ := h [] w (Ext.refl _ _) (Apart.nilR _)
  refine ⟨g, c, cur, ps, hD, fun y hy => Classical.byContradiction fun hn => ?_⟩
  have hlt := hD.lt y hy
  obtain ⟨g2, c2, cur2, ps2, hD2⟩ := h [y] (w.putObj y (.deferred none)) (Ext.putObj w _ _) (fun z hz hz2 => hn (by rw [← List.mem_singleton.1 hz2]; exact hz))
  have e : (w.putObj y (.deferred none)).heap[y]? = some (.deferred none) := World.putObj_heap_same hlt
  have eo : ∀ z, z ≠ y → (w.putObj y (.deferred none)).heap[z]? = w.heap[z]? := fun z hz => World.putObj_heap_other hz
  by_cases h1 : d = y
  · subst h1
    have : (w.putObj d (.deferred none)).heap[d]? = some (.cells _ 98 (0, 0)) := hD2.hd
    rw [e] at this; cases this
  have hd2 : (w.putObj y (.deferred none)).heap[d]? = some (.cells _ 98 (0, 0)) := hD2.hd
  rw [eo d h1, show w.heap[d]? = some (.cells _ 98 (0, 0)) from hD.hd] at hd2
  injection hd2 with hd2; injection hd2 with hd2
  have : g = g2 := (show g = g2 ∧ c = c2 by simpa using hd2).1
  subst this
  by_cases h2 : g = y
  · subst h2
    have : (w.putObj g (.deferred none)).heap[g]? = some (.cells _ 96 (0, 0)) := hD2.hg
    rw [e] at this; cases this
  have hg2 : (w.putObj y (.deferred none)).heap[g]? = some (.cells _ 96 (0, 0)) := hD2.hg
  rw [eo g h2, show w.heap[g]? = some (.cells _ 96 (0, 0)) from hD.hg] at hg2
  injection hg2 with hg2; injection hg2 with hg2
  subst hg2
  have hps : ps = ps2 := by
    have h9 := hD.ht.symm.trans hD2.ht
    have inj : ∀ a b : Nat, Brv.ptr a = Brv.ptr b → a = b := fun a b h => by injection h with h; injection h with h; injection h
    exact (List.map_inj_right inj).1 h9
  subst hps
  have hy2 : y ∈ ps := by
    rcases List.mem_cons.1 hy with rfl | hy
    · exact absurd rfl h1
    rcases List.mem_cons.1 hy with rfl | hy
    · exact absurd rfl h2
    · exact hy
  obtain ⟨k, hk, rfl⟩ := List.getElem_of_mem hy2
  have hb := hD2.hb.each k hk
  have : (w.putObj ps[k] (.deferred none)).heap[ps[k]]? = some (.cells _ 102 (0, 0)) := hb
  rw [e] at this; cases this
theorem inewS (n : Nat) (h1 : 1 ≤ n) (h2 : n ≤ 64) : SpecS Try.prog 30 [.int .i64 (n : Int)] [] (fun v H' => ∃ d, v = .tuple #[.pointer (some ⟨d, 0, none⟩), .int .i64 0] ∧ H' = [sh (fun w => DiskAt w d (List.replicate (64 * n) 0))]) :=
  (SpecS.ofFresh (φ := fun v A => ∃ d, v = .tuple #[.pointer (some ⟨d, 0, none⟩), .int .i64 0] ∧ A = sh (fun w => DiskAt w d (List.replicate (64 * n) 0))) fun w F S s => (inew_okF n w h1 h2).mono fun v w' ⟨d, e1, e2, e3⟩ => by
    obtain ⟨g, c, cur, ps, hD, hf⟩ := e3.f
    exact ⟨_, [], d :: g :: ps, ⟨d, e1, rfl⟩, e2, fun M w'' he hA => ⟨g, c, cur, ps, hD.ext he hA⟩, by simp, fun b hb => ⟨hf b hb, hD.lt b hb⟩⟩).mono fun v H' ⟨A, ⟨d, e1, e2⟩, e3⟩ => ⟨d, e1, by rw [e3, e2]⟩
theorem iwithS (d : Nat) (x : List UInt8) (la : Option Addr) (ln lc : Nat) (ws : List WriteV) (hln : ln ≤ 1000000) (h0 : (withF x (ws.map wv)).2 = 0) : SpecS Try.prog 15 [.pointer (some ⟨d, 0, none⟩), .slice la ln lc] [sh (fun w => DiskAt w d x), sh (fun w => WsP w la ln ws)]
    (fun v H' => ∃ d', v = .tuple #[.pointer (some ⟨d', 0, none⟩), .int .i64 0] ∧ H' = [sh (fun w => DiskAt w d' (withF x (ws.map wv)).1)]) := fun w F S s => by
  obtain ⟨F1, S1, F2, S2, ⟨_, _, a, b⟩, _, hD, F3, S3, _, _, _, _, hW, _⟩ := s.sep
  obtain ⟨g, c, cur, ps, hDL, hin⟩ := disk_in hD
  have hW := hW [] w (Ext.refl _ _) (Apart.nilR _)
  refine (iwith_okF d g c cur ps x la ln lc ws w hDL hW.1 hW.2 hln).mono ?_
  rintro v w' ⟨he, h1, _⟩
  obtain ⟨d', hv, g', c', cur', qs, hD', hq⟩ := h1 h0
  exact ⟨_, [], d' :: g' :: qs, ⟨d', hv, rfl⟩, st_one (A := sh (fun w => DiskAt w d' (withF x (ws.map wv)).1)) (fun M w'' he' hA => ⟨g', c', cur', qs, hD'.ext he' hA⟩) (by simp) hD'.lt, ⟨he.mono (by simp), by simp, fun y hy => (hq y hy).elim (fun h => .inl (a (hin y (by simp [h])))) (fun h => .inr (.inr h))⟩⟩
theorem iwithR (d : Nat) (x : List UInt8) (la : Option Addr) (ln lc : Nat) (ws : List WriteV) (hln : ln ≤ 1000000) (h0 : (withF x (ws.map wv)).2 ≠ 0) (w : World) (hD : DiskAt w d x) (hW : WsP w la ln ws) : Meets Try.prog 15 [.pointer (some ⟨d, 0, none⟩), .slice la ln lc] w
    (fun v w' => v = .tuple #[.pointer none, .int .i64 (withF x (ws.map wv)).2] ∧ Ext [] w w') :=
  (iwith_ok d x la ln lc ws w hD hW.1 hW.2 hln).mono fun v w' ⟨h1, _, h3⟩ => ⟨h3 h0, h1⟩
theorem dkS_put {L : Lns} {t : Int} {x : Ln} {w : World} (h : DkP L w) (hx : ∀ d ∈ x.ds, DiskAt w d.2.b d.2.l) : DkP (putT L t x) w := fun q hq => (mem_putT hq).elim (fun e => by rw [e]; exact hx) (h q)
theorem dkS_one {L : Lns} {t n : Int} {d : Dk} {w : World} (h : DkP L w) (hw : wasV L t n = some d) : DiskAt w d.b d.l := by
  obtain ⟨x, h1, h2⟩ := was_mem hw
  exact h _ h1 _ h2

theorem begun_ok (nx pt pn : Int) (d : Dk) : SpecS Try.prog 33 [.int .i64 nx, .pointer (some ⟨d.b, 0, none⟩), .agg #[.int .i64 pt, .int .i64 pn]] [] (fun v H' => ∃ m', v = .agg (lnC ⟨m', pt, pn, [(nx, d)]⟩).toArray ∧ H' = [mp (κ := Int) 135 132 1 m' (dsP [(nx, d)])]) := by
  refine SpecS.enter Try.func33 rfl 17 rfl (Nat.le_of_ble_eq_true rfl) (fun o => ?_)
  refine SG.seq ?_
  refine SG.region ?_
  refine SL.step rfl rfl (CS.boxA rfl) ?_
  rintro _ _ ⟨b5, rfl, rfl⟩
  refine SL.step rfl rfl (CS.alloc [.pointer none, .int .i64 0, .int .i64 0] rfl) ?_
  rintro _ _ ⟨b6, rfl, rfl⟩
  refine SL.nil ?_
  refine SN.seq ?_
  refine SG.seq ?_
  refine SG.drawT (.flo 1 (.alt 0 (.flo 2 (.alt 3 (.alt 4 .nil .stop) .stop)) (.alt 3 (.alt 0 (.flo 2 (.alt 4 .nil .stop)) .stop) .stop))) (by decide +kernel) rfl ?_
  refine TW.read rfl rfl rfl rfl (fun w9 F9 S9 s => R.ldBN rfl (s.cel (by repeat (first | exact SelB.blk | exact SelB.fz | apply SelB.there))) (by rfl)) ?_
  refine TW.or ?_ ?_
  · refine TW.step rfl rfl rfl rfl (CS.call rfl go50 (SpecS.ofNew (fun w => onewImageDisk_ok w)) (by repeat (first | exact Sels.nil | apply Sels.cons | exact Sel.keep | exact Sel.here | apply Sel.there))) ?_
    rintro _ _ ⟨_, ⟨m2, rfl, rfl⟩, rfl⟩
    refine ⟨⟨.inr (fun w9 F9 S9 s => R.ldBN rfl (s.cel (by repeat (first | exact SelB.blk | exact SelB.fz | apply SelB.there))) (by rfl)), trivial⟩, ?_⟩
    refine TW.n1 ?_
    refine TW.pure rfl rfl rfl rfl (fun w9 => R.buildN (l := [.pointer (some ⟨m2, 0, none⟩), .int .i64 pt, .int .i64 pn]) rfl rfl) ?_
    refine TW.step rfl rfl rfl rfl (CS.alloc [.pointer none, .int .i64 0, .int .i64 0] rfl) ?_
    rintro _ _ ⟨b7, rfl, rfl⟩
    refine ⟨⟨.inr (fun w9 F9 S9 s => R.ldBN rfl (s.cel (by repeat (first | exact SelB.blk | exact SelB.fz | apply SelB.there))) (by rfl)), trivial⟩, ?_⟩
    refine TW.step0 rfl rfl rfl (CS.stA (vs := lnC ⟨m2, pt, pn, []⟩) rfl rfl (by repeat (first | exact Sel.keep | exact Sel.here | apply Sel.there)) (by rfl) (by rfl) (lnC_one ⟨m2, pt, pn, []⟩)) ?_
    rintro _ _ rfl
    refine ⟨⟨.inl (by decide +kernel), trivial⟩, ?_⟩
    refine TW.nil ?_
    refine SN.seq ?_
    refine SG.seq ?_
    refine SG.region ?_
    refine SL.val rfl rfl (fun w9 F9 S9 s => R.fld rfl) ?_
    refine SL.val rfl rfl (fun w9 F9 S9 s => R.ldB (v := .pointer (some ⟨m2, 0, none⟩)) rfl (s.cel (by repeat (first | exact SelB.blk | exact SelB.fz | apply SelB.there))) (by rfl)) ?_
    refine SL.val rfl rfl (fun w9 F9 S9 s => R.mv rfl) ?_
    refine SL.val rfl rfl (fun w9 F9 S9 s => R.mv rfl) ?_
    refine SL.step rfl rfl (CS.call rfl go36 (dputX m2 [] nx d (by decide)) (by repeat (first | exact Sels.nil | apply Sels.cons | exact Sel.keep | exact Sel.here | apply Sel.there))) ?_
    rintro _ _ ⟨_, ⟨rfl, rfl⟩, rfl⟩
    refine SL.n1 ?_
    refine SL.nil ?_
    refine SN.seq ?_
    refine SG.seq ?_
    refine SG.region ?_
    refine SL.val rfl rfl (fun w9 F9 S9 s => R.ldBN (cs := (lnC ⟨m2, pt, pn, [(nx, d)]⟩).toArray) rfl (s.cel (by repeat (first | exact SelB.blk | exact SelB.fz | apply SelB.there))) (by rfl)) ?_
    refine SL.step0 rfl (CS.stA (vs := lnC ⟨m2, pt, pn, [(nx, d)]⟩) rfl rfl (by repeat (first | exact Sel.keep | exact Sel.here | apply Sel.there)) (by rfl) (by rfl) (lnC_one ⟨m2, pt, pn, [(nx, d)]⟩)) ?_
    rintro _ _ rfl
    refine SL.nil ?_
    refine SN.seq ?_
    exact SG.retC rfl rfl (by repeat (first | exact Sel.keep | exact Sel.here | apply Sel.there)) (by rfl) ((Imp.sels (by repeat (first | exact Sels.nil | apply Sels.cons | exact Sel.keep | exact Sel.here | apply Sel.there)))) (⟨m2, rfl, rfl⟩)
  refine TW.step rfl rfl rfl rfl (CS.alloc [.pointer none, .int .i64 0, .int .i64 0] rfl) ?_
  rintro _ _ ⟨b7, rfl, rfl⟩
  refine ⟨⟨.inr (fun w9 F9 S9 s => R.ldBN rfl (s.cel (by repeat (first | exact SelB.blk | exact SelB.fz | apply SelB.there))) (by rfl)), trivial⟩, ?_⟩
  refine TW.step rfl rfl rfl rfl (CS.call rfl go50 (SpecS.ofNew (fun w => onewImageDisk_ok w)) (by repeat (first | exact Sels.nil | apply Sels.cons | exact Sel.keep | exact Sel.here | apply Sel.there))) ?_
  rintro _ _ ⟨_, ⟨m2, rfl, rfl⟩, rfl⟩
  refine ⟨⟨.inr (fun w9 F9 S9 s => R.ldBN rfl (s.cel (by repeat (first | exact SelB.blk | exact SelB.fz | apply SelB.there))) (by rfl)), trivial⟩, ?_⟩
  refine TW.n1 ?_
  refine TW.pure rfl rfl rfl rfl (fun w9 => R.buildN (l := [.pointer (some ⟨m2, 0, none⟩), .int .i64 pt, .int .i64 pn]) rfl rfl) ?_
  refine TW.step0 rfl rfl rfl (CS.stA (vs := lnC ⟨m2, pt, pn, []⟩) rfl rfl (by repeat (first | exact Sel.keep | exact Sel.here | apply Sel.there)) (by rfl) (by rfl) (lnC_one ⟨m2, pt, pn, []⟩)) ?_
  rintro _ _ rfl
  refine ⟨⟨.inl (by decide +kernel), trivial⟩, ?_⟩
  refine TW.nil ?_
  refine SN.seq ?_
  refine SG.seq ?_
  refine SG.region ?_
  refine SL.val rfl rfl (fun w9 F9 S9 s => R.fld rfl) ?_
  refine SL.val rfl rfl (fun w9 F9 S9 s => R.ldB (v := .pointer (some ⟨m2, 0, none⟩)) rfl (s.cel (by repeat (first | exact SelB.blk | exact SelB.fz | apply SelB.there))) (by rfl)) ?_
  refine SL.val rfl rfl (fun w9 F9 S9 s => R.mv rfl) ?_
  refine SL.val rfl rfl (fun w9 F9 S9 s => R.mv rfl) ?_
  refine SL.step rfl rfl (CS.call rfl go36 (dputX m2 [] nx d (by decide)) (by repeat (first | exact Sels.nil | apply Sels.cons | exact Sel.keep | exact Sel.here | apply Sel.there))) ?_
  rintro _ _ ⟨_, ⟨rfl, rfl⟩, rfl⟩
  refine SL.n1 ?_
  refine SL.nil ?_
  refine SN.seq ?_
  refine SG.seq ?_
  refine SG.region ?_
  refine SL.val rfl rfl (fun w9 F9 S9 s => R.ldBN (cs := (lnC ⟨m2, pt, pn, [(nx, d)]⟩).toArray) rfl (s.cel (by repeat (first | exact SelB.blk | exact SelB.fz | apply SelB.there))) (by rfl)) ?_
  refine SL.step0 rfl (CS.stA (vs := lnC ⟨m2, pt, pn, [(nx, d)]⟩) rfl rfl (by repeat (first | exact Sel.keep | exact Sel.here | apply Sel.there)) (by rfl) (by rfl) (lnC_one ⟨m2, pt, pn, [(nx, d)]⟩)) ?_
  rintro _ _ rfl
  refine SL.nil ?_
  refine SN.seq ?_
  exact SG.retC rfl rfl (by repeat (first | exact Sel.keep | exact Sel.here | apply Sel.there)) (by rfl) ((Imp.sels (by repeat (first | exact Sels.nil | apply Sels.cons | exact Sel.keep | exact Sel.here | apply Sel.there)))) (⟨m2, rfl, rfl⟩)

end Go.Proofs.Ythdaelmjiaegfaa
/-
  The walks of package model.
-/
set_option linter.unusedVariables false
set_option linter.unusedSimpArgs false
set_option maxRecDepth 4000
namespace Go.Proofs.Ythdaelmjiaegfaa
open Go Brv Brv.Image Brv.Model
def newW (m1 d n : Nat) : Lns := [(1, ⟨m1, 0, 0, [(0, ⟨d, List.replicate (64 * n) 0⟩)]⟩)]
theorem newW_wf (m1 d n : Nat) : Wf (newW m1 d n) 0 := by
  refine ⟨List.pairwise_singleton _ _, by show 1 ≤ 1; omega, fun p hp => ?_, fun _ => 0, fun t x hx => ?_⟩
  · rw [List.mem_singleton.1 hp]
    refine ⟨by show (1 : Int) ≤ 1; omega, List.pairwise_singleton _ _, by show 1 ≤ 1; omega, fun q hq => ?_⟩
    rw [List.mem_singleton.1 hq]
    exact ⟨by show (0 : Int) ≤ 0; omega, by show (0 : Int) ≤ ((0 : Nat) : Int); omega⟩
  · rw [show newW m1 d n = [(1, _)] from rfl, getT_single] at hx
    split at hx
    · cases hx
      exact ⟨by show 0 < 1; omega, fun h => absurd rfl h⟩
    · cases hx
theorem newW_was (m1 d n : Nat) : wasV (newW m1 d n) 1 0 = some ⟨d, List.replicate (64 * n) 0⟩ := by
  unfold wasV
  rw [show newW m1 d n = [(1, _)] from rfl, getT_single, if_pos rfl]
  show getT [((0 : Int), _)] 0 = _
  rw [getT_single, if_pos rfl]
/-- What a commit comes to. -/
def ComR (L : Lns) (tt nn : Int) (d : Dk) (ws : List (Int × List UInt8)) (L' : Lns) (n' a e : Int) : Prop :=
  ((withF d.l ws).2 ≠ 0 ∧ e = (withF d.l ws).2 ∧ a = 0 ∧ L' = L ∧ n' = nn) ∨
  ((withF d.l ws).2 = 0 ∧ (∃ q, wasV L tt (nn + 1) = some q) ∧ e = 52 ∧ a = 0 ∧ L' = L ∧ n' = nn) ∨
  ((withF d.l ws).2 = 0 ∧ wasV L tt (nn + 1) = none ∧ e = 0 ∧ a = nn + 1 ∧ n' = nn + 1 ∧ ∃ x b, getT L tt = some x ∧ L' = addD L tt x (nn + 1) ⟨b, (withF d.l ws).1⟩)
/-- What leaving a timeline comes to. -/
def BraR (L : Lns) (tt nn tx nx ux : Int) (L' : Lns) (t' n' e : Int) : Prop :=
  (AtR (wasV L) (parV L) nx tx none ∧ e = 50 ∧ L' = L ∧ t' = tt ∧ n' = nn) ∨
  (∃ d, AtR (wasV L) (parV L) nx tx (some d) ∧ ((∃ x, getT L ux = some x) ∨ ux < 1) ∧ e = 52 ∧ L' = L ∧ t' = tt ∧ n' = nn) ∨
  (∃ d, AtR (wasV L) (parV L) nx tx (some d) ∧ getT L ux = none ∧ 1 ≤ ux ∧ e = 0 ∧ t' = ux ∧ n' = nx ∧ ∃ m', L' = newL L ux m' tx nx d)

theorem wnew_ok (n : Nat) (h1 : 1 ≤ n) (h2 : n ≤ 64) : SpecS Try.prog 7 [.int .i64 (n : Int)] [] (fun v H' => ∃ p m m1 d, v = .tuple #[.pointer (some ⟨p, 0, none⟩), .int .i64 0] ∧ H' = [blk p [.pointer (some ⟨m, 0, none⟩), .int .i64 1, .int .i64 0] 85, mp (κ := Int) 124 128 3 m (psL (newW m1 d n)), lnA (newW m1 d n), dkS (newW m1 d n)]) := by
  refine SpecS.enter Try.func7 rfl 28 rfl (Nat.le_of_ble_eq_true rfl) (fun o => ?_)
  refine SG.seq ?_
  refine SG.region ?_
  refine SL.val rfl rfl (fun w9 F9 S9 s => R.as rfl) ?_
  refine SL.val rfl rfl (fun w9 F9 S9 s => R.as rfl) ?_
  refine SL.nil ?_
  refine SN.seq ?_
  refine SG.seq ?_
  refine SG.region ?_
  refine SL.val rfl rfl (fun w9 F9 S9 s => R.mv rfl) ?_
  refine SL.step rfl rfl (CS.call rfl go30 (inewS n h1 h2) (by repeat (first | exact Sels.nil | apply Sels.cons | exact Sel.keep | exact Sel.here | apply Sel.there))) ?_
  rintro _ _ ⟨_, ⟨d, rfl, rfl⟩, rfl⟩
  refine SL.n1 ?_
  refine SL.val rfl rfl (fun w9 F9 S9 s => R.mv rfl) ?_
  refine SL.val rfl rfl (fun w9 F9 S9 s => R.ext rfl rfl) ?_
  refine SL.val rfl rfl (fun w9 F9 S9 s => R.ext rfl rfl) ?_
  refine SL.val rfl rfl (fun w9 F9 S9 s => R.as rfl) ?_
  refine SL.val rfl rfl (fun w9 F9 S9 s => R.as rfl) ?_
  refine SL.nil ?_
  refine SN.seq ?_
  refine SG.seq ?_
  refine SG.seq ?_
  refine SG.region ?_
  refine SL.val rfl rfl (fun w9 F9 S9 s => R.mv rfl) ?_
  refine SL.val rfl rfl (fun w9 F9 S9 s => R.neI rfl rfl) ?_
  refine SL.nil ?_
  refine SN.seq ?_
  refine SG.condF rfl ?_
  refine SG.skip ?_
  refine SN.seq ?_
  refine SG.seq ?_
  refine SG.region ?_
  refine SL.step rfl rfl (CS.call rfl go31 (SpecS.ofNew (fun w => onewModelline_ok w)) (by repeat (first | exact Sels.nil | apply Sels.cons | exact Sel.keep | exact Sel.here | apply Sel.there))) ?_
  rintro _ _ ⟨_, ⟨m, rfl, rfl⟩, rfl⟩
  refine SL.n1 ?_
  refine SL.val rfl rfl (fun w9 F9 S9 s => R.buildN (l := [.int .i64 1, .int .i64 0]) rfl rfl) ?_
  refine SL.val rfl rfl (fun w9 F9 S9 s => R.buildN (l := [.pointer (some ⟨m, 0, none⟩), .int .i64 1, .int .i64 0]) rfl rfl) ?_
  refine SL.step rfl rfl (CS.boxA rfl) ?_
  rintro _ _ ⟨b18, rfl, rfl⟩
  refine SL.val rfl rfl (fun w9 F9 S9 s => R.as rfl) ?_
  refine SL.nil ?_
  refine SN.seq ?_
  refine SG.seq ?_
  refine SG.draw [6, 7] [0, 1, 2, 3, 4, 5, 6, 7] (by decide +kernel) rfl ?_
  refine SW.pure rfl rfl rfl rfl (fun w9 => R.mv rfl) ?_
  refine SW.pure rfl rfl rfl rfl (fun w9 => R.nilChk rfl) ?_
  refine SW.pure rfl rfl rfl rfl (fun w9 => R.fld rfl) ?_
  refine SW.read rfl rfl rfl rfl (fun w9 F9 S9 s => R.ldB (v := .pointer (some ⟨m, 0, none⟩)) rfl (s.cel (by repeat (first | exact SelB.blk | exact SelB.fz | apply SelB.there))) (by rfl)) ?_
  refine SW.pure rfl rfl rfl rfl (fun w9 => R.mv rfl) ?_
  refine SW.pure rfl rfl rfl rfl (fun w9 => R.buildN (l := [.int .i64 0, .int .i64 0]) rfl rfl) ?_
  refine SW.step rfl rfl rfl rfl (CS.call rfl go33 (begun_ok 0 0 0 ⟨d, List.replicate (64 * n) 0⟩) (by repeat (first | exact Sels.nil | apply Sels.cons | exact Sel.keep | exact Sel.here | apply Sel.there))) ?_
  rintro _ _ ⟨_, ⟨m1, rfl, rfl⟩, rfl⟩
  refine ⟨⟨.inr (fun w9 F9 S9 s => R.ldB (v := .pointer (some ⟨m, 0, none⟩)) rfl (s.cel (by repeat (first | exact SelB.blk | exact SelB.fz | apply SelB.there))) (by rfl)), trivial⟩, ?_⟩
  refine SW.n1 ?_
  refine SW.step rfl rfl rfl rfl (CS.call rfl go32 (lputX m [] 1 ⟨m1, 0, 0, [(0, ⟨d, List.replicate (64 * n) 0⟩)]⟩ (by decide)) (by repeat (first | exact Sels.nil | apply Sels.cons | exact Sel.keep | exact Sel.here | apply Sel.there))) ?_
  rintro _ _ ⟨_, ⟨rfl, rfl⟩, rfl⟩
  refine ⟨⟨.inl (by decide +kernel), trivial⟩, ?_⟩
  refine SW.n1 ?_
  refine SW.nil ?_
  refine SN.imp ((show Imp _ (lnR [] 1 :: _) from Imp.spNil)) ?_
  refine SN.imp (Imp.lnClose (L := []) (t := 1) (x := ⟨m1, 0, 0, [(0, ⟨d, List.replicate (64 * n) 0⟩)]⟩) (by repeat (first | exact Sel.keep | exact Sel.here | apply Sel.there)) (by repeat (first | exact Sel.keep | exact Sel.here | apply Sel.there)) List.Pairwise.nil) ?_
  refine SN.imp (Imp.weak (p := fun w => DiskAt w d (List.replicate (64 * n) 0)) (q := DkP (newW m1 d n)) (by repeat (first | exact Sel.keep | exact Sel.here | apply Sel.there)) (fun w h q hq e he => by rw [List.mem_singleton.1 hq] at he; rw [List.mem_singleton.1 he]; exact h)) ?_
  refine SN.seq ?_
  refine SG.seq ?_
  refine SG.region ?_
  refine SL.val rfl rfl (fun w9 F9 S9 s => R.mv rfl) ?_
  refine SL.val rfl rfl (fun w9 F9 S9 s => R.as rfl) ?_
  refine SL.val rfl rfl (fun w9 F9 S9 s => R.as rfl) ?_
  refine SL.nil ?_
  refine SN.seq ?_
  exact SG.ret2 rfl rfl rfl ((Imp.sels (by repeat (first | exact Sels.nil | apply Sels.cons | exact Sel.keep | exact Sel.here | apply Sel.there)))) (⟨b18, m, m1, d, rfl, rfl⟩)

theorem wcom_ok (p m : Nat) (L : Lns) (tt nn : Int) (kk : Nat) (d : Dk) (la : Option Addr) (ln lc : Nat) (ws : List WriteV) (hw : Wf L kk) (hk : kk ≤ 9000) (hd : wasV L tt nn = some d) (hln : ln ≤ 1000000) : SpecS Try.prog 8 [.pointer (some ⟨p, 0, none⟩), .slice la ln lc] [blk p [.pointer (some ⟨m, 0, none⟩), .int .i64 tt, .int .i64 nn] 85, mp (κ := Int) 124 128 3 m (psL L), lnA L, dkS L, sh (fun w => WsP w la ln ws)] (fun v H' => ∃ L' n' a e, v = .tuple #[.int .i64 a, .int .i64 e] ∧ ComR L tt nn d (ws.map wv) L' n' a e ∧ H' = [blk p [.pointer (some ⟨m, 0, none⟩), .int .i64 tt, .int .i64 n'] 85, mp (κ := Int) 124 128 3 m (psL L'), lnA L', dkS L']) := by
  refine SpecS.enter Try.func8 rfl 69 rfl (Nat.le_of_ble_eq_true rfl) (fun o => ?_)
  obtain ⟨x, hx, hxd⟩ := was_has hd
  have hnb := (hw.ln _ (getT_some hx)).2.2.2 _ (getT_some hxd)
  have hn0 : 0 ≤ nn := hnb.1
  have hn1 : nn ≤ (kk : Int) := hnb.2
  refine SG.seq ?_
  refine SG.region ?_
  refine SL.val rfl rfl (fun w9 F9 S9 s => R.as rfl) ?_
  refine SL.val rfl rfl (fun w9 F9 S9 s => R.as rfl) ?_
  refine SL.nil ?_
  refine SN.seq ?_
  refine SG.seq ?_
  refine SG.seq ?_
  refine SG.region ?_
  refine SL.val rfl rfl (fun w9 F9 S9 s => R.mv rfl) ?_
  refine SL.val rfl rfl (fun w9 F9 S9 s => R.eqNilP rfl rfl) ?_
  refine SL.nil ?_
  refine SN.seq ?_
  refine SG.condF rfl ?_
  refine SG.skip ?_
  refine SN.seq ?_
  refine SG.seq ?_
  by_cases h0 : (withF d.l (ws.map wv)).2 = 0
  · refine SG.region ?_
    refine SL.val rfl rfl (fun w9 F9 S9 s => R.mv rfl) ?_
    refine SL.step rfl rfl (CS.call rfl go13 (wdisk_ok p m L tt nn kk d hw hk hd) (by repeat (first | exact Sels.nil | apply Sels.cons | exact Sel.keep | exact Sel.here | apply Sel.there))) ?_
    rintro _ _ ⟨_, ⟨rfl, rfl⟩, rfl⟩
    refine SL.n4 ?_
    refine SL.val rfl rfl (fun w9 F9 S9 s => R.mv rfl) ?_
    refine SL.imp (Imp.weak (p := DkP L) (q := fun w => DiskAt w d.b d.l) (show Sel _ (dkS L) _ from (by repeat (first | exact Sel.keep | exact Sel.here | apply Sel.there))) (fun w hw => dkS_one hw hd)) ?_
    refine SL.step rfl rfl (CS.call rfl go15 (iwithS d.b d.l la ln lc ws hln h0) (by repeat (first | exact Sels.nil | apply Sels.cons | exact Sel.keep | exact Sel.here | apply Sel.there))) ?_
    rintro _ _ ⟨_, ⟨b2, rfl, rfl⟩, rfl⟩
    refine SL.n1 ?_
    refine SL.val rfl rfl (fun w9 F9 S9 s => R.mv rfl) ?_
    refine SL.val rfl rfl (fun w9 F9 S9 s => R.ext rfl rfl) ?_
    refine SL.val rfl rfl (fun w9 F9 S9 s => R.ext rfl rfl) ?_
    refine SL.val rfl rfl (fun w9 F9 S9 s => R.as rfl) ?_
    refine SL.val rfl rfl (fun w9 F9 S9 s => R.as rfl) ?_
    refine SL.nil ?_
    refine SN.seq ?_
    refine SG.seq ?_
    refine SG.seq ?_
    refine SG.region ?_
    refine SL.val rfl rfl (fun w9 F9 S9 s => R.mv rfl) ?_
    refine SL.val rfl rfl (fun w9 F9 S9 s => R.neI rfl rfl) ?_
    refine SL.nil ?_
    refine SN.seq ?_
    refine SG.condF rfl ?_
    refine SG.skip ?_
    refine SN.seq ?_
    refine SG.seq ?_
    refine SG.draw [12, 13] [0, 1, 2, 3, 4, 5, 6, 7, 8, 9, 10, 11, 12, 13] (by decide +kernel) rfl ?_
    refine SW.pure rfl rfl rfl rfl (fun w9 => R.mv rfl) ?_
    refine SW.pure rfl rfl rfl rfl (fun w9 => R.nilChk rfl) ?_
    refine SW.pure rfl rfl rfl rfl (fun w9 => R.fld rfl) ?_
    refine SW.pure rfl rfl rfl rfl (fun w9 => R.fld rfl) ?_
    refine SW.read rfl rfl rfl rfl (fun w9 F9 S9 s => R.ldB (v := .int .i64 tt) rfl (s.cel (by repeat (first | exact SelB.blk | exact SelB.fz | apply SelB.there))) (by rfl)) ?_
    refine SW.pure rfl rfl rfl rfl (fun w9 => R.mv rfl) ?_
    refine SW.pure rfl rfl rfl rfl (fun w9 => R.nilChk rfl) ?_
    refine SW.pure rfl rfl rfl rfl (fun w9 => R.fld rfl) ?_
    refine SW.pure rfl rfl rfl rfl (fun w9 => R.fld rfl) ?_
    refine SW.read rfl rfl rfl rfl (fun w9 F9 S9 s => R.ldB (v := .int .i64 nn) rfl (s.cel (by repeat (first | exact SelB.blk | exact SelB.fz | apply SelB.there))) (by rfl)) ?_
    refine SW.pure rfl rfl rfl rfl (fun w9 => R.add rfl rfl (by omega)) ?_
    refine SW.pure rfl rfl rfl rfl (fun w9 => R.buildN (l := [.int .i64 tt, .int .i64 (nn + 1)]) rfl rfl) ?_
    refine SW.step rfl rfl rfl rfl (CS.alloc [.int .i64 0, .int .i64 0] rfl) ?_
    rintro _ _ ⟨b8, rfl, rfl⟩
    refine ⟨⟨.inr (fun w9 F9 S9 s => R.ldB (v := .int .i64 nn) rfl (s.cel (by repeat (first | exact SelB.blk | exact SelB.fz | apply SelB.there))) (by rfl)), ⟨.inr (fun w9 F9 S9 s => R.ldB (v := .int .i64 tt) rfl (s.cel (by repeat (first | exact SelB.blk | exact SelB.fz | apply SelB.there))) (by rfl)), trivial⟩⟩, ?_⟩
    refine SW.step0 rfl rfl rfl (CS.stA (vs := [.int .i64 tt, .int .i64 (nn + 1)]) rfl rfl (by repeat (first | exact Sel.keep | exact Sel.here | apply Sel.there)) (by rfl) (by rfl) (by intro u hu; simp only [List.mem_cons, List.not_mem_nil, or_false] at hu; rcases hu with rfl | rfl <;> rfl)) ?_
    rintro _ _ rfl
    refine ⟨⟨.inl (by decide +kernel), ⟨.inl (by decide +kernel), trivial⟩⟩, ?_⟩
    refine SW.nil ?_
    refine SN.seq ?_
    refine SG.seq ?_
    refine SG.seq ?_
    refine SG.region ?_
    refine SL.val rfl rfl (fun w9 F9 S9 s => R.fld rfl) ?_
    refine SL.val rfl rfl (fun w9 F9 S9 s => R.ldB (v := .int .i64 (nn + 1)) rfl (s.cel (by repeat (first | exact SelB.blk | exact SelB.fz | apply SelB.there))) (by rfl)) ?_
    refine SL.val rfl rfl (fun w9 F9 S9 s => R.gtr rfl rfl) ?_
    refine SL.nil ?_
    refine SN.seq ?_
    refine SG.condP rfl (fun h2 => ?_) (fun h2 => ?_)
    · exfalso; omega
    · refine SG.skip ?_
      refine SN.seq ?_
      refine SG.seq ?_
      refine SG.seq ?_
      rcases hq : wasV L tt (nn + 1) with _ | q
      · refine SG.region ?_
        refine SL.val rfl rfl (fun w9 F9 S9 s => R.mv rfl) ?_
        refine SL.val rfl rfl (fun w9 F9 S9 s => R.ldBN (cs := #[.int .i64 tt, .int .i64 (nn + 1)]) rfl (s.cel (by repeat (first | exact SelB.blk | exact SelB.fz | apply SelB.there))) (by rfl)) ?_
        refine SL.step rfl rfl (CS.call rfl go34 (wwasE p m L tt nn kk tt (nn + 1) hw hk none hq) (by repeat (first | exact Sels.nil | apply Sels.cons | exact Sel.keep | exact Sel.here | apply Sel.there))) ?_
        rintro _ _ ⟨_, ⟨rfl, rfl⟩, rfl⟩
        refine SL.n4 ?_
        refine SL.val rfl rfl (fun w9 F9 S9 s => R.mv rfl) ?_
        refine SL.val rfl rfl (fun w9 F9 S9 s => R.ext rfl rfl) ?_
        refine SL.val rfl rfl (fun w9 F9 S9 s => R.ext rfl rfl) ?_
        refine SL.val rfl rfl (fun w9 F9 S9 s => R.as rfl) ?_
        refine SL.val rfl rfl (fun w9 F9 S9 s => R.as rfl) ?_
        refine SL.nil ?_
        refine SN.seq ?_
        refine SG.seq ?_
        refine SG.region ?_
        refine SL.val rfl rfl (fun w9 F9 S9 s => R.mv rfl) ?_
        refine SL.nil ?_
        refine SN.seq ?_
        refine SG.condF rfl ?_
        refine SG.skip ?_
        refine SN.seq ?_
        refine SG.seq ?_
        refine SG.drawT (.flo 0 (.flo 1 (.flo 2 (.flo 3 (.flo 4 (.flo 5 (.alt 6 (.flo 7 (.flo 8 (.flo 9 (.alt 10 (.alt 11 (.flo 12 .nil) .stop) .stop)))) (.alt 10 (.alt 6 (.flo 7 (.flo 8 (.flo 9 (.alt 11 (.flo 12 .nil) .stop)))) .stop) .stop)))))))) (by decide +kernel) rfl ?_
        refine TW.pure rfl rfl rfl rfl (fun w9 => R.mv rfl) ?_
        refine TW.pure rfl rfl rfl rfl (fun w9 => R.nilChk rfl) ?_
        refine TW.pure rfl rfl rfl rfl (fun w9 => R.fld rfl) ?_
        refine TW.read rfl rfl rfl rfl (fun w9 F9 S9 s => R.ldB (v := .pointer (some ⟨m, 0, none⟩)) rfl (s.cel (by repeat (first | exact SelB.blk | exact SelB.fz | apply SelB.there))) (by rfl)) ?_
        refine TW.pure rfl rfl rfl rfl (fun w9 => R.fld rfl) ?_
        refine TW.read rfl rfl rfl rfl (fun w9 F9 S9 s => R.ldB (v := .int .i64 tt) rfl (s.cel (by repeat (first | exact SelB.blk | exact SelB.fz | apply SelB.there))) (by rfl)) ?_
        refine TW.or ?_ ?_
        · refine TW.step rfl rfl rfl rfl (CS.callR rfl go35 (fun w9 F9 S9 s => (s.mp (show Sel _ (mp (κ := Int) 124 128 3 m (psL L)) _ from (by repeat (first | exact Sel.keep | exact Sel.here | apply Sel.there)))).elim fun S9 h9 => lgetS m L tt x S9 w9 h9 (by have := hw.len; omega) hx)) ?_
          rintro _ _ ⟨rfl, rfl⟩
          refine ⟨⟨.inl (by decide +kernel), ⟨.inl (by decide +kernel), trivial⟩⟩, ?_⟩
          refine TW.pure rfl rfl rfl rfl (fun w9 => R.mv rfl) ?_
          refine TW.pure rfl rfl rfl rfl (fun w9 => R.ext rfl rfl) ?_
          refine TW.pure rfl rfl rfl rfl (fun w9 => R.ext rfl rfl) ?_
          refine TW.step rfl rfl rfl rfl (CS.alloc [.pointer none, .int .i64 0, .int .i64 0] rfl) ?_
          rintro _ _ ⟨b11, rfl, rfl⟩
          refine ⟨⟨.inr (fun w9 F9 S9 s => R.ldB (v := .int .i64 tt) rfl (s.cel (by repeat (first | exact SelB.blk | exact SelB.fz | apply SelB.there))) (by rfl)), ⟨.inr (fun w9 F9 S9 s => R.ldB (v := .pointer (some ⟨m, 0, none⟩)) rfl (s.cel (by repeat (first | exact SelB.blk | exact SelB.fz | apply SelB.there))) (by rfl)), trivial⟩⟩, ?_⟩
          refine TW.step0 rfl rfl rfl (CS.stA (vs := lnC x) rfl rfl (by repeat (first | exact Sel.keep | exact Sel.here | apply Sel.there)) (by rfl) (by rfl) (lnC_one x)) ?_
          rintro _ _ rfl
          refine ⟨⟨.inl (by decide +kernel), ⟨.inl (by decide +kernel), trivial⟩⟩, ?_⟩
          refine TW.pure rfl rfl rfl rfl (fun w9 => R.as rfl) ?_
          refine TW.nil ?_
          refine SN.seq ?_
          refine SG.seq ?_
          refine SG.region ?_
          refine SL.val rfl rfl (fun w9 F9 S9 s => R.fld rfl) ?_
          refine SL.val rfl rfl (fun w9 F9 S9 s => R.ldB (v := .pointer (some ⟨x.m, 0, none⟩)) rfl (s.cel (by repeat (first | exact SelB.blk | exact SelB.fz | apply SelB.there))) (by rfl)) ?_
          refine SL.val rfl rfl (fun w9 F9 S9 s => R.fld rfl) ?_
          refine SL.val rfl rfl (fun w9 F9 S9 s => R.ldB (v := .int .i64 (nn + 1)) rfl (s.cel (by repeat (first | exact SelB.blk | exact SelB.fz | apply SelB.there))) (by rfl)) ?_
          refine SL.val rfl rfl (fun w9 F9 S9 s => R.mv rfl) ?_
          refine SL.imp (Imp.lnOpen (by repeat (first | exact Sel.keep | exact Sel.here | apply Sel.there)) hw.srt hx) ?_
          refine SL.step rfl rfl (CS.call rfl go36 (dputX x.m x.ds (nn + 1) ⟨b2, (withF d.l (ws.map wv)).1⟩ (by have := ds_len hw hx; omega)) (by repeat (first | exact Sels.nil | apply Sels.cons | exact Sel.keep | exact Sel.here | apply Sel.there))) ?_
          rintro _ _ ⟨_, ⟨rfl, rfl⟩, rfl⟩
          refine SL.n1 ?_
          refine SL.nil ?_
          refine SN.imp (Imp.lnClose (L := L) (t := tt) (x := { x with ds := putT x.ds (nn + 1) ⟨b2, (withF d.l (ws.map wv)).1⟩ }) (by repeat (first | exact Sel.keep | exact Sel.here | apply Sel.there)) (by repeat (first | exact Sel.keep | exact Sel.here | apply Sel.there)) hw.srt) ?_
          refine SN.seq ?_
          refine SG.seq ?_
          refine SG.region ?_
          refine SL.val rfl rfl (fun w9 F9 S9 s => R.mv rfl) ?_
          refine SL.val rfl rfl (fun w9 F9 S9 s => R.ldBN (cs := #[.int .i64 tt, .int .i64 (nn + 1)]) rfl (s.cel (by repeat (first | exact SelB.blk | exact SelB.fz | apply SelB.there))) (by rfl)) ?_
          refine SL.val rfl rfl (fun w9 F9 S9 s => R.nilChk rfl) ?_
          refine SL.val rfl rfl (fun w9 F9 S9 s => R.fld rfl) ?_
          refine SL.step0 rfl (CS.stN (k := 1) (vs := [.int .i64 tt, .int .i64 (nn + 1)]) (cs' := [.pointer (some ⟨m, 0, none⟩), .int .i64 tt, .int .i64 (nn + 1)]) rfl rfl (show Sel _ (blk p _ _) _ from (by repeat (first | exact Sel.keep | exact Sel.here | apply Sel.there))) rfl (by show 1 + 2 ≤ 3; decide) (by intro u hu; simp only [List.mem_cons, List.not_mem_nil, or_false] at hu; rcases hu with rfl | rfl <;> rfl) rfl) ?_
          rintro _ _ rfl
          refine SL.nil ?_
          refine SN.seq ?_
          refine SG.seq ?_
          refine SG.region ?_
          refine SL.val rfl rfl (fun w9 F9 S9 s => R.fld rfl) ?_
          refine SL.val rfl rfl (fun w9 F9 S9 s => R.ldB (v := .int .i64 (nn + 1)) rfl (s.cel (by repeat (first | exact SelB.blk | exact SelB.fz | apply SelB.there))) (by rfl)) ?_
          refine SL.val rfl rfl (fun w9 F9 S9 s => R.as rfl) ?_
          refine SL.val rfl rfl (fun w9 F9 S9 s => R.as rfl) ?_
          refine SL.nil ?_
          refine SN.imp (Imp.both (p := DkP L) (q := fun w => DiskAt w b2 (withF d.l (ws.map wv)).1) (show Sel _ (dkS L) _ from (by repeat (first | exact Sel.keep | exact Sel.here | apply Sel.there))) (by repeat (first | exact Sel.keep | exact Sel.here | apply Sel.there))) ?_
          refine SN.imp (Imp.weak (p := fun w => DkP L w ∧ DiskAt w b2 (withF d.l (ws.map wv)).1) (q := DkP (addD L tt x (nn + 1) ⟨b2, (withF d.l (ws.map wv)).1⟩)) (by repeat (first | exact Sel.keep | exact Sel.here | apply Sel.there)) (fun w h => dkS_put h.1 (fun e he => (mem_putT he).elim (fun e1 => by rw [e1]; exact h.2) (h.1 _ (getT_some hx) e)))) ?_
          refine SN.imp (Imp.same (A := mp (κ := Int) 124 128 3 m (psL L)) (B := mp (κ := Int) 124 128 3 m (psL (addD L tt x (nn + 1) ⟨b2, (withF d.l (ws.map wv)).1⟩))) (by repeat (first | exact Sel.keep | exact Sel.here | apply Sel.there)) (fun F S w h => by rw [psL_add hw.srt hx]; exact h)) ?_
          refine SN.seq ?_
          exact SG.ret2 rfl rfl rfl ((Imp.sels (by repeat (first | exact Sels.nil | apply Sels.cons | exact Sel.keep | exact Sel.here | apply Sel.there)))) (⟨(addD L tt x (nn + 1) ⟨b2, (withF d.l (ws.map wv)).1⟩), nn + 1, nn + 1, 0, rfl, .inr (.inr ⟨h0, hq, rfl, rfl, rfl, x, b2, hx, rfl⟩), rfl⟩)
        refine TW.step rfl rfl rfl rfl (CS.alloc [.pointer none, .int .i64 0, .int .i64 0] rfl) ?_
        rintro _ _ ⟨b11, rfl, rfl⟩
        refine ⟨⟨.inr (fun w9 F9 S9 s => R.ldB (v := .int .i64 tt) rfl (s.cel (by repeat (first | exact SelB.blk | exact SelB.fz | apply SelB.there))) (by rfl)), ⟨.inr (fun w9 F9 S9 s => R.ldB (v := .pointer (some ⟨m, 0, none⟩)) rfl (s.cel (by repeat (first | exact SelB.blk | exact SelB.fz | apply SelB.there))) (by rfl)), trivial⟩⟩, ?_⟩
        refine TW.step rfl rfl rfl rfl (CS.callR rfl go35 (fun w9 F9 S9 s => (s.mp (show Sel _ (mp (κ := Int) 124 128 3 m (psL L)) _ from (by repeat (first | exact Sel.keep | exact Sel.here | apply Sel.there)))).elim fun S9 h9 => lgetS m L tt x S9 w9 h9 (by have := hw.len; omega) hx)) ?_
        rintro _ _ ⟨rfl, rfl⟩
        refine ⟨⟨.inl (by decide +kernel), ⟨.inl (by decide +kernel), trivial⟩⟩, ?_⟩
        refine TW.pure rfl rfl rfl rfl (fun w9 => R.mv rfl) ?_
        refine TW.pure rfl rfl rfl rfl (fun w9 => R.ext rfl rfl) ?_
        refine TW.pure rfl rfl rfl rfl (fun w9 => R.ext rfl rfl) ?_
        refine TW.step0 rfl rfl rfl (CS.stA (vs := lnC x) rfl rfl (by repeat (first | exact Sel.keep | exact Sel.here | apply Sel.there)) (by rfl) (by rfl) (lnC_one x)) ?_
        rintro _ _ rfl
        refine ⟨⟨.inl (by decide +kernel), ⟨.inl (by decide +kernel), trivial⟩⟩, ?_⟩
        refine TW.pure rfl rfl rfl rfl (fun w9 => R.as rfl) ?_
        refine TW.nil ?_
        refine SN.seq ?_
        refine SG.seq ?_
        refine SG.region ?_
        refine SL.val rfl rfl (fun w9 F9 S9 s => R.fld rfl) ?_
        refine SL.val rfl rfl (fun w9 F9 S9 s => R.ldB (v := .pointer (some ⟨x.m, 0, none⟩)) rfl (s.cel (by repeat (first | exact SelB.blk | exact SelB.fz | apply SelB.there))) (by rfl)) ?_
        refine SL.val rfl rfl (fun w9 F9 S9 s => R.fld rfl) ?_
        refine SL.val rfl rfl (fun w9 F9 S9 s => R.ldB (v := .int .i64 (nn + 1)) rfl (s.cel (by repeat (first | exact SelB.blk | exact SelB.fz | apply SelB.there))) (by rfl)) ?_
        refine SL.val rfl rfl (fun w9 F9 S9 s => R.mv rfl) ?_
        refine SL.imp (Imp.lnOpen (by repeat (first | exact Sel.keep | exact Sel.here | apply Sel.there)) hw.srt hx) ?_
        refine SL.step rfl rfl (CS.call rfl go36 (dputX x.m x.ds (nn + 1) ⟨b2, (withF d.l (ws.map wv)).1⟩ (by have := ds_len hw hx; omega)) (by repeat (first | exact Sels.nil | apply Sels.cons | exact Sel.keep | exact Sel.here | apply Sel.there))) ?_
        rintro _ _ ⟨_, ⟨rfl, rfl⟩, rfl⟩
        refine SL.n1 ?_
        refine SL.nil ?_
        refine SN.imp (Imp.lnClose (L := L) (t := tt) (x := { x with ds := putT x.ds (nn + 1) ⟨b2, (withF d.l (ws.map wv)).1⟩ }) (by repeat (first | exact Sel.keep | exact Sel.here | apply Sel.there)) (by repeat (first | exact Sel.keep | exact Sel.here | apply Sel.there)) hw.srt) ?_
        refine SN.seq ?_
        refine SG.seq ?_
        refine SG.region ?_
        refine SL.val rfl rfl (fun w9 F9 S9 s => R.mv rfl) ?_
        refine SL.val rfl rfl (fun w9 F9 S9 s => R.ldBN (cs := #[.int .i64 tt, .int .i64 (nn + 1)]) rfl (s.cel (by repeat (first | exact SelB.blk | exact SelB.fz | apply SelB.there))) (by rfl)) ?_
        refine SL.val rfl rfl (fun w9 F9 S9 s => R.nilChk rfl) ?_
        refine SL.val rfl rfl (fun w9 F9 S9 s => R.fld rfl) ?_
        refine SL.step0 rfl (CS.stN (k := 1) (vs := [.int .i64 tt, .int .i64 (nn + 1)]) (cs' := [.pointer (some ⟨m, 0, none⟩), .int .i64 tt, .int .i64 (nn + 1)]) rfl rfl (show Sel _ (blk p _ _) _ from (by repeat (first | exact Sel.keep | exact Sel.here | apply Sel.there))) rfl (by show 1 + 2 ≤ 3; decide) (by intro u hu; simp only [List.mem_cons, List.not_mem_nil, or_false] at hu; rcases hu with rfl | rfl <;> rfl) rfl) ?_
        rintro _ _ rfl
        refine SL.nil ?_
        refine SN.seq ?_
        refine SG.seq ?_
        refine SG.region ?_
        refine SL.val rfl rfl (fun w9 F9 S9 s => R.fld rfl) ?_
        refine SL.val rfl rfl (fun w9 F9 S9 s => R.ldB (v := .int .i64 (nn + 1)) rfl (s.cel (by repeat (first | exact SelB.blk | exact SelB.fz | apply SelB.there))) (by rfl)) ?_
        refine SL.val rfl rfl (fun w9 F9 S9 s => R.as rfl) ?_
        refine SL.val rfl rfl (fun w9 F9 S9 s => R.as rfl) ?_
        refine SL.nil ?_
        refine SN.imp (Imp.both (p := DkP L) (q := fun w => DiskAt w b2 (withF d.l (ws.map wv)).1) (show Sel _ (dkS L) _ from (by repeat (first | exact Sel.keep | exact Sel.here | apply Sel.there))) (by repeat (first | exact Sel.keep | exact Sel.here | apply Sel.there))) ?_
        refine SN.imp (Imp.weak (p := fun w => DkP L w ∧ DiskAt w b2 (withF d.l (ws.map wv)).1) (q := DkP (addD L tt x (nn + 1) ⟨b2, (withF d.l (ws.map wv)).1⟩)) (by repeat (first | exact Sel.keep | exact Sel.here | apply Sel.there)) (fun w h => dkS_put h.1 (fun e he => (mem_putT he).elim (fun e1 => by rw [e1]; exact h.2) (h.1 _ (getT_some hx) e)))) ?_
        refine SN.imp (Imp.same (A := mp (κ := Int) 124 128 3 m (psL L)) (B := mp (κ := Int) 124 128 3 m (psL (addD L tt x (nn + 1) ⟨b2, (withF d.l (ws.map wv)).1⟩))) (by repeat (first | exact Sel.keep | exact Sel.here | apply Sel.there)) (fun F S w h => by rw [psL_add hw.srt hx]; exact h)) ?_
        refine SN.seq ?_
        exact SG.ret2 rfl rfl rfl ((Imp.sels (by repeat (first | exact Sels.nil | apply Sels.cons | exact Sel.keep | exact Sel.here | apply Sel.there)))) (⟨(addD L tt x (nn + 1) ⟨b2, (withF d.l (ws.map wv)).1⟩), nn + 1, nn + 1, 0, rfl, .inr (.inr ⟨h0, hq, rfl, rfl, rfl, x, b2, hx, rfl⟩), rfl⟩)
      · refine SG.region ?_
        refine SL.val rfl rfl (fun w9 F9 S9 s => R.mv rfl) ?_
        refine SL.val rfl rfl (fun w9 F9 S9 s => R.ldBN (cs := #[.int .i64 tt, .int .i64 (nn + 1)]) rfl (s.cel (by repeat (first | exact SelB.blk | exact SelB.fz | apply SelB.there))) (by rfl)) ?_
        refine SL.step rfl rfl (CS.call rfl go34 (wwasE p m L tt nn kk tt (nn + 1) hw hk (some q) hq) (by repeat (first | exact Sels.nil | apply Sels.cons | exact Sel.keep | exact Sel.here | apply Sel.there))) ?_
        rintro _ _ ⟨_, ⟨rfl, rfl⟩, rfl⟩
        refine SL.n4 ?_
        refine SL.val rfl rfl (fun w9 F9 S9 s => R.mv rfl) ?_
        refine SL.val rfl rfl (fun w9 F9 S9 s => R.ext rfl rfl) ?_
        refine SL.val rfl rfl (fun w9 F9 S9 s => R.ext rfl rfl) ?_
        refine SL.val rfl rfl (fun w9 F9 S9 s => R.as rfl) ?_
        refine SL.val rfl rfl (fun w9 F9 S9 s => R.as rfl) ?_
        refine SL.nil ?_
        refine SN.seq ?_
        refine SG.seq ?_
        refine SG.region ?_
        refine SL.val rfl rfl (fun w9 F9 S9 s => R.mv rfl) ?_
        refine SL.nil ?_
        refine SN.seq ?_
        refine SG.condT rfl ?_
        refine SG.seq ?_
        refine SG.region ?_
        refine SL.val rfl rfl (fun w9 F9 S9 s => R.as rfl) ?_
        refine SL.val rfl rfl (fun w9 F9 S9 s => R.as rfl) ?_
        refine SL.nil ?_
        refine SN.seq ?_
        exact SG.ret2 rfl rfl rfl ((Imp.sels (by repeat (first | exact Sels.nil | apply Sels.cons | exact Sel.keep | exact Sel.here | apply Sel.there)))) (⟨L, nn, 0, 52, rfl, .inr (.inl ⟨h0, ⟨q, hq⟩, rfl, rfl, rfl, rfl⟩), rfl⟩)
  · refine SG.region ?_
    refine SL.val rfl rfl (fun w9 F9 S9 s => R.mv rfl) ?_
    refine SL.step rfl rfl (CS.call rfl go13 (wdisk_ok p m L tt nn kk d hw hk hd) (by repeat (first | exact Sels.nil | apply Sels.cons | exact Sel.keep | exact Sel.here | apply Sel.there))) ?_
    rintro _ _ ⟨_, ⟨rfl, rfl⟩, rfl⟩
    refine SL.n4 ?_
    refine SL.val rfl rfl (fun w9 F9 S9 s => R.mv rfl) ?_
    refine SL.step rfl rfl (CS.callR rfl go15 (fun w9 F9 S9 s => iwithR d.b d.l la ln lc ws hln h0 w9 (dkS_one (s.sh (p := DkP L) (show Sel _ (dkS L) _ from (by repeat (first | exact Sel.keep | exact Sel.here | apply Sel.there)))) hd) (s.sh (p := fun w => WsP w la ln ws) (by repeat (first | exact Sel.keep | exact Sel.here | apply Sel.there))))) ?_
    rintro _ _ ⟨rfl, rfl⟩
    refine SL.val rfl rfl (fun w9 F9 S9 s => R.mv rfl) ?_
    refine SL.val rfl rfl (fun w9 F9 S9 s => R.ext rfl rfl) ?_
    refine SL.val rfl rfl (fun w9 F9 S9 s => R.ext rfl rfl) ?_
    refine SL.val rfl rfl (fun w9 F9 S9 s => R.as rfl) ?_
    refine SL.val rfl rfl (fun w9 F9 S9 s => R.as rfl) ?_
    refine SL.nil ?_
    refine SN.seq ?_
    refine SG.seq ?_
    refine SG.seq ?_
    refine SG.region ?_
    refine SL.val rfl rfl (fun w9 F9 S9 s => R.mv rfl) ?_
    refine SL.val rfl rfl (fun w9 F9 S9 s => R.neI rfl rfl) ?_
    refine SL.nil ?_
    refine SN.seq ?_
    refine SG.condP rfl (fun h1 => ?_) (fun h1 => ?_)
    · refine SG.seq ?_
      refine SG.region ?_
      refine SL.val rfl rfl (fun w9 F9 S9 s => R.mv rfl) ?_
      refine SL.val rfl rfl (fun w9 F9 S9 s => R.as rfl) ?_
      refine SL.val rfl rfl (fun w9 F9 S9 s => R.as rfl) ?_
      refine SL.nil ?_
      refine SN.seq ?_
      exact SG.ret2 rfl rfl rfl ((Imp.sels (by repeat (first | exact Sels.nil | apply Sels.cons | exact Sel.keep | exact Sel.here | apply Sel.there)))) (⟨L, nn, 0, _, rfl, .inl ⟨h0, rfl, rfl, rfl, rfl⟩, rfl⟩)
    · exact (h1 h0).elim

end Go.Proofs.Ythdaelmjiaegfaa
/-
  The walks of package model.
-/
set_option linter.unusedVariables false
set_option linter.unusedSimpArgs false
set_option maxRecDepth 4000
namespace Go.Proofs.Ythdaelmjiaegfaa
open Go Brv Brv.Image Brv.Model
theorem wbra_ok (p m : Nat) (L : Lns) (tt nn : Int) (kk : Nat) (tx nx ux : Int) (hw : Wf L kk) (hk : kk ≤ 9000) : SpecS Try.prog 9 [.pointer (some ⟨p, 0, none⟩), .int .i64 tx, .int .i64 nx, .int .i64 ux] [blk p [.pointer (some ⟨m, 0, none⟩), .int .i64 tt, .int .i64 nn] 85, mp (κ := Int) 124 128 3 m (psL L), lnA L, dkS L] (fun v H' => ∃ L' t' n' e, v = .int .i64 e ∧ BraR L tt nn tx nx ux L' t' n' e ∧ H' = [blk p [.pointer (some ⟨m, 0, none⟩), .int .i64 t', .int .i64 n'] 85, mp (κ := Int) 124 128 3 m (psL L'), lnA L', dkS L']) := by
  refine SpecS.enter Try.func9 rfl 56 rfl (Nat.le_of_ble_eq_true rfl) (fun o => ?_)
  obtain ⟨rk, hrk⟩ := hw.rk
  obtain ⟨r, hr⟩ := at_ex hrk nx (rk tx) tx (Nat.le_refl _)
  refine SG.seq ?_
  refine SG.region ?_
  refine SL.val rfl rfl (fun w9 F9 S9 s => R.as rfl) ?_
  refine SL.nil ?_
  refine SN.seq ?_
  refine SG.seq ?_
  refine SG.seq ?_
  refine SG.region ?_
  refine SL.val rfl rfl (fun w9 F9 S9 s => R.mv rfl) ?_
  refine SL.val rfl rfl (fun w9 F9 S9 s => R.eqNilP rfl rfl) ?_
  refine SL.nil ?_
  refine SN.seq ?_
  refine SG.condF rfl ?_
  refine SG.skip ?_
  refine SN.seq ?_
  refine SG.seq ?_
  rcases r with _ | d
  · refine SG.region ?_
    refine SL.val rfl rfl (fun w9 F9 S9 s => R.mv rfl) ?_
    refine SL.val rfl rfl (fun w9 F9 S9 s => R.mv rfl) ?_
    refine SL.val rfl rfl (fun w9 F9 S9 s => R.mv rfl) ?_
    refine SL.step rfl rfl (CS.call rfl go14 (watE p m L tt nn kk tx nx hw hk none hr) (by repeat (first | exact Sels.nil | apply Sels.cons | exact Sel.keep | exact Sel.here | apply Sel.there))) ?_
    rintro _ _ ⟨_, ⟨rfl, rfl⟩, rfl⟩
    refine SL.n4 ?_
    refine SL.val rfl rfl (fun w9 F9 S9 s => R.mv rfl) ?_
    refine SL.val rfl rfl (fun w9 F9 S9 s => R.ext rfl rfl) ?_
    refine SL.val rfl rfl (fun w9 F9 S9 s => R.ext rfl rfl) ?_
    refine SL.val rfl rfl (fun w9 F9 S9 s => R.as rfl) ?_
    refine SL.val rfl rfl (fun w9 F9 S9 s => R.as rfl) ?_
    refine SL.nil ?_
    refine SN.seq ?_
    refine SG.seq ?_
    refine SG.seq ?_
    refine SG.region ?_
    refine SL.val rfl rfl (fun w9 F9 S9 s => R.mv rfl) ?_
    refine SL.val rfl rfl (fun w9 F9 S9 s => R.not rfl) ?_
    refine SL.nil ?_
    refine SN.seq ?_
    refine SG.condT rfl ?_
    refine SG.seq ?_
    refine SG.region ?_
    refine SL.val rfl rfl (fun w9 F9 S9 s => R.as rfl) ?_
    refine SL.nil ?_
    refine SN.seq ?_
    exact SG.ret1 rfl rfl ((Imp.sels (by repeat (first | exact Sels.nil | apply Sels.cons | exact Sel.keep | exact Sel.here | apply Sel.there)))) (⟨L, tt, nn, 50, rfl, .inl ⟨hr, rfl, rfl, rfl, rfl⟩, rfl⟩)
  · refine SG.region ?_
    refine SL.val rfl rfl (fun w9 F9 S9 s => R.mv rfl) ?_
    refine SL.val rfl rfl (fun w9 F9 S9 s => R.mv rfl) ?_
    refine SL.val rfl rfl (fun w9 F9 S9 s => R.mv rfl) ?_
    refine SL.step rfl rfl (CS.call rfl go14 (watE p m L tt nn kk tx nx hw hk (some d) hr) (by repeat (first | exact Sels.nil | apply Sels.cons | exact Sel.keep | exact Sel.here | apply Sel.there))) ?_
    rintro _ _ ⟨_, ⟨rfl, rfl⟩, rfl⟩
    refine SL.n4 ?_
    refine SL.val rfl rfl (fun w9 F9 S9 s => R.mv rfl) ?_
    refine SL.val rfl rfl (fun w9 F9 S9 s => R.ext rfl rfl) ?_
    refine SL.val rfl rfl (fun w9 F9 S9 s => R.ext rfl rfl) ?_
    refine SL.val rfl rfl (fun w9 F9 S9 s => R.as rfl) ?_
    refine SL.val rfl rfl (fun w9 F9 S9 s => R.as rfl) ?_
    refine SL.nil ?_
    refine SN.seq ?_
    refine SG.seq ?_
    refine SG.seq ?_
    refine SG.region ?_
    refine SL.val rfl rfl (fun w9 F9 S9 s => R.mv rfl) ?_
    refine SL.val rfl rfl (fun w9 F9 S9 s => R.not rfl) ?_
    refine SL.nil ?_
    refine SN.seq ?_
    refine SG.condF rfl ?_
    refine SG.skip ?_
    refine SN.seq ?_
    refine SG.seq ?_
    refine SG.seq ?_
    rcases hg : getT L ux with _ | y
    · refine SG.region ?_
      refine SL.val rfl rfl (fun w9 F9 S9 s => R.mv rfl) ?_
      refine SL.val rfl rfl (fun w9 F9 S9 s => R.nilChk rfl) ?_
      refine SL.val rfl rfl (fun w9 F9 S9 s => R.fld rfl) ?_
      refine SL.val rfl rfl (fun w9 F9 S9 s => R.ldB (v := .pointer (some ⟨m, 0, none⟩)) rfl (s.cel (by repeat (first | exact SelB.blk | exact SelB.fz | apply SelB.there))) (by rfl)) ?_
      refine SL.val rfl rfl (fun w9 F9 S9 s => R.mv rfl) ?_
      refine SL.step rfl rfl (CS.callR rfl go35 (fun w9 F9 S9 s => (s.mp (show Sel _ (mp (κ := Int) 124 128 3 m (psL L)) _ from (by repeat (first | exact Sel.keep | exact Sel.here | apply Sel.there)))).elim fun S9 h9 => lgetN m L ux S9 w9 h9 (by have := hw.len; omega) hg)) ?_
      rintro _ _ ⟨rfl, rfl⟩
      refine SL.val rfl rfl (fun w9 F9 S9 s => R.mv rfl) ?_
      refine SL.val rfl rfl (fun w9 F9 S9 s => R.ext rfl rfl) ?_
      refine SL.val rfl rfl (fun w9 F9 S9 s => R.ext rfl rfl) ?_
      refine SL.step rfl rfl (CS.alloc [.pointer none, .int .i64 0, .int .i64 0] rfl) ?_
      rintro _ _ ⟨b11, rfl, rfl⟩
      refine SL.step0 rfl (CS.stA (vs := [.pointer none, .int .i64 0, .int .i64 0]) rfl rfl (by repeat (first | exact Sel.keep | exact Sel.here | apply Sel.there)) (by rfl) (by rfl) (by intro u hu; simp only [List.mem_cons, List.not_mem_nil, or_false] at hu; rcases hu with rfl | rfl | rfl <;> rfl)) ?_
      rintro _ _ rfl
      refine SL.val rfl rfl (fun w9 F9 S9 s => R.as rfl) ?_
      refine SL.nil ?_
      refine SN.seq ?_
      refine SG.seq ?_
      refine SG.region ?_
      refine SL.val rfl rfl (fun w9 F9 S9 s => R.mv rfl) ?_
      refine SL.val rfl rfl (fun w9 F9 S9 s => R.mv rfl) ?_
      refine SL.isF 34 rfl (rfl) ?_
      refine SL.val rfl rfl (fun w9 F9 S9 s => R.mv rfl) ?_
      refine SL.val rfl rfl (fun w9 F9 S9 s => R.lss rfl rfl) ?_
      first | refine SL.val rfl rfl (fun w9 F9 S9 s => R.pickT rfl rfl) ?_ | refine SL.val rfl rfl (fun w9 F9 S9 s => R.pickF rfl rfl) ?_
      refine SL.nil ?_
      refine SN.seq ?_
      refine SG.condP rfl (fun h2 => ?_) (fun h2 => ?_)
      · refine SG.seq ?_
        refine SG.region ?_
        refine SL.val rfl rfl (fun w9 F9 S9 s => R.as rfl) ?_
        refine SL.nil ?_
        refine SN.seq ?_
        exact SG.ret1 rfl rfl ((Imp.sels (by repeat (first | exact Sels.nil | apply Sels.cons | exact Sel.keep | exact Sel.here | apply Sel.there)))) (⟨L, tt, nn, 52, rfl, .inr (.inl ⟨d, hr, .inr h2, rfl, rfl, rfl, rfl⟩), rfl⟩)
      · refine SG.skip ?_
        refine SN.seq ?_
        refine SG.seq ?_
        refine SG.draw [10, 11] [0, 1, 2, 3, 4, 5, 6, 7, 8, 9, 10, 11] (by decide +kernel) rfl ?_
        refine SW.pure rfl rfl rfl rfl (fun w9 => R.mv rfl) ?_
        refine SW.pure rfl rfl rfl rfl (fun w9 => R.nilChk rfl) ?_
        refine SW.pure rfl rfl rfl rfl (fun w9 => R.fld rfl) ?_
        refine SW.read rfl rfl rfl rfl (fun w9 F9 S9 s => R.ldB (v := .pointer (some ⟨m, 0, none⟩)) rfl (s.cel (by repeat (first | exact SelB.blk | exact SelB.fz | apply SelB.there))) (by rfl)) ?_
        refine SW.pure rfl rfl rfl rfl (fun w9 => R.mv rfl) ?_
        refine SW.pure rfl rfl rfl rfl (fun w9 => R.mv rfl) ?_
        refine SW.pure rfl rfl rfl rfl (fun w9 => R.mv rfl) ?_
        refine SW.pure rfl rfl rfl rfl (fun w9 => R.mv rfl) ?_
        refine SW.pure rfl rfl rfl rfl (fun w9 => R.mv rfl) ?_
        refine SW.pure rfl rfl rfl rfl (fun w9 => R.buildN (l := [.int .i64 tx, .int .i64 nx]) rfl rfl) ?_
        refine SW.step rfl rfl rfl rfl (CS.call rfl go33 (begun_ok nx tx nx d) (by repeat (first | exact Sels.nil | apply Sels.cons | exact Sel.keep | exact Sel.here | apply Sel.there))) ?_
        rintro _ _ ⟨_, ⟨m2, rfl, rfl⟩, rfl⟩
        refine ⟨⟨.inr (fun w9 F9 S9 s => R.ldB (v := .pointer (some ⟨m, 0, none⟩)) rfl (s.cel (by repeat (first | exact SelB.blk | exact SelB.fz | apply SelB.there))) (by rfl)), trivial⟩, ?_⟩
        refine SW.n1 ?_
        refine SW.step rfl rfl rfl rfl (CS.call rfl go32 (lputX m L ux ⟨m2, tx, nx, [(nx, d)]⟩ (by have := hw.len; omega)) (by repeat (first | exact Sels.nil | apply Sels.cons | exact Sel.keep | exact Sel.here | apply Sel.there))) ?_
        rintro _ _ ⟨_, ⟨rfl, rfl⟩, rfl⟩
        refine ⟨⟨.inl (by decide +kernel), trivial⟩, ?_⟩
        refine SW.n1 ?_
        refine SW.nil ?_
        refine SN.imp (Imp.lnClose (L := L) (t := ux) (x := ⟨m2, tx, nx, [(nx, d)]⟩) (by repeat (first | exact Sel.keep | exact Sel.here | apply Sel.there)) (show Sel _ (lnR L ux) _ by rw [lnR_no (getT_none hw.srt hg)]; exact (by repeat (first | exact Sel.keep | exact Sel.here | apply Sel.there))) hw.srt) ?_
        refine SN.imp (Imp.weak (p := DkP L) (q := DkP (newL L ux m2 tx nx d)) (show Sel _ (dkS L) _ from (by repeat (first | exact Sel.keep | exact Sel.here | apply Sel.there))) (fun w h => dkS_put h (fun e he => by rw [List.mem_singleton.1 he]; obtain ⟨t9, h9⟩ := at_was hr d rfl; exact dkS_one h h9))) ?_
        refine SN.seq ?_
        refine SG.seq ?_
        refine SG.region ?_
        refine SL.val rfl rfl (fun w9 F9 S9 s => R.mv rfl) ?_
        refine SL.val rfl rfl (fun w9 F9 S9 s => R.mv rfl) ?_
        refine SL.val rfl rfl (fun w9 F9 S9 s => R.mv rfl) ?_
        refine SL.val rfl rfl (fun w9 F9 S9 s => R.buildN (l := [.int .i64 ux, .int .i64 nx]) rfl rfl) ?_
        refine SL.val rfl rfl (fun w9 F9 S9 s => R.nilChk rfl) ?_
        refine SL.val rfl rfl (fun w9 F9 S9 s => R.fld rfl) ?_
        refine SL.step0 rfl (CS.stN (k := 1) (vs := [.int .i64 ux, .int .i64 nx]) (cs' := [.pointer (some ⟨m, 0, none⟩), .int .i64 ux, .int .i64 nx]) rfl rfl (show Sel _ (blk p _ _) _ from (by repeat (first | exact Sel.keep | exact Sel.here | apply Sel.there))) rfl (by show 1 + 2 ≤ 3; decide) (by intro u hu; simp only [List.mem_cons, List.not_mem_nil, or_false] at hu; rcases hu with rfl | rfl <;> rfl) rfl) ?_
        rintro _ _ rfl
        refine SL.nil ?_
        refine SN.seq ?_
        refine SG.seq ?_
        refine SG.region ?_
        refine SL.val rfl rfl (fun w9 F9 S9 s => R.as rfl) ?_
        refine SL.nil ?_
        refine SN.seq ?_
        exact SG.ret1 rfl rfl ((Imp.sels (by repeat (first | exact Sels.nil | apply Sels.cons | exact Sel.keep | exact Sel.here | apply Sel.there)))) (⟨(newL L ux m2 tx nx d), ux, nx, 0, rfl, .inr (.inr ⟨d, hr, hg, by omega, rfl, rfl, rfl, m2, rfl⟩), rfl⟩)
    · refine SG.region ?_
      refine SL.val rfl rfl (fun w9 F9 S9 s => R.mv rfl) ?_
      refine SL.val rfl rfl (fun w9 F9 S9 s => R.nilChk rfl) ?_
      refine SL.val rfl rfl (fun w9 F9 S9 s => R.fld rfl) ?_
      refine SL.val rfl rfl (fun w9 F9 S9 s => R.ldB (v := .pointer (some ⟨m, 0, none⟩)) rfl (s.cel (by repeat (first | exact SelB.blk | exact SelB.fz | apply SelB.there))) (by rfl)) ?_
      refine SL.val rfl rfl (fun w9 F9 S9 s => R.mv rfl) ?_
      refine SL.step rfl rfl (CS.callR rfl go35 (fun w9 F9 S9 s => (s.mp (show Sel _ (mp (κ := Int) 124 128 3 m (psL L)) _ from (by repeat (first | exact Sel.keep | exact Sel.here | apply Sel.there)))).elim fun S9 h9 => lgetS m L ux y S9 w9 h9 (by have := hw.len; omega) hg)) ?_
      rintro _ _ ⟨rfl, rfl⟩
      refine SL.val rfl rfl (fun w9 F9 S9 s => R.mv rfl) ?_
      refine SL.val rfl rfl (fun w9 F9 S9 s => R.ext rfl rfl) ?_
      refine SL.val rfl rfl (fun w9 F9 S9 s => R.ext rfl rfl) ?_
      refine SL.step rfl rfl (CS.alloc [.pointer none, .int .i64 0, .int .i64 0] rfl) ?_
      rintro _ _ ⟨b11, rfl, rfl⟩
      refine SL.step0 rfl (CS.stA (vs := lnC y) rfl rfl (by repeat (first | exact Sel.keep | exact Sel.here | apply Sel.there)) (by rfl) (by rfl) (lnC_one y)) ?_
      rintro _ _ rfl
      refine SL.val rfl rfl (fun w9 F9 S9 s => R.as rfl) ?_
      refine SL.nil ?_
      refine SN.seq ?_
      refine SG.seq ?_
      refine SG.region ?_
      refine SL.val rfl rfl (fun w9 F9 S9 s => R.mv rfl) ?_
      refine SL.val rfl rfl (fun w9 F9 S9 s => R.mv rfl) ?_
      refine SL.isT 34 rfl (rfl) ?_
      refine SL.pass rfl rfl ?_
      refine SL.pass rfl rfl ?_
      first | refine SL.val rfl rfl (fun w9 F9 S9 s => R.pickT rfl rfl) ?_ | refine SL.val rfl rfl (fun w9 F9 S9 s => R.pickF rfl rfl) ?_
      refine SL.nil ?_
      refine SN.seq ?_
      refine SG.condT rfl ?_
      refine SG.seq ?_
      refine SG.region ?_
      refine SL.val rfl rfl (fun w9 F9 S9 s => R.as rfl) ?_
      refine SL.nil ?_
      refine SN.seq ?_
      exact SG.ret1 rfl rfl ((Imp.sels (by repeat (first | exact Sels.nil | apply Sels.cons | exact Sel.keep | exact Sel.here | apply Sel.there)))) (⟨L, tt, nn, 52, rfl, .inr (.inl ⟨d, hr, .inl ⟨y, hg⟩, rfl, rfl, rfl, rfl⟩), rfl⟩)

end Go.Proofs.Ythdaelmjiaegfaa
/-
  The walks of package model.
-/
set_option linter.unusedVariables false
set_option linter.unusedSimpArgs false
set_option maxRecDepth 4000
namespace Go.Proofs.Ythdaelmjiaegfaa
open Go Brv Brv.Image Brv.Model
theorem psL_at {L : Lns} {k : Nat} {q : Pr Int} (h : (psL L)[k]? = some q) : ∃ e, L[k]? = some e ∧ q = (e.1, lnC e.2) := by
  unfold psL mapT at h
  rw [List.getElem?_map] at h
  cases ht : L[k]? with
  | none => rw [ht] at h; cases h
  | some e => rw [ht] at h; cases h; exact ⟨e, rfl, rfl⟩
theorem dsP_at {ds : List (Int × Dk)} {k : Nat} {q : Pr Int} (h : (dsP ds)[k]? = some q) : ∃ e, ds[k]? = some e ∧ q = (e.1, dkC e.2) := by
  unfold dsP mapT at h
  rw [List.getElem?_map] at h
  cases ht : ds[k]? with
  | none => rw [ht] at h; cases h
  | some e => rw [ht] at h; cases h; exact ⟨e, rfl, rfl⟩
/-- The pairs of a timeline, and of all. -/
def prsD (e : Int × Ln) : List (Int × Int) := e.2.ds.map fun d => (e.1, d.1)
def prsL (L : Lns) : List (Int × Int) := (L.map prsD).flatten
def baseL (L : Lns) (k : Nat) : Nat := (prsL (L.take k)).length
theorem baseL_succ {L : Lns} {k : Nat} {e : Int × Ln} (h : L[k]? = some e) : baseL L (k + 1) = baseL L k + e.2.ds.length := by
  unfold baseL prsL
  rw [List.take_add_one, h]
  simp [prsD]
theorem prs_at {L : Lns} {k j : Nat} {e : Int × Ln} {d : Int × Dk} (h : L[k]? = some e) (hd : e.2.ds[j]? = some d) : (prsL L)[baseL L k + j]? = some (e.1, d.1) := by
  have hs : prsL L = prsL (L.take k) ++ (prsD e ++ prsL (L.drop (k + 1))) := by
    conv => lhs; rw [← List.take_append_drop k L]
    obtain ⟨hk, rfl⟩ := List.getElem?_eq_some_iff.1 h
    rw [List.drop_eq_getElem_cons hk]
    unfold prsL
    rw [List.map_append, List.flatten_append, List.map_cons, List.flatten_cons]
  have hj := (List.getElem?_eq_some_iff.1 hd).1
  rw [hs, List.getElem?_append_right (by unfold baseL; omega), show baseL L k + j - (prsL (L.take k)).length = j by unfold baseL; omega, List.getElem?_append_left (by simpa [prsD] using hj)]
  simp [prsD, hd]
theorem baseL_all (L : Lns) : baseL L L.length = (prsL L).length := by unfold baseL; rw [List.take_length]
theorem Imp.lnBack {L : Lns} {H H1 H2 : List Asn} {t : Int} {x : Ln} (h : Sel H (mp (κ := Int) 135 132 1 x.m (dsP x.ds)) H1) (k : Sel H1 (lnR L t) H2) (hs : Srt L) (hg : getT L t = some x) : Imp H (lnA L :: H2) :=
  (Imp.spClose h k).trans (Imp.spPerm .here ((perm_has hs hg).symm.map (fun q : Int × Ln => mp (κ := Int) 135 132 1 q.2.m (dsP q.2.ds))))

theorem prs1_ok (p m : Nat) (L : Lns) (tt nn : Int) (kk : Nat) (y : Value) (b1 : Nat) (J : Nat → Asn) (hw : Wf L kk) (hk : kk ≤ 9000) (hy1 : y.oneCell' = true) (hY : ∀ k t n, (prsL L)[k]? = some (t, n) → YSpec Try.prog y [.int .i64 t, .int .i64 n] [J k] (fun b H' => b = true ∧ H' = [J (k + 1)])) : SpecS Try.prog 44 [y, .pointer (some ⟨b1, 0, none⟩)] [J 0, blk p [.pointer (some ⟨m, 0, none⟩), .int .i64 tt, .int .i64 nn] 85, mp (κ := Int) 124 128 3 m (psL L), lnA L, dkS L, blk b1 [.pointer (some ⟨p, 0, none⟩)] 24] (fun v H' => v = .tuple #[] ∧ H' = [J (prsL L).length, blk p [.pointer (some ⟨m, 0, none⟩), .int .i64 tt, .int .i64 nn] 85, mp (κ := Int) 124 128 3 m (psL L), lnA L, dkS L, blk b1 [.pointer (some ⟨p, 0, none⟩)] 24]) := by
  refine SpecS.enter Try.func44 rfl 25 rfl (Nat.le_of_ble_eq_true rfl) (fun o => ?_)
  have hLl := hw.len
  refine SG.seq ?_
  refine SG.region ?_
  refine SL.step rfl rfl (CS.box1 rfl hy1) ?_
  rintro _ _ ⟨b2, rfl, rfl⟩
  refine SL.nil ?_
  refine SN.seq ?_
  refine SG.seq ?_
  refine SG.seq ?_
  refine SG.region ?_
  refine SL.val rfl rfl (fun w9 F9 S9 s => R.ldB (v := .pointer (some ⟨p, 0, none⟩)) rfl (s.cel (by repeat (first | exact SelB.blk | exact SelB.fz | apply SelB.there))) (by rfl)) ?_
  refine SL.val rfl rfl (fun w9 F9 S9 s => R.eqNilP rfl rfl) ?_
  refine SL.nil ?_
  refine SN.seq ?_
  refine SG.condF rfl ?_
  refine SG.skip ?_
  refine SN.seq ?_
  refine SG.seq ?_
  refine SG.region ?_
  refine SL.val rfl rfl (fun w9 F9 S9 s => R.ldB (v := .pointer (some ⟨p, 0, none⟩)) rfl (s.cel (by repeat (first | exact SelB.blk | exact SelB.fz | apply SelB.there))) (by rfl)) ?_
  refine SL.val rfl rfl (fun w9 F9 S9 s => R.nilChk rfl) ?_
  refine SL.val rfl rfl (fun w9 F9 S9 s => R.fld rfl) ?_
  refine SL.val rfl rfl (fun w9 F9 S9 s => R.ldB (v := .pointer (some ⟨m, 0, none⟩)) rfl (s.cel (by repeat (first | exact SelB.blk | exact SelB.fz | apply SelB.there))) (by rfl)) ?_
  refine SL.step rfl rfl (CS.call rfl go39 (oallModellineS m (psL L) (by rw [psL_len]; omega)) (by repeat (first | exact Sels.nil | apply Sels.cons | exact Sel.keep | exact Sel.here | apply Sel.there))) ?_
  rintro _ _ ⟨_, ⟨lb, rfl, rfl⟩, rfl⟩
  refine SL.n2 ?_
  refine SL.nil ?_
  refine SN.seq ?_
  refine SG.block ?_
  refine SG.rangeL rfl rfl go74 (itModelline_run lb (psL L)) (X := Unit) (Y := Unit) (fun k _ => [J (baseL L k), blk p [.pointer (some ⟨m, 0, none⟩), .int .i64 tt, .int .i64 nn] 85, mp (κ := Int) 124 128 3 m (psL L), lnA L, dkS L, blk b1 [.pointer (some ⟨p, 0, none⟩)] 24, blk b2 [y] 74]) (fun k _ => True) (fun c k _ => []) (fun c k _ => False) (()) ((Imp.sels (by repeat (first | exact Sels.nil | apply Sels.cons | exact Sel.keep | exact Sel.here | apply Sel.there)))) (trivial) ?_ ?_ ?_
  · rintro l Rl k _ vs p hk _ ⟨⟨q, hq, rfl⟩, rfl⟩
    obtain ⟨e, he, rfl⟩ := psL_at hq
    have hel := (List.getElem?_eq_some_iff.1 he).1
    have hge := getT_at hw.srt he
    have hdl := ds_len hw hge
    refine ⟨rfl, ?_⟩
    intro o8
    refine SG.seq ?_
    refine SG.region ?_
    refine SL.step rfl rfl (CS.alloc [.int .i64 0] rfl) ?_
    rintro _ _ ⟨b3, rfl, rfl⟩
    refine SL.step0 rfl (CS.st rfl rfl (by repeat (first | exact Sel.keep | exact Sel.here | apply Sel.there)) (by repeat (first | exact SetAt.here | apply SetAt.there)) rfl) ?_
    rintro _ _ rfl
    refine SL.nil ?_
    refine SN.seq ?_
    refine SG.region ?_
    refine SL.step rfl rfl (CS.alloc [.pointer none, .int .i64 0, .int .i64 0] rfl) ?_
    rintro _ _ ⟨b4, rfl, rfl⟩
    refine SL.step0 rfl (CS.stA (vs := lnC e.2) rfl rfl (by repeat (first | exact Sel.keep | exact Sel.here | apply Sel.there)) (by rfl) (by rfl) (lnC_one e.2)) ?_
    rintro _ _ rfl
    refine SL.nil ?_
    refine SN.roundL (fun o9 => ?_)
    refine SG.block ?_
    refine SG.seq ?_
    refine SG.region ?_
    refine SL.val rfl rfl (fun w9 F9 S9 s => R.fld rfl) ?_
    refine SL.val rfl rfl (fun w9 F9 S9 s => R.ldB (v := .pointer (some ⟨e.2.m, 0, none⟩)) rfl (s.cel (by repeat (first | exact SelB.blk | exact SelB.fz | apply SelB.there))) (by rfl)) ?_
    refine SL.imp (Imp.lnOpen (by repeat (first | exact Sel.keep | exact Sel.here | apply Sel.there)) hw.srt hge) ?_
    refine SL.step rfl rfl (CS.call rfl go45 (oallImageDiskS e.2.m (dsP e.2.ds) (by rw [dsP_len]; omega)) (by repeat (first | exact Sels.nil | apply Sels.cons | exact Sel.keep | exact Sel.here | apply Sel.there))) ?_
    rintro _ _ ⟨_, ⟨lb2, rfl, rfl⟩, rfl⟩
    refine SL.n2 ?_
    refine SL.nil ?_
    refine SN.imp (Imp.lnBack (by repeat (first | exact Sel.keep | exact Sel.here | apply Sel.there)) (by repeat (first | exact Sel.keep | exact Sel.here | apply Sel.there)) hw.srt hge) ?_
    refine SN.seq ?_
    refine SG.block ?_
    obtain ⟨k0, rfl⟩ : ∃ k0, k0 = k := ⟨_, rfl⟩
    refine SG.rangeI (by repeat (first | exact Sel.keep | exact Sel.here | apply Sel.there)) rfl rfl go76 (itImageDisk_run lb2 (dsP e.2.ds)) (X := Unit) (Y := Unit) (fun k _ => [J (baseL L k0 + k), lp l Rl, blk b3 [.int .i64 e.1] 3, blk p [.pointer (some ⟨m, 0, none⟩), .int .i64 tt, .int .i64 nn] 85, mp (κ := Int) 124 128 3 m (psL L), lnA L, dkS L, blk b1 [.pointer (some ⟨p, 0, none⟩)] 24, blk b2 [y] 74]) (fun k _ => True) (fun c k _ => []) (fun c k _ => False) (()) ((Imp.sels (by repeat (first | exact Sels.nil | apply Sels.cons | exact Sel.keep | exact Sel.here | apply Sel.there)))) (trivial) ?_ ?_ ?_
    · rintro l k _ vs p hk _ ⟨⟨q, hq2, rfl⟩, rfl⟩
      obtain ⟨d, hd, rfl⟩ := dsP_at hq2
      refine ⟨rfl, ?_⟩
      intro o8
      refine SG.region ?_
      refine SL.val rfl rfl (fun w9 F9 S9 s => R.as rfl) ?_
      refine SL.nil ?_
      refine SN.roundA (fun o9 => ?_)
      refine SG.block ?_
      refine SG.seq ?_
      refine SG.region ?_
      refine SL.val rfl rfl (fun w9 F9 S9 s => R.ldB (v := y) rfl (s.cel (by repeat (first | exact SelB.blk | exact SelB.fz | apply SelB.there))) (by rfl)) ?_
      refine SL.val rfl rfl (fun w9 F9 S9 s => R.ldB (v := .int .i64 e.1) rfl (s.cel (by repeat (first | exact SelB.blk | exact SelB.fz | apply SelB.there))) (by rfl)) ?_
      refine SL.val rfl rfl (fun w9 F9 S9 s => R.mv rfl) ?_
      refine SL.step rfl rfl (CS.yield rfl rfl (hY _ _ _ (prs_at he hd)) (by repeat (first | exact Sels.nil | apply Sels.cons | exact Sel.keep | exact Sel.here | apply Sel.there))) ?_
      rintro _ _ ⟨_, ⟨bq, rfl, rfl, rfl⟩, rfl⟩
      refine SL.n1 ?_
      refine SL.val rfl rfl (fun w9 F9 S9 s => R.not rfl) ?_
      refine SL.nil ?_
      refine SN.seq ?_
      refine SG.condF rfl ?_
      refine SG.skip ?_
      refine SN.block ?_
      exact SN.next () (Imp.sels (by repeat (first | exact Sels.nil | apply Sels.cons | exact Sel.keep | exact Sel.here | apply Sel.there))) trivial
    · rintro _ _
      rw [dsP_len]
      refine SN.block ?_
      refine SN.block ?_
      exact SN.next () (show Imp _ _ by rw [baseL_succ he]; exact (Imp.sels (by repeat (first | exact Sels.nil | apply Sels.cons | exact Sel.keep | exact Sel.here | apply Sel.there)))) trivial
    · rintro k c _ hk ⟨⟩
  · rintro d2 _ _
    rw [psL_len, baseL_all]
    refine SN.block ?_
    exact SN.end0M rfl (by repeat (first | exact Dfrs.nil | apply Dfrs.cons | exact Sel.here | apply Sel.there)) ((Imp.sels (by repeat (first | exact Sels.nil | apply Sels.cons | exact Sel.keep | exact Sel.here | apply Sel.there)))) (⟨rfl, rfl⟩)
  · rintro d k c _ hk ⟨⟩

end Go.Proofs.Ythdaelmjiaegfaa
/-
  The walks of package model.
-/
set_option linter.unusedVariables false
set_option linter.unusedSimpArgs false
set_option maxRecDepth 4000
namespace Go.Proofs.Ythdaelmjiaegfaa
open Go Brv Brv.Image Brv.Model
def Lf1 (m1 d b5 : Nat) : Lns := [(1, ⟨m1, 0, 0, [(0, ⟨d, List.replicate (64 * 2) 0⟩), (1, ⟨b5, List.replicate (64 * 2) 0⟩)]⟩)]
def Lf2 (m1 m2 d b5 : Nat) : Lns := [(1, ⟨m1, 0, 0, [(0, ⟨d, List.replicate (64 * 2) 0⟩), (1, ⟨b5, List.replicate (64 * 2) 0⟩)]⟩), (2, ⟨m2, 1, 0, [(0, ⟨d, List.replicate (64 * 2) 0⟩)]⟩)]
theorem Lf1_eq (m1 d b5 : Nat) : Lf1 m1 d b5 = addD (newW m1 d 2) 1 ⟨m1, 0, 0, [(0, ⟨d, List.replicate (64 * 2) 0⟩)]⟩ 1 ⟨b5, List.replicate (64 * 2) 0⟩ := rfl
theorem Lf1_wf (m1 d b5 : Nat) : Wf (Lf1 m1 d b5) 1 := by
  rw [Lf1_eq]
  exact (newW_wf m1 d 2).add rfl ⟨by decide, by decide⟩ _
theorem Lf2_wf (m1 m2 d b5 : Nat) : Wf (Lf2 m1 m2 d b5) 2 := by
  rw [show Lf2 m1 m2 d b5 = newL (Lf1 m1 d b5) 2 m2 1 0 ⟨d, List.replicate (64 * 2) 0⟩ from rfl]
  exact (Lf1_wf m1 d b5).new (x := ⟨m1, 0, 0, _⟩) rfl (by decide) ⟨by decide, by decide⟩ rfl m2 _
theorem first_com {m1 d : Nat} {L' : Lns} {n' a e : Int} (h : ComR (newW m1 d 2) 1 0 ⟨d, List.replicate (64 * 2) 0⟩ [] L' n' a e) : e = 0 ∧ a = 1 ∧ n' = 1 ∧ ∃ b5, L' = Lf1 m1 d b5 := by
  rcases h with ⟨h, _⟩ | ⟨_, ⟨q, hq⟩, _⟩ | ⟨_, _, h1, h2, h3, x, b, hx, hL⟩
  · exact absurd (show (withF (List.replicate (64 * 2) 0) []).2 = 0 from rfl) h
  · exact absurd (show wasV (newW m1 d 2) 1 (0 + 1) = none from rfl) (by rw [hq]; simp)
  · have hx2 : getT (newW m1 d 2) 1 = some ⟨m1, 0, 0, [(0, ⟨d, List.replicate (64 * 2) 0⟩)]⟩ := rfl
    rw [hx2] at hx
    cases hx
    exact ⟨h1, h2, h3, b, hL⟩
theorem first_bra {m1 d b5 : Nat} {L' : Lns} {t' n' e : Int} (h : BraR (Lf1 m1 d b5) 1 1 1 0 2 L' t' n' e) : e = 0 ∧ t' = 2 ∧ n' = 0 ∧ ∃ m2, L' = Lf2 m1 m2 d b5 := by
  have hh : AtR (wasV (Lf1 m1 d b5)) (parV (Lf1 m1 d b5)) 0 1 (some ⟨d, List.replicate (64 * 2) 0⟩) := .hit rfl
  rcases h with ⟨h, _⟩ | ⟨q, hq, h, _⟩ | ⟨q, hq, _, _, h1, h2, h3, m2, hL⟩
  · exact absurd (hh.one h) (by simp)
  · rcases h with ⟨x, hx⟩ | h
    · exact absurd (show getT (Lf1 m1 d b5) 2 = none from rfl) (by rw [hx]; simp)
    · exact absurd h (by decide)
  · cases hh.one hq
    exact ⟨h1, h2, h3, m2, hL⟩
theorem first_bra2 {m1 m2 d b5 : Nat} {L' : Lns} {t' n' e : Int} (h : BraR (Lf2 m1 m2 d b5) 2 0 1 5 3 L' t' n' e) : e = 50 ∧ t' = 2 ∧ n' = 0 ∧ L' = Lf2 m1 m2 d b5 := by
  have hh : AtR (wasV (Lf2 m1 m2 d b5)) (parV (Lf2 m1 m2 d b5)) 5 1 none := .root rfl rfl
  rcases h with ⟨_, h1, h2, h3, h4⟩ | ⟨q, hq, _⟩ | ⟨q, hq, _⟩
  · exact ⟨h1, h3, h4, h2⟩
  · exact absurd (hh.one hq) (by simp)
  · exact absurd (hh.one hq) (by simp)

theorem wprs_ok (p : Nat) : SpecS Try.prog 27 [.pointer (some ⟨p, 0, none⟩)] [] (fun v H' => ∃ b1, v = .func (.func 44) #[] #[.pointer (some ⟨b1, 0, none⟩)] ∧ H' = [blk b1 [.pointer (some ⟨p, 0, none⟩)] 24]) := by
  refine SpecS.enter Try.func27 rfl 4 rfl (Nat.le_of_ble_eq_true rfl) (fun o => ?_)
  refine SG.seq ?_
  refine SG.region ?_
  refine SL.step rfl rfl (CS.box1 rfl rfl) ?_
  rintro _ _ ⟨b1, rfl, rfl⟩
  refine SL.val rfl rfl (fun w9 F9 S9 s => R.as rfl) ?_
  refine SL.nil ?_
  refine SN.seq ?_
  refine SG.seq ?_
  refine SG.region ?_
  refine SL.val rfl rfl (fun w9 F9 S9 s => R.mkFunc rfl rfl) ?_
  refine SL.val rfl rfl (fun w9 F9 S9 s => R.as rfl) ?_
  refine SL.nil ?_
  refine SN.seq ?_
  exact SG.ret1 rfl rfl ((Imp.sels (by repeat (first | exact Sels.nil | apply Sels.cons | exact Sel.keep | exact Sel.here | apply Sel.there)))) (⟨b1, rfl, rfl⟩)

theorem cnt27_ok (b : Nat) (k : Nat) (tx nx : Int) (hk : k ≤ 1000000) : SpecS Try.prog 29 [.int .i64 tx, .int .i64 nx, .pointer (some ⟨b, 0, none⟩)] [blk b [.int .i64 (k : Int)] 3] (fun v H' => ∃ b', v = .bool b' ∧ b' = true ∧ H' = [blk b [.int .i64 ((k + 1 : Nat) : Int)] 3]) := by
  refine SpecS.enter Try.func29 rfl 8 rfl (Nat.le_of_ble_eq_true rfl) (fun o => ?_)
  refine SG.seq ?_
  refine SG.region ?_
  refine SL.val rfl rfl (fun w9 F9 S9 s => R.as rfl) ?_
  refine SL.nil ?_
  refine SN.seq ?_
  refine SG.seq ?_
  refine SG.region ?_
  refine SL.val rfl rfl (fun w9 F9 S9 s => R.ldB (v := .int .i64 (k : Int)) rfl (s.cel (by repeat (first | exact SelB.blk | exact SelB.fz | apply SelB.there))) (by rfl)) ?_
  refine SL.val rfl rfl (fun w9 F9 S9 s => R.add rfl rfl (by omega)) ?_
  refine SL.step0 rfl (CS.st rfl rfl (by repeat (first | exact Sel.keep | exact Sel.here | apply Sel.there)) (by repeat (first | exact SetAt.here | apply SetAt.there)) rfl) ?_
  rintro _ _ rfl
  refine SL.nil ?_
  refine SN.seq ?_
  refine SG.seq ?_
  refine SG.region ?_
  refine SL.val rfl rfl (fun w9 F9 S9 s => R.as rfl) ?_
  refine SL.nil ?_
  refine SN.seq ?_
  exact SG.ret1 rfl rfl ((Imp.sels (by repeat (first | exact Sels.nil | apply Sels.cons | exact Sel.keep | exact Sel.here | apply Sel.there)))) (⟨true, rfl, rfl, rfl⟩)

set_option maxHeartbeats 2000000 in
theorem first27_ok  : SpecS Try.prog 6 [] [] (fun v H' => v = .bool true ∧ H' = []) := by
  refine SpecS.enter Try.func6 rfl 115 rfl (Nat.le_of_ble_eq_true rfl) (fun o => ?_)
  refine SG.seq ?_
  refine SG.region ?_
  refine SL.val rfl rfl (fun w9 F9 S9 s => R.as rfl) ?_
  refine SL.nil ?_
  refine SN.seq ?_
  refine SG.seq ?_
  refine SG.region ?_
  refine SL.step rfl rfl (CS.call rfl go7 (wnew_ok 2 (by decide) (by decide)) (by repeat (first | exact Sels.nil | apply Sels.cons | exact Sel.keep | exact Sel.here | apply Sel.there))) ?_
  rintro _ _ ⟨_, ⟨p, m, m1, d, rfl, rfl⟩, rfl⟩
  refine SL.n4 ?_
  refine SL.val rfl rfl (fun w9 F9 S9 s => R.mv rfl) ?_
  refine SL.val rfl rfl (fun w9 F9 S9 s => R.ext rfl rfl) ?_
  refine SL.val rfl rfl (fun w9 F9 S9 s => R.ext rfl rfl) ?_
  refine SL.val rfl rfl (fun w9 F9 S9 s => R.as rfl) ?_
  refine SL.val rfl rfl (fun w9 F9 S9 s => R.as rfl) ?_
  refine SL.nil ?_
  refine SN.seq ?_
  refine SG.seq ?_
  refine SG.region ?_
  refine SL.val rfl rfl (fun w9 F9 S9 s => R.mv rfl) ?_
  refine SL.imp (Imp.pure (p := fun w => WsP w none 0 []) (fun w => ⟨⟨fun j v hj => (by cases hj), rfl, by simp⟩, by simp⟩)) ?_
  refine SL.step rfl rfl (CS.call rfl go8 (wcom_ok p m (newW m1 d 2) 1 0 0 ⟨d, List.replicate (64 * 2) 0⟩ none 0 0 [] (newW_wf m1 d 2) (by decide) (newW_was m1 d 2) (by decide)) (by repeat (first | exact Sels.nil | apply Sels.cons | exact Sel.keep | exact Sel.here | apply Sel.there))) ?_
  rintro _ _ ⟨_, ⟨L1, n1, a1, e1, rfl, hC, rfl, rfl⟩, rfl⟩
  refine SL.n4 ?_
  obtain ⟨rfl, rfl, rfl, b5, rfl⟩ := first_com hC
  refine SL.val rfl rfl (fun w9 F9 S9 s => R.mv rfl) ?_
  refine SL.val rfl rfl (fun w9 F9 S9 s => R.ext rfl rfl) ?_
  refine SL.val rfl rfl (fun w9 F9 S9 s => R.ext rfl rfl) ?_
  refine SL.val rfl rfl (fun w9 F9 S9 s => R.as rfl) ?_
  refine SL.val rfl rfl (fun w9 F9 S9 s => R.as rfl) ?_
  refine SL.nil ?_
  refine SN.seq ?_
  refine SG.seq ?_
  refine SG.region ?_
  refine SL.val rfl rfl (fun w9 F9 S9 s => R.mv rfl) ?_
  refine SL.step rfl rfl (CS.call rfl go9 (wbra_ok p m (Lf1 m1 d b5) 1 1 1 1 0 2 (Lf1_wf m1 d b5) (by decide)) (by repeat (first | exact Sels.nil | apply Sels.cons | exact Sel.keep | exact Sel.here | apply Sel.there))) ?_
  rintro _ _ ⟨_, ⟨L2, t2, n2, e2, rfl, hB, rfl, rfl⟩, rfl⟩
  refine SL.n4 ?_
  obtain ⟨rfl, rfl, rfl, m2, rfl⟩ := first_bra hB
  refine SL.val rfl rfl (fun w9 F9 S9 s => R.as rfl) ?_
  refine SL.nil ?_
  refine SN.seq ?_
  refine SG.seq ?_
  refine SG.region ?_
  refine SL.val rfl rfl (fun w9 F9 S9 s => R.mv rfl) ?_
  have hw2 := Lf2_wf m1 m2 d b5
  refine SL.step rfl rfl (CS.call rfl go11 (wnow_ok p m (Lf2 m1 m2 d b5) 2 0 2) (by repeat (first | exact Sels.nil | apply Sels.cons | exact Sel.keep | exact Sel.here | apply Sel.there))) ?_
  rintro _ _ ⟨_, ⟨rfl, rfl⟩, rfl⟩
  refine SL.n1 ?_
  refine SL.val rfl rfl (fun w9 F9 S9 s => R.mv rfl) ?_
  refine SL.val rfl rfl (fun w9 F9 S9 s => R.ext rfl rfl) ?_
  refine SL.val rfl rfl (fun w9 F9 S9 s => R.ext rfl rfl) ?_
  refine SL.val rfl rfl (fun w9 F9 S9 s => R.as rfl) ?_
  refine SL.val rfl rfl (fun w9 F9 S9 s => R.as rfl) ?_
  refine SL.nil ?_
  refine SN.seq ?_
  refine SG.seq ?_
  refine SG.region ?_
  refine SL.val rfl rfl (fun w9 F9 S9 s => R.mv rfl) ?_
  refine SL.step rfl rfl (CS.call rfl go22 (wparE p m (Lf2 m1 m2 d b5) 2 0 2 2 hw2 (by decide) (some (1, 0)) rfl) (by repeat (first | exact Sels.nil | apply Sels.cons | exact Sel.keep | exact Sel.here | apply Sel.there))) ?_
  rintro _ _ ⟨_, ⟨rfl, rfl⟩, rfl⟩
  refine SL.n4 ?_
  refine SL.val rfl rfl (fun w9 F9 S9 s => R.mv rfl) ?_
  refine SL.val rfl rfl (fun w9 F9 S9 s => R.ext rfl rfl) ?_
  refine SL.val rfl rfl (fun w9 F9 S9 s => R.ext rfl rfl) ?_
  refine SL.val rfl rfl (fun w9 F9 S9 s => R.ext rfl rfl) ?_
  refine SL.val rfl rfl (fun w9 F9 S9 s => R.as rfl) ?_
  refine SL.val rfl rfl (fun w9 F9 S9 s => R.as rfl) ?_
  refine SL.val rfl rfl (fun w9 F9 S9 s => R.as rfl) ?_
  refine SL.nil ?_
  refine SN.seq ?_
  refine SG.seq ?_
  refine SG.region ?_
  refine SL.val rfl rfl (fun w9 F9 S9 s => R.mv rfl) ?_
  refine SL.step rfl rfl (CS.call rfl go14 (watE p m (Lf2 m1 m2 d b5) 2 0 2 2 0 hw2 (by decide) (some ⟨d, List.replicate (64 * 2) 0⟩) (.hit rfl)) (by repeat (first | exact Sels.nil | apply Sels.cons | exact Sel.keep | exact Sel.here | apply Sel.there))) ?_
  rintro _ _ ⟨_, ⟨rfl, rfl⟩, rfl⟩
  refine SL.n4 ?_
  refine SL.val rfl rfl (fun w9 F9 S9 s => R.mv rfl) ?_
  refine SL.val rfl rfl (fun w9 F9 S9 s => R.ext rfl rfl) ?_
  refine SL.val rfl rfl (fun w9 F9 S9 s => R.ext rfl rfl) ?_
  refine SL.val rfl rfl (fun w9 F9 S9 s => R.as rfl) ?_
  refine SL.val rfl rfl (fun w9 F9 S9 s => R.as rfl) ?_
  refine SL.nil ?_
  refine SN.seq ?_
  refine SG.seq ?_
  refine SG.region ?_
  refine SL.val rfl rfl (fun w9 F9 S9 s => R.mv rfl) ?_
  refine SL.step rfl rfl (CS.call rfl go14 (watE p m (Lf2 m1 m2 d b5) 2 0 2 2 1 hw2 (by decide) none (.late (p := 1) (a := 0) rfl rfl (by decide))) (by repeat (first | exact Sels.nil | apply Sels.cons | exact Sel.keep | exact Sel.here | apply Sel.there))) ?_
  rintro _ _ ⟨_, ⟨rfl, rfl⟩, rfl⟩
  refine SL.n4 ?_
  refine SL.val rfl rfl (fun w9 F9 S9 s => R.mv rfl) ?_
  refine SL.val rfl rfl (fun w9 F9 S9 s => R.ext rfl rfl) ?_
  refine SL.val rfl rfl (fun w9 F9 S9 s => R.ext rfl rfl) ?_
  refine SL.val rfl rfl (fun w9 F9 S9 s => R.as rfl) ?_
  refine SL.val rfl rfl (fun w9 F9 S9 s => R.as rfl) ?_
  refine SL.nil ?_
  refine SN.seq ?_
  refine SG.seq ?_
  refine SG.region ?_
  refine SL.step rfl rfl (CS.alloc [.int .i64 0] rfl) ?_
  rintro _ _ ⟨b15, rfl, rfl⟩
  refine SL.step0 rfl (CS.st rfl rfl (by repeat (first | exact Sel.keep | exact Sel.here | apply Sel.there)) (by repeat (first | exact SetAt.here | apply SetAt.there)) rfl) ?_
  rintro _ _ rfl
  refine SL.nil ?_
  refine SN.seq ?_
  refine SG.seq ?_
  refine SG.seq ?_
  refine SG.region ?_
  refine SL.val rfl rfl (fun w9 F9 S9 s => R.mv rfl) ?_
  refine SL.step rfl rfl (CS.call rfl go27 (wprs_ok p) (by repeat (first | exact Sels.nil | apply Sels.cons | exact Sel.keep | exact Sel.here | apply Sel.there))) ?_
  rintro _ _ ⟨_, ⟨b1, rfl, rfl⟩, rfl⟩
  refine SL.n1 ?_
  refine SL.val rfl rfl (fun w9 F9 S9 s => R.as rfl) ?_
  refine SL.nil ?_
  refine SN.seq ?_
  refine SG.seq ?_
  refine SG.region ?_
  refine SL.val rfl rfl (fun w9 F9 S9 s => R.mv rfl) ?_
  refine SL.val rfl rfl (fun w9 F9 S9 s => R.neNilF Try.underlying71 rfl rfl) ?_
  refine SL.nil ?_
  refine SN.seq ?_
  refine SG.condT rfl ?_
  refine SG.region ?_
  refine SL.val rfl rfl (fun w9 F9 S9 s => R.mv rfl) ?_
  refine SL.val rfl rfl (fun w9 F9 S9 s => R.mkFunc rfl rfl) ?_
  refine SL.step rfl rfl (CS.callV rfl rfl rfl go44 (prs1_ok p m (Lf2 m1 m2 d b5) 2 0 2 (.func (.func 29) #[] #[.pointer (some ⟨b15, 0, none⟩)]) b1 (fun k => blk b15 [.int .i64 (k : Int)] 3) hw2 (by decide) rfl (fun k t n hk => YSpec.ofFn (vs' := [.int .i64 t, .int .i64 n, .pointer (some ⟨b15, 0, none⟩)]) go29 rfl (cnt27_ok b15 k t n (by have := (List.getElem?_eq_some_iff.1 hk).1; have h3 : (prsL (Lf2 m1 m2 d b5)).length = 3 := rfl; omega)))) (by repeat (first | exact Sels.nil | apply Sels.cons | exact Sel.keep | exact Sel.here | apply Sel.there))) ?_
  rintro _ _ ⟨_, ⟨rfl, rfl, rfl⟩, rfl⟩
  refine SL.n6 ?_
  refine SL.nil ?_
  refine SN.seq ?_
  refine SG.seq ?_
  refine SG.region ?_
  refine SL.val rfl rfl (fun w9 F9 S9 s => R.mv rfl) ?_
  refine SL.val rfl rfl (fun w9 F9 S9 s => R.eqI rfl rfl) ?_
  refine SL.val rfl rfl (fun w9 F9 S9 s => R.mv rfl) ?_
  refine SL.isT 58 rfl (rfl) ?_
  refine SL.val rfl rfl (fun w9 F9 S9 s => R.mv rfl) ?_
  refine SL.val rfl rfl (fun w9 F9 S9 s => R.eqI rfl rfl) ?_
  first | refine SL.val rfl rfl (fun w9 F9 S9 s => R.pickT rfl rfl) ?_ | refine SL.val rfl rfl (fun w9 F9 S9 s => R.pickF rfl rfl) ?_
  refine SL.val rfl rfl (fun w9 F9 S9 s => R.mv rfl) ?_
  refine SL.isT 62 rfl (rfl) ?_
  refine SL.val rfl rfl (fun w9 F9 S9 s => R.mv rfl) ?_
  refine SL.val rfl rfl (fun w9 F9 S9 s => R.eqI rfl rfl) ?_
  first | refine SL.val rfl rfl (fun w9 F9 S9 s => R.pickT rfl rfl) ?_ | refine SL.val rfl rfl (fun w9 F9 S9 s => R.pickF rfl rfl) ?_
  refine SL.val rfl rfl (fun w9 F9 S9 s => R.mv rfl) ?_
  refine SL.isT 66 rfl (rfl) ?_
  refine SL.val rfl rfl (fun w9 F9 S9 s => R.mv rfl) ?_
  refine SL.val rfl rfl (fun w9 F9 S9 s => R.eqI rfl rfl) ?_
  first | refine SL.val rfl rfl (fun w9 F9 S9 s => R.pickT rfl rfl) ?_ | refine SL.val rfl rfl (fun w9 F9 S9 s => R.pickF rfl rfl) ?_
  refine SL.val rfl rfl (fun w9 F9 S9 s => R.mv rfl) ?_
  refine SL.isT 70 rfl (rfl) ?_
  refine SL.val rfl rfl (fun w9 F9 S9 s => R.mv rfl) ?_
  refine SL.val rfl rfl (fun w9 F9 S9 s => R.eqI rfl rfl) ?_
  first | refine SL.val rfl rfl (fun w9 F9 S9 s => R.pickT rfl rfl) ?_ | refine SL.val rfl rfl (fun w9 F9 S9 s => R.pickF rfl rfl) ?_
  refine SL.val rfl rfl (fun w9 F9 S9 s => R.mv rfl) ?_
  refine SL.isT 74 rfl (rfl) ?_
  refine SL.val rfl rfl (fun w9 F9 S9 s => R.mv rfl) ?_
  refine SL.val rfl rfl (fun w9 F9 S9 s => R.eqI rfl rfl) ?_
  first | refine SL.val rfl rfl (fun w9 F9 S9 s => R.pickT rfl rfl) ?_ | refine SL.val rfl rfl (fun w9 F9 S9 s => R.pickF rfl rfl) ?_
  refine SL.val rfl rfl (fun w9 F9 S9 s => R.mv rfl) ?_
  refine SL.isT 78 rfl (rfl) ?_
  refine SL.val rfl rfl (fun w9 F9 S9 s => R.mv rfl) ?_
  refine SL.val rfl rfl (fun w9 F9 S9 s => R.eqI rfl rfl) ?_
  first | refine SL.val rfl rfl (fun w9 F9 S9 s => R.pickT rfl rfl) ?_ | refine SL.val rfl rfl (fun w9 F9 S9 s => R.pickF rfl rfl) ?_
  refine SL.val rfl rfl (fun w9 F9 S9 s => R.mv rfl) ?_
  refine SL.isT 82 rfl (rfl) ?_
  refine SL.val rfl rfl (fun w9 F9 S9 s => R.mv rfl) ?_
  refine SL.val rfl rfl (fun w9 F9 S9 s => R.eqI rfl rfl) ?_
  first | refine SL.val rfl rfl (fun w9 F9 S9 s => R.pickT rfl rfl) ?_ | refine SL.val rfl rfl (fun w9 F9 S9 s => R.pickF rfl rfl) ?_
  refine SL.val rfl rfl (fun w9 F9 S9 s => R.mv rfl) ?_
  refine SL.isT 86 rfl (rfl) ?_
  refine SL.val rfl rfl (fun w9 F9 S9 s => R.mv rfl) ?_
  first | refine SL.val rfl rfl (fun w9 F9 S9 s => R.pickT rfl rfl) ?_ | refine SL.val rfl rfl (fun w9 F9 S9 s => R.pickF rfl rfl) ?_
  refine SL.val rfl rfl (fun w9 F9 S9 s => R.mv rfl) ?_
  refine SL.isT 89 rfl (rfl) ?_
  refine SL.val rfl rfl (fun w9 F9 S9 s => R.mv rfl) ?_
  first | refine SL.val rfl rfl (fun w9 F9 S9 s => R.pickT rfl rfl) ?_ | refine SL.val rfl rfl (fun w9 F9 S9 s => R.pickF rfl rfl) ?_
  refine SL.val rfl rfl (fun w9 F9 S9 s => R.mv rfl) ?_
  refine SL.isT 92 rfl (rfl) ?_
  refine SL.val rfl rfl (fun w9 F9 S9 s => R.mv rfl) ?_
  refine SL.val rfl rfl (fun w9 F9 S9 s => R.not rfl) ?_
  first | refine SL.val rfl rfl (fun w9 F9 S9 s => R.pickT rfl rfl) ?_ | refine SL.val rfl rfl (fun w9 F9 S9 s => R.pickF rfl rfl) ?_
  refine SL.val rfl rfl (fun w9 F9 S9 s => R.mv rfl) ?_
  refine SL.isT 96 rfl (rfl) ?_
  refine SL.val rfl rfl (fun w9 F9 S9 s => R.ldB (v := .int .i64 3) rfl (s.cel (by repeat (first | exact SelB.blk | exact SelB.fz | apply SelB.there))) (by rfl)) ?_
  refine SL.val rfl rfl (fun w9 F9 S9 s => R.eqI rfl rfl) ?_
  first | refine SL.val rfl rfl (fun w9 F9 S9 s => R.pickT rfl rfl) ?_ | refine SL.val rfl rfl (fun w9 F9 S9 s => R.pickF rfl rfl) ?_
  refine SL.val rfl rfl (fun w9 F9 S9 s => R.mv rfl) ?_
  refine SL.isT 100 rfl (rfl) ?_
  refine SL.val rfl rfl (fun w9 F9 S9 s => R.mv rfl) ?_
  refine SL.step rfl rfl (CS.call rfl go9 (wbra_ok p m (Lf2 m1 m2 d b5) 2 0 2 1 5 3 hw2 (by decide)) (by repeat (first | exact Sels.nil | apply Sels.cons | exact Sel.keep | exact Sel.here | apply Sel.there))) ?_
  rintro _ _ ⟨_, ⟨L3, t3, n3, e3, rfl, hB3, rfl, rfl⟩, rfl⟩
  refine SL.n4 ?_
  obtain ⟨rfl, rfl, rfl, rfl⟩ := first_bra2 hB3
  refine SL.val rfl rfl (fun w9 F9 S9 s => R.eqI rfl rfl) ?_
  first | refine SL.val rfl rfl (fun w9 F9 S9 s => R.pickT rfl rfl) ?_ | refine SL.val rfl rfl (fun w9 F9 S9 s => R.pickF rfl rfl) ?_
  refine SL.val rfl rfl (fun w9 F9 S9 s => R.mv rfl) ?_
  refine SL.isT 105 rfl (rfl) ?_
  refine SL.val rfl rfl (fun w9 F9 S9 s => R.mv rfl) ?_
  refine SL.step rfl rfl (CS.call rfl go13 (wdisk_ok p m (Lf2 m1 m2 d b5) 2 0 2 ⟨d, List.replicate (64 * 2) 0⟩ hw2 (by decide) rfl) (by repeat (first | exact Sels.nil | apply Sels.cons | exact Sel.keep | exact Sel.here | apply Sel.there))) ?_
  rintro _ _ ⟨_, ⟨rfl, rfl⟩, rfl⟩
  refine SL.n4 ?_
  refine SL.val rfl rfl (fun w9 F9 S9 s => R.neNilP rfl rfl) ?_
  first | refine SL.val rfl rfl (fun w9 F9 S9 s => R.pickT rfl rfl) ?_ | refine SL.val rfl rfl (fun w9 F9 S9 s => R.pickF rfl rfl) ?_
  refine SL.val rfl rfl (fun w9 F9 S9 s => R.mv rfl) ?_
  refine SL.isT 110 rfl (rfl) ?_
  refine SL.val rfl rfl (fun w9 F9 S9 s => R.mv rfl) ?_
  refine SL.step rfl rfl (CS.call rfl go10 (wjmp_ok p m (Lf2 m1 m2 d b5) 2 0 2 1 1 hw2 (by decide)) (by repeat (first | exact Sels.nil | apply Sels.cons | exact Sel.keep | exact Sel.here | apply Sel.there))) ?_
  rintro _ _ ⟨_, ⟨rfl, rfl⟩, rfl⟩
  refine SL.n4 ?_
  refine SL.val rfl rfl (fun w9 F9 S9 s => R.eqI rfl rfl) ?_
  first | refine SL.val rfl rfl (fun w9 F9 S9 s => R.pickT rfl rfl) ?_ | refine SL.val rfl rfl (fun w9 F9 S9 s => R.pickF rfl rfl) ?_
  refine SL.val rfl rfl (fun w9 F9 S9 s => R.as rfl) ?_
  refine SL.nil ?_
  refine SN.seq ?_
  exact SG.ret1 rfl rfl ((Imp.sels (by repeat (first | exact Sels.nil | apply Sels.cons | exact Sel.keep | exact Sel.here | apply Sel.there)))) (⟨rfl, rfl⟩)

end Go.Proofs.Ythdaelmjiaegfaa
/-
  The walks of package model.
-/
set_option linter.unusedVariables false
set_option linter.unusedSimpArgs false
set_option maxRecDepth 4000
namespace Go.Proofs.Ythdaelmjiaegfaa
open Go Brv Brv.Image Brv.Model
structure OpV where
  mk ::
  (Kind' : Int)
  (T' : Int)
  (N' : Int)
  (U' : Int)
  (L'a : Option Addr) (L'n L'c : Nat) (L' : List WriteV)
def OpV.cells (o : OpV) : List Value := [.int .i64 o.Kind', .int .i64 o.T', .int .i64 o.N', .int .i64 o.U', .slice o.L'a o.L'n o.L'c]
def OpV.ok (w : World) (o : OpV) : Prop := (Lit.int .i64 o.Kind').wf = true ∧ (Lit.int .i64 o.T').wf = true ∧ (Lit.int .i64 o.N').wf = true ∧ (Lit.int .i64 o.U').wf = true ∧ (o.L'n ≤ o.L'c ∧ o.L'c * 32 ≤ 140737488351232 ∧ Tab w o.L'a o.L'n 2 (o.L'.map WriteV.cells) ∧ ∀ x ∈ o.L', x.ok w)
theorem OpV.ok.ext0 {w w' : World} {o : OpV} (h : o.ok w) (he : Ext [] w w') : o.ok w' := by
  obtain ⟨h0, h1, h2, h3, h4⟩ := h
  exact ⟨h0, h1, h2, h3, ⟨h4.1, h4.2.1, h4.2.2.1.ext0 he, fun x hx => (h4.2.2.2 x hx).ext0 he⟩⟩
theorem OpV.cells.length (o : OpV) : o.cells.length = 5 := rfl
theorem OpV.cells.one (o : OpV) : ∀ u ∈ o.cells.toArray.toList, u.oneCell' = true := by
  intro u hu
  simp only [OpV.cells, List.mem_cons, List.not_mem_nil, or_false] at hu
  rcases hu with rfl | rfl | rfl | rfl | rfl <;> rfl
set_option maxRecDepth 100000 in
theorem opV_of {w : World} {f : Nat} {cs : List Value} (h : Rd Try.prog w f 31 cs) : ∃ o : OpV, cs = o.cells ∧ o.ok w := by
  cases f with
  | zero => exact h.elim
  | succ f =>
    unfold Rd at h
    rw [Try.underlying31] at h
    obtain ⟨hl, hf⟩ := h
    rw [show Try.prog.cellsOf 31 = 5 from by kernel_rfl] at hl
    obtain ⟨v0, v1, v2, v3, v4, rfl⟩ : ∃ v0 v1 v2 v3 v4, cs = [v0, v1, v2, v3, v4] := by
      match cs, hl with
      | [v0, v1, v2, v3, v4], _ => exact ⟨v0, v1, v2, v3, v4, rfl⟩
    have r0 : Rd Try.prog w f 3 (List.take (Try.prog.cellsOf 3) (List.drop 0 [v0, v1, v2, v3, v4])) := hf 0 _ rfl
    rw [show Try.prog.cellsOf 3 = 1 from by kernel_rfl] at r0
    replace r0 : Rd Try.prog w f 3 [v0] := r0
    have r1 : Rd Try.prog w f 3 (List.take (Try.prog.cellsOf 3) (List.drop 1 [v0, v1, v2, v3, v4])) := hf 1 _ rfl
    rw [show Try.prog.cellsOf 3 = 1 from by kernel_rfl] at r1
    replace r1 : Rd Try.prog w f 3 [v1] := r1
    have r2 : Rd Try.prog w f 3 (List.take (Try.prog.cellsOf 3) (List.drop 2 [v0, v1, v2, v3, v4])) := hf 2 _ rfl
    rw [show Try.prog.cellsOf 3 = 1 from by kernel_rfl] at r2
    replace r2 : Rd Try.prog w f 3 [v2] := r2
    have r3 : Rd Try.prog w f 3 (List.take (Try.prog.cellsOf 3) (List.drop 3 [v0, v1, v2, v3, v4])) := hf 3 _ rfl
    rw [show Try.prog.cellsOf 3 = 1 from by kernel_rfl] at r3
    replace r3 : Rd Try.prog w f 3 [v3] := r3
    have r4 : Rd Try.prog w f 29 (List.take (Try.prog.cellsOf 29) (List.drop 4 [v0, v1, v2, v3, v4])) := hf 4 _ rfl
    rw [show Try.prog.cellsOf 29 = 1 from by kernel_rfl] at r4
    replace r4 : Rd Try.prog w f 29 [v4] := r4
    obtain ⟨x0, e0, w0⟩ := r0.int
    cases e0
    obtain ⟨x1, e1, w1⟩ := r1.int
    cases e1
    obtain ⟨x2, e2, w2⟩ := r2.int
    cases e2
    obtain ⟨x3, e3, w3⟩ := r3.int
    cases e3
    obtain ⟨a4, n4, c4, l4, e4, z4, y4, b4, q4⟩ := writeV_rows29 r4
    cases e4
    exact ⟨⟨x0, x1, x2, x3, a4, n4, c4, l4⟩, rfl, ⟨w0, w1, w2, w3, ⟨z4, y4, b4, q4⟩⟩⟩
set_option maxRecDepth 100000 in
theorem opV_rows22 {w : World} {f : Nat} {cs : List Value} (h : Rd Try.prog w f 22 cs) : ∃ a n c, ∃ os : List OpV, cs = [.slice a n c] ∧ n ≤ c ∧ c * 56 ≤ 140737488351232 ∧ Tab w a n 5 (os.map OpV.cells) ∧ ∀ o ∈ os, o.ok w := by
  cases f with
  | zero => exact h.elim
  | succ f =>
    unfold Rd at h
    rw [Try.underlying22] at h
    obtain ⟨a, n, c, rfl, hnc, _, hb, vss, hl, hcell, hv⟩ := h
    rw [show Try.prog.bytesOf 31 = 56 from by kernel_rfl] at hb
    have hex : ∃ os : List OpV, vss = os.map OpV.cells ∧ ∀ o ∈ os, o.ok w := by
      clear hcell hl
      induction vss with
      | nil => exact ⟨[], rfl, by simp⟩
      | cons vs r ih =>
        obtain ⟨o, rfl, ho⟩ := opV_of (hv vs (by simp)).2
        obtain ⟨os, rfl, hos⟩ := ih (fun x hx => hv x (by simp [hx]))
        exact ⟨o :: os, rfl, fun x hx => (List.mem_cons.1 hx).elim (fun e => e ▸ ho) (hos x)⟩
    obtain ⟨os, rfl, hos⟩ := hex
    exact ⟨a, n, c, os, rfl, hnc, hb, ⟨hcell, hl.symm, fun vs hvs => by obtain ⟨o, _, rfl⟩ := List.mem_map.1 hvs; rfl⟩, hos⟩

structure OpsOk (w : World) (a : Option Addr) (n : Nat) (os : List OpV) : Prop where
  len : n = os.length
  tab : Tab w a n 5 (os.map OpV.cells)
  ok : ∀ o ∈ os, o.ok w
theorem OpsOk.ext0 {w w' : World} {a : Option Addr} {n : Nat} {os : List OpV} (h : OpsOk w a n os) (he : Ext [] w w') : OpsOk w' a n os := ⟨h.len, h.tab.ext0 he, fun o ho => (h.ok o ho).ext0 he⟩
theorem ops_pt {w : World} {a : Option Addr} {n : Nat} {os : List OpV} {i : Nat} {o : OpV} (h : OpsOk w a n os) (ho : os[i]? = some o) : ∃ q, a = some q := by
  obtain ⟨hi, _⟩ := List.getElem?_eq_some_iff.1 ho
  obtain ⟨q, hq, _⟩ := h.tab.at (by decide) i (by simpa using hi)
  exact ⟨q, hq⟩
theorem ops_cells {w : World} {a : Option Addr} {n : Nat} {os : List OpV} {i : Nat} {o : OpV} {p : Addr} (h : OpsOk w a n os) (hp : a = some p) (ho : os[i]? = some o) : Cells w (some (p.add ((i : Int).toNat * 5))) (OpV.cells o) := by
  obtain ⟨hi, rfl⟩ := List.getElem?_eq_some_iff.1 ho
  obtain ⟨q, hq, hc⟩ := h.tab.at (by decide) i (by simpa using hi)
  rw [hp] at hq; cases hq
  simpa [Int.toNat_natCast] using hc
theorem op_ws {w : World} {o : OpV} (h : o.ok w) : WsP w o.L'a o.L'n o.L' := ⟨h.2.2.2.2.2.2.1, fun z hz => (h.2.2.2.2.2.2.2 z hz).2.2.2⟩
theorem op_ln {w : World} {o : OpV} (h : o.ok w) : o.L'n ≤ o.L'c := h.2.2.2.2.1
/-- What was stays. -/
def Stays (L L2 : Lns) : Prop := ∀ t n d, wasV L t n = some d → wasV L2 t n = some d
theorem com_stays {L L' : Lns} {tt nn n' a e : Int} {d : Dk} {ws : List (Int × List UInt8)} {k : Nat} (h : ComR L tt nn d ws L' n' a e) (hw : Wf L k) (hd : wasV L tt nn = some d) : ∃ d', Wf L' (k + 1) ∧ wasV L' tt n' = some d' ∧ Stays L L' := by
  rcases h with ⟨_, _, _, rfl, rfl⟩ | ⟨_, _, _, _, rfl, rfl⟩ | ⟨_, hno, _, _, rfl, x, b, hx, rfl⟩
  · exact ⟨d, hw.more, hd, fun _ _ _ h => h⟩
  · exact ⟨d, hw.more, hd, fun _ _ _ h => h⟩
  · obtain ⟨x9, hx9, hxd⟩ := was_has hd
    have hnb := (hw.ln _ (getT_some hx9)).2.2.2 _ (getT_some hxd)
    have hds := (hw.ln _ (getT_some hx)).2.1
    have hn0 : 0 ≤ nn := hnb.1
    have hn1 : nn ≤ (k : Int) := hnb.2
    refine ⟨⟨b, (withF d.l ws).1⟩, hw.add hx ⟨by omega, by omega⟩ _, by rw [addD_was hw.srt hx hds, if_pos ⟨rfl, rfl⟩], fun t n q h => ?_⟩
    rw [addD_was hw.srt hx hds, if_neg (fun e => by rw [e.1, e.2, hno] at h; cases h)]
    exact h
theorem bra_stays {L L' : Lns} {tt nn tx nx ux t' n' e : Int} {d : Dk} {k : Nat} (h : BraR L tt nn tx nx ux L' t' n' e) (hw : Wf L k) (hd : wasV L tt nn = some d) : ∃ d', Wf L' (k + 1) ∧ wasV L' t' n' = some d' ∧ Stays L L' := by
  rcases h with ⟨_, _, rfl, rfl, rfl⟩ | ⟨_, _, _, _, rfl, rfl, rfl⟩ | ⟨q, hq, hu, h1, _, rfl, rfl, m', rfl⟩
  · exact ⟨d, hw.more, hd, fun _ _ _ h => h⟩
  · exact ⟨d, hw.more, hd, fun _ _ _ h => h⟩
  · obtain ⟨x, hx⟩ := at_has hq
    obtain ⟨t9, h9⟩ := at_was hq q rfl
    obtain ⟨y, hy, hyn⟩ := was_has h9
    have hnb := (hw.ln _ (getT_some hy)).2.2.2 _ (getT_some hyn)
    refine ⟨q, hw.new hu h1 hnb hx m' q, by rw [newL_was hw.srt hu, if_pos ⟨rfl, rfl⟩], fun t n d2 h => ?_⟩
    rw [newL_was hw.srt hu, if_neg (fun e => by rw [e.1] at h; unfold wasV at h; rw [hu] at h; cases h)]
    exact h
theorem jmp_stays {L : Lns} {tt nn tx nx : Int} {d : Dk} (hd : wasV L tt nn = some d) : ∃ d', wasV L (jmpN L tt nn tx nx).1 (jmpN L tt nn tx nx).2 = some d' := by
  cases h : wasV L tx nx with
  | none => rw [jmp_no h]; exact ⟨d, hd⟩
  | some q => rw [jmp_so h]; exact ⟨q, h⟩

end Go.Proofs.Ythdaelmjiaegfaa
/-
  The language's own maps whose keys are pairs of numbers, and ranges over them.
-/
set_option linter.unusedVariables false
set_option linter.unusedSimpArgs false
namespace Brv
open Go
abbrev PK := Int × Int
def kp (k : PK) : Value := .agg #[.int .i64 k.1, .int .i64 k.2]
class PairKey (P : Program) (K : TypeId) : Prop where
  wide : (match P.underlying K with | some (.array _ _) | some (.struct _) => true | _ => false) = true
  chk : ∀ (k : PK) (em : Bool) (w : World), (Instr.checkKey em 10000 K (kp k)).run P w = .ok () w
  eq : ∀ (k j : PK) (w : World), (Op.equal K (kp k) (kp j)).run P w = .ok (decide (k = j)) w
theorem pair_eq {P : Program} {K : TypeId} [t : TyEqS P K [.i .i64, .i .i64]] (k j : PK) (w : World) : (Op.equal K (kp k) (kp j)).run P w = .ok (decide (k = j)) w := by
  have := run_eqS (P := P) (T := K) (xs := #[.int .i64 k.1, .int .i64 k.2]) (ys := #[.int .i64 j.1, .int .i64 j.2]) rfl rfl w
  refine this.trans ?_
  congr 1
  simp [eqL, veq, Prod.ext_iff]
  rw [Bool.eq_iff_iff]; simp
theorem pair_chk {P : Program} {K : TypeId} {f g : Field} (hu : P.underlying K = some (.struct #[f, g])) (hf : f.name ≠ "_") (hg : g.name ≠ "_") (uf : P.underlying f.type = some (.int .i64)) (ug : P.underlying g.type = some (.int .i64))
    (pf : ∀ (x y : Value) (w : World), (part f.type #[x, y] f.offset).run P w = .ok x w) (pg : ∀ (x y : Value) (w : World), (part g.type #[x, y] g.offset).run P w = .ok y w) (k : PK) (em : Bool) (w : World) : (Instr.checkKey em 10000 K (kp k)).run P w = .ok () w := by
  show (Instr.checkKey em (9999 + 1) K (kp k)).run P w = .ok () w
  unfold Instr.checkKey
  have hi : ∀ (t : TypeId) (x : Int), P.underlying t = some (.int .i64) → (Instr.checkKey em 9999 t (.int .i64 x)).run P w = .ok () w := fun t x ht => by
    show (Instr.checkKey em (9998 + 1) t _).run P w = _
    unfold Instr.checkKey
    simp only [Sem.run_bind, run_underlying ht, Result.andThen]
    rfl
  simp only [Sem.run_bind, run_underlying hu, Result.andThen, kp]
  simp [hf, hg, pf, pg, hi _ _ uf, hi _ _ ug, Result.andThen]
theorem mget_mem {ps : List (PK × Value)} {k : PK} {v : Value} (h : mget ps k = some v) : (k, v) ∈ ps := by
  induction ps with
  | nil => cases h
  | cons p r ih =>
    unfold mget at h
    split at h
    · rename_i e; cases h; subst e; exact List.mem_cons_self
    · exact List.mem_cons_of_mem _ (ih h)
theorem mem_mput {ps : List (PK × Value)} {k : PK} {v : Value} {p : PK × Value} (h : p ∈ mput ps k v) : p = (k, v) ∨ p ∈ ps := by
  induction ps with
  | nil => exact .inl (List.mem_singleton.1 h)
  | cons q r ih =>
    unfold mput at h
    split at h
    · exact (List.mem_cons.1 h).imp id (List.mem_cons_of_mem _)
    · rcases List.mem_cons.1 h with rfl | h
      · exact .inr List.mem_cons_self
      · exact (ih h).imp id (List.mem_cons_of_mem _)
theorem kp_inj {a b : PK} (h : kp a = kp b) : a = b := by
  simp only [kp, Value.agg.injEq] at h
  simp at h
  exact Prod.ext h.1 h.2
def entsP (l : List MapEntry) (ps : List (PK × Value)) : Prop := l.map (fun e => (e.key, e.val)) = ps.map (fun p => (kp p.1, p.2))
/-- The entries are stamped one behind the other. -/
def StampP (es : Array MapEntry) (clock : Nat) : Prop := (∀ x ∈ es.toList, x.born < clock) ∧ (es.toList.map (·.born)).Nodup
def GP (w : World) (b : Nat) (ps : List (PK × Value)) : Prop := ∃ es clock, w.heap[b]? = some (.map es clock) ∧ entsP es.toList ps ∧ StampP es clock
theorem GP.lt {w : World} {b : Nat} {ps : List (PK × Value)} (h : GP w b ps) : b < w.heap.size := let ⟨_, _, h, _⟩ := h; (Array.getElem?_eq_some_iff.1 h).1
theorem GP.ext {M : List Nat} {w w' : World} {b : Nat} {ps : List (PK × Value)} (h : GP w b ps) (he : Ext M w w') (hb : b ∉ M) : GP w' b ps :=
  let ⟨es, c, h1, h2⟩ := h; ⟨es, c, (he.keep b (Array.getElem?_eq_some_iff.1 h1).1 hb).trans h1, h2⟩
/-- A map of one's own. -/
def gp (b : Nat) (ps : List (PK × Value)) : Asn where
  P := fun F _ w => F = [b] ∧ GP w b ps
  ext := fun F S M w w' h he hF _ => ⟨h.1, h.2.ext he (hF b (by rw [h.1]; simp))⟩
theorem St.gp {b : Nat} {ps : List (PK × Value)} {H H' : List Asn} {F S : List Nat} {w : World} (s : St H F S w) (h : Sel H (Brv.gp b ps) H') : GP w b ps := (s.sel h).elim fun _ h => h.elim fun _ h => h.2.2
theorem find_entsP {P : Program} {K : TypeId} (t : PairKey P K) (w : World) (k : PK) : ∀ (l : List MapEntry) (ps : List (PK × Value)) (n : Nat), entsP l ps →
    (mget ps k = none ∧ (Instr.findAsking K (kp k) l n).run P w = .ok none w ∧ (∀ v, mput ps k v = ps ++ [(k, v)]) ∧ ∀ e ∈ l, e.key ≠ kp k) ∨
    (∃ j e, l[j]? = some e ∧ e.key = kp k ∧ mget ps k = some e.val ∧ (Instr.findAsking K (kp k) l n).run P w = .ok (some (n + j, e.val)) w ∧ ∀ v, mput ps k v = ps.set j (k, v))
  | [], [], n, _ => .inl ⟨rfl, rfl, fun _ => rfl, by simp⟩
  | [], p :: ps, n, h => by simp [entsP] at h
  | e :: l, [], n, h => by simp [entsP] at h
  | e :: l, p :: ps, n, h => by
    simp only [entsP, List.map_cons, List.cons.injEq, Prod.mk.injEq] at h
    obtain ⟨⟨h1, h2⟩, h3⟩ := h
    have he : (Op.equal K (kp k) e.key).run P w = .ok (decide (k = p.1)) w := by rw [h1]; exact t.eq k p.1 w
    by_cases hp : k = p.1
    · subst hp
      refine .inr ⟨0, e, rfl, h1, ?_, ?_, ?_⟩
      · simp [mget, h2]
      · simp [Instr.findAsking, he, Result.andThen]
      · intro v; simp [mput]
    · have hn : ¬ p.1 = k := fun e => hp e.symm
      have hf : (Instr.findAsking K (kp k) (e :: l) n).run P w = (Instr.findAsking K (kp k) l (n + 1)).run P w := by simp [Instr.findAsking, he, hp]
      rw [hf]
      rcases find_entsP t w k l ps (n + 1) h3 with ⟨q1, q2, q3, q4⟩ | ⟨j, e', q1, q2, q3, q4, q5⟩
      · refine .inl ⟨by simp only [mget]; rw [if_neg hn]; exact q1, q2, fun v => by simp only [mput]; rw [if_neg hn, q3]; rfl, fun x hx => ?_⟩
        rcases List.mem_cons.1 hx with rfl | hx
        · rw [h1]; exact fun e => hn (kp_inj e)
        · exact q4 x hx
      · exact .inr ⟨j + 1, e', q1, q2, by simp only [mget]; rw [if_neg hn]; exact q3, by rw [q4]; simp [Nat.add_assoc, Nat.add_comm 1 j], fun v => by simp only [mput]; rw [if_neg hn, q5]; rfl⟩
section
variable {P : Program} {n : Fm} {ρ : Env} {o : Org} {H H1 : List Asn} {w : World} {T K E : TypeId} {d : Nat} {ty : TypeId} {pos : String} {af : Array Edge} {gd : Option (Nat × Bool)}
theorem CS.makeMapP : CS P n o ρ H ⟨some d, .makeMap T none, ty, pos, af, gd⟩ (fun v H' => ∃ b, v = .map (some b) ∧ H' = gp b [] :: H) := fun w F S s fr => by
  have hex := Ext.alloc w (.map #[] 0)
  have hnew : (w.alloc (.map #[] 0)).heap[w.heap.size]? = some (.map #[] 0) := World.alloc_heap_new w _
  obtain ⟨F', S', s', f'⟩ := s.grow fr hex (A := gp w.heap.size []) (F' := [w.heap.size]) (S' := []) (fun x hx => by rw [List.mem_singleton.1 hx]; simp) (fun x hx => by cases hx) ⟨rfl, ⟨#[], 0, hnew, rfl, by simp, by simp⟩⟩ (Apart.nilL _)
  refine .inl ⟨.map (some w.heap.size), w.alloc (.map #[] 0), fun f hf => ?_, _, F', S', ⟨_, rfl, rfl⟩, s', f'⟩
  simp [execOp, Instr.makeMap, go_sem]
theorem R.lookOkP [t : PairKey P K] {z : Value} [tz : TyZero P E z] {x y : Operand} {b : Nat} {ps : List (PK × Value)} {k : PK} (hT : P.underlying T = some (.map K E)) (hx : ev ρ x = some (.map (some b))) (hy : ev ρ y = some (kp k)) (hb : GP w b ps) :
    Runs P n ρ w ⟨some d, .lookup T x y true, ty, pos, af, gd⟩ (.tuple #[(mget ps k).getD z, .bool (mget ps k).isSome]) w := fun f hf => by
  obtain ⟨es, c, h1, h2, _⟩ := hb
  have hz : (zeroValue E).run P w = .ok z w := by
    have hz := tz.h
    cases hq : P.info? E with
    | none => simp [hq] at hz
    | some i => have hz' : i.zero = some z := by simpa [hq] using hz
                simp [zeroValue, typeInfo, hq, hz']
  have hk := run_findKey_eq (w := w) t.wide (kp k) es.toList
  rcases find_entsP t w k es.toList ps 0 h2 with ⟨q1, q2, _⟩ | ⟨j, e, q1, q2, q3, q4, _⟩
  · rw [q2] at hk
    simp [execOp, Instr.lookup, hf.eval hx, hf.eval hy, run_underlying hT, MapKept.run_getObj_map h1, t.chk, hk, hz, Result.andThen, q1]
  · rw [q4] at hk
    simp [execOp, Instr.lookup, hf.eval hx, hf.eval hy, run_underlying hT, MapKept.run_getObj_map h1, t.chk, hk, Result.andThen, q3]
theorem R.lookOkPE [t : PairKey P K] {z : Value} [tz : TyZero P E z] {x y : Operand} {b : Nat} {ps : List (PK × Value)} {k : PK} {r : Option Value} (hT : P.underlying T = some (.map K E)) (hx : ev ρ x = some (.map (some b))) (hy : ev ρ y = some (kp k)) (hb : GP w b ps) (hr : mget ps k = r) :
    Runs P n ρ w ⟨some d, .lookup T x y true, ty, pos, af, gd⟩ (.tuple #[r.getD z, .bool r.isSome]) w := hr ▸ R.lookOkP hT hx hy hb
theorem keyStaysP (k : PK) (w : World) : (Instr.keyThatStays (kp k) (kp k)).run P w = .ok (kp k) w := by
  have : Instr.sameBits 10000 (kp k) (kp k) = true := by
    show Instr.sameBits (9999 + 1) _ _ = true
    simp [kp, Instr.sameBits]
  simp [Instr.keyThatStays, this]
theorem CS.mapUpdP [t : PairKey P K] {x y u : Operand} {b : Nat} {ps : List (PK × Value)} {k : PK} {v : Value} (hT : P.underlying T = some (.map K E)) (hx : ev ρ x = some (.map (some b))) (hy : ev ρ y = some (kp k)) (hu : ev ρ u = some v) (sel : Sel H (gp b ps) H1) :
    CS P n o ρ H ⟨none, .mapUpdate T x y u, ty, pos, af, gd⟩ (fun _ H' => H' = gp b (mput ps k v) :: H1) := by
  refine CS.mono (CS.upd sel (φ := fun _ A' => A' = gp b (mput ps k v)) fun w F S F1 S1 s hA hlt => ?_) (by rintro v H' ⟨_, rfl, rfl⟩; rfl)
  obtain ⟨rfl, es, c, h1, h2, hst⟩ := hA
  have hbs := (Array.getElem?_eq_some_iff.1 h1).1
  have hext : ∀ ob : Obj, Ext [b] w { w with heap := w.heap.setIfInBounds b ob } := fun ob => ⟨rfl, rfl, rfl, by simp, fun k _ hm => by
    show (w.heap.setIfInBounds b ob)[k]? = _
    rw [Array.getElem?_setIfInBounds_ne (fun e => hm (by simp [e]))]⟩
  have hget : ∀ ob : Obj, (w.heap.setIfInBounds b ob)[b]? = some ob := fun ob => by simp [hbs]
  have hk := run_findKey_eq (w := w) t.wide (kp k) es.toList
  rcases find_entsP t w k es.toList ps 0 h2 with ⟨q1, q2, q3, q4⟩ | ⟨j, e, q1, q2, q3, q4, q5⟩
  · rw [q2] at hk
    refine .inr (.inl ⟨rfl, { w with heap := w.heap.setIfInBounds b (.map (es.push { key := kp k, val := v, born := c }) (c + 1)) }, fun f hf => ?_, gp b (mput ps k v), [b], [], rfl, ⟨rfl, ⟨_, _, hget _, ?_, ?_⟩⟩, fun x hx => by rw [List.mem_singleton.1 hx]; simpa using hbs, by simp, ⟨hext _, fun x hx => .inl hx, by simp⟩⟩)
    · simp [execOp, Instr.mapUpdate, hf.eval hx, hf.eval hy, hf.eval hu, run_underlying hT, MapKept.run_getObj_map h1, t.chk, hk, MapKept.run_setObj_map _ h1, Result.andThen]
    · rw [q3]; unfold entsP at h2 ⊢; simp [h2]
    · refine ⟨fun x hx => ?_, ?_⟩
      · simp only [Array.toList_push, List.mem_append, List.mem_singleton] at hx
        rcases hx with hx | rfl
        · exact Nat.lt_succ_of_lt (hst.1 x hx)
        · exact Nat.lt_succ_self _
      · simp only [Array.toList_push, List.map_append, List.map_cons, List.map_nil]
        refine List.nodup_append.2 ⟨hst.2, by simp, ?_⟩
        intro a ha b hb
        simp only [List.mem_singleton] at hb
        subst hb
        obtain ⟨x, hx, rfl⟩ := List.mem_map.1 ha
        exact Nat.ne_of_lt (hst.1 x hx)
  · rw [q4] at hk
    have hj : es[j]? = some e := by simpa using q1
    have hjl : j < es.size := (Array.getElem?_eq_some_iff.1 hj).1
    refine .inr (.inl ⟨rfl, { w with heap := w.heap.setIfInBounds b (.map (es.modify j fun e => { e with key := kp k, val := v }) c) }, fun f hf => ?_, gp b (mput ps k v), [b], [], rfl, ⟨rfl, ⟨_, _, hget _, ?_, ?_⟩⟩, fun x hx => by rw [List.mem_singleton.1 hx]; simpa using hbs, by simp, ⟨hext _, fun x hx => .inl hx, by simp⟩⟩)
    · rw [Nat.zero_add] at hk
      simp [execOp, Instr.mapUpdate, hf.eval hx, hf.eval hy, hf.eval hu, run_underlying hT, MapKept.run_getObj_map h1, t.chk, hk, hj, q2, keyStaysP, MapKept.run_setObj_map _ h1, Result.andThen]
    · rw [q5]
      unfold entsP at h2 ⊢
      apply List.ext_getElem?
      intro i
      have h3 := congrArg (fun l => l[i]?) h2
      simp only [List.getElem?_map, Array.getElem?_toList] at h3
      simp only [List.getElem?_map, Array.getElem?_toList, Array.getElem?_modify, List.getElem?_set]
      by_cases hij : j = i
      · subst hij
        have hjp : j < ps.length := by have := congrArg List.length h2; simp at this; omega
        simp [hj, hjp]
      · simp only [hij, if_false]; exact h3
    · have hb : (es.modify j fun e => { e with key := kp k, val := v }).toList.map (·.born) = es.toList.map (·.born) := by
        apply List.ext_getElem?
        intro i
        simp only [List.getElem?_map, Array.getElem?_toList, Array.getElem?_modify]
        split
        · rename_i e9; subst e9; cases es[j]? <;> rfl
        · rfl
      refine ⟨fun x hx => ?_, by rw [hb]; exact hst.2⟩
      have : x.born ∈ es.toList.map (·.born) := by rw [← hb]; exact List.mem_map.2 ⟨x, hx, rfl⟩
      obtain ⟨y, hy, e9⟩ := List.mem_map.1 this
      rw [← e9]; exact hst.1 y hy
end
/-- What a step over a map gives. -/
def nextV : Option (PK × Value) → Value
  | some p => .tuple #[.bool true, kp p.1, p.2]
  | none => .tuple #[.bool false]
/-- A map that is ranged over, its iterator, the entry that is on, and how many are left. -/
def gi (b it : Nat) (ps : List (PK × Value)) (cur : Option (PK × Value)) (m : Nat) : Asn where
  P := fun F _ w => F = [b, it] ∧ b ≠ it ∧ ∃ es clock seen, w.heap[b]? = some (.map es clock) ∧ entsP es.toList ps ∧ StampP es clock ∧ w.heap[it]? = some (.mapIter (some b) clock seen clock) ∧ (leftOf es seen).size = m ∧ ∀ p, cur = some p → ∃ e ∈ es.toList, ∃ seen' : Array Nat, seen = seen'.push e.born ∧ e.key = kp p.1 ∧ e.val = p.2
  ext := fun F S M w w' ⟨h0, hn, es, clock, seen, h1, h2, h3, h4, h5⟩ he hF _ => ⟨h0, hn, es, clock, seen, (he.keep b (Array.getElem?_eq_some_iff.1 h1).1 (hF b (by rw [h0]; simp))).trans h1, h2, h3, (he.keep it (Array.getElem?_eq_some_iff.1 h4).1 (hF it (by rw [h0]; simp))).trans h4, h5⟩
section
variable {P : Program} {n : Fm} {ρ : Env} {o : Org} {H H1 : List Asn} {w : World} {T K E : TypeId} {d : Nat} {ty : TypeId} {pos : String} {af : Array Edge} {gd : Option (Nat × Bool)}
theorem CS.rangeP {x : Operand} {b : Nat} {ps : List (PK × Value)} (hT : P.underlying T = some (.map K E)) (hx : ev ρ x = some (.map (some b))) (sel : Sel H (gp b ps) H1) :
    CS P n o ρ H ⟨some d, .range T x, ty, pos, af, gd⟩ (fun v H' => ∃ it m, v = .pointer (some ⟨it, 0, none⟩) ∧ m ≤ ps.length ∧ H' = gi b it ps none m :: H1) := by
  refine CS.mono (CS.upd sel (φ := fun v A' => ∃ it m, v = .pointer (some ⟨it, 0, none⟩) ∧ m ≤ ps.length ∧ A' = gi b it ps none m) fun w F S F1 S1 s hA hlt => ?_) (by rintro v H' ⟨_, ⟨it, m, h1, h2, rfl⟩, rfl⟩; exact ⟨it, m, h1, h2, rfl⟩)
  obtain ⟨rfl, es, c, h1, h2, hst⟩ := hA
  have hbs := (Array.getElem?_eq_some_iff.1 h1).1
  have hnew : (w.alloc (.mapIter (some b) c #[] c)).heap[w.heap.size]? = some (.mapIter (some b) c #[] c) := World.alloc_heap_new w _
  have he := Ext.alloc w (.mapIter (some b) c #[] c)
  refine .inl ⟨.pointer (some ⟨w.heap.size, 0, none⟩), w.alloc (.mapIter (some b) c #[] c), fun f hf => ?_, gi b w.heap.size ps none (leftOf es #[]).size, [b, w.heap.size], [], ⟨_, _, rfl, ?_, rfl⟩, ⟨rfl, by omega, es, c, #[], (he.keep b hbs (by simp)).trans h1, h2, hst, hnew, rfl, by simp⟩, ?_, by simp, ⟨he.mono (by simp), ?_, by simp⟩⟩
  · simp only [execOp, hf.eval hx, Sem.run_bind, run_range_map w T K E b es c hT h1, Result.andThen]
    rfl
  · have hl : es.size = ps.length := by have := congrArg List.length h2; simpa using this
    unfold leftOf
    exact Nat.le_trans (Array.size_filter_le ..) (Nat.le_of_eq hl)
  · intro x hx
    simp only [List.mem_cons, List.not_mem_nil, or_false] at hx
    rcases hx with rfl | rfl
    · have := he.size; omega
    · simp
  · intro x hx
    simp only [List.mem_cons, List.not_mem_nil, or_false] at hx
    rcases hx with rfl | rfl
    · exact .inl (by simp)
    · exact .inr (Nat.le_refl _)
theorem CS.nextP {x : Operand} {b it m : Nat} {ps : List (PK × Value)} {cur : Option (PK × Value)} (hx : ev ρ x = some (.pointer (some ⟨it, 0, none⟩))) (sel : Sel H (gi b it ps cur m) H1) :
    CS P n o ρ H ⟨some d, .next x false, ty, pos, af, gd⟩ (fun v H' => ∃ c m', v = nextV c ∧ (∀ p, c = some p → p ∈ ps ∧ m' < m) ∧ H' = gi b it ps c m' :: H1) := by
  refine CS.mono (CS.upd sel (φ := fun v A' => ∃ c m', v = nextV c ∧ (∀ p, c = some p → p ∈ ps ∧ m' < m) ∧ A' = gi b it ps c m') fun w F S F1 S1 s hA hlt => ?_) (by rintro v H' ⟨_, ⟨c, m', h1, h2, rfl⟩, rfl⟩; exact ⟨c, m', h1, h2, rfl⟩)
  obtain ⟨rfl, hne, es, clock, seen, h1, h2, h3, h4, h7, _⟩ := hA
  have hbs := (Array.getElem?_eq_some_iff.1 h1).1
  have his := (Array.getElem?_eq_some_iff.1 h4).1
  rcases run_next_at (P := P) w ty it b clock clock seen es clock h4 h1 h3.1 (Nat.le_refl _) with ⟨hz, hr⟩ | ⟨e, he, w1, hw1, hr⟩
  · refine .inl ⟨.tuple #[.bool false], w, fun f hf => ?_, gi b it ps none m, [b, it], [], ⟨none, m, rfl, by simp, rfl⟩, ⟨rfl, hne, es, clock, seen, h1, h2, h3, h4, h7, by simp⟩, fun x hx => hlt x hx, by simp, ⟨Ext.refl _ _, fun x hx => .inl hx, by simp⟩⟩
    simp only [execOp, hf.eval hx, Sem.run_bind, hr, Result.andThen]; rfl
  · have hw : w1.heap = w.heap ∧ w1.os = w.os ∧ w1.tape = w.tape ∧ w1.output = w.output := by rcases hw1 with rfl | rfl <;> exact ⟨rfl, rfl, rfl, rfl⟩
    have hml := mem_left he
    have hsh := left_shrinks es seen e he
    obtain ⟨i, hi⟩ := List.getElem?_of_mem hml.1
    have hpi : (ps.map (fun p => (kp p.1, p.2)))[i]? = some (e.key, e.val) := by rw [← show es.toList.map (fun e => (e.key, e.val)) = _ from h2, List.getElem?_map, hi]; rfl
    rw [List.getElem?_map] at hpi
    cases hp : ps[i]? with
    | none => rw [hp] at hpi; cases hpi
    | some p =>
      rw [hp] at hpi
      simp only [Option.map_some, Option.some.injEq, Prod.mk.injEq] at hpi
      have hsz : (ChangeMaps.setBlock w1 it (.mapIter (some b) clock (seen.push e.born) clock)).heap.size = w.heap.size := by simp [ChangeMaps.setBlock, hw.1]
      have hx2 : Ext [b, it] w (ChangeMaps.setBlock w1 it (.mapIter (some b) clock (seen.push e.born) clock)) := ⟨hw.2.1, hw.2.2.1, hw.2.2.2, by rw [hsz]; exact Nat.le_refl _, fun k _ hm => by
        show (w1.heap.setIfInBounds it _)[k]? = _
        rw [Array.getElem?_setIfInBounds_ne (fun e => hm (by simp [e])), hw.1]⟩
      refine .inl ⟨nextV (some p), _, fun f hf => ?_, gi b it ps (some p) (leftOf es (seen.push e.born)).size, [b, it], [], ⟨some p, _, rfl, fun q hq => ?_, rfl⟩, ⟨rfl, hne, es, clock, seen.push e.born, ?_, h2, h3, ?_, rfl, fun q hq => ?_⟩, fun x hx => by rw [hsz]; exact hlt x hx, by simp, ⟨hx2, fun x hx => .inl hx, by simp⟩⟩
      · simp only [execOp, hf.eval hx]; rw [show nextV (some p) = .tuple #[.bool true, e.key, e.val] by simp only [nextV]; rw [hpi.1, hpi.2]]; simp only [Sem.run_bind, hr, Result.andThen]; rfl
      · cases hq; exact ⟨List.mem_of_getElem? hp, by omega⟩
      · show (w1.heap.setIfInBounds it _)[b]? = _
        rw [Array.getElem?_setIfInBounds_ne (fun e => hne e.symm), hw.1]; exact h1
      · show (w1.heap.setIfInBounds it _)[it]? = _
        rw [hw.1]; simp [his]
      · cases hq; exact ⟨e, hml.1, seen, rfl, hpi.1.symm, hpi.2.symm⟩
theorem CS.entryP {x : Operand} {b it m : Nat} {ps : List (PK × Value)} {p : PK × Value} (hx : ev ρ x = some (.pointer (some ⟨it, 0, none⟩))) (sel : Sel H (gi b it ps (some p) m) H1) :
    CS P n o ρ H ⟨some d, .entry x, ty, pos, af, gd⟩ (fun v H' => v = .tuple #[kp p.1, p.2] ∧ H' = gi b it ps (some p) m :: H1) := by
  refine CS.mono (CS.upd sel (φ := fun v A' => v = .tuple #[kp p.1, p.2] ∧ A' = gi b it ps (some p) m) fun w F S F1 S1 s hA hlt => ?_) (by rintro v H' ⟨_, ⟨h1, rfl⟩, rfl⟩; exact ⟨h1, rfl⟩)
  have hA0 := hA
  obtain ⟨rfl, hne, es, clock, seen, h1, h2, h3, h4, h7, h8⟩ := hA
  obtain ⟨e, he, seen', rfl, e1, e2⟩ := h8 p rfl
  refine .inl ⟨_, w, fun f hf => ?_, _, [b, it], [], ⟨rfl, rfl⟩, hA0, fun x hx => hlt x hx, by simp, ⟨Ext.refl _ _, fun x hx => .inl hx, by simp⟩⟩
  simp only [execOp, hf.eval hx, Sem.run_bind, run_entry_at w it b clock seen' es clock e h4 h1 he h3.2, Result.andThen]
  rw [← e1, ← e2]
  rfl
/-- The range is over. -/
theorem Imp.giEnd {b it m : Nat} {ps : List (PK × Value)} {cur : Option (PK × Value)} (h : Sel H (gi b it ps cur m) H1) : Imp H (gp b ps :: H1) :=
  Imp.turn h fun F S w hA => by
    obtain ⟨rfl, hne, es, clock, seen, h1, h2, h3, h4⟩ := hA
    exact ⟨[b], [], .inl ⟨⟨rfl, es, clock, h1, h2, h3⟩, by simp, by simp, Apart.nilR _⟩⟩
theorem R.extNext {x : Operand} {c : Option (PK × Value)} (hx : ev ρ x = some (nextV c)) : Runs P n ρ w ⟨some d, .extract x 0, ty, pos, af, gd⟩ (.bool c.isSome) w := by
  cases c with
  | none => exact R.ext hx rfl
  | some p => exact R.ext hx rfl
end
end Brv
/-
  The structs of plain fields, to be compared.
-/
set_option linter.unusedVariables false
set_option maxRecDepth 100000
namespace Go.Proofs.Ythdaelmjiaegfaa
open Go Brv
instance : TyEqS Try.prog 40 [.i .i64, .i .i64] := ⟨by kernel_rfl, by kernel_rfl, by kernel_rfl, by kernel_rfl⟩ -- breviarylaw27.pair
instance : TyEqS Try.prog 81 [.i .i64, .i .i64] := ⟨by kernel_rfl, by kernel_rfl, by kernel_rfl, by kernel_rfl⟩ -- model.pair
instance : TyEqS Try.prog 109 [.i .i64, .i .i64, .s] := ⟨by kernel_rfl, by kernel_rfl, by kernel_rfl, by kernel_rfl⟩ -- breviaryref27.Was
instance : TyEqS Try.prog 113 [.i .i64, .i .i64, .i .i64] := ⟨by kernel_rfl, by kernel_rfl, by kernel_rfl, by kernel_rfl⟩ -- breviaryref27.Left
end Go.Proofs.Ythdaelmjiaegfaa
/-
  The walks of package model.
-/
set_option linter.unusedVariables false
set_option linter.unusedSimpArgs false
set_option maxRecDepth 4000
namespace Go.Proofs.Ythdaelmjiaegfaa
open Go Brv Brv.Image Brv.Model
instance : PairKey Try.prog 40 := ⟨by kernel_rfl, fun k em w => pair_chk Try.underlying40 (by decide) (by decide) Try.underlying3 Try.underlying3 (fun x y w => run_part_plain w (by kernel_rfl) rfl) (fun x y w => run_part_plain w (by kernel_rfl) rfl) k em w, pair_eq⟩
structure StS where
  i : Nat
  L : Lns
  tt : Int
  nn : Int
  d : Dk
  M : List (PK × Value)
structure StT where
  L : Lns
  tt : Int
  nn : Int
  d : Dk
def MInv (M : List (PK × Value)) (L : Lns) : Prop := ∀ q ∈ M, ∃ d : Dk, q.2 = .pointer (some ⟨d.b, 0, none⟩) ∧ wasV L q.1.1 q.1.2 = some d
theorem MInv.stays {M : List (PK × Value)} {L L2 : Lns} (h : MInv M L) (hs : Stays L L2) : MInv M L2 := fun q hq => let ⟨d, h1, h2⟩ := h q hq; ⟨d, h1, hs _ _ _ h2⟩
theorem MInv.put {M : List (PK × Value)} {L : Lns} {t n : Int} {d : Dk} (h : MInv M L) (hd : wasV L t n = some d) : MInv (mput M (t, n) (.pointer (some ⟨d.b, 0, none⟩))) L := fun q hq => (mem_mput hq).elim (fun e => by rw [e]; exact ⟨d, rfl, hd⟩) (h q)

set_option maxHeartbeats 4000000 in
theorem stays_law (la : Option Addr) (ln lc : Nat) (os : List OpV) (w : World) (hO : OpsOk w la ln os) (hlc : ln ≤ 140737488351232) : Meets Try.prog 3 [.slice la ln lc] w (fun v w' => v = .bool true ∧ Ext [] w w') := by
  refine Meets.law Try.func3 rfl 116 rfl (Nat.le_of_ble_eq_true rfl) (law_cons (p := fun w => OpsOk w la ln os) (fun w9 he => hO.ext0 he) (law_nil w)) ?_
  refine SG.fact (fun w9 F9 S9 s => (s.sh (p := fun w => OpsOk w la ln os) (by repeat (first | exact Sel.keep | exact Sel.here | apply Sel.there))).len) (fun hf9 => ?_)
  have hlen := hf9; clear hf9
  refine SG.seq ?_
  refine SG.region ?_
  refine SL.val rfl rfl (fun w9 F9 S9 s => R.as rfl) ?_
  refine SL.nil ?_
  refine SN.seq ?_
  refine SG.seq ?_
  refine SG.seq ?_
  refine SG.region ?_
  refine SL.step rfl rfl (CS.call rfl go6 (first27_ok) (by repeat (first | exact Sels.nil | apply Sels.cons | exact Sel.keep | exact Sel.here | apply Sel.there))) ?_
  rintro _ _ ⟨_, ⟨rfl, rfl⟩, rfl⟩
  refine SL.n0 ?_
  refine SL.val rfl rfl (fun w9 F9 S9 s => R.not rfl) ?_
  refine SL.nil ?_
  refine SN.seq ?_
  refine SG.condF rfl ?_
  refine SG.skip ?_
  refine SN.seq ?_
  refine SG.seq ?_
  refine SG.region ?_
  refine SL.step rfl rfl (CS.call rfl go7 (wnew_ok 3 (by decide) (by decide)) (by repeat (first | exact Sels.nil | apply Sels.cons | exact Sel.keep | exact Sel.here | apply Sel.there))) ?_
  rintro _ _ ⟨_, ⟨p, m, m1, d0, rfl, rfl⟩, rfl⟩
  refine SL.n4 ?_
  refine SL.val rfl rfl (fun w9 F9 S9 s => R.mv rfl) ?_
  refine SL.val rfl rfl (fun w9 F9 S9 s => R.ext rfl rfl) ?_
  refine SL.val rfl rfl (fun w9 F9 S9 s => R.ext rfl rfl) ?_
  refine SL.val rfl rfl (fun w9 F9 S9 s => R.as rfl) ?_
  refine SL.val rfl rfl (fun w9 F9 S9 s => R.as rfl) ?_
  refine SL.nil ?_
  refine SN.seq ?_
  refine SG.seq ?_
  refine SG.region ?_
  refine SL.step rfl rfl (CS.makeMapP) ?_
  rintro _ _ ⟨bm, rfl, rfl⟩
  refine SL.val rfl rfl (fun w9 F9 S9 s => R.as rfl) ?_
  refine SL.nil ?_
  refine SN.seq ?_
  refine SG.seq ?_
  refine SG.seq ?_
  refine SG.region ?_
  refine SL.val rfl rfl (fun w9 F9 S9 s => R.mv rfl) ?_
  refine SL.val rfl rfl (fun w9 F9 S9 s => R.lenS rfl) ?_
  refine SL.val rfl rfl (fun w9 F9 S9 s => R.mv rfl) ?_
  refine SL.nil ?_
  refine SN.seq ?_
  refine SG.block ?_
  refine SG.loop (X := StS) (fun y => [(3, .pointer (some ⟨p, 0, none⟩)), (5, .map (some bm)), (24, .slice la ln lc), (25, .int .i64 (ln : Int)), (26, .int .i64 (y.i : Int))]) (fun y => [blk p [.pointer (some ⟨m, 0, none⟩), .int .i64 y.tt, .int .i64 y.nn] 85, mp (κ := Int) 124 128 3 m (psL y.L), lnA y.L, dkS y.L, gp bm y.M, sh (fun w => OpsOk w la ln os)]) (fun y => (y.i ≤ ln ∧ y.i ≤ 40) ∧ Wf y.L y.i ∧ wasV y.L y.tt y.nn = some y.d ∧ MInv y.M y.L) (fun y => ln - y.i) (⟨0, newW m1 d0 3, 1, 0, ⟨d0, List.replicate (64 * 3) 0⟩, []⟩) (Sub.cons rfl (Sub.cons rfl (Sub.cons rfl (Sub.cons rfl (Sub.cons rfl (Sub.nil _)))))) ((Imp.sels (by repeat (first | exact Sels.nil | apply Sels.cons | exact Sel.keep | exact Sel.here | apply Sel.there)))) (⟨⟨Nat.zero_le _, Nat.zero_le _⟩, newW_wf m1 d0 3, newW_was m1 d0 3, fun q hq => (by cases hq)⟩) ?_
  rintro ⟨i, L, tt, nn, d, M⟩ ⟨⟨hi, hi4⟩, hw, hd, hM⟩
  dsimp only at hi hi4 hw hd hM
  show SG _ _ _ _ _ [(3, .pointer (some ⟨p, 0, none⟩)), (5, .map (some bm)), (24, .slice la ln lc), (25, .int .i64 (ln : Int)), (26, .int .i64 (i : Int))] [blk p [.pointer (some ⟨m, 0, none⟩), .int .i64 tt, .int .i64 nn] 85, mp (κ := Int) 124 128 3 m (psL L), lnA L, dkS L, gp bm M, sh (fun w => OpsOk w la ln os)] _
  refine SG.seq ?_
  refine SG.region ?_
  refine SL.val rfl rfl (fun w9 F9 S9 s => R.lss rfl rfl) ?_
  refine SL.nil ?_
  refine SN.seq ?_
  refine SG.seq ?_
  refine SG.condP rfl (fun h1 => ?_) (fun h1 => ?_)
  · obtain ⟨o, ho⟩ : ∃ o, os[i]? = some o := ⟨_, List.getElem?_eq_getElem (by omega)⟩
    refine SG.fact (fun w9 F9 S9 s => ops_pt (s.sh (p := fun w => OpsOk w la ln os) (by repeat (first | exact Sel.keep | exact Sel.here | apply Sel.there))) ho) (fun hf9 => ?_)
    obtain ⟨q0, hq0⟩ := hf9
    refine SG.fact (fun w9 F9 S9 s => op_ln ((s.sh (p := fun w => OpsOk w la ln os) (by repeat (first | exact Sel.keep | exact Sel.here | apply Sel.there))).ok o (List.mem_of_getElem? ho))) (fun hf9 => ?_)
    have hoL := hf9; clear hf9
    refine SG.skip ?_
    refine SN.seq ?_
    refine SG.seq ?_
    refine SG.block ?_
    refine SG.seq ?_
    refine SG.region ?_
    refine SL.val rfl rfl (fun w9 F9 S9 s => R.mv rfl) ?_
    refine SL.val rfl rfl (fun w9 F9 S9 s => R.idx rfl rfl (by omega) (by omega) q0 hq0) ?_
    refine SL.val rfl rfl (fun w9 F9 S9 s => R.ldN (vs := OpV.cells o) rfl (ops_cells (s.sh (p := fun w => OpsOk w la ln os) (by repeat (first | exact Sel.keep | exact Sel.here | apply Sel.there))) hq0 ho) rfl) ?_
    refine SL.step rfl rfl (CS.alloc [.int .i64 0, .int .i64 0, .int .i64 0, .int .i64 0, .slice none 0 0] rfl) ?_
    rintro _ _ ⟨b7, rfl, rfl⟩
    refine SL.val rfl rfl (fun w9 F9 S9 s => R.as rfl) ?_
    refine SL.step0 rfl (CS.stA (vs := OpV.cells o) rfl rfl (by repeat (first | exact Sel.keep | exact Sel.here | apply Sel.there)) (by rfl) (by rfl) (by intro u hu; exact OpV.cells.one _ u (by simpa using hu))) ?_
    rintro _ _ rfl
    refine SL.nil ?_
    refine SN.seq ?_
    refine SG.seq ?_
    refine SG.seq ?_
    refine SG.region ?_
    refine SL.val rfl rfl (fun w9 F9 S9 s => R.mv rfl) ?_
    refine SL.val rfl rfl (fun w9 F9 S9 s => R.geq rfl rfl) ?_
    refine SL.val rfl rfl (fun w9 F9 S9 s => R.mv rfl) ?_
    refine SL.caseP 33 rfl (fun hg8_2 => ?_) (fun hg8_2 => ?_)
    · refine SL.pass rfl rfl ?_
      refine SL.pass rfl rfl ?_
      refine SL.pass rfl rfl ?_
      refine SL.pass rfl rfl ?_
      first | refine SL.val rfl rfl (fun w9 F9 S9 s => R.pickT rfl rfl) ?_ | refine SL.val rfl rfl (fun w9 F9 S9 s => R.pickF rfl rfl) ?_
      refine SL.nil ?_
      refine SN.seq ?_
      refine SG.condT rfl ?_
      refine SG.seq ?_
      refine SG.region ?_
      refine SL.val rfl rfl (fun w9 F9 S9 s => R.as rfl) ?_
      refine SL.nil ?_
      refine SN.seq ?_
      exact SG.ret1 rfl rfl ((Imp.sels (by repeat (first | exact Sels.nil | apply Sels.cons | exact Sel.keep | exact Sel.here | apply Sel.there)))) (rfl)
    · refine SL.val rfl rfl (fun w9 F9 S9 s => R.fld rfl) ?_
      refine SL.val rfl rfl (fun w9 F9 S9 s => R.ldB (v := .slice o.L'a o.L'n o.L'c) rfl (s.cel (by repeat (first | exact SelB.blk | exact SelB.fz | apply SelB.there))) (by rfl)) ?_
      refine SL.val rfl rfl (fun w9 F9 S9 s => R.lenS rfl) ?_
      refine SL.val rfl rfl (fun w9 F9 S9 s => R.gtr rfl rfl) ?_
      first | refine SL.val rfl rfl (fun w9 F9 S9 s => R.pickT rfl rfl) ?_ | refine SL.val rfl rfl (fun w9 F9 S9 s => R.pickF rfl rfl) ?_
      refine SL.nil ?_
      refine SN.seq ?_
      refine SG.condP rfl (fun h2 => ?_) (fun h2 => ?_)
      · refine SG.seq ?_
        refine SG.region ?_
        refine SL.val rfl rfl (fun w9 F9 S9 s => R.as rfl) ?_
        refine SL.nil ?_
        refine SN.seq ?_
        exact SG.ret1 rfl rfl ((Imp.sels (by repeat (first | exact Sels.nil | apply Sels.cons | exact Sel.keep | exact Sel.here | apply Sel.there)))) (rfl)
      · refine SG.skip ?_
        refine SN.seq ?_
        refine SG.seq ?_
        refine SG.seq ?_
        have hu : 0 ≤ IntKind.u64.wrap o.Kind' := by
          simp only [IntKind.wrap, IntKind.bits, IntKind.signed]
          simp
          omega
        refine SG.region ?_
        refine SL.val rfl rfl (fun w9 F9 S9 s => R.fld rfl) ?_
        refine SL.val rfl rfl (fun w9 F9 S9 s => R.ldB (v := .int .i64 o.Kind') rfl (s.cel (by repeat (first | exact SelB.blk | exact SelB.fz | apply SelB.there))) (by rfl)) ?_
        refine SL.val rfl rfl (fun w9 F9 S9 s => R.conv rfl _ rfl) ?_
        refine SL.val rfl rfl (fun w9 F9 S9 s => R.rem rfl rfl hu (by decide)) ?_
        refine SL.nil ?_
        refine SN.seq ?_
        refine SG.block ?_
        refine SG.seq ?_
        refine SG.region ?_
        refine SL.val rfl rfl (fun w9 F9 S9 s => R.eqI rfl rfl) ?_
        refine SL.val rfl rfl (fun w9 F9 S9 s => R.as rfl) ?_
        refine SL.nil ?_
        refine SN.seq ?_
        refine SG.cut (X := StT) (fun y => [(3, .pointer (some ⟨p, 0, none⟩)), (5, .map (some bm)), (24, .slice la ln lc), (25, .int .i64 (ln : Int)), (26, .int .i64 (i : Int))]) (fun y => [blk p [.pointer (some ⟨m, 0, none⟩), .int .i64 y.tt, .int .i64 y.nn] 85, mp (κ := Int) 124 128 3 m (psL y.L), lnA y.L, dkS y.L, gp bm M, sh (fun w => OpsOk w la ln os)]) (fun y => Wf y.L (i + 1) ∧ wasV y.L y.tt y.nn = some y.d ∧ Stays L y.L) ?_ ?_
        · refine SG.condP rfl (fun h3 => ?_) (fun h3 => ?_)
          · refine SG.region ?_
            refine SL.val rfl rfl (fun w9 F9 S9 s => R.mv rfl) ?_
            refine SL.val rfl rfl (fun w9 F9 S9 s => R.fld rfl) ?_
            refine SL.val rfl rfl (fun w9 F9 S9 s => R.ldB (v := .slice o.L'a o.L'n o.L'c) rfl (s.cel (by repeat (first | exact SelB.blk | exact SelB.fz | apply SelB.there))) (by rfl)) ?_
            refine SL.imp (Imp.weak (p := fun w => OpsOk w la ln os) (q := fun w => WsP w o.L'a o.L'n o.L') (by repeat (first | exact Sel.keep | exact Sel.here | apply Sel.there)) (fun w hw => op_ws (hw.ok o (List.mem_of_getElem? ho)))) ?_
            refine SL.step rfl rfl (CS.call rfl go8 (wcom_ok p m L tt nn i d o.L'a o.L'n o.L'c o.L' hw (by omega) hd (by omega)) (by repeat (first | exact Sels.nil | apply Sels.cons | exact Sel.keep | exact Sel.here | apply Sel.there))) ?_
            rintro _ _ ⟨_, ⟨L2, n2, a2, e2, rfl, hC, rfl, rfl⟩, rfl⟩
            refine SL.n4 ?_
            obtain ⟨d2, hw2, hd2, hst⟩ := com_stays hC hw hd
            refine SL.nil ?_
            exact SN.handX (⟨L2, tt, n2, d2⟩) (Sub.cons rfl (Sub.cons rfl (Sub.cons rfl (Sub.cons rfl (Sub.cons rfl (Sub.nil _)))))) ((Imp.sels (by repeat (first | exact Sels.nil | apply Sels.cons | exact Sel.keep | exact Sel.here | apply Sel.there)))) (⟨hw2, hd2, hst⟩)
          · refine SG.seq ?_
            refine SG.region ?_
            refine SL.val rfl rfl (fun w9 F9 S9 s => R.eqI rfl rfl) ?_
            refine SL.val rfl rfl (fun w9 F9 S9 s => R.as rfl) ?_
            refine SL.nil ?_
            refine SN.seq ?_
            refine SG.condP rfl (fun h4 => ?_) (fun h4 => ?_)
            · refine SG.region ?_
              refine SL.val rfl rfl (fun w9 F9 S9 s => R.mv rfl) ?_
              refine SL.val rfl rfl (fun w9 F9 S9 s => R.fld rfl) ?_
              refine SL.val rfl rfl (fun w9 F9 S9 s => R.ldB (v := .int .i64 o.T') rfl (s.cel (by repeat (first | exact SelB.blk | exact SelB.fz | apply SelB.there))) (by rfl)) ?_
              refine SL.val rfl rfl (fun w9 F9 S9 s => R.fld rfl) ?_
              refine SL.val rfl rfl (fun w9 F9 S9 s => R.ldB (v := .int .i64 o.N') rfl (s.cel (by repeat (first | exact SelB.blk | exact SelB.fz | apply SelB.there))) (by rfl)) ?_
              refine SL.val rfl rfl (fun w9 F9 S9 s => R.fld rfl) ?_
              refine SL.val rfl rfl (fun w9 F9 S9 s => R.ldB (v := .int .i64 o.U') rfl (s.cel (by repeat (first | exact SelB.blk | exact SelB.fz | apply SelB.there))) (by rfl)) ?_
              refine SL.step rfl rfl (CS.call rfl go9 (wbra_ok p m L tt nn i o.T' o.N' o.U' hw (by omega)) (by repeat (first | exact Sels.nil | apply Sels.cons | exact Sel.keep | exact Sel.here | apply Sel.there))) ?_
              rintro _ _ ⟨_, ⟨L2, t2, n2, e2, rfl, hB, rfl, rfl⟩, rfl⟩
              refine SL.n4 ?_
              obtain ⟨d2, hw2, hd2, hst⟩ := bra_stays hB hw hd
              refine SL.nil ?_
              exact SN.handX (⟨L2, t2, n2, d2⟩) (Sub.cons rfl (Sub.cons rfl (Sub.cons rfl (Sub.cons rfl (Sub.cons rfl (Sub.nil _)))))) ((Imp.sels (by repeat (first | exact Sels.nil | apply Sels.cons | exact Sel.keep | exact Sel.here | apply Sel.there)))) (⟨hw2, hd2, hst⟩)
            · refine SG.region ?_
              refine SL.val rfl rfl (fun w9 F9 S9 s => R.mv rfl) ?_
              refine SL.val rfl rfl (fun w9 F9 S9 s => R.fld rfl) ?_
              refine SL.val rfl rfl (fun w9 F9 S9 s => R.ldB (v := .int .i64 o.T') rfl (s.cel (by repeat (first | exact SelB.blk | exact SelB.fz | apply SelB.there))) (by rfl)) ?_
              refine SL.val rfl rfl (fun w9 F9 S9 s => R.fld rfl) ?_
              refine SL.val rfl rfl (fun w9 F9 S9 s => R.ldB (v := .int .i64 o.N') rfl (s.cel (by repeat (first | exact SelB.blk | exact SelB.fz | apply SelB.there))) (by rfl)) ?_
              refine SL.step rfl rfl (CS.call rfl go10 (wjmp_ok p m L tt nn i o.T' o.N' hw (by omega)) (by repeat (first | exact Sels.nil | apply Sels.cons | exact Sel.keep | exact Sel.here | apply Sel.there))) ?_
              rintro _ _ ⟨_, ⟨rfl, rfl⟩, rfl⟩
              refine SL.n4 ?_
              obtain ⟨d2, hd2⟩ := jmp_stays (tx := o.T') (nx := o.N') hd
              refine SL.nil ?_
              exact SN.handX (⟨L, (jmpN L tt nn o.T' o.N').1, (jmpN L tt nn o.T' o.N').2, d2⟩) (Sub.cons rfl (Sub.cons rfl (Sub.cons rfl (Sub.cons rfl (Sub.cons rfl (Sub.nil _)))))) ((Imp.sels (by repeat (first | exact Sels.nil | apply Sels.cons | exact Sel.keep | exact Sel.here | apply Sel.there)))) (⟨hw.more, hd2, fun _ _ _ h => h⟩)
        · rintro ⟨L2, t2, n2, d2⟩ ⟨hw2, hd2, hst⟩
          show SN _ _ _ _ _ [(3, .pointer (some ⟨p, 0, none⟩)), (5, .map (some bm)), (24, .slice la ln lc), (25, .int .i64 (ln : Int)), (26, .int .i64 (i : Int))] [blk p [.pointer (some ⟨m, 0, none⟩), .int .i64 t2, .int .i64 n2] 85, mp (κ := Int) 124 128 3 m (psL L2), lnA L2, dkS L2, gp bm M, sh (fun w => OpsOk w la ln os)]
          dsimp only at hw2 hd2 hst
          have hM1 := hM.stays hst
          have hM2 := hM1.put hd2
          refine SN.block ?_
          refine SN.seq ?_
          refine SG.seq ?_
          refine SG.region ?_
          refine SL.val rfl rfl (fun w9 F9 S9 s => R.mv rfl) ?_
          refine SL.step rfl rfl (CS.call rfl go11 (wnow_ok p m L2 t2 n2 (i + 1)) (by repeat (first | exact Sels.nil | apply Sels.cons | exact Sel.keep | exact Sel.here | apply Sel.there))) ?_
          rintro _ _ ⟨_, ⟨rfl, rfl⟩, rfl⟩
          refine SL.n1 ?_
          refine SL.val rfl rfl (fun w9 F9 S9 s => R.mv rfl) ?_
          refine SL.val rfl rfl (fun w9 F9 S9 s => R.ext rfl rfl) ?_
          refine SL.val rfl rfl (fun w9 F9 S9 s => R.ext rfl rfl) ?_
          refine SL.val rfl rfl (fun w9 F9 S9 s => R.as rfl) ?_
          refine SL.val rfl rfl (fun w9 F9 S9 s => R.as rfl) ?_
          refine SL.nil ?_
          refine SN.seq ?_
          refine SG.seq ?_
          refine SG.region ?_
          refine SL.val rfl rfl (fun w9 F9 S9 s => R.mv rfl) ?_
          refine SL.val rfl rfl (fun w9 F9 S9 s => R.mv rfl) ?_
          refine SL.val rfl rfl (fun w9 F9 S9 s => R.buildN (l := [.int .i64 t2, .int .i64 n2]) rfl rfl) ?_
          refine SL.step rfl rfl (CS.alloc [.int .i64 0, .int .i64 0] rfl) ?_
          rintro _ _ ⟨b10, rfl, rfl⟩
          refine SL.step0 rfl (CS.stA (vs := [.int .i64 t2, .int .i64 n2]) rfl rfl (by repeat (first | exact Sel.keep | exact Sel.here | apply Sel.there)) (by rfl) (by rfl) (by intro u hu; simp only [List.mem_cons, List.not_mem_nil, or_false] at hu; rcases hu with rfl | rfl <;> rfl)) ?_
          rintro _ _ rfl
          refine SL.nil ?_
          refine SN.seq ?_
          refine SG.seq ?_
          refine SG.seq ?_
          rcases hg : mget M (t2, n2) with _ | v9
          · refine SG.region ?_
            refine SL.val rfl rfl (fun w9 F9 S9 s => R.mv rfl) ?_
            refine SL.val rfl rfl (fun w9 F9 S9 s => R.ldBN (cs := #[.int .i64 t2, .int .i64 n2]) rfl (s.cel (by repeat (first | exact SelB.blk | exact SelB.fz | apply SelB.there))) (by rfl)) ?_
            refine SL.val rfl rfl (fun w9 F9 S9 s => R.lookOkPE (k := (t2, n2)) (r := none) Try.underlying28 rfl rfl (s.gp (by repeat (first | exact Sel.keep | exact Sel.here | apply Sel.there))) hg) ?_
            refine SL.val rfl rfl (fun w9 F9 S9 s => R.mv rfl) ?_
            refine SL.val rfl rfl (fun w9 F9 S9 s => R.ext rfl rfl) ?_
            refine SL.val rfl rfl (fun w9 F9 S9 s => R.ext rfl rfl) ?_
            refine SL.val rfl rfl (fun w9 F9 S9 s => R.as rfl) ?_
            refine SL.val rfl rfl (fun w9 F9 S9 s => R.as rfl) ?_
            refine SL.nil ?_
            refine SN.seq ?_
            refine SG.seq ?_
            refine SG.region ?_
            refine SL.val rfl rfl (fun w9 F9 S9 s => R.mv rfl) ?_
            refine SL.val rfl rfl (fun w9 F9 S9 s => R.mv rfl) ?_
            refine SL.isF 80 rfl (rfl) ?_
            refine SL.pass rfl rfl ?_
            refine SL.pass rfl rfl ?_
            refine SL.pass rfl rfl ?_
            refine SL.pass rfl rfl ?_
            refine SL.pass rfl rfl ?_
            first | refine SL.val rfl rfl (fun w9 F9 S9 s => R.pickT rfl rfl) ?_ | refine SL.val rfl rfl (fun w9 F9 S9 s => R.pickF rfl rfl) ?_
            refine SL.nil ?_
            refine SN.seq ?_
            refine SG.condF rfl ?_
            refine SG.skip ?_
            refine SN.seq ?_
            refine SG.seq ?_
            refine SG.draw [3, 4] [0, 1, 2, 3, 4] (by decide +kernel) rfl ?_
            refine SW.pure rfl rfl rfl rfl (fun w9 => R.mv rfl) ?_
            refine SW.read rfl rfl rfl rfl (fun w9 F9 S9 s => R.ldBN (cs := #[.int .i64 t2, .int .i64 n2]) rfl (s.cel (by repeat (first | exact SelB.blk | exact SelB.fz | apply SelB.there))) (by rfl)) ?_
            refine SW.pure rfl rfl rfl rfl (fun w9 => R.mv rfl) ?_
            refine SW.step rfl rfl rfl rfl (CS.call rfl go13 (wdisk_ok p m L2 t2 n2 (i + 1) d2 hw2 (by omega) hd2) (by repeat (first | exact Sels.nil | apply Sels.cons | exact Sel.keep | exact Sel.here | apply Sel.there))) ?_
            rintro _ _ ⟨_, ⟨rfl, rfl⟩, rfl⟩
            refine ⟨⟨.inr (fun w9 F9 S9 s => R.ldBN (cs := #[.int .i64 t2, .int .i64 n2]) rfl (s.cel (by repeat (first | exact SelB.blk | exact SelB.fz | apply SelB.there))) (by rfl)), trivial⟩, ?_⟩
            refine SW.n4 ?_
            refine SW.step0 rfl rfl rfl (CS.mapUpdP (k := (t2, n2)) Try.underlying28 rfl rfl rfl (by repeat (first | exact Sel.keep | exact Sel.here | apply Sel.there))) ?_
            rintro _ _ rfl
            refine ⟨⟨.inl (by decide +kernel), trivial⟩, ?_⟩
            refine SW.nil ?_
            refine SN.seq ?_
            refine SG.seq ?_
            refine SG.region ?_
            refine SL.val rfl rfl (fun w9 F9 S9 s => R.mv rfl) ?_
            refine SL.step rfl rfl (CS.rangeP Try.underlying28 rfl (by repeat (first | exact Sel.keep | exact Sel.here | apply Sel.there))) ?_
            rintro _ _ ⟨it, mm, rfl, hmm, rfl⟩
            refine SL.nil ?_
            refine SN.seq ?_
            refine SG.block ?_
            refine SG.loop (X := Option (PK × Value) × Nat) (fun y => [(3, .pointer (some ⟨p, 0, none⟩)), (5, .map (some bm)), (24, .slice la ln lc), (25, .int .i64 (ln : Int)), (26, .int .i64 (i : Int)), (92, .pointer (some ⟨it, 0, none⟩))]) (fun y => [blk p [.pointer (some ⟨m, 0, none⟩), .int .i64 t2, .int .i64 n2] 85, mp (κ := Int) 124 128 3 m (psL L2), lnA L2, dkS L2, gi bm it (mput M (t2, n2) (.pointer (some ⟨d2.b, 0, none⟩))) y.1 y.2, sh (fun w => OpsOk w la ln os)]) (fun y => True) (fun y => y.2) ((none, mm)) (Sub.cons rfl (Sub.cons rfl (Sub.cons rfl (Sub.cons rfl (Sub.cons rfl (Sub.cons rfl (Sub.nil _))))))) ((Imp.sels (by repeat (first | exact Sels.nil | apply Sels.cons | exact Sel.keep | exact Sel.here | apply Sel.there)))) (trivial) ?_
            rintro ⟨cur, mm⟩ _
            show SG _ _ _ _ _ [(3, .pointer (some ⟨p, 0, none⟩)), (5, .map (some bm)), (24, .slice la ln lc), (25, .int .i64 (ln : Int)), (26, .int .i64 (i : Int)), (92, .pointer (some ⟨it, 0, none⟩))] [blk p [.pointer (some ⟨m, 0, none⟩), .int .i64 t2, .int .i64 n2] 85, mp (κ := Int) 124 128 3 m (psL L2), lnA L2, dkS L2, gi bm it (mput M (t2, n2) (.pointer (some ⟨d2.b, 0, none⟩))) cur mm, sh (fun w => OpsOk w la ln os)] _
            refine SG.seq ?_
            refine SG.region ?_
            refine SL.step rfl rfl (CS.nextP rfl (by repeat (first | exact Sel.keep | exact Sel.here | apply Sel.there))) ?_
            rintro _ _ ⟨c9, m9, rfl, hc9, rfl⟩
            refine SL.val rfl rfl (fun w9 F9 S9 s => R.extNext rfl) ?_
            refine SL.nil ?_
            refine SN.seq ?_
            refine SG.seq ?_
            refine SG.condB rfl (fun h6 => ?_) (fun h6 => ?_)
            · obtain ⟨q, rfl⟩ := Option.isSome_iff_exists.1 h6
              obtain ⟨hqm, hlt⟩ := hc9 q rfl
              obtain ⟨dq, hq1, hq2⟩ := hM2 q hqm
              refine SG.skip ?_
              refine SN.seq ?_
              refine SG.block ?_
              refine SG.seq ?_
              refine SG.region ?_
              refine SL.step rfl rfl (CS.entryP rfl (by repeat (first | exact Sel.keep | exact Sel.here | apply Sel.there))) ?_
              rintro _ _ ⟨rfl, rfl⟩
              refine SL.val rfl rfl (fun w9 F9 S9 s => R.ext rfl rfl) ?_
              refine SL.val rfl rfl (fun w9 F9 S9 s => R.ext rfl rfl) ?_
              refine SL.step rfl rfl (CS.alloc [.int .i64 0, .int .i64 0] rfl) ?_
              rintro _ _ ⟨b13, rfl, rfl⟩
              refine SL.step0 rfl (CS.stA (vs := [.int .i64 q.1.1, .int .i64 q.1.2]) rfl rfl (by repeat (first | exact Sel.keep | exact Sel.here | apply Sel.there)) (by rfl) (by rfl) (by intro u hu; simp only [List.mem_cons, List.not_mem_nil, or_false] at hu; rcases hu with rfl | rfl <;> rfl)) ?_
              rintro _ _ rfl
              refine SL.val rfl rfl (fun w9 F9 S9 s => R.as rfl) ?_
              refine SL.be 14 rfl (show _ = .pointer (some ⟨dq.b, 0, none⟩) from hq1) ?_
              refine SL.nil ?_
              refine SN.seq ?_
              refine SG.seq ?_
              refine SG.region ?_
              refine SL.val rfl rfl (fun w9 F9 S9 s => R.mv rfl) ?_
              refine SL.val rfl rfl (fun w9 F9 S9 s => R.fld rfl) ?_
              refine SL.val rfl rfl (fun w9 F9 S9 s => R.ldB (v := .int .i64 q.1.1) rfl (s.cel (by repeat (first | exact SelB.blk | exact SelB.fz | apply SelB.there))) (by rfl)) ?_
              refine SL.val rfl rfl (fun w9 F9 S9 s => R.fld rfl) ?_
              refine SL.val rfl rfl (fun w9 F9 S9 s => R.ldB (v := .int .i64 q.1.2) rfl (s.cel (by repeat (first | exact SelB.blk | exact SelB.fz | apply SelB.there))) (by rfl)) ?_
              refine SL.step rfl rfl (CS.call rfl go14 (watE p m L2 t2 n2 (i + 1) q.1.1 q.1.2 hw2 (by omega) (some dq) (.hit hq2)) (by repeat (first | exact Sels.nil | apply Sels.cons | exact Sel.keep | exact Sel.here | apply Sel.there))) ?_
              rintro _ _ ⟨_, ⟨rfl, rfl⟩, rfl⟩
              refine SL.n4 ?_
              refine SL.val rfl rfl (fun w9 F9 S9 s => R.mv rfl) ?_
              refine SL.val rfl rfl (fun w9 F9 S9 s => R.ext rfl rfl) ?_
              refine SL.val rfl rfl (fun w9 F9 S9 s => R.ext rfl rfl) ?_
              refine SL.val rfl rfl (fun w9 F9 S9 s => R.as rfl) ?_
              refine SL.val rfl rfl (fun w9 F9 S9 s => R.as rfl) ?_
              refine SL.nil ?_
              refine SN.seq ?_
              refine SG.seq ?_
              refine SG.region ?_
              refine SL.val rfl rfl (fun w9 F9 S9 s => R.mv rfl) ?_
              refine SL.val rfl rfl (fun w9 F9 S9 s => R.not rfl) ?_
              refine SL.val rfl rfl (fun w9 F9 S9 s => R.mv rfl) ?_
              refine SL.isF 109 rfl (rfl) ?_
              refine SL.val rfl rfl (fun w9 F9 S9 s => R.mv rfl) ?_
              refine SL.val rfl rfl (fun w9 F9 S9 s => R.mv rfl) ?_
              refine SL.step rfl rfl (CS.callR rfl go12 (fun w9 F9 S9 s => isame_ok (some ⟨dq.b, 0, none⟩) (some ⟨dq.b, 0, none⟩) dq.l dq.l w9 (St.dk s (show Sel _ (dkS L2) _ from (by repeat (first | exact Sel.keep | exact Sel.here | apply Sel.there))) hq2).o (St.dk s (show Sel _ (dkS L2) _ from (by repeat (first | exact Sel.keep | exact Sel.here | apply Sel.there))) hq2).o)) ?_
              rintro _ _ ⟨rfl, rfl⟩
              refine SL.val rfl rfl (fun w9 F9 S9 s => R.not rfl) ?_
              first | refine SL.val rfl rfl (fun w9 F9 S9 s => R.pickT rfl rfl) ?_ | refine SL.val rfl rfl (fun w9 F9 S9 s => R.pickF rfl rfl) ?_
              refine SL.nil ?_
              refine SN.seq ?_
              refine SG.condB rfl (fun h7 => ?_) (fun h7 => ?_)
              · simp at h7
              · refine SG.skip ?_
                refine SN.block ?_
                exact SN.again ((some q, m9)) (hlt) (Sub.cons rfl (Sub.cons rfl (Sub.cons rfl (Sub.cons rfl (Sub.cons rfl (Sub.cons rfl (Sub.nil _))))))) ((Imp.sels (by repeat (first | exact Sels.nil | apply Sels.cons | exact Sel.keep | exact Sel.here | apply Sel.there)))) (trivial)
            · refine SG.imp (Imp.giEnd (by repeat (first | exact Sel.keep | exact Sel.here | apply Sel.there))) ?_
              refine SG.exit _ rfl ?_
              refine SN.block ?_
              refine SN.seq ?_
              refine SG.region ?_
              refine SL.val rfl rfl (fun w9 F9 S9 s => R.add rfl rfl (by omega)) ?_
              refine SL.val rfl rfl (fun w9 F9 S9 s => R.mv rfl) ?_
              refine SL.nil ?_
              exact SN.again (⟨i + 1, L2, t2, n2, d2, (mput M (t2, n2) (.pointer (some ⟨d2.b, 0, none⟩)))⟩) (by show ln - (i + 1) < ln - i; omega) (Sub.cons rfl (Sub.cons rfl (Sub.cons rfl (Sub.cons rfl (Sub.cons rfl (Sub.nil _)))))) ((Imp.sels (by repeat (first | exact Sels.nil | apply Sels.cons | exact Sel.keep | exact Sel.here | apply Sel.there)))) (⟨⟨by show i + 1 ≤ ln; omega, by show i + 1 ≤ 40; omega⟩, hw2, hd2, hM2⟩)
          · obtain ⟨dq, hq1, hq2⟩ := hM1 _ (mget_mem hg)
            rw [hd2] at hq2
            cases hq2
            have hq1 : v9 = .pointer (some ⟨d2.b, 0, none⟩) := hq1
            subst hq1
            refine SG.region ?_
            refine SL.val rfl rfl (fun w9 F9 S9 s => R.mv rfl) ?_
            refine SL.val rfl rfl (fun w9 F9 S9 s => R.ldBN (cs := #[.int .i64 t2, .int .i64 n2]) rfl (s.cel (by repeat (first | exact SelB.blk | exact SelB.fz | apply SelB.there))) (by rfl)) ?_
            refine SL.val rfl rfl (fun w9 F9 S9 s => R.lookOkPE (k := (t2, n2)) (r := (some (.pointer (some ⟨d2.b, 0, none⟩)))) Try.underlying28 rfl rfl (s.gp (by repeat (first | exact Sel.keep | exact Sel.here | apply Sel.there))) hg) ?_
            refine SL.val rfl rfl (fun w9 F9 S9 s => R.mv rfl) ?_
            refine SL.val rfl rfl (fun w9 F9 S9 s => R.ext rfl rfl) ?_
            refine SL.val rfl rfl (fun w9 F9 S9 s => R.ext rfl rfl) ?_
            refine SL.val rfl rfl (fun w9 F9 S9 s => R.as rfl) ?_
            refine SL.val rfl rfl (fun w9 F9 S9 s => R.as rfl) ?_
            refine SL.nil ?_
            refine SN.seq ?_
            refine SG.seq ?_
            refine SG.region ?_
            refine SL.val rfl rfl (fun w9 F9 S9 s => R.mv rfl) ?_
            refine SL.val rfl rfl (fun w9 F9 S9 s => R.mv rfl) ?_
            refine SL.isT 80 rfl (rfl) ?_
            refine SL.val rfl rfl (fun w9 F9 S9 s => R.mv rfl) ?_
            refine SL.val rfl rfl (fun w9 F9 S9 s => R.mv rfl) ?_
            refine SL.step rfl rfl (CS.call rfl go13 (wdisk_ok p m L2 t2 n2 (i + 1) d2 hw2 (by omega) hd2) (by repeat (first | exact Sels.nil | apply Sels.cons | exact Sel.keep | exact Sel.here | apply Sel.there))) ?_
            rintro _ _ ⟨_, ⟨rfl, rfl⟩, rfl⟩
            refine SL.n4 ?_
            refine SL.step rfl rfl (CS.callR rfl go12 (fun w9 F9 S9 s => isame_ok (some ⟨d2.b, 0, none⟩) (some ⟨d2.b, 0, none⟩) d2.l d2.l w9 (St.dk s (show Sel _ (dkS L2) _ from (by repeat (first | exact Sel.keep | exact Sel.here | apply Sel.there))) hd2).o (St.dk s (show Sel _ (dkS L2) _ from (by repeat (first | exact Sel.keep | exact Sel.here | apply Sel.there))) hd2).o)) ?_
            rintro _ _ ⟨rfl, rfl⟩
            refine SL.val rfl rfl (fun w9 F9 S9 s => R.not rfl) ?_
            first | refine SL.val rfl rfl (fun w9 F9 S9 s => R.pickT rfl rfl) ?_ | refine SL.val rfl rfl (fun w9 F9 S9 s => R.pickF rfl rfl) ?_
            refine SL.nil ?_
            refine SN.seq ?_
            refine SG.condB rfl (fun h5 => ?_) (fun h5 => ?_)
            · simp at h5
            · refine SG.skip ?_
              refine SN.seq ?_
              refine SG.seq ?_
              refine SG.draw [3, 4] [0, 1, 2, 3, 4] (by decide +kernel) rfl ?_
              refine SW.pure rfl rfl rfl rfl (fun w9 => R.mv rfl) ?_
              refine SW.read rfl rfl rfl rfl (fun w9 F9 S9 s => R.ldBN (cs := #[.int .i64 t2, .int .i64 n2]) rfl (s.cel (by repeat (first | exact SelB.blk | exact SelB.fz | apply SelB.there))) (by rfl)) ?_
              refine SW.pure rfl rfl rfl rfl (fun w9 => R.mv rfl) ?_
              refine SW.step rfl rfl rfl rfl (CS.call rfl go13 (wdisk_ok p m L2 t2 n2 (i + 1) d2 hw2 (by omega) hd2) (by repeat (first | exact Sels.nil | apply Sels.cons | exact Sel.keep | exact Sel.here | apply Sel.there))) ?_
              rintro _ _ ⟨_, ⟨rfl, rfl⟩, rfl⟩
              refine ⟨⟨.inr (fun w9 F9 S9 s => R.ldBN (cs := #[.int .i64 t2, .int .i64 n2]) rfl (s.cel (by repeat (first | exact SelB.blk | exact SelB.fz | apply SelB.there))) (by rfl)), trivial⟩, ?_⟩
              refine SW.n4 ?_
              refine SW.step0 rfl rfl rfl (CS.mapUpdP (k := (t2, n2)) Try.underlying28 rfl rfl rfl (by repeat (first | exact Sel.keep | exact Sel.here | apply Sel.there))) ?_
              rintro _ _ rfl
              refine ⟨⟨.inl (by decide +kernel), trivial⟩, ?_⟩
              refine SW.nil ?_
              refine SN.seq ?_
              refine SG.seq ?_
              refine SG.region ?_
              refine SL.val rfl rfl (fun w9 F9 S9 s => R.mv rfl) ?_
              refine SL.step rfl rfl (CS.rangeP Try.underlying28 rfl (by repeat (first | exact Sel.keep | exact Sel.here | apply Sel.there))) ?_
              rintro _ _ ⟨it, mm, rfl, hmm, rfl⟩
              refine SL.nil ?_
              refine SN.seq ?_
              refine SG.block ?_
              refine SG.loop (X := Option (PK × Value) × Nat) (fun y => [(3, .pointer (some ⟨p, 0, none⟩)), (5, .map (some bm)), (24, .slice la ln lc), (25, .int .i64 (ln : Int)), (26, .int .i64 (i : Int)), (92, .pointer (some ⟨it, 0, none⟩))]) (fun y => [blk p [.pointer (some ⟨m, 0, none⟩), .int .i64 t2, .int .i64 n2] 85, mp (κ := Int) 124 128 3 m (psL L2), lnA L2, dkS L2, gi bm it (mput M (t2, n2) (.pointer (some ⟨d2.b, 0, none⟩))) y.1 y.2, sh (fun w => OpsOk w la ln os)]) (fun y => True) (fun y => y.2) ((none, mm)) (Sub.cons rfl (Sub.cons rfl (Sub.cons rfl (Sub.cons rfl (Sub.cons rfl (Sub.cons rfl (Sub.nil _))))))) ((Imp.sels (by repeat (first | exact Sels.nil | apply Sels.cons | exact Sel.keep | exact Sel.here | apply Sel.there)))) (trivial) ?_
              rintro ⟨cur, mm⟩ _
              show SG _ _ _ _ _ [(3, .pointer (some ⟨p, 0, none⟩)), (5, .map (some bm)), (24, .slice la ln lc), (25, .int .i64 (ln : Int)), (26, .int .i64 (i : Int)), (92, .pointer (some ⟨it, 0, none⟩))] [blk p [.pointer (some ⟨m, 0, none⟩), .int .i64 t2, .int .i64 n2] 85, mp (κ := Int) 124 128 3 m (psL L2), lnA L2, dkS L2, gi bm it (mput M (t2, n2) (.pointer (some ⟨d2.b, 0, none⟩))) cur mm, sh (fun w => OpsOk w la ln os)] _
              refine SG.seq ?_
              refine SG.region ?_
              refine SL.step rfl rfl (CS.nextP rfl (by repeat (first | exact Sel.keep | exact Sel.here | apply Sel.there))) ?_
              rintro _ _ ⟨c9, m9, rfl, hc9, rfl⟩
              refine SL.val rfl rfl (fun w9 F9 S9 s => R.extNext rfl) ?_
              refine SL.nil ?_
              refine SN.seq ?_
              refine SG.seq ?_
              refine SG.condB rfl (fun h6 => ?_) (fun h6 => ?_)
              · obtain ⟨q, rfl⟩ := Option.isSome_iff_exists.1 h6
                obtain ⟨hqm, hlt⟩ := hc9 q rfl
                obtain ⟨dq, hq1, hq2⟩ := hM2 q hqm
                refine SG.skip ?_
                refine SN.seq ?_
                refine SG.block ?_
                refine SG.seq ?_
                refine SG.region ?_
                refine SL.step rfl rfl (CS.entryP rfl (by repeat (first | exact Sel.keep | exact Sel.here | apply Sel.there))) ?_
                rintro _ _ ⟨rfl, rfl⟩
                refine SL.val rfl rfl (fun w9 F9 S9 s => R.ext rfl rfl) ?_
                refine SL.val rfl rfl (fun w9 F9 S9 s => R.ext rfl rfl) ?_
                refine SL.step rfl rfl (CS.alloc [.int .i64 0, .int .i64 0] rfl) ?_
                rintro _ _ ⟨b13, rfl, rfl⟩
                refine SL.step0 rfl (CS.stA (vs := [.int .i64 q.1.1, .int .i64 q.1.2]) rfl rfl (by repeat (first | exact Sel.keep | exact Sel.here | apply Sel.there)) (by rfl) (by rfl) (by intro u hu; simp only [List.mem_cons, List.not_mem_nil, or_false] at hu; rcases hu with rfl | rfl <;> rfl)) ?_
                rintro _ _ rfl
                refine SL.val rfl rfl (fun w9 F9 S9 s => R.as rfl) ?_
                refine SL.be 14 rfl (show _ = .pointer (some ⟨dq.b, 0, none⟩) from hq1) ?_
                refine SL.nil ?_
                refine SN.seq ?_
                refine SG.seq ?_
                refine SG.region ?_
                refine SL.val rfl rfl (fun w9 F9 S9 s => R.mv rfl) ?_
                refine SL.val rfl rfl (fun w9 F9 S9 s => R.fld rfl) ?_
                refine SL.val rfl rfl (fun w9 F9 S9 s => R.ldB (v := .int .i64 q.1.1) rfl (s.cel (by repeat (first | exact SelB.blk | exact SelB.fz | apply SelB.there))) (by rfl)) ?_
                refine SL.val rfl rfl (fun w9 F9 S9 s => R.fld rfl) ?_
                refine SL.val rfl rfl (fun w9 F9 S9 s => R.ldB (v := .int .i64 q.1.2) rfl (s.cel (by repeat (first | exact SelB.blk | exact SelB.fz | apply SelB.there))) (by rfl)) ?_
                refine SL.step rfl rfl (CS.call rfl go14 (watE p m L2 t2 n2 (i + 1) q.1.1 q.1.2 hw2 (by omega) (some dq) (.hit hq2)) (by repeat (first | exact Sels.nil | apply Sels.cons | exact Sel.keep | exact Sel.here | apply Sel.there))) ?_
                rintro _ _ ⟨_, ⟨rfl, rfl⟩, rfl⟩
                refine SL.n4 ?_
                refine SL.val rfl rfl (fun w9 F9 S9 s => R.mv rfl) ?_
                refine SL.val rfl rfl (fun w9 F9 S9 s => R.ext rfl rfl) ?_
                refine SL.val rfl rfl (fun w9 F9 S9 s => R.ext rfl rfl) ?_
                refine SL.val rfl rfl (fun w9 F9 S9 s => R.as rfl) ?_
                refine SL.val rfl rfl (fun w9 F9 S9 s => R.as rfl) ?_
                refine SL.nil ?_
                refine SN.seq ?_
                refine SG.seq ?_
                refine SG.region ?_
                refine SL.val rfl rfl (fun w9 F9 S9 s => R.mv rfl) ?_
                refine SL.val rfl rfl (fun w9 F9 S9 s => R.not rfl) ?_
                refine SL.val rfl rfl (fun w9 F9 S9 s => R.mv rfl) ?_
                refine SL.isF 109 rfl (rfl) ?_
                refine SL.val rfl rfl (fun w9 F9 S9 s => R.mv rfl) ?_
                refine SL.val rfl rfl (fun w9 F9 S9 s => R.mv rfl) ?_
                refine SL.step rfl rfl (CS.callR rfl go12 (fun w9 F9 S9 s => isame_ok (some ⟨dq.b, 0, none⟩) (some ⟨dq.b, 0, none⟩) dq.l dq.l w9 (St.dk s (show Sel _ (dkS L2) _ from (by repeat (first | exact Sel.keep | exact Sel.here | apply Sel.there))) hq2).o (St.dk s (show Sel _ (dkS L2) _ from (by repeat (first | exact Sel.keep | exact Sel.here | apply Sel.there))) hq2).o)) ?_
                rintro _ _ ⟨rfl, rfl⟩
                refine SL.val rfl rfl (fun w9 F9 S9 s => R.not rfl) ?_
                first | refine SL.val rfl rfl (fun w9 F9 S9 s => R.pickT rfl rfl) ?_ | refine SL.val rfl rfl (fun w9 F9 S9 s => R.pickF rfl rfl) ?_
                refine SL.nil ?_
                refine SN.seq ?_
                refine SG.condB rfl (fun h7 => ?_) (fun h7 => ?_)
                · simp at h7
                · refine SG.skip ?_
                  refine SN.block ?_
                  exact SN.again ((some q, m9)) (hlt) (Sub.cons rfl (Sub.cons rfl (Sub.cons rfl (Sub.cons rfl (Sub.cons rfl (Sub.cons rfl (Sub.nil _))))))) ((Imp.sels (by repeat (first | exact Sels.nil | apply Sels.cons | exact Sel.keep | exact Sel.here | apply Sel.there)))) (trivial)
              · refine SG.imp (Imp.giEnd (by repeat (first | exact Sel.keep | exact Sel.here | apply Sel.there))) ?_
                refine SG.exit _ rfl ?_
                refine SN.block ?_
                refine SN.seq ?_
                refine SG.region ?_
                refine SL.val rfl rfl (fun w9 F9 S9 s => R.add rfl rfl (by omega)) ?_
                refine SL.val rfl rfl (fun w9 F9 S9 s => R.mv rfl) ?_
                refine SL.nil ?_
                exact SN.again (⟨i + 1, L2, t2, n2, d2, (mput M (t2, n2) (.pointer (some ⟨d2.b, 0, none⟩)))⟩) (by show ln - (i + 1) < ln - i; omega) (Sub.cons rfl (Sub.cons rfl (Sub.cons rfl (Sub.cons rfl (Sub.cons rfl (Sub.nil _)))))) ((Imp.sels (by repeat (first | exact Sels.nil | apply Sels.cons | exact Sel.keep | exact Sel.here | apply Sel.there)))) (⟨⟨by show i + 1 ≤ ln; omega, by show i + 1 ≤ 40; omega⟩, hw2, hd2, hM2⟩)
  · refine SG.exit _ rfl ?_
    refine SN.seq ?_
    refine SG.seq ?_
    refine SG.region ?_
    refine SL.val rfl rfl (fun w9 F9 S9 s => R.as rfl) ?_
    refine SL.nil ?_
    refine SN.seq ?_
    exact SG.ret1 rfl rfl ((Imp.sels (by repeat (first | exact Sels.nil | apply Sels.cons | exact Sel.keep | exact Sel.here | apply Sel.there)))) (rfl)

end Go.Proofs.Ythdaelmjiaegfaa
