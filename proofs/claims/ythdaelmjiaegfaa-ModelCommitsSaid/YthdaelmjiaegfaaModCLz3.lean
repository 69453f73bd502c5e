/-
  Texts of this claim, put together.
-/
import Derived.Test.YthdaelmjiaegfaaModCLz2
/-
  The walks of package image.
-/
set_option linter.unusedVariables false
set_option linter.unusedSimpArgs false
namespace Go.Proofs.Ythdaelmjiaegfaa
open Go Brv Brv.Image
theorem Blks.put {w w' : World} {qs : List Nat} {y s : List UInt8} {gl j z : Nat} {cur : Array Value} (h : Blks w qs y) (he : Ext [gl] w w') (hl : Blk w gl cur 96 (0, 0)) (hz : Blk w z (vbs s).toArray 102 (0, 0)) (hs : s.length = 64) (hj : j < dn y) : Blks w' (qs.set j z) (laid y j s) := by
  refine ⟨by rw [List.length_set, laid_dn hs hj]; exact h.len, fun k hk => ?_⟩
  rw [List.length_set] at hk
  rw [laid_blk hs hj, List.getElem_set]
  by_cases e : j = k
  · subst e
    rw [if_pos rfl, if_pos rfl]
    exact hz.ext he (fun hm => hz.ne hl (by decide) (List.mem_singleton.1 hm))
  · rw [if_neg e, if_neg (fun e' => e e'.symm)]
    exact (h.each k hk).ext he (fun hm => (h.each k hk).ne hl (by decide) (List.mem_singleton.1 hm))

/-- A disk, whose blocks are old ones of ps or new. -/
def DiskQ (w : World) (s : Nat) (ps : List Nat) (d : Nat) (x : List UInt8) : Prop := ∃ g c cur qs, DiskL w d g c cur qs x ∧ ∀ y ∈ d :: g :: qs, y ∈ ps ∨ s ≤ y
theorem DiskQ.at {w : World} {s : Nat} {ps : List Nat} {d : Nat} {x : List UInt8} (h : DiskQ w s ps d x) : DiskAt w d x := let ⟨g, c, cur, qs, h, _⟩ := h; ⟨g, c, cur, qs, h⟩
theorem DiskQ.mk2 {w : World} {s d c : Nat} {ps qs : List Nat} {x : List UInt8} {a : Option Addr} {M : List Nat} (h1 : Blk w d #[.slice a (dn x) c] 98 (0, 0)) (hd : s ≤ d) (h2 : x.length = 64 * dn x) (h3 : 1 ≤ dn x) (h4 : dn x ≤ 64) (ho : Own w 96 1 a (dn x) c (qs.map ptr) M) (hM : ∀ g ∈ M, s ≤ g) (h5 : Blks w qs x) (hq : ∀ q ∈ qs, q ∈ ps ∨ s ≤ q) : DiskQ w s ps d x := by
  rcases ho.2 with ⟨_, h0, _, _⟩ | ⟨g, cur, rfl, hg, hb, _, _, _, ht⟩
  · omega
  · rw [Nat.mul_one] at ht
    refine ⟨g, c, cur, qs, ⟨h1, h2, h3, h4, hb, ht, h5⟩, fun y hy => ?_⟩
    rcases List.mem_cons.1 hy with rfl | hy
    · exact .inr hd
    rcases List.mem_cons.1 hy with rfl | hy
    · exact .inr (hM _ (by rw [hg]; simp))
    · exact hq y hy

theorem iwith_okF (d g c : Nat) (cur : Array Value) (ps : List Nat) (x : List UInt8) (la : Option Addr) (ln lc : Nat) (ws : List WriteV) (w : World) (hD0 : DiskL w d g c cur ps x) (hT : Tab w la ln 2 (ws.map WriteV.cells)) (hO : ∀ o ∈ ws, Bs w o.B'a o.B'n o.B') (hln : ln ≤ 1000000) : Meets Try.prog 15 [.pointer (some ⟨d, 0, none⟩), .slice la ln lc] w (fun v w' => Ext [] w w' ∧ ((withF x (ws.map wv)).2 = 0 → ∃ d', v = .tuple #[ptr d', .int .i64 0] ∧ DiskQ w' w.heap.size ps d' (withF x (ws.map wv)).1) ∧ ((withF x (ws.map wv)).2 ≠ 0 → v = .tuple #[.pointer none, .int .i64 (withF x (ws.map wv)).2])) := by
  refine Meets.enter Try.func15 rfl 57 rfl (Nat.le_of_ble_eq_true rfl) ?_
  have E := Ext.refl [] w
  have hn := hT.len
  rw [List.length_map] at hn
  have D := hD0
  have hx64 := D.le
  have hpl := D.hb.len
  refine G.seq ?_
  refine G.region ?_
  refine L.val rfl rfl (R.as rfl) ?_
  refine L.val rfl rfl (R.as rfl) ?_
  refine L.nil ?_
  refine N.seq ?_
  refine G.seq ?_
  refine G.seq ?_
  refine G.region ?_
  refine L.val rfl rfl (R.mv rfl) ?_
  refine L.val rfl rfl (R.eqNilP rfl rfl) ?_
  refine L.nil ?_
  refine N.seq ?_
  refine G.condF rfl ?_
  refine G.skip ?_
  refine N.seq ?_
  refine G.seq ?_
  refine G.region ?_
  refine L.val rfl rfl (R.mv rfl) ?_
  refine L.val rfl rfl (R.nilChk rfl) ?_
  refine L.val rfl rfl (R.fld rfl) ?_
  refine L.val rfl rfl (R.ldB rfl D.hd rfl) ?_
  refine L.callF rfl rfl rfl go38 (pclone_ok (some ⟨g, 0, none⟩) (dn x) c (ps.map ptr) _ D.cells (by simp [hpl]) (ptrs_one ps) (by omega)) ?_
  rintro _ w1 ⟨a6, c6, M6, rfl, e1, o6, hM6⟩
  replace E := E.trans0 e1
  replace D := D.ext0 e1
  refine L.val rfl rfl (R.build (cs := #[.slice a6 (dn x) c6]) rfl rfl) ?_
  refine L.do rfl rfl (R.box rfl) ?_
  rintro _ w2 ⟨b18, rfl, hb18, hs18, e2, B6⟩
  have hb18w : w.heap.size ≤ b18 := by have := E.size; omega
  replace E := E.trans0 e2
  replace D := D.ext0 e2
  replace o6 := o6.ext0 e2
  refine L.val rfl rfl (R.as rfl) ?_
  refine L.nil ?_
  refine N.seq ?_
  refine G.seq ?_
  refine G.seq ?_
  refine G.region ?_
  refine L.val rfl rfl (R.mv rfl) ?_
  refine L.val rfl rfl (R.lenS rfl) ?_
  refine L.val rfl rfl (R.mv rfl) ?_
  refine L.nil ?_
  refine N.seq ?_
  refine G.block ?_
  refine G.loop (X := Nat × List UInt8 × List Nat) (fun s => [(0, .pointer (some ⟨d, 0, none⟩)), (6, .pointer (some ⟨b18, 0, none⟩)), (19, .slice la ln lc), (20, .int .i64 (ln : Int)), (21, .int .i64 (s.1 : Int))]) (fun s w' => s.1 ≤ ln ∧ s.2.1.length = x.length ∧ withF x (ws.map wv) = withF s.2.1 ((ws.map wv).drop s.1) ∧ Ext [] w w' ∧ Blk w' b18 #[.slice a6 (dn x) c6] 98 (0, 0) ∧ Own w' 96 1 a6 (dn x) c6 (s.2.2.map ptr) M6 ∧ Blks w' s.2.2 s.2.1 ∧ ∀ q ∈ s.2.2, q ∈ ps ∨ w.heap.size ≤ q) (fun s => ln - s.1) ((0, x, ps)) (Sub.cons rfl (Sub.cons rfl (Sub.cons rfl (Sub.cons rfl (Sub.cons rfl (Sub.nil _)))))) ⟨Nat.zero_le _, rfl, rfl, E, B6, o6, D.hb, fun q h => .inl h⟩ ?_
  rintro ⟨i, y, qs⟩ w1 ⟨hi, hyl, hiw, E, B6, o6, hB, hqs⟩
  dsimp only at hi hyl hiw o6 hB hqs
  refine G.sub [(0, .pointer (some ⟨d, 0, none⟩)), (6, .pointer (some ⟨b18, 0, none⟩)), (19, .slice la ln lc), (20, .int .i64 (ln : Int)), (21, .int .i64 (i : Int))] (Sub.cons rfl (Sub.cons rfl (Sub.cons rfl (Sub.cons rfl (Sub.cons rfl (Sub.nil _)))))) ?_
  have hdy : dn y = dn x := by unfold dn; rw [hyl]
  have D := hD0.ext0 E
  refine G.seq ?_
  refine G.region ?_
  refine L.val rfl rfl (R.lss rfl rfl) ?_
  refine L.nil ?_
  refine N.seq ?_
  refine G.seq ?_
  refine G.condP rfl (fun h1 => ?_) (fun h1 => ?_)
  · refine G.skip ?_
    refine N.seq ?_
    refine G.seq ?_
    refine G.block ?_
    refine G.seq ?_
    refine G.region ?_
    have hdr : (ws.map wv).drop i = wv (ws[i]'(by omega)) :: (ws.map wv).drop (i + 1) := by rw [List.drop_eq_getElem_cons (by rw [List.length_map]; omega), List.getElem_map]
    obtain ⟨q9, hq9, hcl⟩ := hT.at (by decide) i (by rw [List.length_map]; omega)
    rw [List.getElem_map] at hcl
    have hok' := hO _ (List.getElem_mem (show i < ws.length by omega))
    generalize hoe : ws[i]'(by omega) = o at *
    refine L.val rfl rfl (R.idx rfl rfl (by omega) (by omega) q9 hq9) ?_
    refine L.val rfl rfl (R.ldN rfl (hcl.ext0 E) rfl) ?_
    refine L.do rfl rfl (R.alloc) ?_
    rintro _ w2 ⟨b9, rfl, hb9, hs9, e2, B9⟩
    have hEb := E.size
    replace E := E.trans0 e2
    refine L.set rfl (R.stN rfl rfl B9 rfl (Nat.le_refl 2) (WriteV.cells.one _)) ?_
    rintro w3 ⟨e3, hs3, B9⟩
    replace B9 : Blk w3 b9 o.cells.toArray 100 (0, 0) := B9
    replace E := E.trans e3 (M := []) (by simp) (by intro x hx; rw [List.mem_singleton.1 hx]; exact .inr (by omega))
    have n3 := e2.news2 e3 (by omega)
    replace B6 := B6.ext0 n3
    replace o6 := o6.ext0 n3
    replace hB := hB.ext0 n3
    replace D := D.ext0 n3
    refine L.nil ?_
    refine N.seq ?_
    refine G.seq ?_
    refine G.block ?_
    refine G.seq ?_
    refine G.quiet (by decide +kernel) rfl ?_
    refine Q.val rfl rfl rfl rfl (fun w4 hE => R.fld rfl) ?_
    refine Q.val rfl rfl rfl rfl (fun w4 hE => R.ldB rfl (B9.ext0 hE) rfl) ?_
    refine Q.val rfl rfl rfl rfl (fun w4 hE => R.lss rfl rfl) ?_
    refine Q.val rfl rfl rfl rfl (fun w4 hE => R.mv rfl) ?_
    refine Q.caseP 29 rfl (fun hg7_3 => ?_) (fun hg7_3 => ?_)
    · refine Q.pass rfl rfl rfl ?_
      refine Q.pass rfl rfl rfl ?_
      refine Q.pass rfl rfl rfl ?_
      refine Q.pass rfl rfl rfl ?_
      refine Q.pass rfl rfl rfl ?_
      refine Q.pass rfl rfl rfl ?_
      refine Q.pass rfl rfl rfl ?_
      refine Q.pass rfl rfl rfl ?_
      first | refine Q.val rfl rfl rfl rfl (fun w4 hE => R.pickT rfl rfl) ?_ | refine Q.val rfl rfl rfl rfl (fun w4 hE => R.pickF rfl rfl) ?_
      refine Q.val rfl rfl rfl rfl (fun w4 hE => R.as rfl) ?_
      refine Q.nil (fun w4 e4 => ?_)
      replace E := E.trans0 e4
      replace B9 := B9.ext0 e4
      replace B6 := B6.ext0 e4
      replace o6 := o6.ext0 e4
      replace hB := hB.ext0 e4
      replace D := D.ext0 e4
      refine N.seq ?_
      refine G.condT rfl ?_
      have hw2 : withF x (ws.map wv) = ([], 41) := by rw [hiw, hdr]; exact withF_blk (by show o.Block' < 0 ∨ (dn y : Int) ≤ o.Block'; omega)
      refine G.seq ?_
      refine G.region ?_
      refine L.val rfl rfl (R.as rfl) ?_
      refine L.val rfl rfl (R.as rfl) ?_
      refine L.nil ?_
      refine N.seq ?_
      refine G.ret2 rfl rfl rfl ?_
      first
        | (rw [hw2]; exact ⟨E, fun h => absurd h (by decide), fun _ => rfl⟩)
        | (rw [hw2]; exact ⟨E, fun _ => ⟨b18, rfl, DiskQ.mk2 (by rw [hdy]; exact B6) hb18w (by rw [hdy, hyl]; exact D.len) (by rw [hdy]; exact D.pos) (by rw [hdy]; exact D.le) (by rw [hdy]; exact o6) hM6 hB hqs⟩, fun h => (h rfl).elim⟩)
    · refine Q.val rfl rfl rfl rfl (fun w4 hE => R.fld rfl) ?_
      refine Q.val rfl rfl rfl rfl (fun w4 hE => R.ldB rfl (B9.ext0 hE) rfl) ?_
      refine Q.val rfl rfl rfl rfl (fun w4 hE => R.mv rfl) ?_
      refine Q.val rfl rfl rfl rfl (fun w4 hE => R.nilChk rfl) ?_
      refine Q.val rfl rfl rfl rfl (fun w4 hE => R.fld rfl) ?_
      refine Q.val rfl rfl rfl rfl (fun w4 hE => R.ldB rfl (D.hd.ext0 hE) rfl) ?_
      refine Q.val rfl rfl rfl rfl (fun w4 hE => R.lenS rfl) ?_
      refine Q.val rfl rfl rfl rfl (fun w4 hE => R.geq rfl rfl) ?_
      first | refine Q.val rfl rfl rfl rfl (fun w4 hE => R.pickT rfl rfl) ?_ | refine Q.val rfl rfl rfl rfl (fun w4 hE => R.pickF rfl rfl) ?_
      refine Q.val rfl rfl rfl rfl (fun w4 hE => R.as rfl) ?_
      refine Q.nil (fun w4 e4 => ?_)
      replace E := E.trans0 e4
      replace B9 := B9.ext0 e4
      replace B6 := B6.ext0 e4
      replace o6 := o6.ext0 e4
      replace hB := hB.ext0 e4
      replace D := D.ext0 e4
      refine N.seq ?_
      refine G.condP rfl (fun h2 => ?_) (fun h2 => ?_)
      · have hw2 : withF x (ws.map wv) = ([], 41) := by rw [hiw, hdr]; exact withF_blk (by show o.Block' < 0 ∨ (dn y : Int) ≤ o.Block'; omega)
        refine G.seq ?_
        refine G.region ?_
        refine L.val rfl rfl (R.as rfl) ?_
        refine L.val rfl rfl (R.as rfl) ?_
        refine L.nil ?_
        refine N.seq ?_
        refine G.ret2 rfl rfl rfl ?_
        first
          | (rw [hw2]; exact ⟨E, fun h => absurd h (by decide), fun _ => rfl⟩)
          | (rw [hw2]; exact ⟨E, fun _ => ⟨b18, rfl, DiskQ.mk2 (by rw [hdy]; exact B6) hb18w (by rw [hdy, hyl]; exact D.len) (by rw [hdy]; exact D.pos) (by rw [hdy]; exact D.le) (by rw [hdy]; exact o6) hM6 hB hqs⟩, fun h => (h rfl).elim⟩)
      · obtain ⟨j, hj0⟩ := Int.eq_ofNat_of_zero_le (show 0 ≤ o.Block' by omega)
        have hj : j < dn y := by omega
        have hBs := hok'
        have hBl := hBs.len
        refine G.seq ?_
        refine G.region ?_
        refine L.val rfl rfl (R.fld rfl) ?_
        refine L.val rfl rfl (R.ldB rfl B9 rfl) ?_
        refine L.val rfl rfl (R.lenS rfl) ?_
        refine L.val rfl rfl (R.neI rfl rfl) ?_
        refine L.val rfl rfl (R.as rfl) ?_
        refine L.nil ?_
        refine N.seq ?_
        refine G.condP rfl (fun h3 => ?_) (fun h3 => ?_)
        · have hw2 : withF x (ws.map wv) = ([], 42) := by rw [hiw, hdr]; exact withF_size (by show ¬ (o.Block' < 0 ∨ (dn y : Int) ≤ o.Block'); omega) (by show o.B'.length ≠ 64; omega)
          refine G.seq ?_
          refine G.region ?_
          refine L.val rfl rfl (R.as rfl) ?_
          refine L.val rfl rfl (R.as rfl) ?_
          refine L.nil ?_
          refine N.seq ?_
          refine G.ret2 rfl rfl rfl ?_
          first
            | (rw [hw2]; exact ⟨E, fun h => absurd h (by decide), fun _ => rfl⟩)
            | (rw [hw2]; exact ⟨E, fun _ => ⟨b18, rfl, DiskQ.mk2 (by rw [hdy]; exact B6) hb18w (by rw [hdy, hyl]; exact D.len) (by rw [hdy]; exact D.pos) (by rw [hdy]; exact D.le) (by rw [hdy]; exact o6) hM6 hB hqs⟩, fun h => (h rfl).elim⟩)
        · have h64 : o.B'.length = 64 := by omega
          have hw2 : withF x (ws.map wv) = withF (laid y j o.B') ((ws.map wv).drop (i + 1)) := by rw [hiw, hdr, withF_next (by show ¬ (o.Block' < 0 ∨ (dn y : Int) ≤ o.Block'); omega) h64]; rw [show (wv o).1.toNat = j by show o.Block'.toNat = j; omega]; rfl
          refine G.skip ?_
          refine N.block ?_
          refine N.seq ?_
          refine G.seq ?_
          refine G.region ?_
          obtain ⟨pa, hpa⟩ : ∃ pa, o.B'a = some pa := by
            cases hq : o.B'a with
            | none => rw [hq] at hBs; have := hBs.none.1; rw [this] at h64; cases h64
            | some pa => exact ⟨pa, rfl⟩
          rw [hpa] at hBs
          refine L.val rfl rfl (R.fld rfl) ?_
          refine L.val rfl rfl (R.ldB rfl B9 rfl) ?_
          refine L.val rfl rfl (R.s2ap rfl (by omega)) ?_
          refine L.be 46 rfl (show _ = Value.pointer (some pa) by rw [hpa]) ?_
          refine L.val rfl rfl (R.ldN rfl (hBs.ext0 E).cells (by rw [vbs_length, h64])) ?_
          refine L.do rfl rfl (R.alloc) ?_
          rintro _ w6 ⟨b47, rfl, hb47, hs47, e6, B47⟩
          have hE6 := E.size
          have hb47w : w.heap.size ≤ b47 := by omega
          refine L.set rfl (R.stN rfl rfl B47 (by simp [vbs_length, h64]) (by simp [vbs_length, h64, Value.cells]) (by simpa using vbs_one _)) ?_
          rintro w7 ⟨e7, hs7, B47⟩
          rw [all_stored (by simp [vbs_length, h64, Value.cells])] at B47
          have n7 := e6.news2 e7 (by omega)
          replace E := E.trans0 n7
          replace B9 := B9.ext0 n7
          replace B6 := B6.ext0 n7
          replace o6 := o6.ext0 n7
          replace hB := hB.ext0 n7
          replace D := D.ext0 n7
          refine L.nil ?_
          refine N.seq ?_
          obtain ⟨gl, curl, rfl, rfl, L6, hkl, hO6⟩ := o6.set j (by omega)
          have hE7 := E.size
          have hgl := hM6 gl (by simp)
          refine G.staged [7] [.blocks ([gl])] [fun w' => Ext [] w7 w', fun w' => Ext [gl] w7 w' ∧ Blk w' gl (curl.setIfInBounds j (ptr b47)) 96 (0, 0)] [] (by decide +kernel) (by decide +kernel) rfl rfl rfl (fun _ h => h) ?_
          refine Z.val rfl rfl rfl rfl rfl (fun w8 => R.mv rfl) ?_
          refine Z.val rfl rfl rfl rfl rfl (fun w8 => R.nilChk rfl) ?_
          refine Z.val rfl rfl rfl rfl rfl (fun w8 => R.fld rfl) ?_
          refine Z.read 0 (by decide +kernel) rfl rfl rfl rfl rfl rfl (fun w8 hJ => R.ldB rfl (B6.ext0 hJ) rfl) ?_
          refine Z.val rfl rfl rfl rfl rfl (fun w8 => R.fld rfl) ?_
          refine Z.read 0 (by decide +kernel) rfl rfl rfl rfl rfl rfl (fun w8 hJ => R.ldB rfl (B9.ext0 hJ) rfl) ?_
          refine Z.val rfl rfl rfl rfl rfl (fun w8 => R.idx rfl rfl (by omega) (by omega) _ rfl) ?_
          refine Z.be 54 rfl (show _ = Value.pointer (some ⟨gl, j, none⟩) by rw [Go.Addr.add_lit, hj0]; simp) ?_
          refine Z.set 0 (by decide +kernel) rfl rfl rfl rfl rfl rfl (fun w8 hJ => (R.st rfl rfl (L6.ext0 hJ) hkl rfl).mono (fun _ h => ⟨h.1, h.1.after hJ, h.2.2⟩)) ?_
          refine Z.nil rfl rfl (fun w8 hJ => ?_)
          obtain ⟨e12, L12⟩ := hJ
          replace o6 := hO6 (ptr b47) _ e12 L12
          replace E := E.news2 e12 (by omega)
          replace B6 := B6.ext e12 (fun hm => B6.ne L6 (by decide) (List.mem_singleton.1 hm))
          replace hB := hB.put e12 L6 B47 h64 hj
          refine N.block ?_
          refine N.seq ?_
          refine G.region ?_
          refine L.val rfl rfl (R.add rfl rfl (by omega)) ?_
          refine L.val rfl rfl (R.mv rfl) ?_
          refine L.nil ?_
          exact N.again (i + 1, laid y j o.B', qs.set j b47) (by show ln - (i + 1) < ln - i; omega) (Sub.cons rfl (Sub.cons rfl (Sub.cons rfl (Sub.cons rfl (Sub.cons rfl (Sub.nil _)))))) ⟨by show i + 1 ≤ ln; omega, (laid_length h64 hj).trans hyl, hw2, E, B6, by rw [List.map_set]; exact o6, hB, fun q hq => (List.mem_or_eq_of_mem_set hq).elim (hqs q) (fun h => .inr (by rw [h]; exact hb47w))⟩
  · have hw2 : withF x (ws.map wv) = (y, 0) := by rw [hiw, List.drop_of_length_le (by rw [List.length_map]; omega)]; rfl
    refine G.exit _ rfl ?_
    refine N.seq ?_
    refine G.seq ?_
    refine G.region ?_
    refine L.val rfl rfl (R.mv rfl) ?_
    refine L.val rfl rfl (R.as rfl) ?_
    refine L.val rfl rfl (R.as rfl) ?_
    refine L.nil ?_
    refine N.seq ?_
    refine G.ret2 rfl rfl rfl ?_
    first
      | (rw [hw2]; exact ⟨E, fun h => absurd h (by decide), fun _ => rfl⟩)
      | (rw [hw2]; exact ⟨E, fun _ => ⟨b18, rfl, DiskQ.mk2 (by rw [hdy]; exact B6) hb18w (by rw [hdy, hyl]; exact D.len) (by rw [hdy]; exact D.pos) (by rw [hdy]; exact D.le) (by rw [hdy]; exact o6) hM6 hB hqs⟩, fun h => (h rfl).elim⟩)

theorem iwith_ok (d : Nat) (x : List UInt8) (la : Option Addr) (ln lc : Nat) (ws : List WriteV) (w : World) (hd : DiskAt w d x) (hT : Tab w la ln 2 (ws.map WriteV.cells)) (hO : ∀ o ∈ ws, Bs w o.B'a o.B'n o.B') (hln : ln ≤ 1000000) : Meets Try.prog 15 [.pointer (some ⟨d, 0, none⟩), .slice la ln lc] w (fun v w' => Ext [] w w' ∧ ((withF x (ws.map wv)).2 = 0 → ∃ d', v = .tuple #[ptr d', .int .i64 0] ∧ DiskAt w' d' (withF x (ws.map wv)).1) ∧ ((withF x (ws.map wv)).2 ≠ 0 → v = .tuple #[.pointer none, .int .i64 (withF x (ws.map wv)).2])) := by
  obtain ⟨g, c, cur, ps, hD⟩ := hd
  exact (iwith_okF d g c cur ps x la ln lc ws w hD hT hO hln).mono fun v w' ⟨h1, h2, h3⟩ => ⟨h1, fun h => let ⟨d', e, q⟩ := h2 h; ⟨d', e, q.at⟩, h3⟩

end Go.Proofs.Ythdaelmjiaegfaa
/-
  The walks of package image.
-/
set_option linter.unusedVariables false
set_option linter.unusedSimpArgs false
namespace Go.Proofs.Ythdaelmjiaegfaa
open Go Brv Brv.Image



end Go.Proofs.Ythdaelmjiaegfaa
/-
  The walks of package image.
-/
set_option linter.unusedVariables false
set_option linter.unusedSimpArgs false
namespace Go.Proofs.Ythdaelmjiaegfaa
open Go Brv Brv.Image
/-- What the iterator over the disk reads. -/
def fpIs (w : World) (F : List Nat) (b1 : Nat) (d : Option Addr) (x : List UInt8) : Prop := (∀ g ∈ F, g < w.heap.size) ∧ ∀ M w', Ext M w w' → (∀ g ∈ F, g ∉ M) → Blk w' b1 #[.pointer d] 41 (0, 0) ∧ DiskO w' d x
theorem fpIs.ext0 {w w' : World} {F : List Nat} {b1 : Nat} {d : Option Addr} {x : List UInt8} (h : fpIs w F b1 d x) (he : Ext [] w w') : fpIs w' F b1 d x :=
  ⟨fun g hg => Nat.lt_of_lt_of_le (h.1 g hg) he.size, fun M w2 e hm => by
    have e2 : Ext (M.filter (fun g => decide (g < w.heap.size))) w w2 := by
      refine he.trans e (by simp) (fun g hg => ?_)
      by_cases hl : g < w.heap.size
      · exact .inl (List.mem_filter.2 ⟨hg, by simpa using hl⟩)
      · exact .inr (by omega)
    exact h.2 _ w2 e2 (fun g hg hmem => hm g hg (List.mem_filter.1 hmem).1)⟩
end Go.Proofs.Ythdaelmjiaegfaa
/-
  The walks of package image.
-/
set_option linter.unusedVariables false
set_option linter.unusedSimpArgs false
namespace Go.Proofs.Ythdaelmjiaegfaa
open Go Brv Brv.Image
end Go.Proofs.Ythdaelmjiaegfaa
/-
  The walks of package image.
-/
set_option linter.unusedVariables false
set_option linter.unusedSimpArgs false
namespace Go.Proofs.Ythdaelmjiaegfaa
open Go Brv Brv.Image
end Go.Proofs.Ythdaelmjiaegfaa
/-
  The walks of package model.
-/
set_option linter.unusedVariables false
set_option linter.unusedSimpArgs false
set_option maxRecDepth 4000
namespace Go.Proofs.Ythdaelmjiaegfaa
open Go Brv Brv.Image Brv.Model
/-- The orders of all timelines' disks. -/
def lnA (L : Lns) : Asn := sp (L.map fun q => mp (κ := Int) 135 132 1 q.2.m (dsP q.2.ds))
/-- All disks, that stay. -/
def DkP (L : Lns) (w : World) : Prop := ∀ q ∈ L, ∀ d ∈ q.2.ds, DiskAt w d.2.b d.2.l
def dkS (L : Lns) : Asn := sh (DkP L)
instance (L : Lns) : Pers (dkS L) := ⟨fun _ _ _ h => h⟩
theorem _root_.Brv.St.lnAt {L : Lns} {H H1 : List Asn} {F S : List Nat} {w : World} {t : Int} {x : Ln} (s : St H F S w) (h : Sel H (lnA L) H1) (hg : getT L t = some x) : ∃ S', MapAt (κ := Int) 135 132 1 w x.m (dsP x.ds) S' := by
  obtain ⟨F', S', h⟩ := St.spAt s (show Sel H (sp (L.map fun q => mp (κ := Int) 135 132 1 q.2.m (dsP q.2.ds))) H1 from h) (List.mem_map.2 ⟨_, getT_some hg, rfl⟩)
  exact ⟨F', h⟩
theorem _root_.Brv.St.dk {L : Lns} {H H1 : List Asn} {F S : List Nat} {w : World} {t n : Int} {d : Dk} (s : St H F S w) (h : Sel H (dkS L) H1) (hg : wasV L t n = some d) : DiskAt w d.b d.l := by
  obtain ⟨x, h1, h2⟩ := was_mem hg
  exact s.sh (p := DkP L) h _ h1 _ h2
theorem perm_put {L : Lns} (hs : Srt L) (t : Int) (x : Ln) : (putT L t x).Perm ((t, x) :: L.filter (fun q => decide (q.1 ≠ t))) := by
  rw [putT_ins]
  induction L with
  | nil => exact List.Perm.refl _
  | cons q L ih =>
    unfold Srt at hs
    rw [List.pairwise_cons] at hs
    rw [insT]
    by_cases h : q.1 < t
    · rw [if_pos h, List.filter_cons_of_pos (by simp; omega)]
      exact ((ih hs.2).cons q).trans (List.Perm.swap _ _ _)
    · have hall : L.filter (fun q => decide (q.1 ≠ t)) = L := List.filter_eq_self.2 fun r hr => by have := hs.1 r hr; simp; omega
      rw [if_neg h]
      by_cases h2 : t < q.1
      · rw [if_pos h2, List.filter_cons_of_pos (by simp; omega), hall]
      · rw [if_neg h2, List.filter_cons_of_neg (by simp; omega), hall]
theorem perm_has {L : Lns} (hs : Srt L) {t : Int} {x : Ln} (hg : getT L t = some x) : L.Perm ((t, x) :: L.filter (fun q => decide (q.1 ≠ t))) := by
  have h := perm_put hs t x
  obtain ⟨i, hi⟩ := List.getElem?_of_mem (getT_some hg)
  have e : putT L t x = L := by
    rw [putT_at hs hi]
    refine List.ext_getElem? fun j => ?_
    rw [List.getElem?_set]
    split
    · rename_i e; subst e; rw [hi]; simp [(List.getElem?_eq_some_iff.1 hi).1]
    · rfl
  rwa [e] at h
/-- All timelines' orders but one's. -/
def lnR (L : Lns) (t : Int) : Asn := sp ((L.filter (fun q => decide (q.1 ≠ t))).map fun q => mp (κ := Int) 135 132 1 q.2.m (dsP q.2.ds))
theorem Imp.lnOpen {L : Lns} {H H1 : List Asn} {t : Int} {x : Ln} (h : Sel H (lnA L) H1) (hs : Srt L) (hg : getT L t = some x) : Imp H (mp (κ := Int) 135 132 1 x.m (dsP x.ds) :: lnR L t :: H1) :=
  (Imp.spPerm (show Sel H (sp (L.map fun q => mp (κ := Int) 135 132 1 q.2.m (dsP q.2.ds))) H1 from h) ((perm_has hs hg).map _)).trans (Imp.spOpen .here)
theorem Imp.lnClose {L : Lns} {H H1 H2 : List Asn} {t : Int} {x : Ln} (h : Sel H (mp (κ := Int) 135 132 1 x.m (dsP x.ds)) H1) (k : Sel H1 (lnR L t) H2) (hs : Srt L) : Imp H (lnA (putT L t x) :: H2) :=
  (Imp.spClose h k).trans (Imp.spPerm .here ((perm_put hs t x).symm.map (fun q : Int × Ln => mp (κ := Int) 135 132 1 q.2.m (dsP q.2.ds))))
theorem lnR_no {L : Lns} {t : Int} (h : ∀ p ∈ L, p.1 ≠ t) : lnR L t = lnA L := by
  unfold lnR lnA
  rw [List.filter_eq_self.2 fun r hr => by simpa using h r hr]
theorem hasK_get {α : Type} (g : α → List Value) (l : List (Int × α)) (k : Int) : hasK (mapT g l) k = (getT l k).isSome := by
  rw [← hasT_eq, hasT_map]
  unfold getT
  cases h : hasT l k with
  | false => rfl
  | true => obtain ⟨p, hp, _⟩ := hasT_mem h; simp [hp]
theorem getK_get {α : Type} (g : α → List Value) (l : List (Int × α)) (k : Int) : getK (mapT g l) k = (getT l k).map g := by rw [← getT_eq, getT_map]
theorem lgetN (m : Nat) (L : Lns) (k : Int) (S : List Nat) (w : World) (hm : MapAt (κ := Int) 124 128 3 w m (psL L) S) (hl : L.length ≤ 99999) (hg : getT L k = none) : Meets Try.prog 35 [.pointer (some ⟨m, 0, none⟩), .int .i64 k] w (fun v w' => v = .tuple #[.agg #[.pointer none, .int .i64 0, .int .i64 0], .bool false] ∧ Ext [] w w') :=
  (getModelline_ok m (psL L) S k w hm (by rw [psL_len]; exact hl)).mono fun v w' ⟨h1, h2⟩ => ⟨by rw [h1]; unfold psL; rw [hasK_get, getK_get, hg]; rfl, h2⟩
theorem lgetS (m : Nat) (L : Lns) (k : Int) (x : Ln) (S : List Nat) (w : World) (hm : MapAt (κ := Int) 124 128 3 w m (psL L) S) (hl : L.length ≤ 99999) (hg : getT L k = some x) : Meets Try.prog 35 [.pointer (some ⟨m, 0, none⟩), .int .i64 k] w (fun v w' => v = .tuple #[.agg (lnC x).toArray, .bool true] ∧ Ext [] w w') :=
  (getModelline_ok m (psL L) S k w hm (by rw [psL_len]; exact hl)).mono fun v w' ⟨h1, h2⟩ => ⟨by rw [h1]; unfold psL; rw [hasK_get, getK_get, hg]; rfl, h2⟩
theorem dgetX (m : Nat) (ds : List (Int × Dk)) (k : Int) (S : List Nat) (w : World) (hm : MapAt (κ := Int) 135 132 1 w m (dsP ds) S) (hl : ds.length ≤ 99999) : Meets Try.prog 51 [.pointer (some ⟨m, 0, none⟩), .int .i64 k] w (fun v w' => v = .tuple #[dkO (getT ds k), .bool (getT ds k).isSome] ∧ Ext [] w w') :=
  (getImageDisk_ok m (dsP ds) S k w hm (by rw [dsP_len]; exact hl)).mono fun v w' ⟨h1, h2⟩ => ⟨by rw [h1]; unfold dsP; rw [hasK_get, getK_get]; cases getT ds k <;> rfl, h2⟩
theorem lputX (m : Nat) (L : Lns) (k : Int) (x : Ln) (hl : L.length ≤ 99999) : SpecS Try.prog 32 [.pointer (some ⟨m, 0, none⟩), .int .i64 k, .agg (lnC x).toArray] [mp (κ := Int) 124 128 3 m (psL L)] (fun v H' => v = .bool (!hasK (psL L) k) ∧ H' = [mp (κ := Int) 124 128 3 m (psL (putT L k x))]) := by
  have := SpecS.ofMap (φ := fun v => v = .bool (!hasK (psL L) k)) (fun w S hm => putModelline_ok m (psL L) S k (lnC x) w hm (by rw [psL_len]; exact hl) ⟨rfl, lnC_one x⟩)
  rw [psL_put] at this
  exact this
theorem dputX (m : Nat) (ds : List (Int × Dk)) (k : Int) (d : Dk) (hl : ds.length ≤ 99999) : SpecS Try.prog 36 [.pointer (some ⟨m, 0, none⟩), .int .i64 k, .pointer (some ⟨d.b, 0, none⟩)] [mp (κ := Int) 135 132 1 m (dsP ds)] (fun v H' => v = .bool (!hasK (dsP ds) k) ∧ H' = [mp (κ := Int) 135 132 1 m (dsP (putT ds k d))]) := by
  have := SpecS.ofMap (φ := fun v => v = .bool (!hasK (dsP ds) k)) (fun w S hm => putImageDisk_ok m (dsP ds) S k (some ⟨d.b, 0, none⟩) w hm (by rw [dsP_len]; exact hl))
  rw [show ([.pointer (some ⟨d.b, 0, none⟩)] : List Value) = dkC d from rfl, dsP_put] at this
  exact this
theorem ds_len {L : Lns} {k : Nat} (h : Wf L k) {t : Int} {x : Ln} (hg : getT L t = some x) : x.ds.length ≤ k + 1 := (h.ln _ (getT_some hg)).2.2.1
theorem was_no {L : Lns} {t : Int} (h : getT L t = none) (n : Int) : wasV L t n = none := by unfold wasV; rw [h]; rfl
theorem was_so {L : Lns} {t : Int} {x : Ln} (h : getT L t = some x) (n : Int) : wasV L t n = getT x.ds n := by unfold wasV; rw [h]; rfl
theorem par_no {L : Lns} {t : Int} (h : getT L t = none) : parV L t = none := by unfold parV; rw [h]; rfl
theorem par_z {L : Lns} {t : Int} {x : Ln} (h : getT L t = some x) (h0 : x.pt = 0) : parV L t = none := by unfold parV; rw [h]; exact if_pos h0
theorem par_so {L : Lns} {t : Int} {x : Ln} (h : getT L t = some x) (h0 : x.pt ≠ 0) : parV L t = some (x.pt, x.pn) := by unfold parV; rw [h]; exact if_neg h0
def parC : Option (Int × Int) → Value
  | some q => .tuple #[.int .i64 q.1, .int .i64 q.2, .bool true]
  | none => .tuple #[.int .i64 0, .int .i64 0, .bool false]

end Go.Proofs.Ythdaelmjiaegfaa
/-
  The walks of package model.
-/
set_option linter.unusedVariables false
set_option linter.unusedSimpArgs false
set_option maxRecDepth 4000
namespace Go.Proofs.Ythdaelmjiaegfaa
open Go Brv Brv.Image Brv.Model
theorem wwas_ok (p m : Nat) (L : Lns) (tt nn : Int) (kk : Nat) (tx nx : Int) (hw : Wf L kk) (hk : kk ≤ 9000) : SpecS Try.prog 34 [.pointer (some ⟨p, 0, none⟩), .agg #[.int .i64 tx, .int .i64 nx]] [blk p [.pointer (some ⟨m, 0, none⟩), .int .i64 tt, .int .i64 nn] 85, mp (κ := Int) 124 128 3 m (psL L), lnA L, dkS L] (fun v H' => v = .tuple #[dkO (wasV L tx nx), .bool (wasV L tx nx).isSome] ∧ H' = [blk p [.pointer (some ⟨m, 0, none⟩), .int .i64 tt, .int .i64 nn] 85, mp (κ := Int) 124 128 3 m (psL L), lnA L, dkS L]) := by
  refine SpecS.enter Try.func34 rfl 29 rfl (Nat.le_of_ble_eq_true rfl) (fun o => ?_)
  refine SG.seq ?_
  refine SG.region ?_
  refine SL.step rfl rfl (CS.boxA rfl) ?_
  rintro _ _ ⟨b3, rfl, rfl⟩
  refine SL.val rfl rfl (fun w9 F9 S9 s => R.as rfl) ?_
  refine SL.val rfl rfl (fun w9 F9 S9 s => R.as rfl) ?_
  refine SL.nil ?_
  refine SN.seq ?_
  refine SG.seq ?_
  refine SG.seq ?_
  refine SG.region ?_
  refine SL.val rfl rfl (fun w9 F9 S9 s => R.mv rfl) ?_
  refine SL.val rfl rfl (fun w9 F9 S9 s => R.eqNilP rfl rfl) ?_
  refine SL.nil ?_
  refine SN.seq ?_
  refine SG.condF rfl ?_
  refine SG.skip ?_
  refine SN.seq ?_
  refine SG.seq ?_
  rcases hg : getT L tx with _ | x
  · refine SG.drawT (.flo 0 (.flo 1 (.flo 2 (.flo 3 (.flo 4 (.flo 5 (.alt 6 (.flo 7 (.flo 8 (.flo 9 (.alt 10 (.alt 11 (.flo 12 .nil) .stop) .stop)))) (.alt 10 (.alt 6 (.flo 7 (.flo 8 (.flo 9 (.alt 11 (.flo 12 .nil) .stop)))) .stop) .stop)))))))) (by decide +kernel) rfl ?_
    refine TW.pure rfl rfl rfl rfl (fun w9 => R.mv rfl) ?_
    refine TW.pure rfl rfl rfl rfl (fun w9 => R.nilChk rfl) ?_
    refine TW.pure rfl rfl rfl rfl (fun w9 => R.fld rfl) ?_
    refine TW.read rfl rfl rfl rfl (fun w9 F9 S9 s => R.ldB rfl (s.cel (by repeat (first | exact SelB.blk | exact SelB.fz | apply SelB.there))) (by rfl)) ?_
    refine TW.pure rfl rfl rfl rfl (fun w9 => R.fld rfl) ?_
    refine TW.read rfl rfl rfl rfl (fun w9 F9 S9 s => R.ldB rfl (s.cel (by repeat (first | exact SelB.blk | exact SelB.fz | apply SelB.there))) (by rfl)) ?_
    refine TW.or ?_ ?_
    · refine TW.step rfl rfl rfl rfl (CS.callR rfl go35 (fun w9 F9 S9 s => (s.mp (show Sel _ (mp (κ := Int) 124 128 3 m (psL L)) _ from (by repeat (first | exact Sel.keep | exact Sel.here | apply Sel.there)))).elim fun S9 h9 => lgetN m L tx S9 w9 h9 (by have := hw.len; omega) hg)) ?_
      rintro _ _ ⟨rfl, rfl⟩
      refine ⟨⟨.inl (by decide +kernel), ⟨.inl (by decide +kernel), trivial⟩⟩, ?_⟩
      refine TW.pure rfl rfl rfl rfl (fun w9 => R.mv rfl) ?_
      refine TW.pure rfl rfl rfl rfl (fun w9 => R.ext rfl rfl) ?_
      refine TW.pure rfl rfl rfl rfl (fun w9 => R.ext rfl rfl) ?_
      refine TW.step rfl rfl rfl rfl (CS.alloc [.pointer none, .int .i64 0, .int .i64 0] rfl) ?_
      rintro _ _ ⟨b6, rfl, rfl⟩
      refine ⟨⟨.inr (fun w9 F9 S9 s => R.ldB rfl (s.cel (by repeat (first | exact SelB.blk | exact SelB.fz | apply SelB.there))) (by rfl)), ⟨.inr (fun w9 F9 S9 s => R.ldB rfl (s.cel (by repeat (first | exact SelB.blk | exact SelB.fz | apply SelB.there))) (by rfl)), trivial⟩⟩, ?_⟩
      refine TW.step0 rfl rfl rfl (CS.stA (vs := [.pointer none, .int .i64 0, .int .i64 0]) rfl rfl (by repeat (first | exact Sel.keep | exact Sel.here | apply Sel.there)) (by rfl) (by rfl) (by intro u hu; simp only [List.mem_cons, List.not_mem_nil, or_false] at hu; rcases hu with rfl | rfl | rfl <;> rfl)) ?_
      rintro _ _ rfl
      refine ⟨⟨.inl (by decide +kernel), ⟨.inl (by decide +kernel), trivial⟩⟩, ?_⟩
      refine TW.pure rfl rfl rfl rfl (fun w9 => R.as rfl) ?_
      refine TW.nil ?_
      refine SN.seq ?_
      refine SG.seq ?_
      refine SG.seq ?_
      refine SG.region ?_
      refine SL.val rfl rfl (fun w9 F9 S9 s => R.mv rfl) ?_
      refine SL.val rfl rfl (fun w9 F9 S9 s => R.not rfl) ?_
      refine SL.nil ?_
      refine SN.seq ?_
      refine SG.condT rfl ?_
      refine SG.seq ?_
      refine SG.region ?_
      refine SL.val rfl rfl (fun w9 F9 S9 s => R.as rfl) ?_
      refine SL.val rfl rfl (fun w9 F9 S9 s => R.as rfl) ?_
      refine SL.nil ?_
      refine SN.seq ?_
      exact SG.ret2 rfl rfl rfl ((Imp.sels (by repeat (first | exact Sels.nil | apply Sels.cons | exact Sel.keep | exact Sel.here | apply Sel.there)))) (⟨by rw [was_no hg]; rfl, rfl⟩)
    refine TW.step rfl rfl rfl rfl (CS.alloc [.pointer none, .int .i64 0, .int .i64 0] rfl) ?_
    rintro _ _ ⟨b6, rfl, rfl⟩
    refine ⟨⟨.inr (fun w9 F9 S9 s => R.ldB rfl (s.cel (by repeat (first | exact SelB.blk | exact SelB.fz | apply SelB.there))) (by rfl)), ⟨.inr (fun w9 F9 S9 s => R.ldB rfl (s.cel (by repeat (first | exact SelB.blk | exact SelB.fz | apply SelB.there))) (by rfl)), trivial⟩⟩, ?_⟩
    refine TW.step rfl rfl rfl rfl (CS.callR rfl go35 (fun w9 F9 S9 s => (s.mp (show Sel _ (mp (κ := Int) 124 128 3 m (psL L)) _ from (by repeat (first | exact Sel.keep | exact Sel.here | apply Sel.there)))).elim fun S9 h9 => lgetN m L tx S9 w9 h9 (by have := hw.len; omega) hg)) ?_
    rintro _ _ ⟨rfl, rfl⟩
    refine ⟨⟨.inl (by decide +kernel), ⟨.inl (by decide +kernel), trivial⟩⟩, ?_⟩
    refine TW.pure rfl rfl rfl rfl (fun w9 => R.mv rfl) ?_
    refine TW.pure rfl rfl rfl rfl (fun w9 => R.ext rfl rfl) ?_
    refine TW.pure rfl rfl rfl rfl (fun w9 => R.ext rfl rfl) ?_
    refine TW.step0 rfl rfl rfl (CS.stA (vs := [.pointer none, .int .i64 0, .int .i64 0]) rfl rfl (by repeat (first | exact Sel.keep | exact Sel.here | apply Sel.there)) (by rfl) (by rfl) (by intro u hu; simp only [List.mem_cons, List.not_mem_nil, or_false] at hu; rcases hu with rfl | rfl | rfl <;> rfl)) ?_
    rintro _ _ rfl
    refine ⟨⟨.inl (by decide +kernel), ⟨.inl (by decide +kernel), trivial⟩⟩, ?_⟩
    refine TW.pure rfl rfl rfl rfl (fun w9 => R.as rfl) ?_
    refine TW.nil ?_
    refine SN.seq ?_
    refine SG.seq ?_
    refine SG.seq ?_
    refine SG.region ?_
    refine SL.val rfl rfl (fun w9 F9 S9 s => R.mv rfl) ?_
    refine SL.val rfl rfl (fun w9 F9 S9 s => R.not rfl) ?_
    refine SL.nil ?_
    refine SN.seq ?_
    refine SG.condT rfl ?_
    refine SG.seq ?_
    refine SG.region ?_
    refine SL.val rfl rfl (fun w9 F9 S9 s => R.as rfl) ?_
    refine SL.val rfl rfl (fun w9 F9 S9 s => R.as rfl) ?_
    refine SL.nil ?_
    refine SN.seq ?_
    exact SG.ret2 rfl rfl rfl ((Imp.sels (by repeat (first | exact Sels.nil | apply Sels.cons | exact Sel.keep | exact Sel.here | apply Sel.there)))) (⟨by rw [was_no hg]; rfl, rfl⟩)
  · refine SG.drawT (.flo 0 (.flo 1 (.flo 2 (.flo 3 (.flo 4 (.flo 5 (.alt 6 (.flo 7 (.flo 8 (.flo 9 (.alt 10 (.alt 11 (.flo 12 .nil) .stop) .stop)))) (.alt 10 (.alt 6 (.flo 7 (.flo 8 (.flo 9 (.alt 11 (.flo 12 .nil) .stop)))) .stop) .stop)))))))) (by decide +kernel) rfl ?_
    refine TW.pure rfl rfl rfl rfl (fun w9 => R.mv rfl) ?_
    refine TW.pure rfl rfl rfl rfl (fun w9 => R.nilChk rfl) ?_
    refine TW.pure rfl rfl rfl rfl (fun w9 => R.fld rfl) ?_
    refine TW.read rfl rfl rfl rfl (fun w9 F9 S9 s => R.ldB rfl (s.cel (by repeat (first | exact SelB.blk | exact SelB.fz | apply SelB.there))) (by rfl)) ?_
    refine TW.pure rfl rfl rfl rfl (fun w9 => R.fld rfl) ?_
    refine TW.read rfl rfl rfl rfl (fun w9 F9 S9 s => R.ldB rfl (s.cel (by repeat (first | exact SelB.blk | exact SelB.fz | apply SelB.there))) (by rfl)) ?_
    refine TW.or ?_ ?_
    · refine TW.step rfl rfl rfl rfl (CS.callR rfl go35 (fun w9 F9 S9 s => (s.mp (show Sel _ (mp (κ := Int) 124 128 3 m (psL L)) _ from (by repeat (first | exact Sel.keep | exact Sel.here | apply Sel.there)))).elim fun S9 h9 => lgetS m L tx x S9 w9 h9 (by have := hw.len; omega) hg)) ?_
      rintro _ _ ⟨rfl, rfl⟩
      refine ⟨⟨.inl (by decide +kernel), ⟨.inl (by decide +kernel), trivial⟩⟩, ?_⟩
      refine TW.pure rfl rfl rfl rfl (fun w9 => R.mv rfl) ?_
      refine TW.pure rfl rfl rfl rfl (fun w9 => R.ext rfl rfl) ?_
      refine TW.pure rfl rfl rfl rfl (fun w9 => R.ext rfl rfl) ?_
      refine TW.step rfl rfl rfl rfl (CS.alloc [.pointer none, .int .i64 0, .int .i64 0] rfl) ?_
      rintro _ _ ⟨b6, rfl, rfl⟩
      refine ⟨⟨.inr (fun w9 F9 S9 s => R.ldB rfl (s.cel (by repeat (first | exact SelB.blk | exact SelB.fz | apply SelB.there))) (by rfl)), ⟨.inr (fun w9 F9 S9 s => R.ldB rfl (s.cel (by repeat (first | exact SelB.blk | exact SelB.fz | apply SelB.there))) (by rfl)), trivial⟩⟩, ?_⟩
      refine TW.step0 rfl rfl rfl (CS.stA (vs := lnC x) rfl rfl (by repeat (first | exact Sel.keep | exact Sel.here | apply Sel.there)) (by rfl) (by rfl) (lnC_one x)) ?_
      rintro _ _ rfl
      refine ⟨⟨.inl (by decide +kernel), ⟨.inl (by decide +kernel), trivial⟩⟩, ?_⟩
      refine TW.pure rfl rfl rfl rfl (fun w9 => R.as rfl) ?_
      refine TW.nil ?_
      refine SN.seq ?_
      refine SG.seq ?_
      refine SG.seq ?_
      refine SG.region ?_
      refine SL.val rfl rfl (fun w9 F9 S9 s => R.mv rfl) ?_
      refine SL.val rfl rfl (fun w9 F9 S9 s => R.not rfl) ?_
      refine SL.nil ?_
      refine SN.seq ?_
      refine SG.condF rfl ?_
      refine SG.skip ?_
      refine SN.seq ?_
      refine SG.seq ?_
      refine SG.region ?_
      refine SL.val rfl rfl (fun w9 F9 S9 s => R.fld rfl) ?_
      refine SL.val rfl rfl (fun w9 F9 S9 s => R.ldB (v := .pointer (some ⟨x.m, 0, none⟩)) rfl (s.cel (by repeat (first | exact SelB.blk | exact SelB.fz | apply SelB.there))) (by rfl)) ?_
      refine SL.val rfl rfl (fun w9 F9 S9 s => R.fld rfl) ?_
      refine SL.val rfl rfl (fun w9 F9 S9 s => R.ldB rfl (s.cel (by repeat (first | exact SelB.blk | exact SelB.fz | apply SelB.there))) (by rfl)) ?_
      refine SL.step rfl rfl (CS.callR rfl go51 (fun w9 F9 S9 s => (s.lnAt (show Sel _ (lnA L) _ from (by repeat (first | exact Sel.keep | exact Sel.here | apply Sel.there))) hg).elim fun S9 h9 => dgetX x.m x.ds nx S9 w9 h9 (by have := ds_len hw hg; omega))) ?_
      rintro _ _ ⟨rfl, rfl⟩
      refine SL.val rfl rfl (fun w9 F9 S9 s => R.ext rfl rfl) ?_
      refine SL.val rfl rfl (fun w9 F9 S9 s => R.ext rfl rfl) ?_
      refine SL.val rfl rfl (fun w9 F9 S9 s => R.as rfl) ?_
      refine SL.val rfl rfl (fun w9 F9 S9 s => R.as rfl) ?_
      refine SL.nil ?_
      refine SN.seq ?_
      exact SG.ret2 rfl rfl rfl ((Imp.sels (by repeat (first | exact Sels.nil | apply Sels.cons | exact Sel.keep | exact Sel.here | apply Sel.there)))) (⟨by rw [was_so hg]; rfl, rfl⟩)
    refine TW.step rfl rfl rfl rfl (CS.alloc [.pointer none, .int .i64 0, .int .i64 0] rfl) ?_
    rintro _ _ ⟨b6, rfl, rfl⟩
    refine ⟨⟨.inr (fun w9 F9 S9 s => R.ldB rfl (s.cel (by repeat (first | exact SelB.blk | exact SelB.fz | apply SelB.there))) (by rfl)), ⟨.inr (fun w9 F9 S9 s => R.ldB rfl (s.cel (by repeat (first | exact SelB.blk | exact SelB.fz | apply SelB.there))) (by rfl)), trivial⟩⟩, ?_⟩
    refine TW.step rfl rfl rfl rfl (CS.callR rfl go35 (fun w9 F9 S9 s => (s.mp (show Sel _ (mp (κ := Int) 124 128 3 m (psL L)) _ from (by repeat (first | exact Sel.keep | exact Sel.here | apply Sel.there)))).elim fun S9 h9 => lgetS m L tx x S9 w9 h9 (by have := hw.len; omega) hg)) ?_
    rintro _ _ ⟨rfl, rfl⟩
    refine ⟨⟨.inl (by decide +kernel), ⟨.inl (by decide +kernel), trivial⟩⟩, ?_⟩
    refine TW.pure rfl rfl rfl rfl (fun w9 => R.mv rfl) ?_
    refine TW.pure rfl rfl rfl rfl (fun w9 => R.ext rfl rfl) ?_
    refine TW.pure rfl rfl rfl rfl (fun w9 => R.ext rfl rfl) ?_
    refine TW.step0 rfl rfl rfl (CS.stA (vs := lnC x) rfl rfl (by repeat (first | exact Sel.keep | exact Sel.here | apply Sel.there)) (by rfl) (by rfl) (lnC_one x)) ?_
    rintro _ _ rfl
    refine ⟨⟨.inl (by decide +kernel), ⟨.inl (by decide +kernel), trivial⟩⟩, ?_⟩
    refine TW.pure rfl rfl rfl rfl (fun w9 => R.as rfl) ?_
    refine TW.nil ?_
    refine SN.seq ?_
    refine SG.seq ?_
    refine SG.seq ?_
    refine SG.region ?_
    refine SL.val rfl rfl (fun w9 F9 S9 s => R.mv rfl) ?_
    refine SL.val rfl rfl (fun w9 F9 S9 s => R.not rfl) ?_
    refine SL.nil ?_
    refine SN.seq ?_
    refine SG.condF rfl ?_
    refine SG.skip ?_
    refine SN.seq ?_
    refine SG.seq ?_
    refine SG.region ?_
    refine SL.val rfl rfl (fun w9 F9 S9 s => R.fld rfl) ?_
    refine SL.val rfl rfl (fun w9 F9 S9 s => R.ldB (v := .pointer (some ⟨x.m, 0, none⟩)) rfl (s.cel (by repeat (first | exact SelB.blk | exact SelB.fz | apply SelB.there))) (by rfl)) ?_
    refine SL.val rfl rfl (fun w9 F9 S9 s => R.fld rfl) ?_
    refine SL.val rfl rfl (fun w9 F9 S9 s => R.ldB rfl (s.cel (by repeat (first | exact SelB.blk | exact SelB.fz | apply SelB.there))) (by rfl)) ?_
    refine SL.step rfl rfl (CS.callR rfl go51 (fun w9 F9 S9 s => (s.lnAt (show Sel _ (lnA L) _ from (by repeat (first | exact Sel.keep | exact Sel.here | apply Sel.there))) hg).elim fun S9 h9 => dgetX x.m x.ds nx S9 w9 h9 (by have := ds_len hw hg; omega))) ?_
    rintro _ _ ⟨rfl, rfl⟩
    refine SL.val rfl rfl (fun w9 F9 S9 s => R.ext rfl rfl) ?_
    refine SL.val rfl rfl (fun w9 F9 S9 s => R.ext rfl rfl) ?_
    refine SL.val rfl rfl (fun w9 F9 S9 s => R.as rfl) ?_
    refine SL.val rfl rfl (fun w9 F9 S9 s => R.as rfl) ?_
    refine SL.nil ?_
    refine SN.seq ?_
    exact SG.ret2 rfl rfl rfl ((Imp.sels (by repeat (first | exact Sels.nil | apply Sels.cons | exact Sel.keep | exact Sel.here | apply Sel.there)))) (⟨by rw [was_so hg]; rfl, rfl⟩)

theorem wwasE (p m : Nat) (L : Lns) (tt nn : Int) (kk : Nat) (tx nx : Int) (hw : Wf L kk) (hk : kk ≤ 9000) (r : Option Dk) (hr : wasV L tx nx = r) : SpecS Try.prog 34 [.pointer (some ⟨p, 0, none⟩), .agg #[.int .i64 tx, .int .i64 nx]] [blk p [.pointer (some ⟨m, 0, none⟩), .int .i64 tt, .int .i64 nn] 85, mp (κ := Int) 124 128 3 m (psL L), lnA L, dkS L] (fun v H' => v = .tuple #[dkO r, .bool r.isSome] ∧ H' = [blk p [.pointer (some ⟨m, 0, none⟩), .int .i64 tt, .int .i64 nn] 85, mp (κ := Int) 124 128 3 m (psL L), lnA L, dkS L]) := by
  subst hr; exact wwas_ok p m L tt nn kk tx nx hw hk

theorem wnow_ok (p m : Nat) (L : Lns) (tt nn : Int) (kk : Nat) : SpecS Try.prog 11 [.pointer (some ⟨p, 0, none⟩)] [blk p [.pointer (some ⟨m, 0, none⟩), .int .i64 tt, .int .i64 nn] 85] (fun v H' => v = .tuple #[.int .i64 tt, .int .i64 nn] ∧ H' = [blk p [.pointer (some ⟨m, 0, none⟩), .int .i64 tt, .int .i64 nn] 85]) := by
  refine SpecS.enter Try.func11 rfl 16 rfl (Nat.le_of_ble_eq_true rfl) (fun o => ?_)
  refine SG.seq ?_
  refine SG.region ?_
  refine SL.val rfl rfl (fun w9 F9 S9 s => R.as rfl) ?_
  refine SL.val rfl rfl (fun w9 F9 S9 s => R.as rfl) ?_
  refine SL.nil ?_
  refine SN.seq ?_
  refine SG.seq ?_
  refine SG.seq ?_
  refine SG.region ?_
  refine SL.val rfl rfl (fun w9 F9 S9 s => R.mv rfl) ?_
  refine SL.val rfl rfl (fun w9 F9 S9 s => R.eqNilP rfl rfl) ?_
  refine SL.nil ?_
  refine SN.seq ?_
  refine SG.condF rfl ?_
  refine SG.skip ?_
  refine SN.seq ?_
  refine SG.seq ?_
  refine SG.draw [] [0, 1, 2, 3, 4, 5, 6, 7, 8, 9, 10, 11] (by decide +kernel) rfl ?_
  refine SW.pure rfl rfl rfl rfl (fun w9 => R.mv rfl) ?_
  refine SW.pure rfl rfl rfl rfl (fun w9 => R.nilChk rfl) ?_
  refine SW.pure rfl rfl rfl rfl (fun w9 => R.fld rfl) ?_
  refine SW.pure rfl rfl rfl rfl (fun w9 => R.fld rfl) ?_
  refine SW.read rfl rfl rfl rfl (fun w9 F9 S9 s => R.ldB rfl (s.cel (by repeat (first | exact SelB.blk | exact SelB.fz | apply SelB.there))) (by rfl)) ?_
  refine SW.pure rfl rfl rfl rfl (fun w9 => R.mv rfl) ?_
  refine SW.pure rfl rfl rfl rfl (fun w9 => R.nilChk rfl) ?_
  refine SW.pure rfl rfl rfl rfl (fun w9 => R.fld rfl) ?_
  refine SW.pure rfl rfl rfl rfl (fun w9 => R.fld rfl) ?_
  refine SW.read rfl rfl rfl rfl (fun w9 F9 S9 s => R.ldB rfl (s.cel (by repeat (first | exact SelB.blk | exact SelB.fz | apply SelB.there))) (by rfl)) ?_
  refine SW.pure rfl rfl rfl rfl (fun w9 => R.as rfl) ?_
  refine SW.pure rfl rfl rfl rfl (fun w9 => R.as rfl) ?_
  refine SW.nil ?_
  refine SN.seq ?_
  exact SG.ret2 rfl rfl rfl ((Imp.sels (by repeat (first | exact Sels.nil | apply Sels.cons | exact Sel.keep | exact Sel.here | apply Sel.there)))) (⟨rfl, rfl⟩)

theorem wdisk_ok (p m : Nat) (L : Lns) (tt nn : Int) (kk : Nat) (d : Dk) (hw : Wf L kk) (hk : kk ≤ 9000) (hd : wasV L tt nn = some d) : SpecS Try.prog 13 [.pointer (some ⟨p, 0, none⟩)] [blk p [.pointer (some ⟨m, 0, none⟩), .int .i64 tt, .int .i64 nn] 85, mp (κ := Int) 124 128 3 m (psL L), lnA L, dkS L] (fun v H' => v = .pointer (some ⟨d.b, 0, none⟩) ∧ H' = [blk p [.pointer (some ⟨m, 0, none⟩), .int .i64 tt, .int .i64 nn] 85, mp (κ := Int) 124 128 3 m (psL L), lnA L, dkS L]) := by
  refine SpecS.enter Try.func13 rfl 21 rfl (Nat.le_of_ble_eq_true rfl) (fun o => ?_)
  refine SG.seq ?_
  refine SG.region ?_
  refine SL.val rfl rfl (fun w9 F9 S9 s => R.as rfl) ?_
  refine SL.nil ?_
  refine SN.seq ?_
  refine SG.seq ?_
  refine SG.region ?_
  refine SL.val rfl rfl (fun w9 F9 S9 s => R.mv rfl) ?_
  refine SL.step rfl rfl (CS.call rfl go11 (wnow_ok p m L tt nn kk) (by repeat (first | exact Sels.nil | apply Sels.cons | exact Sel.keep | exact Sel.here | apply Sel.there))) ?_
  rintro _ _ ⟨_, ⟨rfl, rfl⟩, rfl⟩
  refine SL.n1 ?_
  refine SL.val rfl rfl (fun w9 F9 S9 s => R.mv rfl) ?_
  refine SL.val rfl rfl (fun w9 F9 S9 s => R.ext rfl rfl) ?_
  refine SL.val rfl rfl (fun w9 F9 S9 s => R.ext rfl rfl) ?_
  refine SL.val rfl rfl (fun w9 F9 S9 s => R.as rfl) ?_
  refine SL.val rfl rfl (fun w9 F9 S9 s => R.as rfl) ?_
  refine SL.nil ?_
  refine SN.seq ?_
  refine SG.seq ?_
  refine SG.region ?_
  refine SL.val rfl rfl (fun w9 F9 S9 s => R.mv rfl) ?_
  refine SL.val rfl rfl (fun w9 F9 S9 s => R.mv rfl) ?_
  refine SL.val rfl rfl (fun w9 F9 S9 s => R.mv rfl) ?_
  refine SL.val rfl rfl (fun w9 F9 S9 s => R.build rfl rfl) ?_
  refine SL.step rfl rfl (CS.call rfl go34 (wwasE p m L tt nn kk tt nn hw hk (some d) hd) (by repeat (first | exact Sels.nil | apply Sels.cons | exact Sel.keep | exact Sel.here | apply Sel.there))) ?_
  rintro _ _ ⟨_, ⟨rfl, rfl⟩, rfl⟩
  refine SL.n4 ?_
  refine SL.val rfl rfl (fun w9 F9 S9 s => R.mv rfl) ?_
  refine SL.val rfl rfl (fun w9 F9 S9 s => R.ext rfl rfl) ?_
  refine SL.val rfl rfl (fun w9 F9 S9 s => R.ext rfl rfl) ?_
  refine SL.val rfl rfl (fun w9 F9 S9 s => R.as rfl) ?_
  refine SL.val rfl rfl (fun w9 F9 S9 s => R.as rfl) ?_
  refine SL.nil ?_
  refine SN.seq ?_
  refine SG.seq ?_
  refine SG.region ?_
  refine SL.val rfl rfl (fun w9 F9 S9 s => R.mv rfl) ?_
  refine SL.val rfl rfl (fun w9 F9 S9 s => R.as rfl) ?_
  refine SL.nil ?_
  refine SN.seq ?_
  exact SG.ret1 rfl rfl ((Imp.sels (by repeat (first | exact Sels.nil | apply Sels.cons | exact Sel.keep | exact Sel.here | apply Sel.there)))) (⟨rfl, rfl⟩)

theorem wpar_ok (p m : Nat) (L : Lns) (tt nn : Int) (kk : Nat) (tx : Int) (hw : Wf L kk) (hk : kk ≤ 9000) : SpecS Try.prog 22 [.pointer (some ⟨p, 0, none⟩), .int .i64 tx] [blk p [.pointer (some ⟨m, 0, none⟩), .int .i64 tt, .int .i64 nn] 85, mp (κ := Int) 124 128 3 m (psL L), lnA L, dkS L] (fun v H' => v = parC (parV L tx) ∧ H' = [blk p [.pointer (some ⟨m, 0, none⟩), .int .i64 tt, .int .i64 nn] 85, mp (κ := Int) 124 128 3 m (psL L), lnA L, dkS L]) := by
  refine SpecS.enter Try.func22 rfl 34 rfl (Nat.le_of_ble_eq_true rfl) (fun o => ?_)
  refine SG.seq ?_
  refine SG.region ?_
  refine SL.val rfl rfl (fun w9 F9 S9 s => R.as rfl) ?_
  refine SL.val rfl rfl (fun w9 F9 S9 s => R.as rfl) ?_
  refine SL.val rfl rfl (fun w9 F9 S9 s => R.as rfl) ?_
  refine SL.nil ?_
  refine SN.seq ?_
  refine SG.seq ?_
  refine SG.seq ?_
  refine SG.region ?_
  refine SL.val rfl rfl (fun w9 F9 S9 s => R.mv rfl) ?_
  refine SL.val rfl rfl (fun w9 F9 S9 s => R.eqNilP rfl rfl) ?_
  refine SL.nil ?_
  refine SN.seq ?_
  refine SG.condF rfl ?_
  refine SG.skip ?_
  refine SN.seq ?_
  refine SG.seq ?_
  rcases hg : getT L tx with _ | x
  · refine SG.region ?_
    refine SL.val rfl rfl (fun w9 F9 S9 s => R.mv rfl) ?_
    refine SL.val rfl rfl (fun w9 F9 S9 s => R.nilChk rfl) ?_
    refine SL.val rfl rfl (fun w9 F9 S9 s => R.fld rfl) ?_
    refine SL.val rfl rfl (fun w9 F9 S9 s => R.ldB rfl (s.cel (by repeat (first | exact SelB.blk | exact SelB.fz | apply SelB.there))) (by rfl)) ?_
    refine SL.val rfl rfl (fun w9 F9 S9 s => R.mv rfl) ?_
    refine SL.step rfl rfl (CS.callR rfl go35 (fun w9 F9 S9 s => (s.mp (show Sel _ (mp (κ := Int) 124 128 3 m (psL L)) _ from (by repeat (first | exact Sel.keep | exact Sel.here | apply Sel.there)))).elim fun S9 h9 => lgetN m L tx S9 w9 h9 (by have := hw.len; omega) hg)) ?_
    rintro _ _ ⟨rfl, rfl⟩
    refine SL.val rfl rfl (fun w9 F9 S9 s => R.mv rfl) ?_
    refine SL.val rfl rfl (fun w9 F9 S9 s => R.ext rfl rfl) ?_
    refine SL.val rfl rfl (fun w9 F9 S9 s => R.ext rfl rfl) ?_
    refine SL.step rfl rfl (CS.alloc [.pointer none, .int .i64 0, .int .i64 0] rfl) ?_
    rintro _ _ ⟨b7, rfl, rfl⟩
    refine SL.step0 rfl (CS.stA (vs := [.pointer none, .int .i64 0, .int .i64 0]) rfl rfl (by repeat (first | exact Sel.keep | exact Sel.here | apply Sel.there)) (by rfl) (by rfl) (by intro u hu; simp only [List.mem_cons, List.not_mem_nil, or_false] at hu; rcases hu with rfl | rfl | rfl <;> rfl)) ?_
    rintro _ _ rfl
    refine SL.val rfl rfl (fun w9 F9 S9 s => R.as rfl) ?_
    refine SL.nil ?_
    refine SN.seq ?_
    refine SG.seq ?_
    refine SG.seq ?_
    refine SG.region ?_
    refine SL.val rfl rfl (fun w9 F9 S9 s => R.mv rfl) ?_
    refine SL.val rfl rfl (fun w9 F9 S9 s => R.not rfl) ?_
    refine SL.val rfl rfl (fun w9 F9 S9 s => R.mv rfl) ?_
    refine SL.isT 22 rfl (rfl) ?_
    refine SL.pass rfl rfl ?_
    refine SL.pass rfl rfl ?_
    refine SL.pass rfl rfl ?_
    refine SL.pass rfl rfl ?_
    first | refine SL.val rfl rfl (fun w9 F9 S9 s => R.pickT rfl rfl) ?_ | refine SL.val rfl rfl (fun w9 F9 S9 s => R.pickF rfl rfl) ?_
    refine SL.nil ?_
    refine SN.seq ?_
    refine SG.condT rfl ?_
    refine SG.seq ?_
    refine SG.region ?_
    refine SL.val rfl rfl (fun w9 F9 S9 s => R.as rfl) ?_
    refine SL.val rfl rfl (fun w9 F9 S9 s => R.as rfl) ?_
    refine SL.val rfl rfl (fun w9 F9 S9 s => R.as rfl) ?_
    refine SL.nil ?_
    refine SN.seq ?_
    exact SG.ret3 rfl rfl rfl rfl ((Imp.sels (by repeat (first | exact Sels.nil | apply Sels.cons | exact Sel.keep | exact Sel.here | apply Sel.there)))) (⟨by rw [par_no hg]; rfl, rfl⟩)
  · refine SG.region ?_
    refine SL.val rfl rfl (fun w9 F9 S9 s => R.mv rfl) ?_
    refine SL.val rfl rfl (fun w9 F9 S9 s => R.nilChk rfl) ?_
    refine SL.val rfl rfl (fun w9 F9 S9 s => R.fld rfl) ?_
    refine SL.val rfl rfl (fun w9 F9 S9 s => R.ldB rfl (s.cel (by repeat (first | exact SelB.blk | exact SelB.fz | apply SelB.there))) (by rfl)) ?_
    refine SL.val rfl rfl (fun w9 F9 S9 s => R.mv rfl) ?_
    refine SL.step rfl rfl (CS.callR rfl go35 (fun w9 F9 S9 s => (s.mp (show Sel _ (mp (κ := Int) 124 128 3 m (psL L)) _ from (by repeat (first | exact Sel.keep | exact Sel.here | apply Sel.there)))).elim fun S9 h9 => lgetS m L tx x S9 w9 h9 (by have := hw.len; omega) hg)) ?_
    rintro _ _ ⟨rfl, rfl⟩
    refine SL.val rfl rfl (fun w9 F9 S9 s => R.mv rfl) ?_
    refine SL.val rfl rfl (fun w9 F9 S9 s => R.ext rfl rfl) ?_
    refine SL.val rfl rfl (fun w9 F9 S9 s => R.ext rfl rfl) ?_
    refine SL.step rfl rfl (CS.alloc [.pointer none, .int .i64 0, .int .i64 0] rfl) ?_
    rintro _ _ ⟨b7, rfl, rfl⟩
    refine SL.step0 rfl (CS.stA (vs := lnC x) rfl rfl (by repeat (first | exact Sel.keep | exact Sel.here | apply Sel.there)) (by rfl) (by rfl) (lnC_one x)) ?_
    rintro _ _ rfl
    refine SL.val rfl rfl (fun w9 F9 S9 s => R.as rfl) ?_
    refine SL.nil ?_
    refine SN.seq ?_
    refine SG.seq ?_
    refine SG.seq ?_
    refine SG.region ?_
    refine SL.val rfl rfl (fun w9 F9 S9 s => R.mv rfl) ?_
    refine SL.val rfl rfl (fun w9 F9 S9 s => R.not rfl) ?_
    refine SL.val rfl rfl (fun w9 F9 S9 s => R.mv rfl) ?_
    refine SL.isF 22 rfl (rfl) ?_
    refine SL.val rfl rfl (fun w9 F9 S9 s => R.fld rfl) ?_
    refine SL.val rfl rfl (fun w9 F9 S9 s => R.fld rfl) ?_
    refine SL.val rfl rfl (fun w9 F9 S9 s => R.ldB (v := .int .i64 x.pt) rfl (s.cel (by repeat (first | exact SelB.blk | exact SelB.fz | apply SelB.there))) (by rfl)) ?_
    refine SL.val rfl rfl (fun w9 F9 S9 s => R.eqI rfl rfl) ?_
    first | refine SL.val rfl rfl (fun w9 F9 S9 s => R.pickT rfl rfl) ?_ | refine SL.val rfl rfl (fun w9 F9 S9 s => R.pickF rfl rfl) ?_
    refine SL.nil ?_
    refine SN.seq ?_
    refine SG.condP rfl (fun h1 => ?_) (fun h1 => ?_)
    · refine SG.seq ?_
      refine SG.region ?_
      refine SL.val rfl rfl (fun w9 F9 S9 s => R.as rfl) ?_
      refine SL.val rfl rfl (fun w9 F9 S9 s => R.as rfl) ?_
      refine SL.val rfl rfl (fun w9 F9 S9 s => R.as rfl) ?_
      refine SL.nil ?_
      refine SN.seq ?_
      exact SG.ret3 rfl rfl rfl rfl ((Imp.sels (by repeat (first | exact Sels.nil | apply Sels.cons | exact Sel.keep | exact Sel.here | apply Sel.there)))) (⟨by rw [par_z hg h1]; rfl, rfl⟩)
    · refine SG.skip ?_
      refine SN.seq ?_
      refine SG.seq ?_
      refine SG.draw [] [0, 1, 2, 3, 4, 5, 6, 7, 8] (by decide +kernel) rfl ?_
      refine SW.pure rfl rfl rfl rfl (fun w9 => R.fld rfl) ?_
      refine SW.pure rfl rfl rfl rfl (fun w9 => R.fld rfl) ?_
      refine SW.read rfl rfl rfl rfl (fun w9 F9 S9 s => R.ldB (v := .int .i64 x.pt) rfl (s.cel (by repeat (first | exact SelB.blk | exact SelB.fz | apply SelB.there))) (by rfl)) ?_
      refine SW.pure rfl rfl rfl rfl (fun w9 => R.fld rfl) ?_
      refine SW.pure rfl rfl rfl rfl (fun w9 => R.fld rfl) ?_
      refine SW.read rfl rfl rfl rfl (fun w9 F9 S9 s => R.ldB (v := .int .i64 x.pn) rfl (s.cel (by repeat (first | exact SelB.blk | exact SelB.fz | apply SelB.there))) (by rfl)) ?_
      refine SW.pure rfl rfl rfl rfl (fun w9 => R.as rfl) ?_
      refine SW.pure rfl rfl rfl rfl (fun w9 => R.as rfl) ?_
      refine SW.pure rfl rfl rfl rfl (fun w9 => R.as rfl) ?_
      refine SW.nil ?_
      refine SN.seq ?_
      exact SG.ret3 rfl rfl rfl rfl ((Imp.sels (by repeat (first | exact Sels.nil | apply Sels.cons | exact Sel.keep | exact Sel.here | apply Sel.there)))) (⟨by rw [par_so hg h1]; rfl, rfl⟩)

theorem wparE (p m : Nat) (L : Lns) (tt nn : Int) (kk : Nat) (tx : Int) (hw : Wf L kk) (hk : kk ≤ 9000) (r : Option (Int × Int)) (hr : parV L tx = r) : SpecS Try.prog 22 [.pointer (some ⟨p, 0, none⟩), .int .i64 tx] [blk p [.pointer (some ⟨m, 0, none⟩), .int .i64 tt, .int .i64 nn] 85, mp (κ := Int) 124 128 3 m (psL L), lnA L, dkS L] (fun v H' => v = parC r ∧ H' = [blk p [.pointer (some ⟨m, 0, none⟩), .int .i64 tt, .int .i64 nn] 85, mp (κ := Int) 124 128 3 m (psL L), lnA L, dkS L]) := by
  subst hr; exact wpar_ok p m L tt nn kk tx hw hk

end Go.Proofs.Ythdaelmjiaegfaa
/-
  The walks of package model.
-/
set_option linter.unusedVariables false
set_option linter.unusedSimpArgs false
set_option maxRecDepth 4000
namespace Go.Proofs.Ythdaelmjiaegfaa
open Go Brv Brv.Image Brv.Model
theorem wat_ok (p m : Nat) (L : Lns) (tt nn : Int) (kk : Nat) (tx nx : Int) (hw : Wf L kk) (hk : kk ≤ 9000) : SpecS Try.prog 14 [.pointer (some ⟨p, 0, none⟩), .int .i64 tx, .int .i64 nx] [blk p [.pointer (some ⟨m, 0, none⟩), .int .i64 tt, .int .i64 nn] 85, mp (κ := Int) 124 128 3 m (psL L), lnA L, dkS L] (fun v H' => ∃ r, AtR (wasV L) (parV L) nx tx r ∧ v = .tuple #[dkO r, .bool r.isSome] ∧ H' = [blk p [.pointer (some ⟨m, 0, none⟩), .int .i64 tt, .int .i64 nn] 85, mp (κ := Int) 124 128 3 m (psL L), lnA L, dkS L]) := by
  refine SpecS.enter Try.func14 rfl 38 rfl (Nat.le_of_ble_eq_true rfl) (fun o => ?_)
  obtain ⟨rk, hrk⟩ := hw.rk
  refine SG.seq ?_
  refine SG.region ?_
  refine SL.val rfl rfl (fun w9 F9 S9 s => R.as rfl) ?_
  refine SL.val rfl rfl (fun w9 F9 S9 s => R.as rfl) ?_
  refine SL.nil ?_
  refine SN.seq ?_
  refine SG.block ?_
  refine SG.loop (X := Int) (fun y => [(0, .pointer (some ⟨p, 0, none⟩)), (1, .int .i64 y), (2, .int .i64 nx)]) (fun y => [blk p [.pointer (some ⟨m, 0, none⟩), .int .i64 tt, .int .i64 nn] 85, mp (κ := Int) 124 128 3 m (psL L), lnA L, dkS L]) (fun y => ∀ r, AtR (wasV L) (parV L) nx y r → AtR (wasV L) (parV L) nx tx r) (fun y => rk y) (tx) (Sub.cons rfl (Sub.cons rfl (Sub.cons rfl (Sub.nil _)))) ((Imp.sels (by repeat (first | exact Sels.nil | apply Sels.cons | exact Sel.keep | exact Sel.here | apply Sel.there)))) (fun r h => h) ?_
  intro y hy
  show SG _ _ _ _ _ [(0, .pointer (some ⟨p, 0, none⟩)), (1, .int .i64 y), (2, .int .i64 nx)] [blk p [.pointer (some ⟨m, 0, none⟩), .int .i64 tt, .int .i64 nn] 85, mp (κ := Int) 124 128 3 m (psL L), lnA L, dkS L] _
  refine SG.block ?_
  refine SG.seq ?_
  refine SG.seq ?_
  rcases hg : wasV L y nx with _ | d
  · refine SG.region ?_
    refine SL.val rfl rfl (fun w9 F9 S9 s => R.mv rfl) ?_
    refine SL.val rfl rfl (fun w9 F9 S9 s => R.mv rfl) ?_
    refine SL.val rfl rfl (fun w9 F9 S9 s => R.mv rfl) ?_
    refine SL.val rfl rfl (fun w9 F9 S9 s => R.build rfl rfl) ?_
    refine SL.step rfl rfl (CS.call rfl go34 (wwasE p m L tt nn kk y nx hw hk none hg) (by repeat (first | exact Sels.nil | apply Sels.cons | exact Sel.keep | exact Sel.here | apply Sel.there))) ?_
    rintro _ _ ⟨_, ⟨rfl, rfl⟩, rfl⟩
    refine SL.n4 ?_
    refine SL.val rfl rfl (fun w9 F9 S9 s => R.mv rfl) ?_
    refine SL.val rfl rfl (fun w9 F9 S9 s => R.ext rfl rfl) ?_
    refine SL.val rfl rfl (fun w9 F9 S9 s => R.ext rfl rfl) ?_
    refine SL.val rfl rfl (fun w9 F9 S9 s => R.as rfl) ?_
    refine SL.val rfl rfl (fun w9 F9 S9 s => R.as rfl) ?_
    refine SL.nil ?_
    refine SN.seq ?_
    refine SG.seq ?_
    refine SG.region ?_
    refine SL.val rfl rfl (fun w9 F9 S9 s => R.mv rfl) ?_
    refine SL.nil ?_
    refine SN.seq ?_
    refine SG.condF rfl ?_
    refine SG.skip ?_
    refine SN.seq ?_
    refine SG.seq ?_
    rcases hp : parV L y with _ | q
    · refine SG.region ?_
      refine SL.val rfl rfl (fun w9 F9 S9 s => R.mv rfl) ?_
      refine SL.val rfl rfl (fun w9 F9 S9 s => R.mv rfl) ?_
      refine SL.step rfl rfl (CS.call rfl go22 (wparE p m L tt nn kk y hw hk none hp) (by repeat (first | exact Sels.nil | apply Sels.cons | exact Sel.keep | exact Sel.here | apply Sel.there))) ?_
      rintro _ _ ⟨_, ⟨rfl, rfl⟩, rfl⟩
      refine SL.n4 ?_
      refine SL.val rfl rfl (fun w9 F9 S9 s => R.mv rfl) ?_
      refine SL.val rfl rfl (fun w9 F9 S9 s => R.ext rfl rfl) ?_
      refine SL.val rfl rfl (fun w9 F9 S9 s => R.ext rfl rfl) ?_
      refine SL.val rfl rfl (fun w9 F9 S9 s => R.ext rfl rfl) ?_
      refine SL.val rfl rfl (fun w9 F9 S9 s => R.as rfl) ?_
      refine SL.val rfl rfl (fun w9 F9 S9 s => R.as rfl) ?_
      refine SL.val rfl rfl (fun w9 F9 S9 s => R.as rfl) ?_
      refine SL.nil ?_
      refine SN.seq ?_
      refine SG.seq ?_
      refine SG.seq ?_
      refine SG.region ?_
      refine SL.val rfl rfl (fun w9 F9 S9 s => R.mv rfl) ?_
      refine SL.val rfl rfl (fun w9 F9 S9 s => R.not rfl) ?_
      refine SL.val rfl rfl (fun w9 F9 S9 s => R.mv rfl) ?_
      refine SL.isT 32 rfl (rfl) ?_
      refine SL.pass rfl rfl ?_
      refine SL.pass rfl rfl ?_
      refine SL.pass rfl rfl ?_
      first | refine SL.val rfl rfl (fun w9 F9 S9 s => R.pickT rfl rfl) ?_ | refine SL.val rfl rfl (fun w9 F9 S9 s => R.pickF rfl rfl) ?_
      refine SL.nil ?_
      refine SN.seq ?_
      refine SG.condT rfl ?_
      refine SG.seq ?_
      refine SG.region ?_
      refine SL.val rfl rfl (fun w9 F9 S9 s => R.as rfl) ?_
      refine SL.val rfl rfl (fun w9 F9 S9 s => R.as rfl) ?_
      refine SL.nil ?_
      refine SN.seq ?_
      exact SG.ret2 rfl rfl rfl ((Imp.sels (by repeat (first | exact Sels.nil | apply Sels.cons | exact Sel.keep | exact Sel.here | apply Sel.there)))) (⟨_, hy _ (.root hg hp), rfl, rfl⟩)
    · refine SG.region ?_
      refine SL.val rfl rfl (fun w9 F9 S9 s => R.mv rfl) ?_
      refine SL.val rfl rfl (fun w9 F9 S9 s => R.mv rfl) ?_
      refine SL.step rfl rfl (CS.call rfl go22 (wparE p m L tt nn kk y hw hk (some q) hp) (by repeat (first | exact Sels.nil | apply Sels.cons | exact Sel.keep | exact Sel.here | apply Sel.there))) ?_
      rintro _ _ ⟨_, ⟨rfl, rfl⟩, rfl⟩
      refine SL.n4 ?_
      refine SL.val rfl rfl (fun w9 F9 S9 s => R.mv rfl) ?_
      refine SL.val rfl rfl (fun w9 F9 S9 s => R.ext rfl rfl) ?_
      refine SL.val rfl rfl (fun w9 F9 S9 s => R.ext rfl rfl) ?_
      refine SL.val rfl rfl (fun w9 F9 S9 s => R.ext rfl rfl) ?_
      refine SL.val rfl rfl (fun w9 F9 S9 s => R.as rfl) ?_
      refine SL.val rfl rfl (fun w9 F9 S9 s => R.as rfl) ?_
      refine SL.val rfl rfl (fun w9 F9 S9 s => R.as rfl) ?_
      refine SL.nil ?_
      refine SN.seq ?_
      refine SG.seq ?_
      refine SG.seq ?_
      refine SG.region ?_
      refine SL.val rfl rfl (fun w9 F9 S9 s => R.mv rfl) ?_
      refine SL.val rfl rfl (fun w9 F9 S9 s => R.not rfl) ?_
      refine SL.val rfl rfl (fun w9 F9 S9 s => R.mv rfl) ?_
      refine SL.isF 32 rfl (rfl) ?_
      refine SL.val rfl rfl (fun w9 F9 S9 s => R.mv rfl) ?_
      refine SL.val rfl rfl (fun w9 F9 S9 s => R.mv rfl) ?_
      refine SL.val rfl rfl (fun w9 F9 S9 s => R.gtr rfl rfl) ?_
      first | refine SL.val rfl rfl (fun w9 F9 S9 s => R.pickT rfl rfl) ?_ | refine SL.val rfl rfl (fun w9 F9 S9 s => R.pickF rfl rfl) ?_
      refine SL.nil ?_
      refine SN.seq ?_
      refine SG.condP rfl (fun h1 => ?_) (fun h1 => ?_)
      · refine SG.seq ?_
        refine SG.region ?_
        refine SL.val rfl rfl (fun w9 F9 S9 s => R.as rfl) ?_
        refine SL.val rfl rfl (fun w9 F9 S9 s => R.as rfl) ?_
        refine SL.nil ?_
        refine SN.seq ?_
        exact SG.ret2 rfl rfl rfl ((Imp.sels (by repeat (first | exact Sels.nil | apply Sels.cons | exact Sel.keep | exact Sel.here | apply Sel.there)))) (⟨_, hy _ (.late hg hp h1), rfl, rfl⟩)
      · refine SG.skip ?_
        refine SN.seq ?_
        refine SG.region ?_
        refine SL.val rfl rfl (fun w9 F9 S9 s => R.mv rfl) ?_
        refine SL.val rfl rfl (fun w9 F9 S9 s => R.as rfl) ?_
        refine SL.nil ?_
        refine SN.block ?_
        exact SN.again (q.1) (by have := (par_rk hrk (p := q.1) (a := q.2) hp).1; exact this) (Sub.cons rfl (Sub.cons rfl (Sub.cons rfl (Sub.nil _)))) ((Imp.sels (by repeat (first | exact Sels.nil | apply Sels.cons | exact Sel.keep | exact Sel.here | apply Sel.there)))) (fun r h => hy r (.up hg hp h1 h))
  · refine SG.region ?_
    refine SL.val rfl rfl (fun w9 F9 S9 s => R.mv rfl) ?_
    refine SL.val rfl rfl (fun w9 F9 S9 s => R.mv rfl) ?_
    refine SL.val rfl rfl (fun w9 F9 S9 s => R.mv rfl) ?_
    refine SL.val rfl rfl (fun w9 F9 S9 s => R.build rfl rfl) ?_
    refine SL.step rfl rfl (CS.call rfl go34 (wwasE p m L tt nn kk y nx hw hk (some d) hg) (by repeat (first | exact Sels.nil | apply Sels.cons | exact Sel.keep | exact Sel.here | apply Sel.there))) ?_
    rintro _ _ ⟨_, ⟨rfl, rfl⟩, rfl⟩
    refine SL.n4 ?_
    refine SL.val rfl rfl (fun w9 F9 S9 s => R.mv rfl) ?_
    refine SL.val rfl rfl (fun w9 F9 S9 s => R.ext rfl rfl) ?_
    refine SL.val rfl rfl (fun w9 F9 S9 s => R.ext rfl rfl) ?_
    refine SL.val rfl rfl (fun w9 F9 S9 s => R.as rfl) ?_
    refine SL.val rfl rfl (fun w9 F9 S9 s => R.as rfl) ?_
    refine SL.nil ?_
    refine SN.seq ?_
    refine SG.seq ?_
    refine SG.region ?_
    refine SL.val rfl rfl (fun w9 F9 S9 s => R.mv rfl) ?_
    refine SL.nil ?_
    refine SN.seq ?_
    refine SG.condT rfl ?_
    refine SG.seq ?_
    refine SG.region ?_
    refine SL.val rfl rfl (fun w9 F9 S9 s => R.mv rfl) ?_
    refine SL.val rfl rfl (fun w9 F9 S9 s => R.as rfl) ?_
    refine SL.val rfl rfl (fun w9 F9 S9 s => R.as rfl) ?_
    refine SL.nil ?_
    refine SN.seq ?_
    exact SG.ret2 rfl rfl rfl ((Imp.sels (by repeat (first | exact Sels.nil | apply Sels.cons | exact Sel.keep | exact Sel.here | apply Sel.there)))) (⟨_, hy _ (.hit hg), rfl, rfl⟩)

theorem watE (p m : Nat) (L : Lns) (tt nn : Int) (kk : Nat) (tx nx : Int) (hw : Wf L kk) (hk : kk ≤ 9000) (r : Option Dk) (hr : AtR (wasV L) (parV L) nx tx r) : SpecS Try.prog 14 [.pointer (some ⟨p, 0, none⟩), .int .i64 tx, .int .i64 nx] [blk p [.pointer (some ⟨m, 0, none⟩), .int .i64 tt, .int .i64 nn] 85, mp (κ := Int) 124 128 3 m (psL L), lnA L, dkS L] (fun v H' => v = .tuple #[dkO r, .bool r.isSome] ∧ H' = [blk p [.pointer (some ⟨m, 0, none⟩), .int .i64 tt, .int .i64 nn] 85, mp (κ := Int) 124 128 3 m (psL L), lnA L, dkS L]) :=
  (wat_ok p m L tt nn kk tx nx hw hk).mono fun v H' ⟨s, h1, h2, h3⟩ => by rw [hr.one h1]; exact ⟨h2, h3⟩

theorem post_at {q : Int × Int} {a b : Int} {K : List Asn} {A : Int → Int → List Asn} (h : q = (a, b)) (hK : K = A a b) : K = A q.1 q.2 := by rw [h]; exact hK
/-- Jump: the error, and what is now. -/
def jmpE (L : Lns) (tx nx : Int) : Int := if (wasV L tx nx).isSome then 0 else 50
def jmpN (L : Lns) (tt nn tx nx : Int) : Int × Int := if (wasV L tx nx).isSome then (tx, nx) else (tt, nn)
theorem jmp_no {L : Lns} {tt nn tx nx : Int} (h : wasV L tx nx = none) : jmpN L tt nn tx nx = (tt, nn) := by unfold jmpN; rw [h]; rfl
theorem jmp_so {L : Lns} {tt nn tx nx : Int} {d : Dk} (h : wasV L tx nx = some d) : jmpN L tt nn tx nx = (tx, nx) := by unfold jmpN; rw [h]; rfl

theorem wjmp_ok (p m : Nat) (L : Lns) (tt nn : Int) (kk : Nat) (tx nx : Int) (hw : Wf L kk) (hk : kk ≤ 9000) : SpecS Try.prog 10 [.pointer (some ⟨p, 0, none⟩), .int .i64 tx, .int .i64 nx] [blk p [.pointer (some ⟨m, 0, none⟩), .int .i64 tt, .int .i64 nn] 85, mp (κ := Int) 124 128 3 m (psL L), lnA L, dkS L] (fun v H' => v = .int .i64 (jmpE L tx nx) ∧ H' = [blk p [.pointer (some ⟨m, 0, none⟩), .int .i64 (jmpN L tt nn tx nx).1, .int .i64 (jmpN L tt nn tx nx).2] 85, mp (κ := Int) 124 128 3 m (psL L), lnA L, dkS L]) := by
  refine SpecS.enter Try.func10 rfl 27 rfl (Nat.le_of_ble_eq_true rfl) (fun o => ?_)
  refine SG.seq ?_
  refine SG.region ?_
  refine SL.val rfl rfl (fun w9 F9 S9 s => R.as rfl) ?_
  refine SL.nil ?_
  refine SN.seq ?_
  refine SG.seq ?_
  refine SG.seq ?_
  refine SG.region ?_
  refine SL.val rfl rfl (fun w9 F9 S9 s => R.mv rfl) ?_
  refine SL.val rfl rfl (fun w9 F9 S9 s => R.eqNilP rfl rfl) ?_
  refine SL.nil ?_
  refine SN.seq ?_
  refine SG.condF rfl ?_
  refine SG.skip ?_
  refine SN.seq ?_
  refine SG.seq ?_
  refine SG.seq ?_
  rcases hg : wasV L tx nx with _ | d
  · refine SG.region ?_
    refine SL.val rfl rfl (fun w9 F9 S9 s => R.mv rfl) ?_
    refine SL.val rfl rfl (fun w9 F9 S9 s => R.mv rfl) ?_
    refine SL.val rfl rfl (fun w9 F9 S9 s => R.mv rfl) ?_
    refine SL.val rfl rfl (fun w9 F9 S9 s => R.build rfl rfl) ?_
    refine SL.step rfl rfl (CS.call rfl go34 (wwasE p m L tt nn kk tx nx hw hk none hg) (by repeat (first | exact Sels.nil | apply Sels.cons | exact Sel.keep | exact Sel.here | apply Sel.there))) ?_
    rintro _ _ ⟨_, ⟨rfl, rfl⟩, rfl⟩
    refine SL.n4 ?_
    refine SL.val rfl rfl (fun w9 F9 S9 s => R.mv rfl) ?_
    refine SL.val rfl rfl (fun w9 F9 S9 s => R.ext rfl rfl) ?_
    refine SL.val rfl rfl (fun w9 F9 S9 s => R.ext rfl rfl) ?_
    refine SL.val rfl rfl (fun w9 F9 S9 s => R.as rfl) ?_
    refine SL.val rfl rfl (fun w9 F9 S9 s => R.as rfl) ?_
    refine SL.nil ?_
    refine SN.seq ?_
    refine SG.seq ?_
    refine SG.region ?_
    refine SL.val rfl rfl (fun w9 F9 S9 s => R.mv rfl) ?_
    refine SL.val rfl rfl (fun w9 F9 S9 s => R.not rfl) ?_
    refine SL.nil ?_
    refine SN.seq ?_
    refine SG.condT rfl ?_
    refine SG.seq ?_
    refine SG.region ?_
    refine SL.val rfl rfl (fun w9 F9 S9 s => R.as rfl) ?_
    refine SL.nil ?_
    refine SN.seq ?_
    exact SG.ret1 rfl rfl ((Imp.sels (by repeat (first | exact Sels.nil | apply Sels.cons | exact Sel.keep | exact Sel.here | apply Sel.there)))) (⟨congrArg (Value.int .i64) (show (50 : Int) = jmpE L tx nx by unfold jmpE; rw [hg]; rfl), post_at (A := fun a b => [blk p [.pointer (some ⟨m, 0, none⟩), .int .i64 a, .int .i64 b] 85, mp (κ := Int) 124 128 3 m (psL L), lnA L, dkS L]) (jmp_no hg) rfl⟩)
  · refine SG.region ?_
    refine SL.val rfl rfl (fun w9 F9 S9 s => R.mv rfl) ?_
    refine SL.val rfl rfl (fun w9 F9 S9 s => R.mv rfl) ?_
    refine SL.val rfl rfl (fun w9 F9 S9 s => R.mv rfl) ?_
    refine SL.val rfl rfl (fun w9 F9 S9 s => R.build rfl rfl) ?_
    refine SL.step rfl rfl (CS.call rfl go34 (wwasE p m L tt nn kk tx nx hw hk (some d) hg) (by repeat (first | exact Sels.nil | apply Sels.cons | exact Sel.keep | exact Sel.here | apply Sel.there))) ?_
    rintro _ _ ⟨_, ⟨rfl, rfl⟩, rfl⟩
    refine SL.n4 ?_
    refine SL.val rfl rfl (fun w9 F9 S9 s => R.mv rfl) ?_
    refine SL.val rfl rfl (fun w9 F9 S9 s => R.ext rfl rfl) ?_
    refine SL.val rfl rfl (fun w9 F9 S9 s => R.ext rfl rfl) ?_
    refine SL.val rfl rfl (fun w9 F9 S9 s => R.as rfl) ?_
    refine SL.val rfl rfl (fun w9 F9 S9 s => R.as rfl) ?_
    refine SL.nil ?_
    refine SN.seq ?_
    refine SG.seq ?_
    refine SG.region ?_
    refine SL.val rfl rfl (fun w9 F9 S9 s => R.mv rfl) ?_
    refine SL.val rfl rfl (fun w9 F9 S9 s => R.not rfl) ?_
    refine SL.nil ?_
    refine SN.seq ?_
    refine SG.condF rfl ?_
    refine SG.skip ?_
    refine SN.seq ?_
    refine SG.seq ?_
    refine SG.region ?_
    refine SL.val rfl rfl (fun w9 F9 S9 s => R.mv rfl) ?_
    refine SL.val rfl rfl (fun w9 F9 S9 s => R.mv rfl) ?_
    refine SL.val rfl rfl (fun w9 F9 S9 s => R.mv rfl) ?_
    refine SL.val rfl rfl (fun w9 F9 S9 s => R.build rfl rfl) ?_
    refine SL.val rfl rfl (fun w9 F9 S9 s => R.nilChk rfl) ?_
    refine SL.val rfl rfl (fun w9 F9 S9 s => R.fld rfl) ?_
    refine SL.step0 rfl (CS.stN (k := 1) (vs := [.int .i64 tx, .int .i64 nx]) (cs' := [.pointer (some ⟨m, 0, none⟩), .int .i64 tx, .int .i64 nx]) rfl rfl (show Sel _ (blk p _ _) _ from (by repeat (first | exact Sel.keep | exact Sel.here | apply Sel.there))) rfl (by show 1 + 2 ≤ 3; decide) (by intro u hu; simp only [List.mem_cons, List.not_mem_nil, or_false] at hu; rcases hu with rfl | rfl <;> rfl) rfl) ?_
    rintro _ _ rfl
    refine SL.nil ?_
    refine SN.seq ?_
    refine SG.seq ?_
    refine SG.region ?_
    refine SL.val rfl rfl (fun w9 F9 S9 s => R.as rfl) ?_
    refine SL.nil ?_
    refine SN.seq ?_
    exact SG.ret1 rfl rfl ((Imp.sels (by repeat (first | exact Sels.nil | apply Sels.cons | exact Sel.keep | exact Sel.here | apply Sel.there)))) (⟨congrArg (Value.int .i64) (show (0 : Int) = jmpE L tx nx by unfold jmpE; rw [hg]; rfl), post_at (A := fun a b => [blk p [.pointer (some ⟨m, 0, none⟩), .int .i64 a, .int .i64 b] 85, mp (κ := Int) 124 128 3 m (psL L), lnA L, dkS L]) (jmp_so hg) rfl⟩)

end Go.Proofs.Ythdaelmjiaegfaa
/-
  A slice that is made to grow from nothing; what is known of bytes beside blocks that are turned.
-/
set_option linter.unusedVariables false
set_option linter.unusedSimpArgs false
namespace Brv
open Go
section
variable {P : Program} {n : Fm} {o : Org} {ρ : Env} {H H' : List Asn} {ty : TypeId} {pos : String} {af : Array Edge} {gd : Option (Nat × Bool)}
end
/-! ## Structs that are built of parts of many cells -/
def putN : List Value → Nat → List Value → List Value
  | cs, _, [] => cs
  | cs, off, x :: l => putN (cs.set off x) (off + 1) l
theorem putN_spec (off : Nat) : ∀ (l : List Value) (k : Nat) (cells : Array Value), ((l.zipIdx k).foldl (fun cs p => cs.setIfInBounds (off + p.2) p.1) cells).toList = putN cells.toList (off + k) l := by
  intro l
  induction l with
  | nil => intro k cells; rfl
  | cons x l ih =>
    intro k cells
    rw [List.zipIdx_cons, List.foldl_cons, ih (k + 1), putN]
    simp [Nat.add_assoc]
def fillN (pl : Nat → Option (Nat × Nat)) : List Value → List (Nat × Value) → Option (List Value)
  | cs, [] => some cs
  | cs, (i, v) :: rest => match pl i with
    | some (off, sz) => match Nat.beq v.cells.toList.length sz && Nat.ble (off + sz) cs.length with
      | true => fillN pl (putN cs off v.cells.toList) rest
      | false => none
    | none => none
theorem fillN_spec {pl : Nat → Option (Nat × Nat)} : ∀ {vs : List (Nat × Value)} {cs : Array Value} {l : List Value}, fillN pl cs.toList vs = some l → Instr.fill pl cs vs = some l.toArray
  | [], cs, l, h => by
    simp only [fillN, Option.some.injEq] at h
    subst h
    simp [Instr.fill]
  | (i, v) :: rest, cs, l, h => by
    simp only [fillN] at h
    split at h
    · rename_i off sz hp
      split at h
      · rename_i hb
        rw [Bool.and_eq_true] at hb
        have hsz := Nat.eq_of_beq_eq_true hb.1
        have hlt := Nat.le_of_ble_eq_true hb.2
        have e := putN_spec off v.cells.toList 0 cs
        rw [Nat.add_zero] at e
        have e2 : (v.cells.zipIdx.foldl (fun cs (p : Value × Nat) => cs.setIfInBounds (off + p.2) p.1) cs).toList = putN cs.toList off v.cells.toList := by
          rw [← e, ← Array.foldl_toList, Array.toList_zipIdx]
        rw [← e2] at h
        have ih := fillN_spec h
        simp only [Instr.fill, hp]
        rw [if_neg (by simp at hsz hlt ⊢; omega)]
        exact ih
      · cases h
    · cases h
section
variable {P : Program} {n : Fm} {ρ : Env} {w : World} {d : Nat} {ty : TypeId} {pos : String} {af : Array Edge} {gd : Option (Nat × Bool)}
theorem R.buildN {T : TypeId} {pl : Nat → Option (Nat × Nat)} {z : Value} [t : TyBuilt P T pl z] {parts : Array (Nat × Operand)} {vs : List (Nat × Value)} {l : List Value} (hp : evps ρ parts.toList = some vs) (hb : fillN pl z.cells.toList vs = some l) :
    Runs P n ρ w ⟨some d, .build T parts, ty, pos, af, gd⟩ (.agg l.toArray) w := R.build hp (fillN_spec hb)
end
end Brv
/-
  The walks of package model.
-/
set_option linter.unusedVariables false
set_option linter.unusedSimpArgs false
set_option maxRecDepth 4000
namespace Go.Proofs.Ythdaelmjiaegfaa
open Go Brv Brv.Image Brv.Model
/-- Writes among arguments. -/
def WsP (w : World) (a : Option Addr) (n : Nat) (ws : List WriteV) : Prop := Tab w a n 2 (ws.map WriteV.cells) ∧ ∀ z ∈ ws, Bs w z.B'a z.B'n z.B'
theorem disk_in {w : World} {d : Nat} {x : List UInt8} {S1 : List Nat} (h : ∀ M w', Ext M w w' → Apart S1 M → DiskAt w' d x) : ∃ g c cur ps, DiskL w d g c cur ps x ∧ ∀ y ∈ d :: g :: ps, y ∈ S1 := by
  obtain ⟨g, c, cur, ps, hD⟩ := h [] w (Ext.refl _ _) (Apart.nilR _)
  refine ⟨g, c, cur, ps, hD, fun y hy => Classical.byContradiction fun hn => ?_⟩
  have hlt := hD.lt y hy
  obtain ⟨g2, c2, cur2, ps2, hD2⟩ := h [y] (w.putObj y (.deferred none)) (Ext.putObj w _ _) (fun z hz hz2 => hn (by rw [← List.mem_singleton.1 hz2]; exact hz))
  have e : (w.putObj y (.deferred none)).heap[y]? = some (.deferred none) := World.putObj_heap_same hlt
  have eo : ∀ z, z ≠ y → (w.putObj y (.deferred none)).heap[z]? = w.heap[z]? := fun z hz => World.putObj_heap_other hz
  by_cases h1 : d = y
  · subst h1
    have : (w.putObj d (.deferred none)).heap[d]? = some (.cells _ 98 (0, 0)) := hD2.hd
    rw [e] at this; cases this
  have hd2 : (w.putObj y (.deferred none)).heap[d]? = some (.cells _ 98 (0, 0)) := hD2.hd
  rw [eo d h1, show w.heap[d]? = some (.cells _ 98 (0, 0)) from hD.hd] at hd2
  injection hd2 with hd2; injection hd2 with hd2
  have : g = g2 := (show g = g2 ∧ c = c2 by simpa using hd2).1
  subst this
  by_cases h2 : g = y
  · subst h2
    have : (w.putObj g (.deferred none)).heap[g]? = some (.cells _ 96 (0, 0)) := hD2.hg
    rw [e] at this; cases this
  have hg2 : (w.putObj y (.deferred none)).heap[g]? = some (.cells _ 96 (0, 0)) := hD2.hg
  rw [eo g h2, show w.heap[g]? = some (.cells _ 96 (0, 0)) from hD.hg] at hg2
  injection hg2 with hg2; injection hg2 with hg2
  subst hg2
  have hps : ps = ps2 := by
    have h9 := hD.ht.symm.trans hD2.ht
    have inj : ∀ a b : Nat, Brv.ptr a = Brv.ptr b → a = b := fun a b h => by injection h with h; injection h with h; injection h
    exact (List.map_inj_right inj).1 h9
  subst hps
  have hy2 : y ∈ ps := by
    rcases List.mem_cons.1 hy with rfl | hy
    · exact absurd rfl h1
    rcases List.mem_cons.1 hy with rfl | hy
    · exact absurd rfl h2
    · exact hy
  obtain ⟨k, hk, rfl⟩ := List.getElem_of_mem hy2
  have hb := hD2.hb.each k hk
  have : (w.putObj ps[k] (.deferred none)).heap[ps[k]]? = some (.cells _ 102 (0, 0)) := hb
  rw [e] at this; cases this
theorem inewS (n : Nat) (h1 : 1 ≤ n) (h2 : n ≤ 64) : SpecS Try.prog 30 [.int .i64 (n : Int)] [] (fun v H' => ∃ d, v = .tuple #[.pointer (some ⟨d, 0, none⟩), .int .i64 0] ∧ H' = [sh (fun w => DiskAt w d (List.replicate (64 * n) 0))]) :=
  (SpecS.ofFresh (φ := fun v A => ∃ d, v = .tuple #[.pointer (some ⟨d, 0, none⟩), .int .i64 0] ∧ A = sh (fun w => DiskAt w d (List.replicate (64 * n) 0))) fun w F S s => (inew_okF n w h1 h2).mono fun v w' ⟨d, e1, e2, e3⟩ => by
    obtain ⟨g, c, cur, ps, hD, hf⟩ := e3.f
    exact ⟨_, [], d :: g :: ps, ⟨d, e1, rfl⟩, e2, fun M w'' he hA => ⟨g, c, cur, ps, hD.ext he hA⟩, by simp, fun b hb => ⟨hf b hb, hD.lt b hb⟩⟩).mono fun v H' ⟨A, ⟨d, e1, e2⟩, e3⟩ => ⟨d, e1, by rw [e3, e2]⟩
theorem iwithS (d : Nat) (x : List UInt8) (la : Option Addr) (ln lc : Nat) (ws : List WriteV) (hln : ln ≤ 1000000) (h0 : (withF x (ws.map wv)).2 = 0) : SpecS Try.prog 15 [.pointer (some ⟨d, 0, none⟩), .slice la ln lc] [sh (fun w => DiskAt w d x), sh (fun w => WsP w la ln ws)]
    (fun v H' => ∃ d', v = .tuple #[.pointer (some ⟨d', 0, none⟩), .int .i64 0] ∧ H' = [sh (fun w => DiskAt w d' (withF x (ws.map wv)).1)]) := fun w F S s => by
  obtain ⟨F1, S1, F2, S2, ⟨_, _, a, b⟩, _, hD, F3, S3, _, _, _, _, hW, _⟩ := s.sep
  obtain ⟨g, c, cur, ps, hDL, hin⟩ := disk_in hD
  have hW := hW [] w (Ext.refl _ _) (Apart.nilR _)
  refine (iwith_okF d g c cur ps x la ln lc ws w hDL hW.1 hW.2 hln).mono ?_
  rintro v w' ⟨he, h1, _⟩
  obtain ⟨d', hv, g', c', cur', qs, hD', hq⟩ := h1 h0
  exact ⟨_, [], d' :: g' :: qs, ⟨d', hv, rfl⟩, st_one (A := sh (fun w => DiskAt w d' (withF x (ws.map wv)).1)) (fun M w'' he' hA => ⟨g', c', cur', qs, hD'.ext he' hA⟩) (by simp) hD'.lt, ⟨he.mono (by simp), by simp, fun y hy => (hq y hy).elim (fun h => .inl (a (hin y (by simp [h])))) (fun h => .inr (.inr h))⟩⟩
theorem iwithR (d : Nat) (x : List UInt8) (la : Option Addr) (ln lc : Nat) (ws : List WriteV) (hln : ln ≤ 1000000) (h0 : (withF x (ws.map wv)).2 ≠ 0) (w : World) (hD : DiskAt w d x) (hW : WsP w la ln ws) : Meets Try.prog 15 [.pointer (some ⟨d, 0, none⟩), .slice la ln lc] w
    (fun v w' => v = .tuple #[.pointer none, .int .i64 (withF x (ws.map wv)).2] ∧ Ext [] w w') :=
  (iwith_ok d x la ln lc ws w hD hW.1 hW.2 hln).mono fun v w' ⟨h1, _, h3⟩ => ⟨h3 h0, h1⟩
theorem dkS_put {L : Lns} {t : Int} {x : Ln} {w : World} (h : DkP L w) (hx : ∀ d ∈ x.ds, DiskAt w d.2.b d.2.l) : DkP (putT L t x) w := fun q hq => (mem_putT hq).elim (fun e => by rw [e]; exact hx) (h q)
theorem dkS_one {L : Lns} {t n : Int} {d : Dk} {w : World} (h : DkP L w) (hw : wasV L t n = some d) : DiskAt w d.b d.l := by
  obtain ⟨x, h1, h2⟩ := was_mem hw
  exact h _ h1 _ h2

theorem begun_ok (nx pt pn : Int) (d : Dk) : SpecS Try.prog 33 [.int .i64 nx, .pointer (some ⟨d.b, 0, none⟩), .agg #[.int .i64 pt, .int .i64 pn]] [] (fun v H' => ∃ m', v = .agg (lnC ⟨m', pt, pn, [(nx, d)]⟩).toArray ∧ H' = [mp (κ := Int) 135 132 1 m' (dsP [(nx, d)])]) := by
  refine SpecS.enter Try.func33 rfl 17 rfl (Nat.le_of_ble_eq_true rfl) (fun o => ?_)
  refine SG.seq ?_
  refine SG.region ?_
  refine SL.step rfl rfl (CS.boxA rfl) ?_
  rintro _ _ ⟨b5, rfl, rfl⟩
  refine SL.step rfl rfl (CS.alloc [.pointer none, .int .i64 0, .int .i64 0] rfl) ?_
  rintro _ _ ⟨b6, rfl, rfl⟩
  refine SL.nil ?_
  refine SN.seq ?_
  refine SG.seq ?_
  refine SG.drawT (.flo 1 (.alt 0 (.flo 2 (.alt 3 (.alt 4 .nil .stop) .stop)) (.alt 3 (.alt 0 (.flo 2 (.alt 4 .nil .stop)) .stop) .stop))) (by decide +kernel) rfl ?_
  refine TW.read rfl rfl rfl rfl (fun w9 F9 S9 s => R.ldBN rfl (s.cel (by repeat (first | exact SelB.blk | exact SelB.fz | apply SelB.there))) (by rfl)) ?_
  refine TW.or ?_ ?_
  · refine TW.step rfl rfl rfl rfl (CS.call rfl go50 (SpecS.ofNew (fun w => onewImageDisk_ok w)) (by repeat (first | exact Sels.nil | apply Sels.cons | exact Sel.keep | exact Sel.here | apply Sel.there))) ?_
    rintro _ _ ⟨_, ⟨m2, rfl, rfl⟩, rfl⟩
    refine ⟨⟨.inr (fun w9 F9 S9 s => R.ldBN rfl (s.cel (by repeat (first | exact SelB.blk | exact SelB.fz | apply SelB.there))) (by rfl)), trivial⟩, ?_⟩
    refine TW.n1 ?_
    refine TW.pure rfl rfl rfl rfl (fun w9 => R.buildN (l := [.pointer (some ⟨m2, 0, none⟩), .int .i64 pt, .int .i64 pn]) rfl rfl) ?_
    refine TW.step rfl rfl rfl rfl (CS.alloc [.pointer none, .int .i64 0, .int .i64 0] rfl) ?_
    rintro _ _ ⟨b7, rfl, rfl⟩
    refine ⟨⟨.inr (fun w9 F9 S9 s => R.ldBN rfl (s.cel (by repeat (first | exact SelB.blk | exact SelB.fz | apply SelB.there))) (by rfl)), trivial⟩, ?_⟩
    refine TW.step0 rfl rfl rfl (CS.stA (vs := lnC ⟨m2, pt, pn, []⟩) rfl rfl (by repeat (first | exact Sel.keep | exact Sel.here | apply Sel.there)) (by rfl) (by rfl) (lnC_one ⟨m2, pt, pn, []⟩)) ?_
    rintro _ _ rfl
    refine ⟨⟨.inl (by decide +kernel), trivial⟩, ?_⟩
    refine TW.nil ?_
    refine SN.seq ?_
    refine SG.seq ?_
    refine SG.region ?_
    refine SL.val rfl rfl (fun w9 F9 S9 s => R.fld rfl) ?_
    refine SL.val rfl rfl (fun w9 F9 S9 s => R.ldB (v := .pointer (some ⟨m2, 0, none⟩)) rfl (s.cel (by repeat (first | exact SelB.blk | exact SelB.fz | apply SelB.there))) (by rfl)) ?_
    refine SL.val rfl rfl (fun w9 F9 S9 s => R.mv rfl) ?_
    refine SL.val rfl rfl (fun w9 F9 S9 s => R.mv rfl) ?_
    refine SL.step rfl rfl (CS.call rfl go36 (dputX m2 [] nx d (by decide)) (by repeat (first | exact Sels.nil | apply Sels.cons | exact Sel.keep | exact Sel.here | apply Sel.there))) ?_
    rintro _ _ ⟨_, ⟨rfl, rfl⟩, rfl⟩
    refine SL.n1 ?_
    refine SL.nil ?_
    refine SN.seq ?_
    refine SG.seq ?_
    refine SG.region ?_
    refine SL.val rfl rfl (fun w9 F9 S9 s => R.ldBN (cs := (lnC ⟨m2, pt, pn, [(nx, d)]⟩).toArray) rfl (s.cel (by repeat (first | exact SelB.blk | exact SelB.fz | apply SelB.there))) (by rfl)) ?_
    refine SL.step0 rfl (CS.stA (vs := lnC ⟨m2, pt, pn, [(nx, d)]⟩) rfl rfl (by repeat (first | exact Sel.keep | exact Sel.here | apply Sel.there)) (by rfl) (by rfl) (lnC_one ⟨m2, pt, pn, [(nx, d)]⟩)) ?_
    rintro _ _ rfl
    refine SL.nil ?_
    refine SN.seq ?_
    exact SG.retC rfl rfl (by repeat (first | exact Sel.keep | exact Sel.here | apply Sel.there)) (by rfl) ((Imp.sels (by repeat (first | exact Sels.nil | apply Sels.cons | exact Sel.keep | exact Sel.here | apply Sel.there)))) (⟨m2, rfl, rfl⟩)
  refine TW.step rfl rfl rfl rfl (CS.alloc [.pointer none, .int .i64 0, .int .i64 0] rfl) ?_
  rintro _ _ ⟨b7, rfl, rfl⟩
  refine ⟨⟨.inr (fun w9 F9 S9 s => R.ldBN rfl (s.cel (by repeat (first | exact SelB.blk | exact SelB.fz | apply SelB.there))) (by rfl)), trivial⟩, ?_⟩
  refine TW.step rfl rfl rfl rfl (CS.call rfl go50 (SpecS.ofNew (fun w => onewImageDisk_ok w)) (by repeat (first | exact Sels.nil | apply Sels.cons | exact Sel.keep | exact Sel.here | apply Sel.there))) ?_
  rintro _ _ ⟨_, ⟨m2, rfl, rfl⟩, rfl⟩
  refine ⟨⟨.inr (fun w9 F9 S9 s => R.ldBN rfl (s.cel (by repeat (first | exact SelB.blk | exact SelB.fz | apply SelB.there))) (by rfl)), trivial⟩, ?_⟩
  refine TW.n1 ?_
  refine TW.pure rfl rfl rfl rfl (fun w9 => R.buildN (l := [.pointer (some ⟨m2, 0, none⟩), .int .i64 pt, .int .i64 pn]) rfl rfl) ?_
  refine TW.step0 rfl rfl rfl (CS.stA (vs := lnC ⟨m2, pt, pn, []⟩) rfl rfl (by repeat (first | exact Sel.keep | exact Sel.here | apply Sel.there)) (by rfl) (by rfl) (lnC_one ⟨m2, pt, pn, []⟩)) ?_
  rintro _ _ rfl
  refine ⟨⟨.inl (by decide +kernel), trivial⟩, ?_⟩
  refine TW.nil ?_
  refine SN.seq ?_
  refine SG.seq ?_
  refine SG.region ?_
  refine SL.val rfl rfl (fun w9 F9 S9 s => R.fld rfl) ?_
  refine SL.val rfl rfl (fun w9 F9 S9 s => R.ldB (v := .pointer (some ⟨m2, 0, none⟩)) rfl (s.cel (by repeat (first | exact SelB.blk | exact SelB.fz | apply SelB.there))) (by rfl)) ?_
  refine SL.val rfl rfl (fun w9 F9 S9 s => R.mv rfl) ?_
  refine SL.val rfl rfl (fun w9 F9 S9 s => R.mv rfl) ?_
  refine SL.step rfl rfl (CS.call rfl go36 (dputX m2 [] nx d (by decide)) (by repeat (first | exact Sels.nil | apply Sels.cons | exact Sel.keep | exact Sel.here | apply Sel.there))) ?_
  rintro _ _ ⟨_, ⟨rfl, rfl⟩, rfl⟩
  refine SL.n1 ?_
  refine SL.nil ?_
  refine SN.seq ?_
  refine SG.seq ?_
  refine SG.region ?_
  refine SL.val rfl rfl (fun w9 F9 S9 s => R.ldBN (cs := (lnC ⟨m2, pt, pn, [(nx, d)]⟩).toArray) rfl (s.cel (by repeat (first | exact SelB.blk | exact SelB.fz | apply SelB.there))) (by rfl)) ?_
  refine SL.step0 rfl (CS.stA (vs := lnC ⟨m2, pt, pn, [(nx, d)]⟩) rfl rfl (by repeat (first | exact Sel.keep | exact Sel.here | apply Sel.there)) (by rfl) (by rfl) (lnC_one ⟨m2, pt, pn, [(nx, d)]⟩)) ?_
  rintro _ _ rfl
  refine SL.nil ?_
  refine SN.seq ?_
  exact SG.retC rfl rfl (by repeat (first | exact Sel.keep | exact Sel.here | apply Sel.there)) (by rfl) ((Imp.sels (by repeat (first | exact Sels.nil | apply Sels.cons | exact Sel.keep | exact Sel.here | apply Sel.there)))) (⟨m2, rfl, rfl⟩)

end Go.Proofs.Ythdaelmjiaegfaa
/-
  The walks of package model.
-/
set_option linter.unusedVariables false
set_option linter.unusedSimpArgs false
set_option maxRecDepth 4000
namespace Go.Proofs.Ythdaelmjiaegfaa
open Go Brv Brv.Image Brv.Model
def newW (m1 d n : Nat) : Lns := [(1, ⟨m1, 0, 0, [(0, ⟨d, List.replicate (64 * n) 0⟩)]⟩)]
theorem newW_wf (m1 d n : Nat) : Wf (newW m1 d n) 0 := by
  refine ⟨List.pairwise_singleton _ _, by show 1 ≤ 1; omega, fun p hp => ?_, fun _ => 0, fun t x hx => ?_⟩
  · rw [List.mem_singleton.1 hp]
    refine ⟨by show (1 : Int) ≤ 1; omega, List.pairwise_singleton _ _, by show 1 ≤ 1; omega, fun q hq => ?_⟩
    rw [List.mem_singleton.1 hq]
    exact ⟨by show (0 : Int) ≤ 0; omega, by show (0 : Int) ≤ ((0 : Nat) : Int); omega⟩
  · rw [show newW m1 d n = [(1, _)] from rfl, getT_single] at hx
    split at hx
    · cases hx
      exact ⟨by show 0 < 1; omega, fun h => absurd rfl h⟩
    · cases hx
theorem newW_was (m1 d n : Nat) : wasV (newW m1 d n) 1 0 = some ⟨d, List.replicate (64 * n) 0⟩ := by
  unfold wasV
  rw [show newW m1 d n = [(1, _)] from rfl, getT_single, if_pos rfl]
  show getT [((0 : Int), _)] 0 = _
  rw [getT_single, if_pos rfl]
/-- What a commit comes to. -/
def ComR (L : Lns) (tt nn : Int) (d : Dk) (ws : List (Int × List UInt8)) (L' : Lns) (n' a e : Int) : Prop :=
  ((withF d.l ws).2 ≠ 0 ∧ e = (withF d.l ws).2 ∧ a = 0 ∧ L' = L ∧ n' = nn) ∨
  ((withF d.l ws).2 = 0 ∧ (∃ q, wasV L tt (nn + 1) = some q) ∧ e = 52 ∧ a = 0 ∧ L' = L ∧ n' = nn) ∨
  ((withF d.l ws).2 = 0 ∧ wasV L tt (nn + 1) = none ∧ e = 0 ∧ a = nn + 1 ∧ n' = nn + 1 ∧ ∃ x b, getT L tt = some x ∧ L' = addD L tt x (nn + 1) ⟨b, (withF d.l ws).1⟩)
/-- What leaving a timeline comes to. -/
def BraR (L : Lns) (tt nn tx nx ux : Int) (L' : Lns) (t' n' e : Int) : Prop :=
  (AtR (wasV L) (parV L) nx tx none ∧ e = 50 ∧ L' = L ∧ t' = tt ∧ n' = nn) ∨
  (∃ d, AtR (wasV L) (parV L) nx tx (some d) ∧ ((∃ x, getT L ux = some x) ∨ ux < 1) ∧ e = 52 ∧ L' = L ∧ t' = tt ∧ n' = nn) ∨
  (∃ d, AtR (wasV L) (parV L) nx tx (some d) ∧ getT L ux = none ∧ 1 ≤ ux ∧ e = 0 ∧ t' = ux ∧ n' = nx ∧ ∃ m', L' = newL L ux m' tx nx d)

theorem wnew_ok (n : Nat) (h1 : 1 ≤ n) (h2 : n ≤ 64) : SpecS Try.prog 7 [.int .i64 (n : Int)] [] (fun v H' => ∃ p m m1 d, v = .tuple #[.pointer (some ⟨p, 0, none⟩), .int .i64 0] ∧ H' = [blk p [.pointer (some ⟨m, 0, none⟩), .int .i64 1, .int .i64 0] 85, mp (κ := Int) 124 128 3 m (psL (newW m1 d n)), lnA (newW m1 d n), dkS (newW m1 d n)]) := by
  refine SpecS.enter Try.func7 rfl 28 rfl (Nat.le_of_ble_eq_true rfl) (fun o => ?_)
  refine SG.seq ?_
  refine SG.region ?_
  refine SL.val rfl rfl (fun w9 F9 S9 s => R.as rfl) ?_
  refine SL.val rfl rfl (fun w9 F9 S9 s => R.as rfl) ?_
  refine SL.nil ?_
  refine SN.seq ?_
  refine SG.seq ?_
  refine SG.region ?_
  refine SL.val rfl rfl (fun w9 F9 S9 s => R.mv rfl) ?_
  refine SL.step rfl rfl (CS.call rfl go30 (inewS n h1 h2) (by repeat (first | exact Sels.nil | apply Sels.cons | exact Sel.keep | exact Sel.here | apply Sel.there))) ?_
  rintro _ _ ⟨_, ⟨d, rfl, rfl⟩, rfl⟩
  refine SL.n1 ?_
  refine SL.val rfl rfl (fun w9 F9 S9 s => R.mv rfl) ?_
  refine SL.val rfl rfl (fun w9 F9 S9 s => R.ext rfl rfl) ?_
  refine SL.val rfl rfl (fun w9 F9 S9 s => R.ext rfl rfl) ?_
  refine SL.val rfl rfl (fun w9 F9 S9 s => R.as rfl) ?_
  refine SL.val rfl rfl (fun w9 F9 S9 s => R.as rfl) ?_
  refine SL.nil ?_
  refine SN.seq ?_
  refine SG.seq ?_
  refine SG.seq ?_
  refine SG.region ?_
  refine SL.val rfl rfl (fun w9 F9 S9 s => R.mv rfl) ?_
  refine SL.val rfl rfl (fun w9 F9 S9 s => R.neI rfl rfl) ?_
  refine SL.nil ?_
  refine SN.seq ?_
  refine SG.condF rfl ?_
  refine SG.skip ?_
  refine SN.seq ?_
  refine SG.seq ?_
  refine SG.region ?_
  refine SL.step rfl rfl (CS.call rfl go31 (SpecS.ofNew (fun w => onewModelline_ok w)) (by repeat (first | exact Sels.nil | apply Sels.cons | exact Sel.keep | exact Sel.here | apply Sel.there))) ?_
  rintro _ _ ⟨_, ⟨m, rfl, rfl⟩, rfl⟩
  refine SL.n1 ?_
  refine SL.val rfl rfl (fun w9 F9 S9 s => R.buildN (l := [.int .i64 1, .int .i64 0]) rfl rfl) ?_
  refine SL.val rfl rfl (fun w9 F9 S9 s => R.buildN (l := [.pointer (some ⟨m, 0, none⟩), .int .i64 1, .int .i64 0]) rfl rfl) ?_
  refine SL.step rfl rfl (CS.boxA rfl) ?_
  rintro _ _ ⟨b18, rfl, rfl⟩
  refine SL.val rfl rfl (fun w9 F9 S9 s => R.as rfl) ?_
  refine SL.nil ?_
  refine SN.seq ?_
  refine SG.seq ?_
  refine SG.draw [6, 7] [0, 1, 2, 3, 4, 5, 6, 7] (by decide +kernel) rfl ?_
  refine SW.pure rfl rfl rfl rfl (fun w9 => R.mv rfl) ?_
  refine SW.pure rfl rfl rfl rfl (fun w9 => R.nilChk rfl) ?_
  refine SW.pure rfl rfl rfl rfl (fun w9 => R.fld rfl) ?_
  refine SW.read rfl rfl rfl rfl (fun w9 F9 S9 s => R.ldB (v := .pointer (some ⟨m, 0, none⟩)) rfl (s.cel (by repeat (first | exact SelB.blk | exact SelB.fz | apply SelB.there))) (by rfl)) ?_
  refine SW.pure rfl rfl rfl rfl (fun w9 => R.mv rfl) ?_
  refine SW.pure rfl rfl rfl rfl (fun w9 => R.buildN (l := [.int .i64 0, .int .i64 0]) rfl rfl) ?_
  refine SW.step rfl rfl rfl rfl (CS.call rfl go33 (begun_ok 0 0 0 ⟨d, List.replicate (64 * n) 0⟩) (by repeat (first | exact Sels.nil | apply Sels.cons | exact Sel.keep | exact Sel.here | apply Sel.there))) ?_
  rintro _ _ ⟨_, ⟨m1, rfl, rfl⟩, rfl⟩
  refine ⟨⟨.inr (fun w9 F9 S9 s => R.ldB (v := .pointer (some ⟨m, 0, none⟩)) rfl (s.cel (by repeat (first | exact SelB.blk | exact SelB.fz | apply SelB.there))) (by rfl)), trivial⟩, ?_⟩
  refine SW.n1 ?_
  refine SW.step rfl rfl rfl rfl (CS.call rfl go32 (lputX m [] 1 ⟨m1, 0, 0, [(0, ⟨d, List.replicate (64 * n) 0⟩)]⟩ (by decide)) (by repeat (first | exact Sels.nil | apply Sels.cons | exact Sel.keep | exact Sel.here | apply Sel.there))) ?_
  rintro _ _ ⟨_, ⟨rfl, rfl⟩, rfl⟩
  refine ⟨⟨.inl (by decide +kernel), trivial⟩, ?_⟩
  refine SW.n1 ?_
  refine SW.nil ?_
  refine SN.imp ((show Imp _ (lnR [] 1 :: _) from Imp.spNil)) ?_
  refine SN.imp (Imp.lnClose (L := []) (t := 1) (x := ⟨m1, 0, 0, [(0, ⟨d, List.replicate (64 * n) 0⟩)]⟩) (by repeat (first | exact Sel.keep | exact Sel.here | apply Sel.there)) (by repeat (first | exact Sel.keep | exact Sel.here | apply Sel.there)) List.Pairwise.nil) ?_
  refine SN.imp (Imp.weak (p := fun w => DiskAt w d (List.replicate (64 * n) 0)) (q := DkP (newW m1 d n)) (by repeat (first | exact Sel.keep | exact Sel.here | apply Sel.there)) (fun w h q hq e he => by rw [List.mem_singleton.1 hq] at he; rw [List.mem_singleton.1 he]; exact h)) ?_
  refine SN.seq ?_
  refine SG.seq ?_
  refine SG.region ?_
  refine SL.val rfl rfl (fun w9 F9 S9 s => R.mv rfl) ?_
  refine SL.val rfl rfl (fun w9 F9 S9 s => R.as rfl) ?_
  refine SL.val rfl rfl (fun w9 F9 S9 s => R.as rfl) ?_
  refine SL.nil ?_
  refine SN.seq ?_
  exact SG.ret2 rfl rfl rfl ((Imp.sels (by repeat (first | exact Sels.nil | apply Sels.cons | exact Sel.keep | exact Sel.here | apply Sel.there)))) (⟨b18, m, m1, d, rfl, rfl⟩)

theorem wcom_ok (p m : Nat) (L : Lns) (tt nn : Int) (kk : Nat) (d : Dk) (la : Option Addr) (ln lc : Nat) (ws : List WriteV) (hw : Wf L kk) (hk : kk ≤ 9000) (hd : wasV L tt nn = some d) (hln : ln ≤ 1000000) : SpecS Try.prog 8 [.pointer (some ⟨p, 0, none⟩), .slice la ln lc] [blk p [.pointer (some ⟨m, 0, none⟩), .int .i64 tt, .int .i64 nn] 85, mp (κ := Int) 124 128 3 m (psL L), lnA L, dkS L, sh (fun w => WsP w la ln ws)] (fun v H' => ∃ L' n' a e, v = .tuple #[.int .i64 a, .int .i64 e] ∧ ComR L tt nn d (ws.map wv) L' n' a e ∧ H' = [blk p [.pointer (some ⟨m, 0, none⟩), .int .i64 tt, .int .i64 n'] 85, mp (κ := Int) 124 128 3 m (psL L'), lnA L', dkS L']) := by
  refine SpecS.enter Try.func8 rfl 69 rfl (Nat.le_of_ble_eq_true rfl) (fun o => ?_)
  obtain ⟨x, hx, hxd⟩ := was_has hd
  have hnb := (hw.ln _ (getT_some hx)).2.2.2 _ (getT_some hxd)
  have hn0 : 0 ≤ nn := hnb.1
  have hn1 : nn ≤ (kk : Int) := hnb.2
  refine SG.seq ?_
  refine SG.region ?_
  refine SL.val rfl rfl (fun w9 F9 S9 s => R.as rfl) ?_
  refine SL.val rfl rfl (fun w9 F9 S9 s => R.as rfl) ?_
  refine SL.nil ?_
  refine SN.seq ?_
  refine SG.seq ?_
  refine SG.seq ?_
  refine SG.region ?_
  refine SL.val rfl rfl (fun w9 F9 S9 s => R.mv rfl) ?_
  refine SL.val rfl rfl (fun w9 F9 S9 s => R.eqNilP rfl rfl) ?_
  refine SL.nil ?_
  refine SN.seq ?_
  refine SG.condF rfl ?_
  refine SG.skip ?_
  refine SN.seq ?_
  refine SG.seq ?_
  by_cases h0 : (withF d.l (ws.map wv)).2 = 0
  · refine SG.region ?_
    refine SL.val rfl rfl (fun w9 F9 S9 s => R.mv rfl) ?_
    refine SL.step rfl rfl (CS.call rfl go13 (wdisk_ok p m L tt nn kk d hw hk hd) (by repeat (first | exact Sels.nil | apply Sels.cons | exact Sel.keep | exact Sel.here | apply Sel.there))) ?_
    rintro _ _ ⟨_, ⟨rfl, rfl⟩, rfl⟩
    refine SL.n4 ?_
    refine SL.val rfl rfl (fun w9 F9 S9 s => R.mv rfl) ?_
    refine SL.imp (Imp.weak (p := DkP L) (q := fun w => DiskAt w d.b d.l) (show Sel _ (dkS L) _ from (by repeat (first | exact Sel.keep | exact Sel.here | apply Sel.there))) (fun w hw => dkS_one hw hd)) ?_
    refine SL.step rfl rfl (CS.call rfl go15 (iwithS d.b d.l la ln lc ws hln h0) (by repeat (first | exact Sels.nil | apply Sels.cons | exact Sel.keep | exact Sel.here | apply Sel.there))) ?_
    rintro _ _ ⟨_, ⟨b2, rfl, rfl⟩, rfl⟩
    refine SL.n1 ?_
    refine SL.val rfl rfl (fun w9 F9 S9 s => R.mv rfl) ?_
    refine SL.val rfl rfl (fun w9 F9 S9 s => R.ext rfl rfl) ?_
    refine SL.val rfl rfl (fun w9 F9 S9 s => R.ext rfl rfl) ?_
    refine SL.val rfl rfl (fun w9 F9 S9 s => R.as rfl) ?_
    refine SL.val rfl rfl (fun w9 F9 S9 s => R.as rfl) ?_
    refine SL.nil ?_
    refine SN.seq ?_
    refine SG.seq ?_
    refine SG.seq ?_
    refine SG.region ?_
    refine SL.val rfl rfl (fun w9 F9 S9 s => R.mv rfl) ?_
    refine SL.val rfl rfl (fun w9 F9 S9 s => R.neI rfl rfl) ?_
    refine SL.nil ?_
    refine SN.seq ?_
    refine SG.condF rfl ?_
    refine SG.skip ?_
    refine SN.seq ?_
    refine SG.seq ?_
    refine SG.draw [12, 13] [0, 1, 2, 3, 4, 5, 6, 7, 8, 9, 10, 11, 12, 13] (by decide +kernel) rfl ?_
    refine SW.pure rfl rfl rfl rfl (fun w9 => R.mv rfl) ?_
    refine SW.pure rfl rfl rfl rfl (fun w9 => R.nilChk rfl) ?_
    refine SW.pure rfl rfl rfl rfl (fun w9 => R.fld rfl) ?_
    refine SW.pure rfl rfl rfl rfl (fun w9 => R.fld rfl) ?_
    refine SW.read rfl rfl rfl rfl (fun w9 F9 S9 s => R.ldB (v := .int .i64 tt) rfl (s.cel (by repeat (first | exact SelB.blk | exact SelB.fz | apply SelB.there))) (by rfl)) ?_
    refine SW.pure rfl rfl rfl rfl (fun w9 => R.mv rfl) ?_
    refine SW.pure rfl rfl rfl rfl (fun w9 => R.nilChk rfl) ?_
    refine SW.pure rfl rfl rfl rfl (fun w9 => R.fld rfl) ?_
    refine SW.pure rfl rfl rfl rfl (fun w9 => R.fld rfl) ?_
    refine SW.read rfl rfl rfl rfl (fun w9 F9 S9 s => R.ldB (v := .int .i64 nn) rfl (s.cel (by repeat (first | exact SelB.blk | exact SelB.fz | apply SelB.there))) (by rfl)) ?_
    refine SW.pure rfl rfl rfl rfl (fun w9 => R.add rfl rfl (by omega)) ?_
    refine SW.pure rfl rfl rfl rfl (fun w9 => R.buildN (l := [.int .i64 tt, .int .i64 (nn + 1)]) rfl rfl) ?_
    refine SW.step rfl rfl rfl rfl (CS.alloc [.int .i64 0, .int .i64 0] rfl) ?_
    rintro _ _ ⟨b8, rfl, rfl⟩
    refine ⟨⟨.inr (fun w9 F9 S9 s => R.ldB (v := .int .i64 nn) rfl (s.cel (by repeat (first | exact SelB.blk | exact SelB.fz | apply SelB.there))) (by rfl)), ⟨.inr (fun w9 F9 S9 s => R.ldB (v := .int .i64 tt) rfl (s.cel (by repeat (first | exact SelB.blk | exact SelB.fz | apply SelB.there))) (by rfl)), trivial⟩⟩, ?_⟩
    refine SW.step0 rfl rfl rfl (CS.stA (vs := [.int .i64 tt, .int .i64 (nn + 1)]) rfl rfl (by repeat (first | exact Sel.keep | exact Sel.here | apply Sel.there)) (by rfl) (by rfl) (by intro u hu; simp only [List.mem_cons, List.not_mem_nil, or_false] at hu; rcases hu with rfl | rfl <;> rfl)) ?_
    rintro _ _ rfl
    refine ⟨⟨.inl (by decide +kernel), ⟨.inl (by decide +kernel), trivial⟩⟩, ?_⟩
    refine SW.nil ?_
    refine SN.seq ?_
    refine SG.seq ?_
    refine SG.seq ?_
    refine SG.region ?_
    refine SL.val rfl rfl (fun w9 F9 S9 s => R.fld rfl) ?_
    refine SL.val rfl rfl (fun w9 F9 S9 s => R.ldB (v := .int .i64 (nn + 1)) rfl (s.cel (by repeat (first | exact SelB.blk | exact SelB.fz | apply SelB.there))) (by rfl)) ?_
    refine SL.val rfl rfl (fun w9 F9 S9 s => R.gtr rfl rfl) ?_
    refine SL.nil ?_
    refine SN.seq ?_
    refine SG.condP rfl (fun h2 => ?_) (fun h2 => ?_)
    · exfalso; omega
    · refine SG.skip ?_
      refine SN.seq ?_
      refine SG.seq ?_
      refine SG.seq ?_
      rcases hq : wasV L tt (nn + 1) with _ | q
      · refine SG.region ?_
        refine SL.val rfl rfl (fun w9 F9 S9 s => R.mv rfl) ?_
        refine SL.val rfl rfl (fun w9 F9 S9 s => R.ldBN (cs := #[.int .i64 tt, .int .i64 (nn + 1)]) rfl (s.cel (by repeat (first | exact SelB.blk | exact SelB.fz | apply SelB.there))) (by rfl)) ?_
        refine SL.step rfl rfl (CS.call rfl go34 (wwasE p m L tt nn kk tt (nn + 1) hw hk none hq) (by repeat (first | exact Sels.nil | apply Sels.cons | exact Sel.keep | exact Sel.here | apply Sel.there))) ?_
        rintro _ _ ⟨_, ⟨rfl, rfl⟩, rfl⟩
        refine SL.n4 ?_
        refine SL.val rfl rfl (fun w9 F9 S9 s => R.mv rfl) ?_
        refine SL.val rfl rfl (fun w9 F9 S9 s => R.ext rfl rfl) ?_
        refine SL.val rfl rfl (fun w9 F9 S9 s => R.ext rfl rfl) ?_
        refine SL.val rfl rfl (fun w9 F9 S9 s => R.as rfl) ?_
        refine SL.val rfl rfl (fun w9 F9 S9 s => R.as rfl) ?_
        refine SL.nil ?_
        refine SN.seq ?_
        refine SG.seq ?_
        refine SG.region ?_
        refine SL.val rfl rfl (fun w9 F9 S9 s => R.mv rfl) ?_
        refine SL.nil ?_
        refine SN.seq ?_
        refine SG.condF rfl ?_
        refine SG.skip ?_
        refine SN.seq ?_
        refine SG.seq ?_
        refine SG.drawT (.flo 0 (.flo 1 (.flo 2 (.flo 3 (.flo 4 (.flo 5 (.alt 6 (.flo 7 (.flo 8 (.flo 9 (.alt 10 (.alt 11 (.flo 12 .nil) .stop) .stop)))) (.alt 10 (.alt 6 (.flo 7 (.flo 8 (.flo 9 (.alt 11 (.flo 12 .nil) .stop)))) .stop) .stop)))))))) (by decide +kernel) rfl ?_
        refine TW.pure rfl rfl rfl rfl (fun w9 => R.mv rfl) ?_
        refine TW.pure rfl rfl rfl rfl (fun w9 => R.nilChk rfl) ?_
        refine TW.pure rfl rfl rfl rfl (fun w9 => R.fld rfl) ?_
        refine TW.read rfl rfl rfl rfl (fun w9 F9 S9 s => R.ldB (v := .pointer (some ⟨m, 0, none⟩)) rfl (s.cel (by repeat (first | exact SelB.blk | exact SelB.fz | apply SelB.there))) (by rfl)) ?_
        refine TW.pure rfl rfl rfl rfl (fun w9 => R.fld rfl) ?_
        refine TW.read rfl rfl rfl rfl (fun w9 F9 S9 s => R.ldB (v := .int .i64 tt) rfl (s.cel (by repeat (first | exact SelB.blk | exact SelB.fz | apply SelB.there))) (by rfl)) ?_
        refine TW.or ?_ ?_
        · refine TW.step rfl rfl rfl rfl (CS.callR rfl go35 (fun w9 F9 S9 s => (s.mp (show Sel _ (mp (κ := Int) 124 128 3 m (psL L)) _ from (by repeat (first | exact Sel.keep | exact Sel.here | apply Sel.there)))).elim fun S9 h9 => lgetS m L tt x S9 w9 h9 (by have := hw.len; omega) hx)) ?_
          rintro _ _ ⟨rfl, rfl⟩
          refine ⟨⟨.inl (by decide +kernel), ⟨.inl (by decide +kernel), trivial⟩⟩, ?_⟩
          refine TW.pure rfl rfl rfl rfl (fun w9 => R.mv rfl) ?_
          refine TW.pure rfl rfl rfl rfl (fun w9 => R.ext rfl rfl) ?_
          refine TW.pure rfl rfl rfl rfl (fun w9 => R.ext rfl rfl) ?_
          refine TW.step rfl rfl rfl rfl (CS.alloc [.pointer none, .int .i64 0, .int .i64 0] rfl) ?_
          rintro _ _ ⟨b11, rfl, rfl⟩
          refine ⟨⟨.inr (fun w9 F9 S9 s => R.ldB (v := .int .i64 tt) rfl (s.cel (by repeat (first | exact SelB.blk | exact SelB.fz | apply SelB.there))) (by rfl)), ⟨.inr (fun w9 F9 S9 s => R.ldB (v := .pointer (some ⟨m, 0, none⟩)) rfl (s.cel (by repeat (first | exact SelB.blk | exact SelB.fz | apply SelB.there))) (by rfl)), trivial⟩⟩, ?_⟩
          refine TW.step0 rfl rfl rfl (CS.stA (vs := lnC x) rfl rfl (by repeat (first | exact Sel.keep | exact Sel.here | apply Sel.there)) (by rfl) (by rfl) (lnC_one x)) ?_
          rintro _ _ rfl
          refine ⟨⟨.inl (by decide +kernel), ⟨.inl (by decide +kernel), trivial⟩⟩, ?_⟩
          refine TW.pure rfl rfl rfl rfl (fun w9 => R.as rfl) ?_
          refine TW.nil ?_
          refine SN.seq ?_
          refine SG.seq ?_
          refine SG.region ?_
          refine SL.val rfl rfl (fun w9 F9 S9 s => R.fld rfl) ?_
          refine SL.val rfl rfl (fun w9 F9 S9 s => R.ldB (v := .pointer (some ⟨x.m, 0, none⟩)) rfl (s.cel (by repeat (first | exact SelB.blk | exact SelB.fz | apply SelB.there))) (by rfl)) ?_
          refine SL.val rfl rfl (fun w9 F9 S9 s => R.fld rfl) ?_
          refine SL.val rfl rfl (fun w9 F9 S9 s => R.ldB (v := .int .i64 (nn + 1)) rfl (s.cel (by repeat (first | exact SelB.blk | exact SelB.fz | apply SelB.there))) (by rfl)) ?_
          refine SL.val rfl rfl (fun w9 F9 S9 s => R.mv rfl) ?_
          refine SL.imp (Imp.lnOpen (by repeat (first | exact Sel.keep | exact Sel.here | apply Sel.there)) hw.srt hx) ?_
          refine SL.step rfl rfl (CS.call rfl go36 (dputX x.m x.ds (nn + 1) ⟨b2, (withF d.l (ws.map wv)).1⟩ (by have := ds_len hw hx; omega)) (by repeat (first | exact Sels.nil | apply Sels.cons | exact Sel.keep | exact Sel.here | apply Sel.there))) ?_
          rintro _ _ ⟨_, ⟨rfl, rfl⟩, rfl⟩
          refine SL.n1 ?_
          refine SL.nil ?_
          refine SN.imp (Imp.lnClose (L := L) (t := tt) (x := { x with ds := putT x.ds (nn + 1) ⟨b2, (withF d.l (ws.map wv)).1⟩ }) (by repeat (first | exact Sel.keep | exact Sel.here | apply Sel.there)) (by repeat (first | exact Sel.keep | exact Sel.here | apply Sel.there)) hw.srt) ?_
          refine SN.seq ?_
          refine SG.seq ?_
          refine SG.region ?_
          refine SL.val rfl rfl (fun w9 F9 S9 s => R.mv rfl) ?_
          refine SL.val rfl rfl (fun w9 F9 S9 s => R.ldBN (cs := #[.int .i64 tt, .int .i64 (nn + 1)]) rfl (s.cel (by repeat (first | exact SelB.blk | exact SelB.fz | apply SelB.there))) (by rfl)) ?_
          refine SL.val rfl rfl (fun w9 F9 S9 s => R.nilChk rfl) ?_
          refine SL.val rfl rfl (fun w9 F9 S9 s => R.fld rfl) ?_
          refine SL.step0 rfl (CS.stN (k := 1) (vs := [.int .i64 tt, .int .i64 (nn + 1)]) (cs' := [.pointer (some ⟨m, 0, none⟩), .int .i64 tt, .int .i64 (nn + 1)]) rfl rfl (show Sel _ (blk p _ _) _ from (by repeat (first | exact Sel.keep | exact Sel.here | apply Sel.there))) rfl (by show 1 + 2 ≤ 3; decide) (by intro u hu; simp only [List.mem_cons, List.not_mem_nil, or_false] at hu; rcases hu with rfl | rfl <;> rfl) rfl) ?_
          rintro _ _ rfl
          refine SL.nil ?_
          refine SN.seq ?_
          refine SG.seq ?_
          refine SG.region ?_
          refine SL.val rfl rfl (fun w9 F9 S9 s => R.fld rfl) ?_
          refine SL.val rfl rfl (fun w9 F9 S9 s => R.ldB (v := .int .i64 (nn + 1)) rfl (s.cel (by repeat (first | exact SelB.blk | exact SelB.fz | apply SelB.there))) (by rfl)) ?_
          refine SL.val rfl rfl (fun w9 F9 S9 s => R.as rfl) ?_
          refine SL.val rfl rfl (fun w9 F9 S9 s => R.as rfl) ?_
          refine SL.nil ?_
          refine SN.imp (Imp.both (p := DkP L) (q := fun w => DiskAt w b2 (withF d.l (ws.map wv)).1) (show Sel _ (dkS L) _ from (by repeat (first | exact Sel.keep | exact Sel.here | apply Sel.there))) (by repeat (first | exact Sel.keep | exact Sel.here | apply Sel.there))) ?_
          refine SN.imp (Imp.weak (p := fun w => DkP L w ∧ DiskAt w b2 (withF d.l (ws.map wv)).1) (q := DkP (addD L tt x (nn + 1) ⟨b2, (withF d.l (ws.map wv)).1⟩)) (by repeat (first | exact Sel.keep | exact Sel.here | apply Sel.there)) (fun w h => dkS_put h.1 (fun e he => (mem_putT he).elim (fun e1 => by rw [e1]; exact h.2) (h.1 _ (getT_some hx) e)))) ?_
          refine SN.imp (Imp.same (A := mp (κ := Int) 124 128 3 m (psL L)) (B := mp (κ := Int) 124 128 3 m (psL (addD L tt x (nn + 1) ⟨b2, (withF d.l (ws.map wv)).1⟩))) (by repeat (first | exact Sel.keep | exact Sel.here | apply Sel.there)) (fun F S w h => by rw [psL_add hw.srt hx]; exact h)) ?_
          refine SN.seq ?_
          exact SG.ret2 rfl rfl rfl ((Imp.sels (by repeat (first | exact Sels.nil | apply Sels.cons | exact Sel.keep | exact Sel.here | apply Sel.there)))) (⟨(addD L tt x (nn + 1) ⟨b2, (withF d.l (ws.map wv)).1⟩), nn + 1, nn + 1, 0, rfl, .inr (.inr ⟨h0, hq, rfl, rfl, rfl, x, b2, hx, rfl⟩), rfl⟩)
        refine TW.step rfl rfl rfl rfl (CS.alloc [.pointer none, .int .i64 0, .int .i64 0] rfl) ?_
        rintro _ _ ⟨b11, rfl, rfl⟩
        refine ⟨⟨.inr (fun w9 F9 S9 s => R.ldB (v := .int .i64 tt) rfl (s.cel (by repeat (first | exact SelB.blk | exact SelB.fz | apply SelB.there))) (by rfl)), ⟨.inr (fun w9 F9 S9 s => R.ldB (v := .pointer (some ⟨m, 0, none⟩)) rfl (s.cel (by repeat (first | exact SelB.blk | exact SelB.fz | apply SelB.there))) (by rfl)), trivial⟩⟩, ?_⟩
        refine TW.step rfl rfl rfl rfl (CS.callR rfl go35 (fun w9 F9 S9 s => (s.mp (show Sel _ (mp (κ := Int) 124 128 3 m (psL L)) _ from (by repeat (first | exact Sel.keep | exact Sel.here | apply Sel.there)))).elim fun S9 h9 => lgetS m L tt x S9 w9 h9 (by have := hw.len; omega) hx)) ?_
        rintro _ _ ⟨rfl, rfl⟩
        refine ⟨⟨.inl (by decide +kernel), ⟨.inl (by decide +kernel), trivial⟩⟩, ?_⟩
        refine TW.pure rfl rfl rfl rfl (fun w9 => R.mv rfl) ?_
        refine TW.pure rfl rfl rfl rfl (fun w9 => R.ext rfl rfl) ?_
        refine TW.pure rfl rfl rfl rfl (fun w9 => R.ext rfl rfl) ?_
        refine TW.step0 rfl rfl rfl (CS.stA (vs := lnC x) rfl rfl (by repeat (first | exact Sel.keep | exact Sel.here | apply Sel.there)) (by rfl) (by rfl) (lnC_one x)) ?_
        rintro _ _ rfl
        refine ⟨⟨.inl (by decide +kernel), ⟨.inl (by decide +kernel), trivial⟩⟩, ?_⟩
        refine TW.pure rfl rfl rfl rfl (fun w9 => R.as rfl) ?_
        refine TW.nil ?_
        refine SN.seq ?_
        refine SG.seq ?_
        refine SG.region ?_
        refine SL.val rfl rfl (fun w9 F9 S9 s => R.fld rfl) ?_
        refine SL.val rfl rfl (fun w9 F9 S9 s => R.ldB (v := .pointer (some ⟨x.m, 0, none⟩)) rfl (s.cel (by repeat (first | exact SelB.blk | exact SelB.fz | apply SelB.there))) (by rfl)) ?_
        refine SL.val rfl rfl (fun w9 F9 S9 s => R.fld rfl) ?_
        refine SL.val rfl rfl (fun w9 F9 S9 s => R.ldB (v := .int .i64 (nn + 1)) rfl (s.cel (by repeat (first | exact SelB.blk | exact SelB.fz | apply SelB.there))) (by rfl)) ?_
        refine SL.val rfl rfl (fun w9 F9 S9 s => R.mv rfl) ?_
        refine SL.imp (Imp.lnOpen (by repeat (first | exact Sel.keep | exact Sel.here | apply Sel.there)) hw.srt hx) ?_
        refine SL.step rfl rfl (CS.call rfl go36 (dputX x.m x.ds (nn + 1) ⟨b2, (withF d.l (ws.map wv)).1⟩ (by have := ds_len hw hx; omega)) (by repeat (first | exact Sels.nil | apply Sels.cons | exact Sel.keep | exact Sel.here | apply Sel.there))) ?_
        rintro _ _ ⟨_, ⟨rfl, rfl⟩, rfl⟩
        refine SL.n1 ?_
        refine SL.nil ?_
        refine SN.imp (Imp.lnClose (L := L) (t := tt) (x := { x with ds := putT x.ds (nn + 1) ⟨b2, (withF d.l (ws.map wv)).1⟩ }) (by repeat (first | exact Sel.keep | exact Sel.here | apply Sel.there)) (by repeat (first | exact Sel.keep | exact Sel.here | apply Sel.there)) hw.srt) ?_
        refine SN.seq ?_
        refine SG.seq ?_
        refine SG.region ?_
        refine SL.val rfl rfl (fun w9 F9 S9 s => R.mv rfl) ?_
        refine SL.val rfl rfl (fun w9 F9 S9 s => R.ldBN (cs := #[.int .i64 tt, .int .i64 (nn + 1)]) rfl (s.cel (by repeat (first | exact SelB.blk | exact SelB.fz | apply SelB.there))) (by rfl)) ?_
        refine SL.val rfl rfl (fun w9 F9 S9 s => R.nilChk rfl) ?_
        refine SL.val rfl rfl (fun w9 F9 S9 s => R.fld rfl) ?_
        refine SL.step0 rfl (CS.stN (k := 1) (vs := [.int .i64 tt, .int .i64 (nn + 1)]) (cs' := [.pointer (some ⟨m, 0, none⟩), .int .i64 tt, .int .i64 (nn + 1)]) rfl rfl (show Sel _ (blk p _ _) _ from (by repeat (first | exact Sel.keep | exact Sel.here | apply Sel.there))) rfl (by show 1 + 2 ≤ 3; decide) (by intro u hu; simp only [List.mem_cons, List.not_mem_nil, or_false] at hu; rcases hu with rfl | rfl <;> rfl) rfl) ?_
        rintro _ _ rfl
        refine SL.nil ?_
        refine SN.seq ?_
        refine SG.seq ?_
        refine SG.region ?_
        refine SL.val rfl rfl (fun w9 F9 S9 s => R.fld rfl) ?_
        refine SL.val rfl rfl (fun w9 F9 S9 s => R.ldB (v := .int .i64 (nn + 1)) rfl (s.cel (by repeat (first | exact SelB.blk | exact SelB.fz | apply SelB.there))) (by rfl)) ?_
        refine SL.val rfl rfl (fun w9 F9 S9 s => R.as rfl) ?_
        refine SL.val rfl rfl (fun w9 F9 S9 s => R.as rfl) ?_
        refine SL.nil ?_
        refine SN.imp (Imp.both (p := DkP L) (q := fun w => DiskAt w b2 (withF d.l (ws.map wv)).1) (show Sel _ (dkS L) _ from (by repeat (first | exact Sel.keep | exact Sel.here | apply Sel.there))) (by repeat (first | exact Sel.keep | exact Sel.here | apply Sel.there))) ?_
        refine SN.imp (Imp.weak (p := fun w => DkP L w ∧ DiskAt w b2 (withF d.l (ws.map wv)).1) (q := DkP (addD L tt x (nn + 1) ⟨b2, (withF d.l (ws.map wv)).1⟩)) (by repeat (first | exact Sel.keep | exact Sel.here | apply Sel.there)) (fun w h => dkS_put h.1 (fun e he => (mem_putT he).elim (fun e1 => by rw [e1]; exact h.2) (h.1 _ (getT_some hx) e)))) ?_
        refine SN.imp (Imp.same (A := mp (κ := Int) 124 128 3 m (psL L)) (B := mp (κ := Int) 124 128 3 m (psL (addD L tt x (nn + 1) ⟨b2, (withF d.l (ws.map wv)).1⟩))) (by repeat (first | exact Sel.keep | exact Sel.here | apply Sel.there)) (fun F S w h => by rw [psL_add hw.srt hx]; exact h)) ?_
        refine SN.seq ?_
        exact SG.ret2 rfl rfl rfl ((Imp.sels (by repeat (first | exact Sels.nil | apply Sels.cons | exact Sel.keep | exact Sel.here | apply Sel.there)))) (⟨(addD L tt x (nn + 1) ⟨b2, (withF d.l (ws.map wv)).1⟩), nn + 1, nn + 1, 0, rfl, .inr (.inr ⟨h0, hq, rfl, rfl, rfl, x, b2, hx, rfl⟩), rfl⟩)
      · refine SG.region ?_
        refine SL.val rfl rfl (fun w9 F9 S9 s => R.mv rfl) ?_
        refine SL.val rfl rfl (fun w9 F9 S9 s => R.ldBN (cs := #[.int .i64 tt, .int .i64 (nn + 1)]) rfl (s.cel (by repeat (first | exact SelB.blk | exact SelB.fz | apply SelB.there))) (by rfl)) ?_
        refine SL.step rfl rfl (CS.call rfl go34 (wwasE p m L tt nn kk tt (nn + 1) hw hk (some q) hq) (by repeat (first | exact Sels.nil | apply Sels.cons | exact Sel.keep | exact Sel.here | apply Sel.there))) ?_
        rintro _ _ ⟨_, ⟨rfl, rfl⟩, rfl⟩
        refine SL.n4 ?_
        refine SL.val rfl rfl (fun w9 F9 S9 s => R.mv rfl) ?_
        refine SL.val rfl rfl (fun w9 F9 S9 s => R.ext rfl rfl) ?_
        refine SL.val rfl rfl (fun w9 F9 S9 s => R.ext rfl rfl) ?_
        refine SL.val rfl rfl (fun w9 F9 S9 s => R.as rfl) ?_
        refine SL.val rfl rfl (fun w9 F9 S9 s => R.as rfl) ?_
        refine SL.nil ?_
        refine SN.seq ?_
        refine SG.seq ?_
        refine SG.region ?_
        refine SL.val rfl rfl (fun w9 F9 S9 s => R.mv rfl) ?_
        refine SL.nil ?_
        refine SN.seq ?_
        refine SG.condT rfl ?_
        refine SG.seq ?_
        refine SG.region ?_
        refine SL.val rfl rfl (fun w9 F9 S9 s => R.as rfl) ?_
        refine SL.val rfl rfl (fun w9 F9 S9 s => R.as rfl) ?_
        refine SL.nil ?_
        refine SN.seq ?_
        exact SG.ret2 rfl rfl rfl ((Imp.sels (by repeat (first | exact Sels.nil | apply Sels.cons | exact Sel.keep | exact Sel.here | apply Sel.there)))) (⟨L, nn, 0, 52, rfl, .inr (.inl ⟨h0, ⟨q, hq⟩, rfl, rfl, rfl, rfl⟩), rfl⟩)
  · refine SG.region ?_
    refine SL.val rfl rfl (fun w9 F9 S9 s => R.mv rfl) ?_
    refine SL.step rfl rfl (CS.call rfl go13 (wdisk_ok p m L tt nn kk d hw hk hd) (by repeat (first | exact Sels.nil | apply Sels.cons | exact Sel.keep | exact Sel.here | apply Sel.there))) ?_
    rintro _ _ ⟨_, ⟨rfl, rfl⟩, rfl⟩
    refine SL.n4 ?_
    refine SL.val rfl rfl (fun w9 F9 S9 s => R.mv rfl) ?_
    refine SL.step rfl rfl (CS.callR rfl go15 (fun w9 F9 S9 s => iwithR d.b d.l la ln lc ws hln h0 w9 (dkS_one (s.sh (p := DkP L) (show Sel _ (dkS L) _ from (by repeat (first | exact Sel.keep | exact Sel.here | apply Sel.there)))) hd) (s.sh (p := fun w => WsP w la ln ws) (by repeat (first | exact Sel.keep | exact Sel.here | apply Sel.there))))) ?_
    rintro _ _ ⟨rfl, rfl⟩
    refine SL.val rfl rfl (fun w9 F9 S9 s => R.mv rfl) ?_
    refine SL.val rfl rfl (fun w9 F9 S9 s => R.ext rfl rfl) ?_
    refine SL.val rfl rfl (fun w9 F9 S9 s => R.ext rfl rfl) ?_
    refine SL.val rfl rfl (fun w9 F9 S9 s => R.as rfl) ?_
    refine SL.val rfl rfl (fun w9 F9 S9 s => R.as rfl) ?_
    refine SL.nil ?_
    refine SN.seq ?_
    refine SG.seq ?_
    refine SG.seq ?_
    refine SG.region ?_
    refine SL.val rfl rfl (fun w9 F9 S9 s => R.mv rfl) ?_
    refine SL.val rfl rfl (fun w9 F9 S9 s => R.neI rfl rfl) ?_
    refine SL.nil ?_
    refine SN.seq ?_
    refine SG.condP rfl (fun h1 => ?_) (fun h1 => ?_)
    · refine SG.seq ?_
      refine SG.region ?_
      refine SL.val rfl rfl (fun w9 F9 S9 s => R.mv rfl) ?_
      refine SL.val rfl rfl (fun w9 F9 S9 s => R.as rfl) ?_
      refine SL.val rfl rfl (fun w9 F9 S9 s => R.as rfl) ?_
      refine SL.nil ?_
      refine SN.seq ?_
      exact SG.ret2 rfl rfl rfl ((Imp.sels (by repeat (first | exact Sels.nil | apply Sels.cons | exact Sel.keep | exact Sel.here | apply Sel.there)))) (⟨L, nn, 0, _, rfl, .inl ⟨h0, rfl, rfl, rfl, rfl⟩, rfl⟩)
    · exact (h1 h0).elim

end Go.Proofs.Ythdaelmjiaegfaa
/-
  The walks of package model.
-/
set_option linter.unusedVariables false
set_option linter.unusedSimpArgs false
set_option maxRecDepth 4000
namespace Go.Proofs.Ythdaelmjiaegfaa
open Go Brv Brv.Image Brv.Model
theorem wbra_ok (p m : Nat) (L : Lns) (tt nn : Int) (kk : Nat) (tx nx ux : Int) (hw : Wf L kk) (hk : kk ≤ 9000) : SpecS Try.prog 9 [.pointer (some ⟨p, 0, none⟩), .int .i64 tx, .int .i64 nx, .int .i64 ux] [blk p [.pointer (some ⟨m, 0, none⟩), .int .i64 tt, .int .i64 nn] 85, mp (κ := Int) 124 128 3 m (psL L), lnA L, dkS L] (fun v H' => ∃ L' t' n' e, v = .int .i64 e ∧ BraR L tt nn tx nx ux L' t' n' e ∧ H' = [blk p [.pointer (some ⟨m, 0, none⟩), .int .i64 t', .int .i64 n'] 85, mp (κ := Int) 124 128 3 m (psL L'), lnA L', dkS L']) := by
  refine SpecS.enter Try.func9 rfl 56 rfl (Nat.le_of_ble_eq_true rfl) (fun o => ?_)
  obtain ⟨rk, hrk⟩ := hw.rk
  obtain ⟨r, hr⟩ := at_ex hrk nx (rk tx) tx (Nat.le_refl _)
  refine SG.seq ?_
  refine SG.region ?_
  refine SL.val rfl rfl (fun w9 F9 S9 s => R.as rfl) ?_
  refine SL.nil ?_
  refine SN.seq ?_
  refine SG.seq ?_
  refine SG.seq ?_
  refine SG.region ?_
  refine SL.val rfl rfl (fun w9 F9 S9 s => R.mv rfl) ?_
  refine SL.val rfl rfl (fun w9 F9 S9 s => R.eqNilP rfl rfl) ?_
  refine SL.nil ?_
  refine SN.seq ?_
  refine SG.condF rfl ?_
  refine SG.skip ?_
  refine SN.seq ?_
  refine SG.seq ?_
  rcases r with _ | d
  · refine SG.region ?_
    refine SL.val rfl rfl (fun w9 F9 S9 s => R.mv rfl) ?_
    refine SL.val rfl rfl (fun w9 F9 S9 s => R.mv rfl) ?_
    refine SL.val rfl rfl (fun w9 F9 S9 s => R.mv rfl) ?_
    refine SL.step rfl rfl (CS.call rfl go14 (watE p m L tt nn kk tx nx hw hk none hr) (by repeat (first | exact Sels.nil | apply Sels.cons | exact Sel.keep | exact Sel.here | apply Sel.there))) ?_
    rintro _ _ ⟨_, ⟨rfl, rfl⟩, rfl⟩
    refine SL.n4 ?_
    refine SL.val rfl rfl (fun w9 F9 S9 s => R.mv rfl) ?_
    refine SL.val rfl rfl (fun w9 F9 S9 s => R.ext rfl rfl) ?_
    refine SL.val rfl rfl (fun w9 F9 S9 s => R.ext rfl rfl) ?_
    refine SL.val rfl rfl (fun w9 F9 S9 s => R.as rfl) ?_
    refine SL.val rfl rfl (fun w9 F9 S9 s => R.as rfl) ?_
    refine SL.nil ?_
    refine SN.seq ?_
    refine SG.seq ?_
    refine SG.seq ?_
    refine SG.region ?_
    refine SL.val rfl rfl (fun w9 F9 S9 s => R.mv rfl) ?_
    refine SL.val rfl rfl (fun w9 F9 S9 s => R.not rfl) ?_
    refine SL.nil ?_
    refine SN.seq ?_
    refine SG.condT rfl ?_
    refine SG.seq ?_
    refine SG.region ?_
    refine SL.val rfl rfl (fun w9 F9 S9 s => R.as rfl) ?_
    refine SL.nil ?_
    refine SN.seq ?_
    exact SG.ret1 rfl rfl ((Imp.sels (by repeat (first | exact Sels.nil | apply Sels.cons | exact Sel.keep | exact Sel.here | apply Sel.there)))) (⟨L, tt, nn, 50, rfl, .inl ⟨hr, rfl, rfl, rfl, rfl⟩, rfl⟩)
  · refine SG.region ?_
    refine SL.val rfl rfl (fun w9 F9 S9 s => R.mv rfl) ?_
    refine SL.val rfl rfl (fun w9 F9 S9 s => R.mv rfl) ?_
    refine SL.val rfl rfl (fun w9 F9 S9 s => R.mv rfl) ?_
    refine SL.step rfl rfl (CS.call rfl go14 (watE p m L tt nn kk tx nx hw hk (some d) hr) (by repeat (first | exact Sels.nil | apply Sels.cons | exact Sel.keep | exact Sel.here | apply Sel.there))) ?_
    rintro _ _ ⟨_, ⟨rfl, rfl⟩, rfl⟩
    refine SL.n4 ?_
    refine SL.val rfl rfl (fun w9 F9 S9 s => R.mv rfl) ?_
    refine SL.val rfl rfl (fun w9 F9 S9 s => R.ext rfl rfl) ?_
    refine SL.val rfl rfl (fun w9 F9 S9 s => R.ext rfl rfl) ?_
    refine SL.val rfl rfl (fun w9 F9 S9 s => R.as rfl) ?_
    refine SL.val rfl rfl (fun w9 F9 S9 s => R.as rfl) ?_
    refine SL.nil ?_
    refine SN.seq ?_
    refine SG.seq ?_
    refine SG.seq ?_
    refine SG.region ?_
    refine SL.val rfl rfl (fun w9 F9 S9 s => R.mv rfl) ?_
    refine SL.val rfl rfl (fun w9 F9 S9 s => R.not rfl) ?_
    refine SL.nil ?_
    refine SN.seq ?_
    refine SG.condF rfl ?_
    refine SG.skip ?_
    refine SN.seq ?_
    refine SG.seq ?_
    refine SG.seq ?_
    rcases hg : getT L ux with _ | y
    · refine SG.region ?_
      refine SL.val rfl rfl (fun w9 F9 S9 s => R.mv rfl) ?_
      refine SL.val rfl rfl (fun w9 F9 S9 s => R.nilChk rfl) ?_
      refine SL.val rfl rfl (fun w9 F9 S9 s => R.fld rfl) ?_
      refine SL.val rfl rfl (fun w9 F9 S9 s => R.ldB (v := .pointer (some ⟨m, 0, none⟩)) rfl (s.cel (by repeat (first | exact SelB.blk | exact SelB.fz | apply SelB.there))) (by rfl)) ?_
      refine SL.val rfl rfl (fun w9 F9 S9 s => R.mv rfl) ?_
      refine SL.step rfl rfl (CS.callR rfl go35 (fun w9 F9 S9 s => (s.mp (show Sel _ (mp (κ := Int) 124 128 3 m (psL L)) _ from (by repeat (first | exact Sel.keep | exact Sel.here | apply Sel.there)))).elim fun S9 h9 => lgetN m L ux S9 w9 h9 (by have := hw.len; omega) hg)) ?_
      rintro _ _ ⟨rfl, rfl⟩
      refine SL.val rfl rfl (fun w9 F9 S9 s => R.mv rfl) ?_
      refine SL.val rfl rfl (fun w9 F9 S9 s => R.ext rfl rfl) ?_
      refine SL.val rfl rfl (fun w9 F9 S9 s => R.ext rfl rfl) ?_
      refine SL.step rfl rfl (CS.alloc [.pointer none, .int .i64 0, .int .i64 0] rfl) ?_
      rintro _ _ ⟨b11, rfl, rfl⟩
      refine SL.step0 rfl (CS.stA (vs := [.pointer none, .int .i64 0, .int .i64 0]) rfl rfl (by repeat (first | exact Sel.keep | exact Sel.here | apply Sel.there)) (by rfl) (by rfl) (by intro u hu; simp only [List.mem_cons, List.not_mem_nil, or_false] at hu; rcases hu with rfl | rfl | rfl <;> rfl)) ?_
      rintro _ _ rfl
      refine SL.val rfl rfl (fun w9 F9 S9 s => R.as rfl) ?_
      refine SL.nil ?_
      refine SN.seq ?_
      refine SG.seq ?_
      refine SG.region ?_
      refine SL.val rfl rfl (fun w9 F9 S9 s => R.mv rfl) ?_
      refine SL.val rfl rfl (fun w9 F9 S9 s => R.mv rfl) ?_
      refine SL.isF 34 rfl (rfl) ?_
      refine SL.val rfl rfl (fun w9 F9 S9 s => R.mv rfl) ?_
      refine SL.val rfl rfl (fun w9 F9 S9 s => R.lss rfl rfl) ?_
      first | refine SL.val rfl rfl (fun w9 F9 S9 s => R.pickT rfl rfl) ?_ | refine SL.val rfl rfl (fun w9 F9 S9 s => R.pickF rfl rfl) ?_
      refine SL.nil ?_
      refine SN.seq ?_
      refine SG.condP rfl (fun h2 => ?_) (fun h2 => ?_)
      · refine SG.seq ?_
        refine SG.region ?_
        refine SL.val rfl rfl (fun w9 F9 S9 s => R.as rfl) ?_
        refine SL.nil ?_
        refine SN.seq ?_
        exact SG.ret1 rfl rfl ((Imp.sels (by repeat (first | exact Sels.nil | apply Sels.cons | exact Sel.keep | exact Sel.here | apply Sel.there)))) (⟨L, tt, nn, 52, rfl, .inr (.inl ⟨d, hr, .inr h2, rfl, rfl, rfl, rfl⟩), rfl⟩)
      · refine SG.skip ?_
        refine SN.seq ?_
        refine SG.seq ?_
        refine SG.draw [10, 11] [0, 1, 2, 3, 4, 5, 6, 7, 8, 9, 10, 11] (by decide +kernel) rfl ?_
        refine SW.pure rfl rfl rfl rfl (fun w9 => R.mv rfl) ?_
        refine SW.pure rfl rfl rfl rfl (fun w9 => R.nilChk rfl) ?_
        refine SW.pure rfl rfl rfl rfl (fun w9 => R.fld rfl) ?_
        refine SW.read rfl rfl rfl rfl (fun w9 F9 S9 s => R.ldB (v := .pointer (some ⟨m, 0, none⟩)) rfl (s.cel (by repeat (first | exact SelB.blk | exact SelB.fz | apply SelB.there))) (by rfl)) ?_
        refine SW.pure rfl rfl rfl rfl (fun w9 => R.mv rfl) ?_
        refine SW.pure rfl rfl rfl rfl (fun w9 => R.mv rfl) ?_
        refine SW.pure rfl rfl rfl rfl (fun w9 => R.mv rfl) ?_
        refine SW.pure rfl rfl rfl rfl (fun w9 => R.mv rfl) ?_
        refine SW.pure rfl rfl rfl rfl (fun w9 => R.mv rfl) ?_
        refine SW.pure rfl rfl rfl rfl (fun w9 => R.buildN (l := [.int .i64 tx, .int .i64 nx]) rfl rfl) ?_
        refine SW.step rfl rfl rfl rfl (CS.call rfl go33 (begun_ok nx tx nx d) (by repeat (first | exact Sels.nil | apply Sels.cons | exact Sel.keep | exact Sel.here | apply Sel.there))) ?_
        rintro _ _ ⟨_, ⟨m2, rfl, rfl⟩, rfl⟩
        refine ⟨⟨.inr (fun w9 F9 S9 s => R.ldB (v := .pointer (some ⟨m, 0, none⟩)) rfl (s.cel (by repeat (first | exact SelB.blk | exact SelB.fz | apply SelB.there))) (by rfl)), trivial⟩, ?_⟩
        refine SW.n1 ?_
        refine SW.step rfl rfl rfl rfl (CS.call rfl go32 (lputX m L ux ⟨m2, tx, nx, [(nx, d)]⟩ (by have := hw.len; omega)) (by repeat (first | exact Sels.nil | apply Sels.cons | exact Sel.keep | exact Sel.here | apply Sel.there))) ?_
        rintro _ _ ⟨_, ⟨rfl, rfl⟩, rfl⟩
        refine ⟨⟨.inl (by decide +kernel), trivial⟩, ?_⟩
        refine SW.n1 ?_
        refine SW.nil ?_
        refine SN.imp (Imp.lnClose (L := L) (t := ux) (x := ⟨m2, tx, nx, [(nx, d)]⟩) (by repeat (first | exact Sel.keep | exact Sel.here | apply Sel.there)) (show Sel _ (lnR L ux) _ by rw [lnR_no (getT_none hw.srt hg)]; exact (by repeat (first | exact Sel.keep | exact Sel.here | apply Sel.there))) hw.srt) ?_
        refine SN.imp (Imp.weak (p := DkP L) (q := DkP (newL L ux m2 tx nx d)) (show Sel _ (dkS L) _ from (by repeat (first | exact Sel.keep | exact Sel.here | apply Sel.there))) (fun w h => dkS_put h (fun e he => by rw [List.mem_singleton.1 he]; obtain ⟨t9, h9⟩ := at_was hr d rfl; exact dkS_one h h9))) ?_
        refine SN.seq ?_
        refine SG.seq ?_
        refine SG.region ?_
        refine SL.val rfl rfl (fun w9 F9 S9 s => R.mv rfl) ?_
        refine SL.val rfl rfl (fun w9 F9 S9 s => R.mv rfl) ?_
        refine SL.val rfl rfl (fun w9 F9 S9 s => R.mv rfl) ?_
        refine SL.val rfl rfl (fun w9 F9 S9 s => R.buildN (l := [.int .i64 ux, .int .i64 nx]) rfl rfl) ?_
        refine SL.val rfl rfl (fun w9 F9 S9 s => R.nilChk rfl) ?_
        refine SL.val rfl rfl (fun w9 F9 S9 s => R.fld rfl) ?_
        refine SL.step0 rfl (CS.stN (k := 1) (vs := [.int .i64 ux, .int .i64 nx]) (cs' := [.pointer (some ⟨m, 0, none⟩), .int .i64 ux, .int .i64 nx]) rfl rfl (show Sel _ (blk p _ _) _ from (by repeat (first | exact Sel.keep | exact Sel.here | apply Sel.there))) rfl (by show 1 + 2 ≤ 3; decide) (by intro u hu; simp only [List.mem_cons, List.not_mem_nil, or_false] at hu; rcases hu with rfl | rfl <;> rfl) rfl) ?_
        rintro _ _ rfl
        refine SL.nil ?_
        refine SN.seq ?_
        refine SG.seq ?_
        refine SG.region ?_
        refine SL.val rfl rfl (fun w9 F9 S9 s => R.as rfl) ?_
        refine SL.nil ?_
        refine SN.seq ?_
        exact SG.ret1 rfl rfl ((Imp.sels (by repeat (first | exact Sels.nil | apply Sels.cons | exact Sel.keep | exact Sel.here | apply Sel.there)))) (⟨(newL L ux m2 tx nx d), ux, nx, 0, rfl, .inr (.inr ⟨d, hr, hg, by omega, rfl, rfl, rfl, m2, rfl⟩), rfl⟩)
    · refine SG.region ?_
      refine SL.val rfl rfl (fun w9 F9 S9 s => R.mv rfl) ?_
      refine SL.val rfl rfl (fun w9 F9 S9 s => R.nilChk rfl) ?_
      refine SL.val rfl rfl (fun w9 F9 S9 s => R.fld rfl) ?_
      refine SL.val rfl rfl (fun w9 F9 S9 s => R.ldB (v := .pointer (some ⟨m, 0, none⟩)) rfl (s.cel (by repeat (first | exact SelB.blk | exact SelB.fz | apply SelB.there))) (by rfl)) ?_
      refine SL.val rfl rfl (fun w9 F9 S9 s => R.mv rfl) ?_
      refine SL.step rfl rfl (CS.callR rfl go35 (fun w9 F9 S9 s => (s.mp (show Sel _ (mp (κ := Int) 124 128 3 m (psL L)) _ from (by repeat (first | exact Sel.keep | exact Sel.here | apply Sel.there)))).elim fun S9 h9 => lgetS m L ux y S9 w9 h9 (by have := hw.len; omega) hg)) ?_
      rintro _ _ ⟨rfl, rfl⟩
      refine SL.val rfl rfl (fun w9 F9 S9 s => R.mv rfl) ?_
      refine SL.val rfl rfl (fun w9 F9 S9 s => R.ext rfl rfl) ?_
      refine SL.val rfl rfl (fun w9 F9 S9 s => R.ext rfl rfl) ?_
      refine SL.step rfl rfl (CS.alloc [.pointer none, .int .i64 0, .int .i64 0] rfl) ?_
      rintro _ _ ⟨b11, rfl, rfl⟩
      refine SL.step0 rfl (CS.stA (vs := lnC y) rfl rfl (by repeat (first | exact Sel.keep | exact Sel.here | apply Sel.there)) (by rfl) (by rfl) (lnC_one y)) ?_
      rintro _ _ rfl
      refine SL.val rfl rfl (fun w9 F9 S9 s => R.as rfl) ?_
      refine SL.nil ?_
      refine SN.seq ?_
      refine SG.seq ?_
      refine SG.region ?_
      refine SL.val rfl rfl (fun w9 F9 S9 s => R.mv rfl) ?_
      refine SL.val rfl rfl (fun w9 F9 S9 s => R.mv rfl) ?_
      refine SL.isT 34 rfl (rfl) ?_
      refine SL.pass rfl rfl ?_
      refine SL.pass rfl rfl ?_
      first | refine SL.val rfl rfl (fun w9 F9 S9 s => R.pickT rfl rfl) ?_ | refine SL.val rfl rfl (fun w9 F9 S9 s => R.pickF rfl rfl) ?_
      refine SL.nil ?_
      refine SN.seq ?_
      refine SG.condT rfl ?_
      refine SG.seq ?_
      refine SG.region ?_
      refine SL.val rfl rfl (fun w9 F9 S9 s => R.as rfl) ?_
      refine SL.nil ?_
      refine SN.seq ?_
      exact SG.ret1 rfl rfl ((Imp.sels (by repeat (first | exact Sels.nil | apply Sels.cons | exact Sel.keep | exact Sel.here | apply Sel.there)))) (⟨L, tt, nn, 52, rfl, .inr (.inl ⟨d, hr, .inl ⟨y, hg⟩, rfl, rfl, rfl, rfl⟩), rfl⟩)

end Go.Proofs.Ythdaelmjiaegfaa
/-
  The walks of package model.
-/
set_option linter.unusedVariables false
set_option linter.unusedSimpArgs false
set_option maxRecDepth 4000
namespace Go.Proofs.Ythdaelmjiaegfaa
open Go Brv Brv.Image Brv.Model
theorem psL_at {L : Lns} {k : Nat} {q : Pr Int} (h : (psL L)[k]? = some q) : ∃ e, L[k]? = some e ∧ q = (e.1, lnC e.2) := by
  unfold psL mapT at h
  rw [List.getElem?_map] at h
  cases ht : L[k]? with
  | none => rw [ht] at h; cases h
  | some e => rw [ht] at h; cases h; exact ⟨e, rfl, rfl⟩
theorem dsP_at {ds : List (Int × Dk)} {k : Nat} {q : Pr Int} (h : (dsP ds)[k]? = some q) : ∃ e, ds[k]? = some e ∧ q = (e.1, dkC e.2) := by
  unfold dsP mapT at h
  rw [List.getElem?_map] at h
  cases ht : ds[k]? with
  | none => rw [ht] at h; cases h
  | some e => rw [ht] at h; cases h; exact ⟨e, rfl, rfl⟩
/-- The pairs of a timeline, and of all. -/
def prsD (e : Int × Ln) : List (Int × Int) := e.2.ds.map fun d => (e.1, d.1)
def prsL (L : Lns) : List (Int × Int) := (L.map prsD).flatten
def baseL (L : Lns) (k : Nat) : Nat := (prsL (L.take k)).length
theorem baseL_succ {L : Lns} {k : Nat} {e : Int × Ln} (h : L[k]? = some e) : baseL L (k + 1) = baseL L k + e.2.ds.length := by
  unfold baseL prsL
  rw [List.take_add_one, h]
  simp [prsD]
theorem prs_at {L : Lns} {k j : Nat} {e : Int × Ln} {d : Int × Dk} (h : L[k]? = some e) (hd : e.2.ds[j]? = some d) : (prsL L)[baseL L k + j]? = some (e.1, d.1) := by
  have hs : prsL L = prsL (L.take k) ++ (prsD e ++ prsL (L.drop (k + 1))) := by
    conv => lhs; rw [← List.take_append_drop k L]
    obtain ⟨hk, rfl⟩ := List.getElem?_eq_some_iff.1 h
    rw [List.drop_eq_getElem_cons hk]
    unfold prsL
    rw [List.map_append, List.flatten_append, List.map_cons, List.flatten_cons]
  have hj := (List.getElem?_eq_some_iff.1 hd).1
  rw [hs, List.getElem?_append_right (by unfold baseL; omega), show baseL L k + j - (prsL (L.take k)).length = j by unfold baseL; omega, List.getElem?_append_left (by simpa [prsD] using hj)]
  simp [prsD, hd]
theorem baseL_all (L : Lns) : baseL L L.length = (prsL L).length := by unfold baseL; rw [List.take_length]
theorem Imp.lnBack {L : Lns} {H H1 H2 : List Asn} {t : Int} {x : Ln} (h : Sel H (mp (κ := Int) 135 132 1 x.m (dsP x.ds)) H1) (k : Sel H1 (lnR L t) H2) (hs : Srt L) (hg : getT L t = some x) : Imp H (lnA L :: H2) :=
  (Imp.spClose h k).trans (Imp.spPerm .here ((perm_has hs hg).symm.map (fun q : Int × Ln => mp (κ := Int) 135 132 1 q.2.m (dsP q.2.ds))))

theorem prs1_ok (p m : Nat) (L : Lns) (tt nn : Int) (kk : Nat) (y : Value) (b1 : Nat) (J : Nat → Asn) (hw : Wf L kk) (hk : kk ≤ 9000) (hy1 : y.oneCell' = true) (hY : ∀ k t n, (prsL L)[k]? = some (t, n) → YSpec Try.prog y [.int .i64 t, .int .i64 n] [J k] (fun b H' => b = true ∧ H' = [J (k + 1)])) : SpecS Try.prog 44 [y, .pointer (some ⟨b1, 0, none⟩)] [J 0, blk p [.pointer (some ⟨m, 0, none⟩), .int .i64 tt, .int .i64 nn] 85, mp (κ := Int) 124 128 3 m (psL L), lnA L, dkS L, blk b1 [.pointer (some ⟨p, 0, none⟩)] 24] (fun v H' => v = .tuple #[] ∧ H' = [J (prsL L).length, blk p [.pointer (some ⟨m, 0, none⟩), .int .i64 tt, .int .i64 nn] 85, mp (κ := Int) 124 128 3 m (psL L), lnA L, dkS L, blk b1 [.pointer (some ⟨p, 0, none⟩)] 24]) := by
  refine SpecS.enter Try.func44 rfl 25 rfl (Nat.le_of_ble_eq_true rfl) (fun o => ?_)
  have hLl := hw.len
  refine SG.seq ?_
  refine SG.region ?_
  refine SL.step rfl rfl (CS.box1 rfl hy1) ?_
  rintro _ _ ⟨b2, rfl, rfl⟩
  refine SL.nil ?_
  refine SN.seq ?_
  refine SG.seq ?_
  refine SG.seq ?_
  refine SG.region ?_
  refine SL.val rfl rfl (fun w9 F9 S9 s => R.ldB (v := .pointer (some ⟨p, 0, none⟩)) rfl (s.cel (by repeat (first | exact SelB.blk | exact SelB.fz | apply SelB.there))) (by rfl)) ?_
  refine SL.val rfl rfl (fun w9 F9 S9 s => R.eqNilP rfl rfl) ?_
  refine SL.nil ?_
  refine SN.seq ?_
  refine SG.condF rfl ?_
  refine SG.skip ?_
  refine SN.seq ?_
  refine SG.seq ?_
  refine SG.region ?_
  refine SL.val rfl rfl (fun w9 F9 S9 s => R.ldB (v := .pointer (some ⟨p, 0, none⟩)) rfl (s.cel (by repeat (first | exact SelB.blk | exact SelB.fz | apply SelB.there))) (by rfl)) ?_
  refine SL.val rfl rfl (fun w9 F9 S9 s => R.nilChk rfl) ?_
  refine SL.val rfl rfl (fun w9 F9 S9 s => R.fld rfl) ?_
  refine SL.val rfl rfl (fun w9 F9 S9 s => R.ldB (v := .pointer (some ⟨m, 0, none⟩)) rfl (s.cel (by repeat (first | exact SelB.blk | exact SelB.fz | apply SelB.there))) (by rfl)) ?_
  refine SL.step rfl rfl (CS.call rfl go39 (oallModellineS m (psL L) (by rw [psL_len]; omega)) (by repeat (first | exact Sels.nil | apply Sels.cons | exact Sel.keep | exact Sel.here | apply Sel.there))) ?_
  rintro _ _ ⟨_, ⟨lb, rfl, rfl⟩, rfl⟩
  refine SL.n2 ?_
  refine SL.nil ?_
  refine SN.seq ?_
  refine SG.block ?_
  refine SG.rangeL rfl rfl go74 (itModelline_run lb (psL L)) (X := Unit) (Y := Unit) (fun k _ => [J (baseL L k), blk p [.pointer (some ⟨m, 0, none⟩), .int .i64 tt, .int .i64 nn] 85, mp (κ := Int) 124 128 3 m (psL L), lnA L, dkS L, blk b1 [.pointer (some ⟨p, 0, none⟩)] 24, blk b2 [y] 74]) (fun k _ => True) (fun c k _ => []) (fun c k _ => False) (()) ((Imp.sels (by repeat (first | exact Sels.nil | apply Sels.cons | exact Sel.keep | exact Sel.here | apply Sel.there)))) (trivial) ?_ ?_ ?_
  · rintro l Rl k _ vs p hk _ ⟨⟨q, hq, rfl⟩, rfl⟩
    obtain ⟨e, he, rfl⟩ := psL_at hq
    have hel := (List.getElem?_eq_some_iff.1 he).1
    have hge := getT_at hw.srt he
    have hdl := ds_len hw hge
    refine ⟨rfl, ?_⟩
    intro o8
    refine SG.seq ?_
    refine SG.region ?_
    refine SL.step rfl rfl (CS.alloc [.int .i64 0] rfl) ?_
    rintro _ _ ⟨b3, rfl, rfl⟩
    refine SL.step0 rfl (CS.st rfl rfl (by repeat (first | exact Sel.keep | exact Sel.here | apply Sel.there)) (by repeat (first | exact SetAt.here | apply SetAt.there)) rfl) ?_
    rintro _ _ rfl
    refine SL.nil ?_
    refine SN.seq ?_
    refine SG.region ?_
    refine SL.step rfl rfl (CS.alloc [.pointer none, .int .i64 0, .int .i64 0] rfl) ?_
    rintro _ _ ⟨b4, rfl, rfl⟩
    refine SL.step0 rfl (CS.stA (vs := lnC e.2) rfl rfl (by repeat (first | exact Sel.keep | exact Sel.here | apply Sel.there)) (by rfl) (by rfl) (lnC_one e.2)) ?_
    rintro _ _ rfl
    refine SL.nil ?_
    refine SN.roundL (fun o9 => ?_)
    refine SG.block ?_
    refine SG.seq ?_
    refine SG.region ?_
    refine SL.val rfl rfl (fun w9 F9 S9 s => R.fld rfl) ?_
    refine SL.val rfl rfl (fun w9 F9 S9 s => R.ldB (v := .pointer (some ⟨e.2.m, 0, none⟩)) rfl (s.cel (by repeat (first | exact SelB.blk | exact SelB.fz | apply SelB.there))) (by rfl)) ?_
    refine SL.imp (Imp.lnOpen (by repeat (first | exact Sel.keep | exact Sel.here | apply Sel.there)) hw.srt hge) ?_
    refine SL.step rfl rfl (CS.call rfl go45 (oallImageDiskS e.2.m (dsP e.2.ds) (by rw [dsP_len]; omega)) (by repeat (first | exact Sels.nil | apply Sels.cons | exact Sel.keep | exact Sel.here | apply Sel.there))) ?_
    rintro _ _ ⟨_, ⟨lb2, rfl, rfl⟩, rfl⟩
    refine SL.n2 ?_
    refine SL.nil ?_
    refine SN.imp (Imp.lnBack (by repeat (first | exact Sel.keep | exact Sel.here | apply Sel.there)) (by repeat (first | exact Sel.keep | exact Sel.here | apply Sel.there)) hw.srt hge) ?_
    refine SN.seq ?_
    refine SG.block ?_
    obtain ⟨k0, rfl⟩ : ∃ k0, k0 = k := ⟨_, rfl⟩
    refine SG.rangeI (by repeat (first | exact Sel.keep | exact Sel.here | apply Sel.there)) rfl rfl go76 (itImageDisk_run lb2 (dsP e.2.ds)) (X := Unit) (Y := Unit) (fun k _ => [J (baseL L k0 + k), lp l Rl, blk b3 [.int .i64 e.1] 3, blk p [.pointer (some ⟨m, 0, none⟩), .int .i64 tt, .int .i64 nn] 85, mp (κ := Int) 124 128 3 m (psL L), lnA L, dkS L, blk b1 [.pointer (some ⟨p, 0, none⟩)] 24, blk b2 [y] 74]) (fun k _ => True) (fun c k _ => []) (fun c k _ => False) (()) ((Imp.sels (by repeat (first | exact Sels.nil | apply Sels.cons | exact Sel.keep | exact Sel.here | apply Sel.there)))) (trivial) ?_ ?_ ?_
    · rintro l k _ vs p hk _ ⟨⟨q, hq2, rfl⟩, rfl⟩
      obtain ⟨d, hd, rfl⟩ := dsP_at hq2
      refine ⟨rfl, ?_⟩
      intro o8
      refine SG.region ?_
      refine SL.val rfl rfl (fun w9 F9 S9 s => R.as rfl) ?_
      refine SL.nil ?_
      refine SN.roundA (fun o9 => ?_)
      refine SG.block ?_
      refine SG.seq ?_
      refine SG.region ?_
      refine SL.val rfl rfl (fun w9 F9 S9 s => R.ldB (v := y) rfl (s.cel (by repeat (first | exact SelB.blk | exact SelB.fz | apply SelB.there))) (by rfl)) ?_
      refine SL.val rfl rfl (fun w9 F9 S9 s => R.ldB (v := .int .i64 e.1) rfl (s.cel (by repeat (first | exact SelB.blk | exact SelB.fz | apply SelB.there))) (by rfl)) ?_
      refine SL.val rfl rfl (fun w9 F9 S9 s => R.mv rfl) ?_
      refine SL.step rfl rfl (CS.yield rfl rfl (hY _ _ _ (prs_at he hd)) (by repeat (first | exact Sels.nil | apply Sels.cons | exact Sel.keep | exact Sel.here | apply Sel.there))) ?_
      rintro _ _ ⟨_, ⟨bq, rfl, rfl, rfl⟩, rfl⟩
      refine SL.n1 ?_
      refine SL.val rfl rfl (fun w9 F9 S9 s => R.not rfl) ?_
      refine SL.nil ?_
      refine SN.seq ?_
      refine SG.condF rfl ?_
      refine SG.skip ?_
      refine SN.block ?_
      exact SN.next () (Imp.sels (by repeat (first | exact Sels.nil | apply Sels.cons | exact Sel.keep | exact Sel.here | apply Sel.there))) trivial
    · rintro _ _
      rw [dsP_len]
      refine SN.block ?_
      refine SN.block ?_
      exact SN.next () (show Imp _ _ by rw [baseL_succ he]; exact (Imp.sels (by repeat (first | exact Sels.nil | apply Sels.cons | exact Sel.keep | exact Sel.here | apply Sel.there)))) trivial
    · rintro k c _ hk ⟨⟩
  · rintro d2 _ _
    rw [psL_len, baseL_all]
    refine SN.block ?_
    exact SN.end0M rfl (by repeat (first | exact Dfrs.nil | apply Dfrs.cons | exact Sel.here | apply Sel.there)) ((Imp.sels (by repeat (first | exact Sels.nil | apply Sels.cons | exact Sel.keep | exact Sel.here | apply Sel.there)))) (⟨rfl, rfl⟩)
  · rintro d k c _ hk ⟨⟩

end Go.Proofs.Ythdaelmjiaegfaa
/-
  The walks of package model.
-/
set_option linter.unusedVariables false
set_option linter.unusedSimpArgs false
set_option maxRecDepth 4000
namespace Go.Proofs.Ythdaelmjiaegfaa
open Go Brv Brv.Image Brv.Model
def Lf1 (m1 d b5 : Nat) : Lns := [(1, ⟨m1, 0, 0, [(0, ⟨d, List.replicate (64 * 2) 0⟩), (1, ⟨b5, List.replicate (64 * 2) 0⟩)]⟩)]
def Lf2 (m1 m2 d b5 : Nat) : Lns := [(1, ⟨m1, 0, 0, [(0, ⟨d, List.replicate (64 * 2) 0⟩), (1, ⟨b5, List.replicate (64 * 2) 0⟩)]⟩), (2, ⟨m2, 1, 0, [(0, ⟨d, List.replicate (64 * 2) 0⟩)]⟩)]
theorem Lf1_eq (m1 d b5 : Nat) : Lf1 m1 d b5 = addD (newW m1 d 2) 1 ⟨m1, 0, 0, [(0, ⟨d, List.replicate (64 * 2) 0⟩)]⟩ 1 ⟨b5, List.replicate (64 * 2) 0⟩ := rfl
theorem Lf1_wf (m1 d b5 : Nat) : Wf (Lf1 m1 d b5) 1 := by
  rw [Lf1_eq]
  exact (newW_wf m1 d 2).add rfl ⟨by decide, by decide⟩ _
theorem Lf2_wf (m1 m2 d b5 : Nat) : Wf (Lf2 m1 m2 d b5) 2 := by
  rw [show Lf2 m1 m2 d b5 = newL (Lf1 m1 d b5) 2 m2 1 0 ⟨d, List.replicate (64 * 2) 0⟩ from rfl]
  exact (Lf1_wf m1 d b5).new (x := ⟨m1, 0, 0, _⟩) rfl (by decide) ⟨by decide, by decide⟩ rfl m2 _
theorem first_com {m1 d : Nat} {L' : Lns} {n' a e : Int} (h : ComR (newW m1 d 2) 1 0 ⟨d, List.replicate (64 * 2) 0⟩ [] L' n' a e) : e = 0 ∧ a = 1 ∧ n' = 1 ∧ ∃ b5, L' = Lf1 m1 d b5 := by
  rcases h with ⟨h, _⟩ | ⟨_, ⟨q, hq⟩, _⟩ | ⟨_, _, h1, h2, h3, x, b, hx, hL⟩
  · exact absurd (show (withF (List.replicate (64 * 2) 0) []).2 = 0 from rfl) h
  · exact absurd (show wasV (newW m1 d 2) 1 (0 + 1) = none from rfl) (by rw [hq]; simp)
  · have hx2 : getT (newW m1 d 2) 1 = some ⟨m1, 0, 0, [(0, ⟨d, List.replicate (64 * 2) 0⟩)]⟩ := rfl
    rw [hx2] at hx
    cases hx
    exact ⟨h1, h2, h3, b, hL⟩
theorem first_bra {m1 d b5 : Nat} {L' : Lns} {t' n' e : Int} (h : BraR (Lf1 m1 d b5) 1 1 1 0 2 L' t' n' e) : e = 0 ∧ t' = 2 ∧ n' = 0 ∧ ∃ m2, L' = Lf2 m1 m2 d b5 := by
  have hh : AtR (wasV (Lf1 m1 d b5)) (parV (Lf1 m1 d b5)) 0 1 (some ⟨d, List.replicate (64 * 2) 0⟩) := .hit rfl
  rcases h with ⟨h, _⟩ | ⟨q, hq, h, _⟩ | ⟨q, hq, _, _, h1, h2, h3, m2, hL⟩
  · exact absurd (hh.one h) (by simp)
  · rcases h with ⟨x, hx⟩ | h
    · exact absurd (show getT (Lf1 m1 d b5) 2 = none from rfl) (by rw [hx]; simp)
    · exact absurd h (by decide)
  · cases hh.one hq
    exact ⟨h1, h2, h3, m2, hL⟩
theorem first_bra2 {m1 m2 d b5 : Nat} {L' : Lns} {t' n' e : Int} (h : BraR (Lf2 m1 m2 d b5) 2 0 1 5 3 L' t' n' e) : e = 50 ∧ t' = 2 ∧ n' = 0 ∧ L' = Lf2 m1 m2 d b5 := by
  have hh : AtR (wasV (Lf2 m1 m2 d b5)) (parV (Lf2 m1 m2 d b5)) 5 1 none := .root rfl rfl
  rcases h with ⟨_, h1, h2, h3, h4⟩ | ⟨q, hq, _⟩ | ⟨q, hq, _⟩
  · exact ⟨h1, h3, h4, h2⟩
  · exact absurd (hh.one hq) (by simp)
  · exact absurd (hh.one hq) (by simp)

theorem wprs_ok (p : Nat) : SpecS Try.prog 27 [.pointer (some ⟨p, 0, none⟩)] [] (fun v H' => ∃ b1, v = .func (.func 44) #[] #[.pointer (some ⟨b1, 0, none⟩)] ∧ H' = [blk b1 [.pointer (some ⟨p, 0, none⟩)] 24]) := by
  refine SpecS.enter Try.func27 rfl 4 rfl (Nat.le_of_ble_eq_true rfl) (fun o => ?_)
  refine SG.seq ?_
  refine SG.region ?_
  refine SL.step rfl rfl (CS.box1 rfl rfl) ?_
  rintro _ _ ⟨b1, rfl, rfl⟩
  refine SL.val rfl rfl (fun w9 F9 S9 s => R.as rfl) ?_
  refine SL.nil ?_
  refine SN.seq ?_
  refine SG.seq ?_
  refine SG.region ?_
  refine SL.val rfl rfl (fun w9 F9 S9 s => R.mkFunc rfl rfl) ?_
  refine SL.val rfl rfl (fun w9 F9 S9 s => R.as rfl) ?_
  refine SL.nil ?_
  refine SN.seq ?_
  exact SG.ret1 rfl rfl ((Imp.sels (by repeat (first | exact Sels.nil | apply Sels.cons | exact Sel.keep | exact Sel.here | apply Sel.there)))) (⟨b1, rfl, rfl⟩)

theorem cnt27_ok (b : Nat) (k : Nat) (tx nx : Int) (hk : k ≤ 1000000) : SpecS Try.prog 29 [.int .i64 tx, .int .i64 nx, .pointer (some ⟨b, 0, none⟩)] [blk b [.int .i64 (k : Int)] 3] (fun v H' => ∃ b', v = .bool b' ∧ b' = true ∧ H' = [blk b [.int .i64 ((k + 1 : Nat) : Int)] 3]) := by
  refine SpecS.enter Try.func29 rfl 8 rfl (Nat.le_of_ble_eq_true rfl) (fun o => ?_)
  refine SG.seq ?_
  refine SG.region ?_
  refine SL.val rfl rfl (fun w9 F9 S9 s => R.as rfl) ?_
  refine SL.nil ?_
  refine SN.seq ?_
  refine SG.seq ?_
  refine SG.region ?_
  refine SL.val rfl rfl (fun w9 F9 S9 s => R.ldB (v := .int .i64 (k : Int)) rfl (s.cel (by repeat (first | exact SelB.blk | exact SelB.fz | apply SelB.there))) (by rfl)) ?_
  refine SL.val rfl rfl (fun w9 F9 S9 s => R.add rfl rfl (by omega)) ?_
  refine SL.step0 rfl (CS.st rfl rfl (by repeat (first | exact Sel.keep | exact Sel.here | apply Sel.there)) (by repeat (first | exact SetAt.here | apply SetAt.there)) rfl) ?_
  rintro _ _ rfl
  refine SL.nil ?_
  refine SN.seq ?_
  refine SG.seq ?_
  refine SG.region ?_
  refine SL.val rfl rfl (fun w9 F9 S9 s => R.as rfl) ?_
  refine SL.nil ?_
  refine SN.seq ?_
  exact SG.ret1 rfl rfl ((Imp.sels (by repeat (first | exact Sels.nil | apply Sels.cons | exact Sel.keep | exact Sel.here | apply Sel.there)))) (⟨true, rfl, rfl, rfl⟩)

set_option maxHeartbeats 2000000 in
theorem first27_ok  : SpecS Try.prog 6 [] [] (fun v H' => v = .bool true ∧ H' = []) := by
  refine SpecS.enter Try.func6 rfl 115 rfl (Nat.le_of_ble_eq_true rfl) (fun o => ?_)
  refine SG.seq ?_
  refine SG.region ?_
  refine SL.val rfl rfl (fun w9 F9 S9 s => R.as rfl) ?_
  refine SL.nil ?_
  refine SN.seq ?_
  refine SG.seq ?_
  refine SG.region ?_
  refine SL.step rfl rfl (CS.call rfl go7 (wnew_ok 2 (by decide) (by decide)) (by repeat (first | exact Sels.nil | apply Sels.cons | exact Sel.keep | exact Sel.here | apply Sel.there))) ?_
  rintro _ _ ⟨_, ⟨p, m, m1, d, rfl, rfl⟩, rfl⟩
  refine SL.n4 ?_
  refine SL.val rfl rfl (fun w9 F9 S9 s => R.mv rfl) ?_
  refine SL.val rfl rfl (fun w9 F9 S9 s => R.ext rfl rfl) ?_
  refine SL.val rfl rfl (fun w9 F9 S9 s => R.ext rfl rfl) ?_
  refine SL.val rfl rfl (fun w9 F9 S9 s => R.as rfl) ?_
  refine SL.val rfl rfl (fun w9 F9 S9 s => R.as rfl) ?_
  refine SL.nil ?_
  refine SN.seq ?_
  refine SG.seq ?_
  refine SG.region ?_
  refine SL.val rfl rfl (fun w9 F9 S9 s => R.mv rfl) ?_
  refine SL.imp (Imp.pure (p := fun w => WsP w none 0 []) (fun w => ⟨⟨fun j v hj => (by cases hj), rfl, by simp⟩, by simp⟩)) ?_
  refine SL.step rfl rfl (CS.call rfl go8 (wcom_ok p m (newW m1 d 2) 1 0 0 ⟨d, List.replicate (64 * 2) 0⟩ none 0 0 [] (newW_wf m1 d 2) (by decide) (newW_was m1 d 2) (by decide)) (by repeat (first | exact Sels.nil | apply Sels.cons | exact Sel.keep | exact Sel.here | apply Sel.there))) ?_
  rintro _ _ ⟨_, ⟨L1, n1, a1, e1, rfl, hC, rfl, rfl⟩, rfl⟩
  refine SL.n4 ?_
  obtain ⟨rfl, rfl, rfl, b5, rfl⟩ := first_com hC
  refine SL.val rfl rfl (fun w9 F9 S9 s => R.mv rfl) ?_
  refine SL.val rfl rfl (fun w9 F9 S9 s => R.ext rfl rfl) ?_
  refine SL.val rfl rfl (fun w9 F9 S9 s => R.ext rfl rfl) ?_
  refine SL.val rfl rfl (fun w9 F9 S9 s => R.as rfl) ?_
  refine SL.val rfl rfl (fun w9 F9 S9 s => R.as rfl) ?_
  refine SL.nil ?_
  refine SN.seq ?_
  refine SG.seq ?_
  refine SG.region ?_
  refine SL.val rfl rfl (fun w9 F9 S9 s => R.mv rfl) ?_
  refine SL.step rfl rfl (CS.call rfl go9 (wbra_ok p m (Lf1 m1 d b5) 1 1 1 1 0 2 (Lf1_wf m1 d b5) (by decide)) (by repeat (first | exact Sels.nil | apply Sels.cons | exact Sel.keep | exact Sel.here | apply Sel.there))) ?_
  rintro _ _ ⟨_, ⟨L2, t2, n2, e2, rfl, hB, rfl, rfl⟩, rfl⟩
  refine SL.n4 ?_
  obtain ⟨rfl, rfl, rfl, m2, rfl⟩ := first_bra hB
  refine SL.val rfl rfl (fun w9 F9 S9 s => R.as rfl) ?_
  refine SL.nil ?_
  refine SN.seq ?_
  refine SG.seq ?_
  refine SG.region ?_
  refine SL.val rfl rfl (fun w9 F9 S9 s => R.mv rfl) ?_
  have hw2 := Lf2_wf m1 m2 d b5
  refine SL.step rfl rfl (CS.call rfl go11 (wnow_ok p m (Lf2 m1 m2 d b5) 2 0 2) (by repeat (first | exact Sels.nil | apply Sels.cons | exact Sel.keep | exact Sel.here | apply Sel.there))) ?_
  rintro _ _ ⟨_, ⟨rfl, rfl⟩, rfl⟩
  refine SL.n1 ?_
  refine SL.val rfl rfl (fun w9 F9 S9 s => R.mv rfl) ?_
  refine SL.val rfl rfl (fun w9 F9 S9 s => R.ext rfl rfl) ?_
  refine SL.val rfl rfl (fun w9 F9 S9 s => R.ext rfl rfl) ?_
  refine SL.val rfl rfl (fun w9 F9 S9 s => R.as rfl) ?_
  refine SL.val rfl rfl (fun w9 F9 S9 s => R.as rfl) ?_
  refine SL.nil ?_
  refine SN.seq ?_
  refine SG.seq ?_
  refine SG.region ?_
  refine SL.val rfl rfl (fun w9 F9 S9 s => R.mv rfl) ?_
  refine SL.step rfl rfl (CS.call rfl go22 (wparE p m (Lf2 m1 m2 d b5) 2 0 2 2 hw2 (by decide) (some (1, 0)) rfl) (by repeat (first | exact Sels.nil | apply Sels.cons | exact Sel.keep | exact Sel.here | apply Sel.there))) ?_
  rintro _ _ ⟨_, ⟨rfl, rfl⟩, rfl⟩
  refine SL.n4 ?_
  refine SL.val rfl rfl (fun w9 F9 S9 s => R.mv rfl) ?_
  refine SL.val rfl rfl (fun w9 F9 S9 s => R.ext rfl rfl) ?_
  refine SL.val rfl rfl (fun w9 F9 S9 s => R.ext rfl rfl) ?_
  refine SL.val rfl rfl (fun w9 F9 S9 s => R.ext rfl rfl) ?_
  refine SL.val rfl rfl (fun w9 F9 S9 s => R.as rfl) ?_
  refine SL.val rfl rfl (fun w9 F9 S9 s => R.as rfl) ?_
  refine SL.val rfl rfl (fun w9 F9 S9 s => R.as rfl) ?_
  refine SL.nil ?_
  refine SN.seq ?_
  refine SG.seq ?_
  refine SG.region ?_
  refine SL.val rfl rfl (fun w9 F9 S9 s => R.mv rfl) ?_
  refine SL.step rfl rfl (CS.call rfl go14 (watE p m (Lf2 m1 m2 d b5) 2 0 2 2 0 hw2 (by decide) (some ⟨d, List.replicate (64 * 2) 0⟩) (.hit rfl)) (by repeat (first | exact Sels.nil | apply Sels.cons | exact Sel.keep | exact Sel.here | apply Sel.there))) ?_
  rintro _ _ ⟨_, ⟨rfl, rfl⟩, rfl⟩
  refine SL.n4 ?_
  refine SL.val rfl rfl (fun w9 F9 S9 s => R.mv rfl) ?_
  refine SL.val rfl rfl (fun w9 F9 S9 s => R.ext rfl rfl) ?_
  refine SL.val rfl rfl (fun w9 F9 S9 s => R.ext rfl rfl) ?_
  refine SL.val rfl rfl (fun w9 F9 S9 s => R.as rfl) ?_
  refine SL.val rfl rfl (fun w9 F9 S9 s => R.as rfl) ?_
  refine SL.nil ?_
  refine SN.seq ?_
  refine SG.seq ?_
  refine SG.region ?_
  refine SL.val rfl rfl (fun w9 F9 S9 s => R.mv rfl) ?_
  refine SL.step rfl rfl (CS.call rfl go14 (watE p m (Lf2 m1 m2 d b5) 2 0 2 2 1 hw2 (by decide) none (.late (p := 1) (a := 0) rfl rfl (by decide))) (by repeat (first | exact Sels.nil | apply Sels.cons | exact Sel.keep | exact Sel.here | apply Sel.there))) ?_
  rintro _ _ ⟨_, ⟨rfl, rfl⟩, rfl⟩
  refine SL.n4 ?_
  refine SL.val rfl rfl (fun w9 F9 S9 s => R.mv rfl) ?_
  refine SL.val rfl rfl (fun w9 F9 S9 s => R.ext rfl rfl) ?_
  refine SL.val rfl rfl (fun w9 F9 S9 s => R.ext rfl rfl) ?_
  refine SL.val rfl rfl (fun w9 F9 S9 s => R.as rfl) ?_
  refine SL.val rfl rfl (fun w9 F9 S9 s => R.as rfl) ?_
  refine SL.nil ?_
  refine SN.seq ?_
  refine SG.seq ?_
  refine SG.region ?_
  refine SL.step rfl rfl (CS.alloc [.int .i64 0] rfl) ?_
  rintro _ _ ⟨b15, rfl, rfl⟩
  refine SL.step0 rfl (CS.st rfl rfl (by repeat (first | exact Sel.keep | exact Sel.here | apply Sel.there)) (by repeat (first | exact SetAt.here | apply SetAt.there)) rfl) ?_
  rintro _ _ rfl
  refine SL.nil ?_
  refine SN.seq ?_
  refine SG.seq ?_
  refine SG.seq ?_
  refine SG.region ?_
  refine SL.val rfl rfl (fun w9 F9 S9 s => R.mv rfl) ?_
  refine SL.step rfl rfl (CS.call rfl go27 (wprs_ok p) (by repeat (first | exact Sels.nil | apply Sels.cons | exact Sel.keep | exact Sel.here | apply Sel.there))) ?_
  rintro _ _ ⟨_, ⟨b1, rfl, rfl⟩, rfl⟩
  refine SL.n1 ?_
  refine SL.val rfl rfl (fun w9 F9 S9 s => R.as rfl) ?_
  refine SL.nil ?_
  refine SN.seq ?_
  refine SG.seq ?_
  refine SG.region ?_
  refine SL.val rfl rfl (fun w9 F9 S9 s => R.mv rfl) ?_
  refine SL.val rfl rfl (fun w9 F9 S9 s => R.neNilF Try.underlying71 rfl rfl) ?_
  refine SL.nil ?_
  refine SN.seq ?_
  refine SG.condT rfl ?_
  refine SG.region ?_
  refine SL.val rfl rfl (fun w9 F9 S9 s => R.mv rfl) ?_
  refine SL.val rfl rfl (fun w9 F9 S9 s => R.mkFunc rfl rfl) ?_
  refine SL.step rfl rfl (CS.callV rfl rfl rfl go44 (prs1_ok p m (Lf2 m1 m2 d b5) 2 0 2 (.func (.func 29) #[] #[.pointer (some ⟨b15, 0, none⟩)]) b1 (fun k => blk b15 [.int .i64 (k : Int)] 3) hw2 (by decide) rfl (fun k t n hk => YSpec.ofFn (vs' := [.int .i64 t, .int .i64 n, .pointer (some ⟨b15, 0, none⟩)]) go29 rfl (cnt27_ok b15 k t n (by have := (List.getElem?_eq_some_iff.1 hk).1; have h3 : (prsL (Lf2 m1 m2 d b5)).length = 3 := rfl; omega)))) (by repeat (first | exact Sels.nil | apply Sels.cons | exact Sel.keep | exact Sel.here | apply Sel.there))) ?_
  rintro _ _ ⟨_, ⟨rfl, rfl, rfl⟩, rfl⟩
  refine SL.n6 ?_
  refine SL.nil ?_
  refine SN.seq ?_
  refine SG.seq ?_
  refine SG.region ?_
  refine SL.val rfl rfl (fun w9 F9 S9 s => R.mv rfl) ?_
  refine SL.val rfl rfl (fun w9 F9 S9 s => R.eqI rfl rfl) ?_
  refine SL.val rfl rfl (fun w9 F9 S9 s => R.mv rfl) ?_
  refine SL.isT 58 rfl (rfl) ?_
  refine SL.val rfl rfl (fun w9 F9 S9 s => R.mv rfl) ?_
  refine SL.val rfl rfl (fun w9 F9 S9 s => R.eqI rfl rfl) ?_
  first | refine SL.val rfl rfl (fun w9 F9 S9 s => R.pickT rfl rfl) ?_ | refine SL.val rfl rfl (fun w9 F9 S9 s => R.pickF rfl rfl) ?_
  refine SL.val rfl rfl (fun w9 F9 S9 s => R.mv rfl) ?_
  refine SL.isT 62 rfl (rfl) ?_
  refine SL.val rfl rfl (fun w9 F9 S9 s => R.mv rfl) ?_
  refine SL.val rfl rfl (fun w9 F9 S9 s => R.eqI rfl rfl) ?_
  first | refine SL.val rfl rfl (fun w9 F9 S9 s => R.pickT rfl rfl) ?_ | refine SL.val rfl rfl (fun w9 F9 S9 s => R.pickF rfl rfl) ?_
  refine SL.val rfl rfl (fun w9 F9 S9 s => R.mv rfl) ?_
  refine SL.isT 66 rfl (rfl) ?_
  refine SL.val rfl rfl (fun w9 F9 S9 s => R.mv rfl) ?_
  refine SL.val rfl rfl (fun w9 F9 S9 s => R.eqI rfl rfl) ?_
  first | refine SL.val rfl rfl (fun w9 F9 S9 s => R.pickT rfl rfl) ?_ | refine SL.val rfl rfl (fun w9 F9 S9 s => R.pickF rfl rfl) ?_
  refine SL.val rfl rfl (fun w9 F9 S9 s => R.mv rfl) ?_
  refine SL.isT 70 rfl (rfl) ?_
  refine SL.val rfl rfl (fun w9 F9 S9 s => R.mv rfl) ?_
  refine SL.val rfl rfl (fun w9 F9 S9 s => R.eqI rfl rfl) ?_
  first | refine SL.val rfl rfl (fun w9 F9 S9 s => R.pickT rfl rfl) ?_ | refine SL.val rfl rfl (fun w9 F9 S9 s => R.pickF rfl rfl) ?_
  refine SL.val rfl rfl (fun w9 F9 S9 s => R.mv rfl) ?_
  refine SL.isT 74 rfl (rfl) ?_
  refine SL.val rfl rfl (fun w9 F9 S9 s => R.mv rfl) ?_
  refine SL.val rfl rfl (fun w9 F9 S9 s => R.eqI rfl rfl) ?_
  first | refine SL.val rfl rfl (fun w9 F9 S9 s => R.pickT rfl rfl) ?_ | refine SL.val rfl rfl (fun w9 F9 S9 s => R.pickF rfl rfl) ?_
  refine SL.val rfl rfl (fun w9 F9 S9 s => R.mv rfl) ?_
  refine SL.isT 78 rfl (rfl) ?_
  refine SL.val rfl rfl (fun w9 F9 S9 s => R.mv rfl) ?_
  refine SL.val rfl rfl (fun w9 F9 S9 s => R.eqI rfl rfl) ?_
  first | refine SL.val rfl rfl (fun w9 F9 S9 s => R.pickT rfl rfl) ?_ | refine SL.val rfl rfl (fun w9 F9 S9 s => R.pickF rfl rfl) ?_
  refine SL.val rfl rfl (fun w9 F9 S9 s => R.mv rfl) ?_
  refine SL.isT 82 rfl (rfl) ?_
  refine SL.val rfl rfl (fun w9 F9 S9 s => R.mv rfl) ?_
  refine SL.val rfl rfl (fun w9 F9 S9 s => R.eqI rfl rfl) ?_
  first | refine SL.val rfl rfl (fun w9 F9 S9 s => R.pickT rfl rfl) ?_ | refine SL.val rfl rfl (fun w9 F9 S9 s => R.pickF rfl rfl) ?_
  refine SL.val rfl rfl (fun w9 F9 S9 s => R.mv rfl) ?_
  refine SL.isT 86 rfl (rfl) ?_
  refine SL.val rfl rfl (fun w9 F9 S9 s => R.mv rfl) ?_
  first | refine SL.val rfl rfl (fun w9 F9 S9 s => R.pickT rfl rfl) ?_ | refine SL.val rfl rfl (fun w9 F9 S9 s => R.pickF rfl rfl) ?_
  refine SL.val rfl rfl (fun w9 F9 S9 s => R.mv rfl) ?_
  refine SL.isT 89 rfl (rfl) ?_
  refine SL.val rfl rfl (fun w9 F9 S9 s => R.mv rfl) ?_
  first | refine SL.val rfl rfl (fun w9 F9 S9 s => R.pickT rfl rfl) ?_ | refine SL.val rfl rfl (fun w9 F9 S9 s => R.pickF rfl rfl) ?_
  refine SL.val rfl rfl (fun w9 F9 S9 s => R.mv rfl) ?_
  refine SL.isT 92 rfl (rfl) ?_
  refine SL.val rfl rfl (fun w9 F9 S9 s => R.mv rfl) ?_
  refine SL.val rfl rfl (fun w9 F9 S9 s => R.not rfl) ?_
  first | refine SL.val rfl rfl (fun w9 F9 S9 s => R.pickT rfl rfl) ?_ | refine SL.val rfl rfl (fun w9 F9 S9 s => R.pickF rfl rfl) ?_
  refine SL.val rfl rfl (fun w9 F9 S9 s => R.mv rfl) ?_
  refine SL.isT 96 rfl (rfl) ?_
  refine SL.val rfl rfl (fun w9 F9 S9 s => R.ldB (v := .int .i64 3) rfl (s.cel (by repeat (first | exact SelB.blk | exact SelB.fz | apply SelB.there))) (by rfl)) ?_
  refine SL.val rfl rfl (fun w9 F9 S9 s => R.eqI rfl rfl) ?_
  first | refine SL.val rfl rfl (fun w9 F9 S9 s => R.pickT rfl rfl) ?_ | refine SL.val rfl rfl (fun w9 F9 S9 s => R.pickF rfl rfl) ?_
  refine SL.val rfl rfl (fun w9 F9 S9 s => R.mv rfl) ?_
  refine SL.isT 100 rfl (rfl) ?_
  refine SL.val rfl rfl (fun w9 F9 S9 s => R.mv rfl) ?_
  refine SL.step rfl rfl (CS.call rfl go9 (wbra_ok p m (Lf2 m1 m2 d b5) 2 0 2 1 5 3 hw2 (by decide)) (by repeat (first | exact Sels.nil | apply Sels.cons | exact Sel.keep | exact Sel.here | apply Sel.there))) ?_
  rintro _ _ ⟨_, ⟨L3, t3, n3, e3, rfl, hB3, rfl, rfl⟩, rfl⟩
  refine SL.n4 ?_
  obtain ⟨rfl, rfl, rfl, rfl⟩ := first_bra2 hB3
  refine SL.val rfl rfl (fun w9 F9 S9 s => R.eqI rfl rfl) ?_
  first | refine SL.val rfl rfl (fun w9 F9 S9 s => R.pickT rfl rfl) ?_ | refine SL.val rfl rfl (fun w9 F9 S9 s => R.pickF rfl rfl) ?_
  refine SL.val rfl rfl (fun w9 F9 S9 s => R.mv rfl) ?_
  refine SL.isT 105 rfl (rfl) ?_
  refine SL.val rfl rfl (fun w9 F9 S9 s => R.mv rfl) ?_
  refine SL.step rfl rfl (CS.call rfl go13 (wdisk_ok p m (Lf2 m1 m2 d b5) 2 0 2 ⟨d, List.replicate (64 * 2) 0⟩ hw2 (by decide) rfl) (by repeat (first | exact Sels.nil | apply Sels.cons | exact Sel.keep | exact Sel.here | apply Sel.there))) ?_
  rintro _ _ ⟨_, ⟨rfl, rfl⟩, rfl⟩
  refine SL.n4 ?_
  refine SL.val rfl rfl (fun w9 F9 S9 s => R.neNilP rfl rfl) ?_
  first | refine SL.val rfl rfl (fun w9 F9 S9 s => R.pickT rfl rfl) ?_ | refine SL.val rfl rfl (fun w9 F9 S9 s => R.pickF rfl rfl) ?_
  refine SL.val rfl rfl (fun w9 F9 S9 s => R.mv rfl) ?_
  refine SL.isT 110 rfl (rfl) ?_
  refine SL.val rfl rfl (fun w9 F9 S9 s => R.mv rfl) ?_
  refine SL.step rfl rfl (CS.call rfl go10 (wjmp_ok p m (Lf2 m1 m2 d b5) 2 0 2 1 1 hw2 (by decide)) (by repeat (first | exact Sels.nil | apply Sels.cons | exact Sel.keep | exact Sel.here | apply Sel.there))) ?_
  rintro _ _ ⟨_, ⟨rfl, rfl⟩, rfl⟩
  refine SL.n4 ?_
  refine SL.val rfl rfl (fun w9 F9 S9 s => R.eqI rfl rfl) ?_
  first | refine SL.val rfl rfl (fun w9 F9 S9 s => R.pickT rfl rfl) ?_ | refine SL.val rfl rfl (fun w9 F9 S9 s => R.pickF rfl rfl) ?_
  refine SL.val rfl rfl (fun w9 F9 S9 s => R.as rfl) ?_
  refine SL.nil ?_
  refine SN.seq ?_
  exact SG.ret1 rfl rfl ((Imp.sels (by repeat (first | exact Sels.nil | apply Sels.cons | exact Sel.keep | exact Sel.here | apply Sel.there)))) (⟨rfl, rfl⟩)

end Go.Proofs.Ythdaelmjiaegfaa
/-
  The walks of package model.
-/
set_option linter.unusedVariables false
set_option linter.unusedSimpArgs false
set_option maxRecDepth 4000
namespace Go.Proofs.Ythdaelmjiaegfaa
open Go Brv Brv.Image Brv.Model
/-- Rows of writes among arguments. -/
structure RowM where
  a : Option Addr
  n : Nat
  c : Nat
  os : List WriteV
def RowM.val (r : RowM) : Value := .slice r.a r.n r.c
def RowM.ok (w : World) (r : RowM) : Prop := (r.n ≤ r.c ∧ r.c ≤ 140737488351232) ∧ WsP w r.a r.n r.os
structure RowsM (w : World) (a : Option Addr) (n : Nat) (rs : List RowM) : Prop where
  cells : Cells w a (rs.map RowM.val)
  len : n = rs.length
  ok : ∀ r ∈ rs, r.ok w
theorem RowsM.ext0 {w w' : World} {a : Option Addr} {n : Nat} {rs : List RowM} (h : RowsM w a n rs) (he : Ext [] w w') : RowsM w' a n rs := ⟨h.cells.ext0 he, h.len, fun r hr => ⟨(h.ok r hr).1, (h.ok r hr).2.1.ext0 he, fun z hz => ((h.ok r hr).2.2 z hz).ext0 he⟩⟩
theorem rowM_of {w : World} {f : Nat} {cs : List Value} (h : Rd Try.prog w f 29 cs) : ∃ r : RowM, cs = [r.val] ∧ r.ok w := by
  obtain ⟨a, n, c, os, rfl, h1, h2, h3, h4⟩ := writeV_rows29 h
  exact ⟨⟨a, n, c, os⟩, rfl, ⟨h1, by show c ≤ _; omega⟩, h3, fun z hz => (h4 z hz).2.2.2⟩
theorem rowsM_of {w : World} {f : Nat} {cs : List Value} (h : Rd Try.prog w f 47 cs) : ∃ a n c, ∃ rs : List RowM, cs = [.slice a n c] ∧ n ≤ c ∧ c ≤ 140737488351232 ∧ RowsM w a n rs := by
  cases f with
  | zero => exact h.elim
  | succ f =>
    unfold Rd at h
    rw [Try.underlying47] at h
    obtain ⟨a, n, c, rfl, hnc, ha, hb, vss, hl, hcell, hv⟩ := h
    rw [show Try.prog.bytesOf 29 = 24 from by kernel_rfl] at hb
    have hex : ∃ rs : List RowM, vss = rs.map (fun r => [r.val]) ∧ ∀ r ∈ rs, r.ok w := by
      clear hcell hl
      induction vss with
      | nil => exact ⟨[], rfl, by simp⟩
      | cons vs r ih =>
        obtain ⟨q, rfl, hq⟩ := rowM_of (hv vs (by simp)).2
        obtain ⟨rs, rfl, hw⟩ := ih (fun x hx => hv x (by simp [hx]))
        exact ⟨q :: rs, rfl, fun x hx => (List.mem_cons.1 hx).elim (fun e => e ▸ hq) (hw x)⟩
    obtain ⟨rs, rfl, hw⟩ := hex
    refine ⟨a, n, c, rs, rfl, hnc, by omega, ⟨?_, by simpa using hl.symm, hw⟩⟩
    have : (rs.map (fun r => [r.val])).flatten = rs.map RowM.val := by
      clear hcell hl hv hw
      induction rs with
      | nil => rfl
      | cons b r ih => simp [ih]
    rw [← this]; exact hcell
theorem rowM_pt {w : World} {a : Option Addr} {n i : Nat} {rs : List RowM} {r : RowM} (h : RowsM w a n rs) (hr : rs[i]? = some r) : ∃ q, a = some q :=
  let ⟨q, hq, _⟩ := h.cells i r.val (by rw [List.getElem?_map, hr]; rfl); ⟨q, hq⟩
theorem rowM_ld {w : World} {a : Option Addr} {n i : Nat} {rs : List RowM} {r : RowM} {q : Addr} (h : RowsM w a n rs) (hq : a = some q) (hr : rs[i]? = some r) : w.cell? (q.add ((i : Int).toNat * 1)) = some r.val := by
  obtain ⟨p, hp, hc⟩ := h.cells i r.val (by rw [List.getElem?_map, hr]; rfl)
  rw [hq] at hp; cases hp
  rw [Int.toNat_natCast, Nat.mul_one]; exact hc
structure CoS where
  i : Nat
  L : Lns
  n : Int
  d : Dk
theorem _root_.Brv.Model.Wf.more {L : Lns} {k : Nat} (h : Wf L k) : Wf L (k + 1) :=
  ⟨h.srt, by have := h.len; omega, fun p hp => by
    have := h.ln p hp
    exact ⟨this.1, this.2.1, by have := this.2.2.1; omega, fun q hq => ⟨(this.2.2.2 q hq).1, by have := (this.2.2.2 q hq).2; omega⟩⟩, h.rk⟩
theorem newW_max (m1 d n : Nat) : ∀ j q, wasV (newW m1 d n) 1 j = some q → j ≤ 0 := by
  intro j q h
  unfold wasV at h
  rw [show newW m1 d n = [(1, _)] from rfl, getT_single, if_pos rfl] at h
  simp only [Option.bind_some] at h
  rw [getT_single] at h
  split at h
  · omega
  · cases h

set_option maxHeartbeats 2000000 in
theorem commits_law (la : Option Addr) (ln lc : Nat) (rs : List RowM) (w : World) (hO : RowsM w la ln rs) (hlc : ln ≤ 140737488351232) : Meets Try.prog 4 [.slice la ln lc] w (fun v w' => v = .bool true ∧ Ext [] w w') := by
  refine Meets.law Try.func4 rfl 109 rfl (Nat.le_of_ble_eq_true rfl) (law_cons (p := fun w => RowsM w la ln rs) (fun w9 he => hO.ext0 he) (law_nil w)) ?_
  refine SG.fact (fun w9 F9 S9 s => (s.sh (p := fun w => RowsM w la ln rs) (by repeat (first | exact Sel.keep | exact Sel.here | apply Sel.there))).len) (fun hf9 => ?_)
  have hlen := hf9; clear hf9
  refine SG.seq ?_
  refine SG.region ?_
  refine SL.val rfl rfl (fun w9 F9 S9 s => R.as rfl) ?_
  refine SL.nil ?_
  refine SN.seq ?_
  refine SG.seq ?_
  refine SG.seq ?_
  refine SG.region ?_
  refine SL.step rfl rfl (CS.call rfl go6 (first27_ok) (by repeat (first | exact Sels.nil | apply Sels.cons | exact Sel.keep | exact Sel.here | apply Sel.there))) ?_
  rintro _ _ ⟨_, ⟨rfl, rfl⟩, rfl⟩
  refine SL.n0 ?_
  refine SL.val rfl rfl (fun w9 F9 S9 s => R.not rfl) ?_
  refine SL.nil ?_
  refine SN.seq ?_
  refine SG.condF rfl ?_
  refine SG.skip ?_
  refine SN.seq ?_
  refine SG.seq ?_
  refine SG.seq ?_
  refine SG.region ?_
  refine SL.val rfl rfl (fun w9 F9 S9 s => R.mv rfl) ?_
  refine SL.val rfl rfl (fun w9 F9 S9 s => R.lenS rfl) ?_
  refine SL.val rfl rfl (fun w9 F9 S9 s => R.gtr rfl rfl) ?_
  refine SL.nil ?_
  refine SN.seq ?_
  refine SG.condP rfl (fun h1 => ?_) (fun h1 => ?_)
  · refine SG.seq ?_
    refine SG.region ?_
    refine SL.val rfl rfl (fun w9 F9 S9 s => R.as rfl) ?_
    refine SL.nil ?_
    refine SN.seq ?_
    exact SG.ret1 rfl rfl ((Imp.sels (by repeat (first | exact Sels.nil | apply Sels.cons | exact Sel.keep | exact Sel.here | apply Sel.there)))) (rfl)
  · refine SG.skip ?_
    refine SN.seq ?_
    refine SG.seq ?_
    refine SG.region ?_
    refine SL.step rfl rfl (CS.call rfl go7 (wnew_ok 4 (by decide) (by decide)) (by repeat (first | exact Sels.nil | apply Sels.cons | exact Sel.keep | exact Sel.here | apply Sel.there))) ?_
    rintro _ _ ⟨_, ⟨p, m, m1, d0, rfl, rfl⟩, rfl⟩
    refine SL.n4 ?_
    refine SL.val rfl rfl (fun w9 F9 S9 s => R.mv rfl) ?_
    refine SL.val rfl rfl (fun w9 F9 S9 s => R.ext rfl rfl) ?_
    refine SL.val rfl rfl (fun w9 F9 S9 s => R.ext rfl rfl) ?_
    refine SL.val rfl rfl (fun w9 F9 S9 s => R.as rfl) ?_
    refine SL.val rfl rfl (fun w9 F9 S9 s => R.as rfl) ?_
    refine SL.nil ?_
    refine SN.seq ?_
    refine SG.seq ?_
    refine SG.seq ?_
    refine SG.region ?_
    refine SL.val rfl rfl (fun w9 F9 S9 s => R.mv rfl) ?_
    refine SL.val rfl rfl (fun w9 F9 S9 s => R.lenS rfl) ?_
    refine SL.val rfl rfl (fun w9 F9 S9 s => R.mv rfl) ?_
    refine SL.nil ?_
    refine SN.seq ?_
    refine SG.block ?_
    refine SG.loop (X := CoS) (fun y => [(3, .pointer (some ⟨p, 0, none⟩)), (25, .slice la ln lc), (26, .int .i64 (ln : Int)), (27, .int .i64 (y.i : Int))]) (fun y => [blk p [.pointer (some ⟨m, 0, none⟩), .int .i64 1, .int .i64 y.n] 85, mp (κ := Int) 124 128 3 m (psL y.L), lnA y.L, dkS y.L, sh (fun w => RowsM w la ln rs)]) (fun y => y.i ≤ ln ∧ Wf y.L y.i ∧ wasV y.L 1 y.n = some y.d ∧ ∀ j q, wasV y.L 1 j = some q → j ≤ y.n) (fun y => ln - y.i) (⟨0, newW m1 d0 4, 0, ⟨d0, List.replicate (64 * 4) 0⟩⟩) (Sub.cons rfl (Sub.cons rfl (Sub.cons rfl (Sub.cons rfl (Sub.nil _))))) ((Imp.sels (by repeat (first | exact Sels.nil | apply Sels.cons | exact Sel.keep | exact Sel.here | apply Sel.there)))) (⟨Nat.zero_le _, newW_wf m1 d0 4, newW_was m1 d0 4, newW_max m1 d0 4⟩) ?_
    rintro ⟨i, L, n, d⟩ ⟨hi, hw, hd, hmx⟩
    dsimp only at hi hw hd hmx
    show SG _ _ _ _ _ [(3, .pointer (some ⟨p, 0, none⟩)), (25, .slice la ln lc), (26, .int .i64 (ln : Int)), (27, .int .i64 (i : Int))] [blk p [.pointer (some ⟨m, 0, none⟩), .int .i64 1, .int .i64 n] 85, mp (κ := Int) 124 128 3 m (psL L), lnA L, dkS L, sh (fun w => RowsM w la ln rs)] _
    refine SG.seq ?_
    refine SG.region ?_
    refine SL.val rfl rfl (fun w9 F9 S9 s => R.lss rfl rfl) ?_
    refine SL.nil ?_
    refine SN.seq ?_
    refine SG.seq ?_
    refine SG.condP rfl (fun h2 => ?_) (fun h2 => ?_)
    · obtain ⟨r, hr⟩ : ∃ r, rs[i]? = some r := ⟨_, List.getElem?_eq_getElem (by omega)⟩
      refine SG.fact (fun w9 F9 S9 s => rowM_pt (s.sh (p := fun w => RowsM w la ln rs) (by repeat (first | exact Sel.keep | exact Sel.here | apply Sel.there))) hr) (fun hf9 => ?_)
      obtain ⟨q, hq⟩ := hf9
      refine SG.fact (fun w9 F9 S9 s => ((s.sh (p := fun w => RowsM w la ln rs) (by repeat (first | exact Sel.keep | exact Sel.here | apply Sel.there))).ok r (List.mem_of_getElem? hr)).1) (fun hf9 => ?_)
      have hrn := hf9; clear hf9
      refine SG.skip ?_
      refine SN.seq ?_
      refine SG.seq ?_
      refine SG.block ?_
      refine SG.seq ?_
      refine SG.region ?_
      refine SL.val rfl rfl (fun w9 F9 S9 s => R.idx rfl rfl (by omega) (by omega) q hq) ?_
      refine SL.val rfl rfl (fun w9 F9 S9 s => R.ld (v := r.val) rfl (rowM_ld (s.sh (p := fun w => RowsM w la ln rs) (by repeat (first | exact Sel.keep | exact Sel.here | apply Sel.there))) hq hr)) ?_
      refine SL.be 30 rfl (show _ = Value.slice r.a r.n r.c from rfl) ?_
      refine SL.val rfl rfl (fun w9 F9 S9 s => R.as rfl) ?_
      refine SL.nil ?_
      refine SN.seq ?_
      refine SG.seq ?_
      refine SG.seq ?_
      refine SG.region ?_
      refine SL.val rfl rfl (fun w9 F9 S9 s => R.mv rfl) ?_
      refine SL.val rfl rfl (fun w9 F9 S9 s => R.lenS rfl) ?_
      refine SL.val rfl rfl (fun w9 F9 S9 s => R.gtr rfl rfl) ?_
      refine SL.nil ?_
      refine SN.seq ?_
      refine SG.condP rfl (fun h3 => ?_) (fun h3 => ?_)
      · refine SG.seq ?_
        refine SG.region ?_
        refine SL.val rfl rfl (fun w9 F9 S9 s => R.as rfl) ?_
        refine SL.nil ?_
        refine SN.seq ?_
        exact SG.ret1 rfl rfl ((Imp.sels (by repeat (first | exact Sels.nil | apply Sels.cons | exact Sel.keep | exact Sel.here | apply Sel.there)))) (rfl)
      · refine SG.skip ?_
        refine SN.seq ?_
        refine SG.seq ?_
        refine SG.region ?_
        refine SL.val rfl rfl (fun w9 F9 S9 s => R.mv rfl) ?_
        refine SL.step rfl rfl (CS.call rfl go11 (wnow_ok p m L 1 n i) (by repeat (first | exact Sels.nil | apply Sels.cons | exact Sel.keep | exact Sel.here | apply Sel.there))) ?_
        rintro _ _ ⟨_, ⟨rfl, rfl⟩, rfl⟩
        refine SL.n1 ?_
        refine SL.val rfl rfl (fun w9 F9 S9 s => R.mv rfl) ?_
        refine SL.val rfl rfl (fun w9 F9 S9 s => R.ext rfl rfl) ?_
        refine SL.val rfl rfl (fun w9 F9 S9 s => R.ext rfl rfl) ?_
        refine SL.val rfl rfl (fun w9 F9 S9 s => R.as rfl) ?_
        refine SL.val rfl rfl (fun w9 F9 S9 s => R.as rfl) ?_
        refine SL.nil ?_
        refine SN.seq ?_
        refine SG.seq ?_
        refine SG.region ?_
        refine SL.val rfl rfl (fun w9 F9 S9 s => R.mv rfl) ?_
        refine SL.step rfl rfl (CS.call rfl go13 (wdisk_ok p m L 1 n i d hw (by omega) hd) (by repeat (first | exact Sels.nil | apply Sels.cons | exact Sel.keep | exact Sel.here | apply Sel.there))) ?_
        rintro _ _ ⟨_, ⟨rfl, rfl⟩, rfl⟩
        refine SL.n4 ?_
        refine SL.val rfl rfl (fun w9 F9 S9 s => R.as rfl) ?_
        refine SL.nil ?_
        refine SN.seq ?_
        refine SG.seq ?_
        by_cases h0 : (withF d.l (r.os.map wv)).2 = 0
        · refine SG.imp (Imp.weak (p := fun w => RowsM w la ln rs) (q := fun w => WsP w r.a r.n r.os) (by repeat (first | exact Sel.keep | exact Sel.here | apply Sel.there)) (fun w h => (h.ok r (List.mem_of_getElem? hr)).2)) ?_
          refine SG.region ?_
          refine SL.val rfl rfl (fun w9 F9 S9 s => R.mv rfl) ?_
          refine SL.val rfl rfl (fun w9 F9 S9 s => R.mv rfl) ?_
          refine SL.imp (Imp.weak (p := DkP L) (q := fun w => DiskAt w d.b d.l) (show Sel _ (dkS L) _ from (by repeat (first | exact Sel.keep | exact Sel.here | apply Sel.there))) (fun w hw => dkS_one hw hd)) ?_
          refine SL.step rfl rfl (CS.call rfl go15 (iwithS d.b d.l r.a r.n r.c r.os (by omega) h0) (by repeat (first | exact Sels.nil | apply Sels.cons | exact Sel.keep | exact Sel.here | apply Sel.there))) ?_
          rintro _ _ ⟨_, ⟨b2, rfl, rfl⟩, rfl⟩
          refine SL.n1 ?_
          refine SL.val rfl rfl (fun w9 F9 S9 s => R.mv rfl) ?_
          refine SL.val rfl rfl (fun w9 F9 S9 s => R.ext rfl rfl) ?_
          refine SL.val rfl rfl (fun w9 F9 S9 s => R.ext rfl rfl) ?_
          refine SL.val rfl rfl (fun w9 F9 S9 s => R.as rfl) ?_
          refine SL.val rfl rfl (fun w9 F9 S9 s => R.as rfl) ?_
          refine SL.nil ?_
          refine SN.seq ?_
          refine SG.seq ?_
          refine SG.region ?_
          refine SL.val rfl rfl (fun w9 F9 S9 s => R.mv rfl) ?_
          refine SL.val rfl rfl (fun w9 F9 S9 s => R.mv rfl) ?_
          refine SL.step rfl rfl (CS.call rfl go8 (wcom_ok p m L 1 n i d r.a r.n r.c r.os hw (by omega) hd (by omega)) (by repeat (first | exact Sels.nil | apply Sels.cons | exact Sel.keep | exact Sel.here | apply Sel.there))) ?_
          rintro _ _ ⟨_, ⟨L2, n2, a2, e2, rfl, hC, rfl, rfl⟩, rfl⟩
          refine SL.n4 ?_
          rcases hC with ⟨h9, _⟩ | ⟨_, ⟨q9, hq9⟩, _⟩ | ⟨_, hno, rfl, rfl, rfl, x, b, hx, rfl⟩
          · exact absurd h0 h9
          · have := hmx _ _ hq9; exfalso; omega
          obtain ⟨x9, hx9, hxd⟩ := was_has hd
          have hnb := (hw.ln _ (getT_some hx9)).2.2.2 _ (getT_some hxd)
          have hds := (hw.ln _ (getT_some hx)).2.1
          have hn0 : 0 ≤ n := hnb.1
          have hn1 : n ≤ (i : Int) := hnb.2
          have hw2 := hw.add hx (n := n + 1) ⟨by omega, by omega⟩ ⟨b, (withF d.l (r.os.map wv)).1⟩
          have hd2 : wasV (addD L 1 x (n + 1) ⟨b, (withF d.l (r.os.map wv)).1⟩) 1 (n + 1) = some ⟨b, (withF d.l (r.os.map wv)).1⟩ := by rw [addD_was hw.srt hx hds, if_pos ⟨rfl, rfl⟩]
          have hmx2 : ∀ j q, wasV (addD L 1 x (n + 1) ⟨b, (withF d.l (r.os.map wv)).1⟩) 1 j = some q → j ≤ n + 1 := by
            intro j q h
            rw [addD_was hw.srt hx hds] at h
            split at h
            · omega
            · have := hmx j q h; omega
          refine SL.val rfl rfl (fun w9 F9 S9 s => R.mv rfl) ?_
          refine SL.val rfl rfl (fun w9 F9 S9 s => R.ext rfl rfl) ?_
          refine SL.val rfl rfl (fun w9 F9 S9 s => R.ext rfl rfl) ?_
          refine SL.val rfl rfl (fun w9 F9 S9 s => R.as rfl) ?_
          refine SL.val rfl rfl (fun w9 F9 S9 s => R.as rfl) ?_
          refine SL.nil ?_
          refine SN.seq ?_
          refine SG.seq ?_
          refine SG.region ?_
          refine SL.val rfl rfl (fun w9 F9 S9 s => R.mv rfl) ?_
          refine SL.step rfl rfl (CS.call rfl go11 (wnow_ok p m (addD L 1 x (n + 1) ⟨b, (withF d.l (r.os.map wv)).1⟩) 1 (n + 1) i) (by repeat (first | exact Sels.nil | apply Sels.cons | exact Sel.keep | exact Sel.here | apply Sel.there))) ?_
          rintro _ _ ⟨_, ⟨rfl, rfl⟩, rfl⟩
          refine SL.n1 ?_
          refine SL.val rfl rfl (fun w9 F9 S9 s => R.mv rfl) ?_
          refine SL.val rfl rfl (fun w9 F9 S9 s => R.ext rfl rfl) ?_
          refine SL.val rfl rfl (fun w9 F9 S9 s => R.ext rfl rfl) ?_
          refine SL.val rfl rfl (fun w9 F9 S9 s => R.as rfl) ?_
          refine SL.val rfl rfl (fun w9 F9 S9 s => R.as rfl) ?_
          refine SL.nil ?_
          refine SN.seq ?_
          refine SG.seq ?_
          refine SG.region ?_
          refine SL.val rfl rfl (fun w9 F9 S9 s => R.mv rfl) ?_
          refine SL.val rfl rfl (fun w9 F9 S9 s => R.mv rfl) ?_
          refine SL.val rfl rfl (fun w9 F9 S9 s => R.neI rfl rfl) ?_
          refine SL.val rfl rfl (fun w9 F9 S9 s => R.mv rfl) ?_
          refine SL.isF 61 rfl (decide_eq_false (fun h => h rfl)) ?_
          refine SL.val rfl rfl (fun w9 F9 S9 s => R.mv rfl) ?_
          refine SL.val rfl rfl (fun w9 F9 S9 s => R.mv rfl) ?_
          refine SL.val rfl rfl (fun w9 F9 S9 s => R.neI rfl rfl) ?_
          first | refine SL.val rfl rfl (fun w9 F9 S9 s => R.pickT rfl rfl) ?_ | refine SL.val rfl rfl (fun w9 F9 S9 s => R.pickF rfl rfl) ?_
          refine SL.val rfl rfl (fun w9 F9 S9 s => R.mv rfl) ?_
          refine SL.isF 66 rfl (decide_eq_false (fun h => h rfl)) ?_
          refine SL.val rfl rfl (fun w9 F9 S9 s => R.mv rfl) ?_
          refine SL.val rfl rfl (fun w9 F9 S9 s => R.eqI rfl rfl) ?_
          refine SL.val rfl rfl (fun w9 F9 S9 s => R.mv rfl) ?_
          refine SL.isT 69 rfl (decide_eq_true rfl) ?_
          refine SL.val rfl rfl (fun w9 F9 S9 s => R.mv rfl) ?_
          refine SL.val rfl rfl (fun w9 F9 S9 s => R.mv rfl) ?_
          refine SL.val rfl rfl (fun w9 F9 S9 s => R.add rfl rfl (by omega)) ?_
          refine SL.val rfl rfl (fun w9 F9 S9 s => R.neI rfl rfl) ?_
          refine SL.val rfl rfl (fun w9 F9 S9 s => R.mv rfl) ?_
          refine SL.isF 74 rfl (decide_eq_false (fun h => h rfl)) ?_
          refine SL.val rfl rfl (fun w9 F9 S9 s => R.mv rfl) ?_
          refine SL.val rfl rfl (fun w9 F9 S9 s => R.mv rfl) ?_
          refine SL.val rfl rfl (fun w9 F9 S9 s => R.neI rfl rfl) ?_
          first | refine SL.val rfl rfl (fun w9 F9 S9 s => R.pickT rfl rfl) ?_ | refine SL.val rfl rfl (fun w9 F9 S9 s => R.pickF rfl rfl) ?_
          refine SL.val rfl rfl (fun w9 F9 S9 s => R.mv rfl) ?_
          refine SL.isF 79 rfl (decide_eq_false (fun h => h rfl)) ?_
          refine SL.val rfl rfl (fun w9 F9 S9 s => R.mv rfl) ?_
          refine SL.step rfl rfl (CS.call rfl go13 (wdisk_ok p m (addD L 1 x (n + 1) ⟨b, (withF d.l (r.os.map wv)).1⟩) 1 (n + 1) (i + 1) ⟨b, (withF d.l (r.os.map wv)).1⟩ hw2 (by omega) hd2) (by repeat (first | exact Sels.nil | apply Sels.cons | exact Sel.keep | exact Sel.here | apply Sel.there))) ?_
          rintro _ _ ⟨_, ⟨rfl, rfl⟩, rfl⟩
          refine SL.n4 ?_
          refine SL.val rfl rfl (fun w9 F9 S9 s => R.mv rfl) ?_
          refine SL.step rfl rfl (CS.callR rfl go12 (fun w9 F9 S9 s => isame_ok (some ⟨b, 0, none⟩) (some ⟨b2, 0, none⟩) (withF d.l (r.os.map wv)).1 (withF d.l (r.os.map wv)).1 w9 (St.dk s (show Sel _ (dkS (addD L 1 x (n + 1) ⟨b, (withF d.l (r.os.map wv)).1⟩)) _ from (by repeat (first | exact Sel.keep | exact Sel.here | apply Sel.there))) hd2).o (s.sh (p := fun w => DiskAt w b2 (withF d.l (r.os.map wv)).1) (by repeat (first | exact Sel.keep | exact Sel.here | apply Sel.there))).o)) ?_
          rintro _ _ ⟨rfl, rfl⟩
          refine SL.val rfl rfl (fun w9 F9 S9 s => R.not rfl) ?_
          first | refine SL.val rfl rfl (fun w9 F9 S9 s => R.pickT rfl rfl) ?_ | refine SL.val rfl rfl (fun w9 F9 S9 s => R.pickF rfl rfl) ?_
          first | refine SL.val rfl rfl (fun w9 F9 S9 s => R.pickT rfl rfl) ?_ | refine SL.val rfl rfl (fun w9 F9 S9 s => R.pickF rfl rfl) ?_
          first | refine SL.val rfl rfl (fun w9 F9 S9 s => R.pickT rfl rfl) ?_ | refine SL.val rfl rfl (fun w9 F9 S9 s => R.pickF rfl rfl) ?_
          refine SL.val rfl rfl (fun w9 F9 S9 s => R.mv rfl) ?_
          refine SL.isF 88 rfl (by simp) ?_
          refine SL.val rfl rfl (fun w9 F9 S9 s => R.mv rfl) ?_
          refine SL.val rfl rfl (fun w9 F9 S9 s => R.neI rfl rfl) ?_
          refine SL.val rfl rfl (fun w9 F9 S9 s => R.mv rfl) ?_
          refine SL.isF 91 rfl (decide_eq_false (fun h => h rfl)) ?_
          refine SL.pass rfl rfl ?_
          refine SL.pass rfl rfl ?_
          refine SL.pass rfl rfl ?_
          refine SL.pass rfl rfl ?_
          refine SL.pass rfl rfl ?_
          refine SL.pass rfl rfl ?_
          refine SL.pass rfl rfl ?_
          refine SL.pass rfl rfl ?_
          refine SL.pass rfl rfl ?_
          refine SL.pass rfl rfl ?_
          refine SL.pass rfl rfl ?_
          refine SL.pass rfl rfl ?_
          refine SL.pass rfl rfl ?_
          refine SL.pass rfl rfl ?_
          first | refine SL.val rfl rfl (fun w9 F9 S9 s => R.pickT rfl rfl) ?_ | refine SL.val rfl rfl (fun w9 F9 S9 s => R.pickF rfl rfl) ?_
          first | refine SL.val rfl rfl (fun w9 F9 S9 s => R.pickT rfl rfl) ?_ | refine SL.val rfl rfl (fun w9 F9 S9 s => R.pickF rfl rfl) ?_
          refine SL.nil ?_
          refine SN.seq ?_
          refine SG.condF rfl ?_
          refine SG.skip ?_
          refine SN.block ?_
          refine SN.seq ?_
          refine SG.region ?_
          refine SL.val rfl rfl (fun w9 F9 S9 s => R.add rfl rfl (by omega)) ?_
          refine SL.val rfl rfl (fun w9 F9 S9 s => R.mv rfl) ?_
          refine SL.nil ?_
          exact SN.again (⟨i + 1, (addD L 1 x (n + 1) ⟨b, (withF d.l (r.os.map wv)).1⟩), n + 1, ⟨b, (withF d.l (r.os.map wv)).1⟩⟩) (by show ln - (i + 1) < ln - i; omega) (Sub.cons rfl (Sub.cons rfl (Sub.cons rfl (Sub.cons rfl (Sub.nil _))))) ((Imp.sels (by repeat (first | exact Sels.nil | apply Sels.cons | exact Sel.keep | exact Sel.here | apply Sel.there)))) (⟨by show i + 1 ≤ ln; omega, hw2, hd2, hmx2⟩)
        · refine SG.imp (Imp.weak (p := fun w => RowsM w la ln rs) (q := fun w => WsP w r.a r.n r.os) (by repeat (first | exact Sel.keep | exact Sel.here | apply Sel.there)) (fun w h => (h.ok r (List.mem_of_getElem? hr)).2)) ?_
          refine SG.region ?_
          refine SL.val rfl rfl (fun w9 F9 S9 s => R.mv rfl) ?_
          refine SL.val rfl rfl (fun w9 F9 S9 s => R.mv rfl) ?_
          refine SL.step rfl rfl (CS.callR rfl go15 (fun w9 F9 S9 s => iwithR d.b d.l r.a r.n r.c r.os (by omega) h0 w9 (dkS_one (s.sh (p := DkP L) (show Sel _ (dkS L) _ from (by repeat (first | exact Sel.keep | exact Sel.here | apply Sel.there)))) hd) (s.sh (p := fun w => WsP w r.a r.n r.os) (by repeat (first | exact Sel.keep | exact Sel.here | apply Sel.there))))) ?_
          rintro _ _ ⟨rfl, rfl⟩
          refine SL.val rfl rfl (fun w9 F9 S9 s => R.mv rfl) ?_
          refine SL.val rfl rfl (fun w9 F9 S9 s => R.ext rfl rfl) ?_
          refine SL.val rfl rfl (fun w9 F9 S9 s => R.ext rfl rfl) ?_
          refine SL.val rfl rfl (fun w9 F9 S9 s => R.as rfl) ?_
          refine SL.val rfl rfl (fun w9 F9 S9 s => R.as rfl) ?_
          refine SL.nil ?_
          refine SN.seq ?_
          refine SG.seq ?_
          refine SG.region ?_
          refine SL.val rfl rfl (fun w9 F9 S9 s => R.mv rfl) ?_
          refine SL.val rfl rfl (fun w9 F9 S9 s => R.mv rfl) ?_
          refine SL.step rfl rfl (CS.call rfl go8 (wcom_ok p m L 1 n i d r.a r.n r.c r.os hw (by omega) hd (by omega)) (by repeat (first | exact Sels.nil | apply Sels.cons | exact Sel.keep | exact Sel.here | apply Sel.there))) ?_
          rintro _ _ ⟨_, ⟨L2, n2, a2, e2, rfl, hC, rfl, rfl⟩, rfl⟩
          refine SL.n4 ?_
          obtain ⟨rfl, rfl, rfl, rfl⟩ : (withF d.l (r.os.map wv)).2 = e2 ∧ 0 = a2 ∧ L = L2 ∧ n = n2 := by
            rcases hC with ⟨_, h1, h2, h3, h4⟩ | ⟨h9, _⟩ | ⟨h9, _⟩
            · exact ⟨h1.symm, h2.symm, h3.symm, h4.symm⟩
            · exact absurd h9 h0
            · exact absurd h9 h0
          refine SL.val rfl rfl (fun w9 F9 S9 s => R.mv rfl) ?_
          refine SL.val rfl rfl (fun w9 F9 S9 s => R.ext rfl rfl) ?_
          refine SL.val rfl rfl (fun w9 F9 S9 s => R.ext rfl rfl) ?_
          refine SL.val rfl rfl (fun w9 F9 S9 s => R.as rfl) ?_
          refine SL.val rfl rfl (fun w9 F9 S9 s => R.as rfl) ?_
          refine SL.nil ?_
          refine SN.seq ?_
          refine SG.seq ?_
          refine SG.region ?_
          refine SL.val rfl rfl (fun w9 F9 S9 s => R.mv rfl) ?_
          refine SL.step rfl rfl (CS.call rfl go11 (wnow_ok p m L 1 n i) (by repeat (first | exact Sels.nil | apply Sels.cons | exact Sel.keep | exact Sel.here | apply Sel.there))) ?_
          rintro _ _ ⟨_, ⟨rfl, rfl⟩, rfl⟩
          refine SL.n1 ?_
          refine SL.val rfl rfl (fun w9 F9 S9 s => R.mv rfl) ?_
          refine SL.val rfl rfl (fun w9 F9 S9 s => R.ext rfl rfl) ?_
          refine SL.val rfl rfl (fun w9 F9 S9 s => R.ext rfl rfl) ?_
          refine SL.val rfl rfl (fun w9 F9 S9 s => R.as rfl) ?_
          refine SL.val rfl rfl (fun w9 F9 S9 s => R.as rfl) ?_
          refine SL.nil ?_
          refine SN.seq ?_
          refine SG.seq ?_
          refine SG.region ?_
          refine SL.val rfl rfl (fun w9 F9 S9 s => R.mv rfl) ?_
          refine SL.val rfl rfl (fun w9 F9 S9 s => R.mv rfl) ?_
          refine SL.val rfl rfl (fun w9 F9 S9 s => R.neI rfl rfl) ?_
          refine SL.val rfl rfl (fun w9 F9 S9 s => R.mv rfl) ?_
          refine SL.isF 61 rfl (decide_eq_false (fun h => h rfl)) ?_
          refine SL.val rfl rfl (fun w9 F9 S9 s => R.mv rfl) ?_
          refine SL.val rfl rfl (fun w9 F9 S9 s => R.mv rfl) ?_
          refine SL.val rfl rfl (fun w9 F9 S9 s => R.neI rfl rfl) ?_
          first | refine SL.val rfl rfl (fun w9 F9 S9 s => R.pickT rfl rfl) ?_ | refine SL.val rfl rfl (fun w9 F9 S9 s => R.pickF rfl rfl) ?_
          refine SL.val rfl rfl (fun w9 F9 S9 s => R.mv rfl) ?_
          refine SL.isF 66 rfl (decide_eq_false (fun h => h rfl)) ?_
          refine SL.val rfl rfl (fun w9 F9 S9 s => R.mv rfl) ?_
          refine SL.val rfl rfl (fun w9 F9 S9 s => R.eqI rfl rfl) ?_
          refine SL.val rfl rfl (fun w9 F9 S9 s => R.mv rfl) ?_
          refine SL.isF 69 rfl (decide_eq_false h0) ?_
          refine SL.pass rfl rfl ?_
          refine SL.pass rfl rfl ?_
          refine SL.pass rfl rfl ?_
          refine SL.pass rfl rfl ?_
          refine SL.pass rfl rfl ?_
          refine SL.pass rfl rfl ?_
          refine SL.pass rfl rfl ?_
          refine SL.pass rfl rfl ?_
          refine SL.pass rfl rfl ?_
          refine SL.pass rfl rfl ?_
          refine SL.pass rfl rfl ?_
          refine SL.pass rfl rfl ?_
          refine SL.pass rfl rfl ?_
          refine SL.pass rfl rfl ?_
          refine SL.pass rfl rfl ?_
          refine SL.pass rfl rfl ?_
          first | refine SL.val rfl rfl (fun w9 F9 S9 s => R.pickT rfl rfl) ?_ | refine SL.val rfl rfl (fun w9 F9 S9 s => R.pickF rfl rfl) ?_
          first | refine SL.val rfl rfl (fun w9 F9 S9 s => R.pickT rfl rfl) ?_ | refine SL.val rfl rfl (fun w9 F9 S9 s => R.pickF rfl rfl) ?_
          refine SL.val rfl rfl (fun w9 F9 S9 s => R.mv rfl) ?_
          refine SL.isF 88 rfl (rfl) ?_
          refine SL.val rfl rfl (fun w9 F9 S9 s => R.mv rfl) ?_
          refine SL.val rfl rfl (fun w9 F9 S9 s => R.neI rfl rfl) ?_
          refine SL.val rfl rfl (fun w9 F9 S9 s => R.mv rfl) ?_
          refine SL.isT 91 rfl (decide_eq_true h0) ?_
          refine SL.val rfl rfl (fun w9 F9 S9 s => R.mv rfl) ?_
          refine SL.val rfl rfl (fun w9 F9 S9 s => R.neI rfl rfl) ?_
          refine SL.val rfl rfl (fun w9 F9 S9 s => R.mv rfl) ?_
          refine SL.isF 94 rfl (decide_eq_false (fun h => h rfl)) ?_
          refine SL.val rfl rfl (fun w9 F9 S9 s => R.mv rfl) ?_
          refine SL.val rfl rfl (fun w9 F9 S9 s => R.mv rfl) ?_
          refine SL.val rfl rfl (fun w9 F9 S9 s => R.neI rfl rfl) ?_
          first | refine SL.val rfl rfl (fun w9 F9 S9 s => R.pickT rfl rfl) ?_ | refine SL.val rfl rfl (fun w9 F9 S9 s => R.pickF rfl rfl) ?_
          refine SL.val rfl rfl (fun w9 F9 S9 s => R.mv rfl) ?_
          refine SL.isF 99 rfl (decide_eq_false (fun h => h rfl)) ?_
          refine SL.val rfl rfl (fun w9 F9 S9 s => R.mv rfl) ?_
          refine SL.step rfl rfl (CS.call rfl go13 (wdisk_ok p m L 1 n i d hw (by omega) hd) (by repeat (first | exact Sels.nil | apply Sels.cons | exact Sel.keep | exact Sel.here | apply Sel.there))) ?_
          rintro _ _ ⟨_, ⟨rfl, rfl⟩, rfl⟩
          refine SL.n4 ?_
          refine SL.val rfl rfl (fun w9 F9 S9 s => R.mv rfl) ?_
          refine SL.step rfl rfl (CS.callR rfl go12 (fun w9 F9 S9 s => isame_ok (some ⟨d.b, 0, none⟩) (some ⟨d.b, 0, none⟩) d.l d.l w9 (St.dk s (show Sel _ (dkS L) _ from (by repeat (first | exact Sel.keep | exact Sel.here | apply Sel.there))) hd).o (St.dk s (show Sel _ (dkS L) _ from (by repeat (first | exact Sel.keep | exact Sel.here | apply Sel.there))) hd).o)) ?_
          rintro _ _ ⟨rfl, rfl⟩
          refine SL.val rfl rfl (fun w9 F9 S9 s => R.not rfl) ?_
          first | refine SL.val rfl rfl (fun w9 F9 S9 s => R.pickT rfl rfl) ?_ | refine SL.val rfl rfl (fun w9 F9 S9 s => R.pickF rfl rfl) ?_
          first | refine SL.val rfl rfl (fun w9 F9 S9 s => R.pickT rfl rfl) ?_ | refine SL.val rfl rfl (fun w9 F9 S9 s => R.pickF rfl rfl) ?_
          first | refine SL.val rfl rfl (fun w9 F9 S9 s => R.pickT rfl rfl) ?_ | refine SL.val rfl rfl (fun w9 F9 S9 s => R.pickF rfl rfl) ?_
          refine SL.nil ?_
          refine SN.seq ?_
          refine SG.condB rfl (fun h4 => ?_) (fun h4 => ?_)
          · simp at h4
          · refine SG.skip ?_
            refine SN.block ?_
            refine SN.seq ?_
            refine SG.region ?_
            refine SL.val rfl rfl (fun w9 F9 S9 s => R.add rfl rfl (by omega)) ?_
            refine SL.val rfl rfl (fun w9 F9 S9 s => R.mv rfl) ?_
            refine SL.nil ?_
            exact SN.again (⟨i + 1, L, n, d⟩) (by show ln - (i + 1) < ln - i; omega) (Sub.cons rfl (Sub.cons rfl (Sub.cons rfl (Sub.cons rfl (Sub.nil _))))) ((Imp.sels (by repeat (first | exact Sels.nil | apply Sels.cons | exact Sel.keep | exact Sel.here | apply Sel.there)))) (⟨by show i + 1 ≤ ln; omega, hw.more, hd, hmx⟩)
    · refine SG.exit _ rfl ?_
      refine SN.seq ?_
      refine SG.seq ?_
      refine SG.region ?_
      refine SL.val rfl rfl (fun w9 F9 S9 s => R.as rfl) ?_
      refine SL.nil ?_
      refine SN.seq ?_
      exact SG.ret1 rfl rfl ((Imp.sels (by repeat (first | exact Sels.nil | apply Sels.cons | exact Sel.keep | exact Sel.here | apply Sel.there)))) (rfl)

end Go.Proofs.Ythdaelmjiaegfaa
