/-
  The walks of package image.
-/
import Derived.Test.YtjmlcodlnohgdaaImage6
set_option linter.unusedVariables false
set_option linter.unusedSimpArgs false
namespace Go.Proofs.Ytjmlcodlnohgdaa
open Go Brv Brv.Image
theorem Blks.put {w w' : World} {qs : List Nat} {y s : List UInt8} {gl j z : Nat} {cur : Array Value} (h : Blks w qs y) (he : Ext [gl] w w') (hl : Blk w gl cur 118 (0, 0)) (hz : Blk w z (vbs s).toArray 123 (0, 0)) (hs : s.length = 64) (hj : j < dn y) : Blks w' (qs.set j z) (laid y j s) := by
  refine ⟨by rw [List.length_set, laid_dn hs hj]; exact h.len, fun k hk => ?_⟩
  rw [List.length_set] at hk
  rw [laid_blk hs hj, List.getElem_set]
  by_cases e : j = k
  · subst e
    rw [if_pos rfl, if_pos rfl]
    exact hz.ext he (fun hm => hz.ne hl (by decide) (List.mem_singleton.1 hm))
  · rw [if_neg e, if_neg (fun e' => e e'.symm)]
    exact (h.each k hk).ext he (fun hm => (h.each k hk).ne hl (by decide) (List.mem_singleton.1 hm))

theorem iwith_ok (d : Nat) (x : List UInt8) (la : Option Addr) (ln lc : Nat) (ws : List WriteV) (w : World) (hd : DiskAt w d x) (hT : Tab w la ln 2 (ws.map WriteV.cells)) (hO : ∀ o ∈ ws, Bs w o.B'a o.B'n o.B') (hln : ln ≤ 1000000) : Meets Try.prog 19 [.pointer (some ⟨d, 0, none⟩), .slice la ln lc] w (fun v w' => Ext [] w w' ∧ ((withF x (ws.map wv)).2 = 0 → ∃ d', v = .tuple #[ptr d', .int .i64 0] ∧ DiskAt w' d' (withF x (ws.map wv)).1) ∧ ((withF x (ws.map wv)).2 ≠ 0 → v = .tuple #[.pointer none, .int .i64 (withF x (ws.map wv)).2])) := by
  refine Meets.enter Try.func19 rfl 57 rfl (Nat.le_of_ble_eq_true rfl) ?_
  have E := Ext.refl [] w
  have hn := hT.len
  rw [List.length_map] at hn
  obtain ⟨g, c, cur, ps, hD0⟩ := hd
  have D := hD0
  have hx64 := D.le
  have hpl := D.hb.len
  refine G.seq ?_
  refine G.region ?_
  refine L.val rfl rfl (R.as rfl) ?_
  refine L.val rfl rfl (R.as rfl) ?_
  refine L.nil ?_
  refine N.seq ?_
  refine G.seq ?_
  refine G.seq ?_
  refine G.region ?_
  refine L.val rfl rfl (R.mv rfl) ?_
  refine L.val rfl rfl (R.eqNilP rfl rfl) ?_
  refine L.nil ?_
  refine N.seq ?_
  refine G.condF rfl ?_
  refine G.skip ?_
  refine N.seq ?_
  refine G.seq ?_
  refine G.region ?_
  refine L.val rfl rfl (R.mv rfl) ?_
  refine L.val rfl rfl (R.nilChk rfl) ?_
  refine L.val rfl rfl (R.fld rfl) ?_
  refine L.val rfl rfl (R.ldB rfl D.hd rfl) ?_
  refine L.callF rfl rfl rfl go74 (pclone_ok (some ⟨g, 0, none⟩) (dn x) c (ps.map ptr) _ D.cells (by simp [hpl]) (ptrs_one ps) (by omega)) ?_
  rintro _ w1 ⟨a6, c6, M6, rfl, e1, o6, hM6⟩
  replace E := E.trans0 e1
  replace D := D.ext0 e1
  refine L.val rfl rfl (R.build (cs := #[.slice a6 (dn x) c6]) rfl rfl) ?_
  refine L.do rfl rfl (R.box rfl) ?_
  rintro _ w2 ⟨b18, rfl, hb18, hs18, e2, B6⟩
  replace E := E.trans0 e2
  replace D := D.ext0 e2
  replace o6 := o6.ext0 e2
  refine L.val rfl rfl (R.as rfl) ?_
  refine L.nil ?_
  refine N.seq ?_
  refine G.seq ?_
  refine G.seq ?_
  refine G.region ?_
  refine L.val rfl rfl (R.mv rfl) ?_
  refine L.val rfl rfl (R.lenS rfl) ?_
  refine L.val rfl rfl (R.mv rfl) ?_
  refine L.nil ?_
  refine N.seq ?_
  refine G.block ?_
  refine G.loop (X := Nat × List UInt8 × List Nat) (fun s => [(0, .pointer (some ⟨d, 0, none⟩)), (6, .pointer (some ⟨b18, 0, none⟩)), (19, .slice la ln lc), (20, .int .i64 (ln : Int)), (21, .int .i64 (s.1 : Int))]) (fun s w' => s.1 ≤ ln ∧ s.2.1.length = x.length ∧ withF x (ws.map wv) = withF s.2.1 ((ws.map wv).drop s.1) ∧ Ext [] w w' ∧ Blk w' b18 #[.slice a6 (dn x) c6] 121 (0, 0) ∧ Own w' 118 1 a6 (dn x) c6 (s.2.2.map ptr) M6 ∧ Blks w' s.2.2 s.2.1) (fun s => ln - s.1) ((0, x, ps)) (Sub.cons rfl (Sub.cons rfl (Sub.cons rfl (Sub.cons rfl (Sub.cons rfl (Sub.nil _)))))) ⟨Nat.zero_le _, rfl, rfl, E, B6, o6, D.hb⟩ ?_
  rintro ⟨i, y, qs⟩ w1 ⟨hi, hyl, hiw, E, B6, o6, hB⟩
  dsimp only at hi hyl hiw o6 hB
  refine G.sub [(0, .pointer (some ⟨d, 0, none⟩)), (6, .pointer (some ⟨b18, 0, none⟩)), (19, .slice la ln lc), (20, .int .i64 (ln : Int)), (21, .int .i64 (i : Int))] (Sub.cons rfl (Sub.cons rfl (Sub.cons rfl (Sub.cons rfl (Sub.cons rfl (Sub.nil _)))))) ?_
  have hdy : dn y = dn x := by unfold dn; rw [hyl]
  have D := hD0.ext0 E
  refine G.seq ?_
  refine G.region ?_
  refine L.val rfl rfl (R.lss rfl rfl) ?_
  refine L.nil ?_
  refine N.seq ?_
  refine G.seq ?_
  refine G.condP rfl (fun h1 => ?_) (fun h1 => ?_)
  · refine G.skip ?_
    refine N.seq ?_
    refine G.seq ?_
    refine G.block ?_
    refine G.seq ?_
    refine G.region ?_
    have hdr : (ws.map wv).drop i = wv (ws[i]'(by omega)) :: (ws.map wv).drop (i + 1) := by rw [List.drop_eq_getElem_cons (by rw [List.length_map]; omega), List.getElem_map]
    obtain ⟨q9, hq9, hcl⟩ := hT.at (by decide) i (by rw [List.length_map]; omega)
    rw [List.getElem_map] at hcl
    have hok' := hO _ (List.getElem_mem (show i < ws.length by omega))
    generalize hoe : ws[i]'(by omega) = o at *
    refine L.val rfl rfl (R.idx rfl rfl (by omega) (by omega) q9 hq9) ?_
    refine L.val rfl rfl (R.ldN rfl (hcl.ext0 E) rfl) ?_
    refine L.do rfl rfl (R.alloc) ?_
    rintro _ w2 ⟨b9, rfl, hb9, hs9, e2, B9⟩
    have hEb := E.size
    replace E := E.trans0 e2
    refine L.set rfl (R.stN rfl rfl B9 rfl (Nat.le_refl 2) (WriteV.cells.one _)) ?_
    rintro w3 ⟨e3, hs3, B9⟩
    replace B9 : Blk w3 b9 o.cells.toArray 51 (0, 0) := B9
    replace E := E.trans e3 (M := []) (by simp) (by intro x hx; rw [List.mem_singleton.1 hx]; exact .inr (by omega))
    have n3 := e2.news2 e3 (by omega)
    replace B6 := B6.ext0 n3
    replace o6 := o6.ext0 n3
    replace hB := hB.ext0 n3
    replace D := D.ext0 n3
    refine L.nil ?_
    refine N.seq ?_
    refine G.seq ?_
    refine G.block ?_
    refine G.seq ?_
    refine G.quiet (by decide +kernel) rfl ?_
    refine Q.val rfl rfl rfl rfl (fun w4 hE => R.fld rfl) ?_
    refine Q.val rfl rfl rfl rfl (fun w4 hE => R.ldB rfl (B9.ext0 hE) rfl) ?_
    refine Q.val rfl rfl rfl rfl (fun w4 hE => R.lss rfl rfl) ?_
    refine Q.val rfl rfl rfl rfl (fun w4 hE => R.mv rfl) ?_
    refine Q.caseP 29 rfl (fun hg7_3 => ?_) (fun hg7_3 => ?_)
    · refine Q.pass rfl rfl rfl ?_
      refine Q.pass rfl rfl rfl ?_
      refine Q.pass rfl rfl rfl ?_
      refine Q.pass rfl rfl rfl ?_
      refine Q.pass rfl rfl rfl ?_
      refine Q.pass rfl rfl rfl ?_
      refine Q.pass rfl rfl rfl ?_
      refine Q.pass rfl rfl rfl ?_
      first | refine Q.val rfl rfl rfl rfl (fun w4 hE => R.pickT rfl rfl) ?_ | refine Q.val rfl rfl rfl rfl (fun w4 hE => R.pickF rfl rfl) ?_
      refine Q.val rfl rfl rfl rfl (fun w4 hE => R.as rfl) ?_
      refine Q.nil (fun w4 e4 => ?_)
      replace E := E.trans0 e4
      replace B9 := B9.ext0 e4
      replace B6 := B6.ext0 e4
      replace o6 := o6.ext0 e4
      replace hB := hB.ext0 e4
      replace D := D.ext0 e4
      refine N.seq ?_
      refine G.condT rfl ?_
      have hw2 : withF x (ws.map wv) = ([], 41) := by rw [hiw, hdr]; exact withF_blk (by show o.Block' < 0 ∨ (dn y : Int) ≤ o.Block'; omega)
      refine G.seq ?_
      refine G.region ?_
      refine L.val rfl rfl (R.as rfl) ?_
      refine L.val rfl rfl (R.as rfl) ?_
      refine L.nil ?_
      refine N.seq ?_
      refine G.ret2 rfl rfl rfl ?_
      first
        | (rw [hw2]; exact ⟨E, fun h => absurd h (by decide), fun _ => rfl⟩)
        | (rw [hw2]; exact ⟨E, fun _ => ⟨b18, rfl, OwnDisk.at (s := 0) ⟨a6, c6, qs, M6, by rw [hdy]; exact B6, by omega, by rw [hdy, hyl]; exact D.len, by rw [hdy]; exact D.pos, by rw [hdy]; exact D.le, by rw [hdy]; exact o6, by simp, hB⟩⟩, fun h => (h rfl).elim⟩)
    · refine Q.val rfl rfl rfl rfl (fun w4 hE => R.fld rfl) ?_
      refine Q.val rfl rfl rfl rfl (fun w4 hE => R.ldB rfl (B9.ext0 hE) rfl) ?_
      refine Q.val rfl rfl rfl rfl (fun w4 hE => R.mv rfl) ?_
      refine Q.val rfl rfl rfl rfl (fun w4 hE => R.nilChk rfl) ?_
      refine Q.val rfl rfl rfl rfl (fun w4 hE => R.fld rfl) ?_
      refine Q.val rfl rfl rfl rfl (fun w4 hE => R.ldB rfl (D.hd.ext0 hE) rfl) ?_
      refine Q.val rfl rfl rfl rfl (fun w4 hE => R.lenS rfl) ?_
      refine Q.val rfl rfl rfl rfl (fun w4 hE => R.geq rfl rfl) ?_
      first | refine Q.val rfl rfl rfl rfl (fun w4 hE => R.pickT rfl rfl) ?_ | refine Q.val rfl rfl rfl rfl (fun w4 hE => R.pickF rfl rfl) ?_
      refine Q.val rfl rfl rfl rfl (fun w4 hE => R.as rfl) ?_
      refine Q.nil (fun w4 e4 => ?_)
      replace E := E.trans0 e4
      replace B9 := B9.ext0 e4
      replace B6 := B6.ext0 e4
      replace o6 := o6.ext0 e4
      replace hB := hB.ext0 e4
      replace D := D.ext0 e4
      refine N.seq ?_
      refine G.condP rfl (fun h2 => ?_) (fun h2 => ?_)
      · have hw2 : withF x (ws.map wv) = ([], 41) := by rw [hiw, hdr]; exact withF_blk (by show o.Block' < 0 ∨ (dn y : Int) ≤ o.Block'; omega)
        refine G.seq ?_
        refine G.region ?_
        refine L.val rfl rfl (R.as rfl) ?_
        refine L.val rfl rfl (R.as rfl) ?_
        refine L.nil ?_
        refine N.seq ?_
        refine G.ret2 rfl rfl rfl ?_
        first
          | (rw [hw2]; exact ⟨E, fun h => absurd h (by decide), fun _ => rfl⟩)
          | (rw [hw2]; exact ⟨E, fun _ => ⟨b18, rfl, OwnDisk.at (s := 0) ⟨a6, c6, qs, M6, by rw [hdy]; exact B6, by omega, by rw [hdy, hyl]; exact D.len, by rw [hdy]; exact D.pos, by rw [hdy]; exact D.le, by rw [hdy]; exact o6, by simp, hB⟩⟩, fun h => (h rfl).elim⟩)
      · obtain ⟨j, hj0⟩ := Int.eq_ofNat_of_zero_le (show 0 ≤ o.Block' by omega)
        have hj : j < dn y := by omega
        have hBs := hok'
        have hBl := hBs.len
        refine G.seq ?_
        refine G.region ?_
        refine L.val rfl rfl (R.fld rfl) ?_
        refine L.val rfl rfl (R.ldB rfl B9 rfl) ?_
        refine L.val rfl rfl (R.lenS rfl) ?_
        refine L.val rfl rfl (R.neI rfl rfl) ?_
        refine L.val rfl rfl (R.as rfl) ?_
        refine L.nil ?_
        refine N.seq ?_
        refine G.condP rfl (fun h3 => ?_) (fun h3 => ?_)
        · have hw2 : withF x (ws.map wv) = ([], 42) := by rw [hiw, hdr]; exact withF_size (by show ¬ (o.Block' < 0 ∨ (dn y : Int) ≤ o.Block'); omega) (by show o.B'.length ≠ 64; omega)
          refine G.seq ?_
          refine G.region ?_
          refine L.val rfl rfl (R.as rfl) ?_
          refine L.val rfl rfl (R.as rfl) ?_
          refine L.nil ?_
          refine N.seq ?_
          refine G.ret2 rfl rfl rfl ?_
          first
            | (rw [hw2]; exact ⟨E, fun h => absurd h (by decide), fun _ => rfl⟩)
            | (rw [hw2]; exact ⟨E, fun _ => ⟨b18, rfl, OwnDisk.at (s := 0) ⟨a6, c6, qs, M6, by rw [hdy]; exact B6, by omega, by rw [hdy, hyl]; exact D.len, by rw [hdy]; exact D.pos, by rw [hdy]; exact D.le, by rw [hdy]; exact o6, by simp, hB⟩⟩, fun h => (h rfl).elim⟩)
        · have h64 : o.B'.length = 64 := by omega
          have hw2 : withF x (ws.map wv) = withF (laid y j o.B') ((ws.map wv).drop (i + 1)) := by rw [hiw, hdr, withF_next (by show ¬ (o.Block' < 0 ∨ (dn y : Int) ≤ o.Block'); omega) h64]; rw [show (wv o).1.toNat = j by show o.Block'.toNat = j; omega]; rfl
          refine G.skip ?_
          refine N.block ?_
          refine N.seq ?_
          refine G.seq ?_
          refine G.region ?_
          obtain ⟨pa, hpa⟩ : ∃ pa, o.B'a = some pa := by
            cases hq : o.B'a with
            | none => rw [hq] at hBs; have := hBs.none.1; rw [this] at h64; cases h64
            | some pa => exact ⟨pa, rfl⟩
          rw [hpa] at hBs
          refine L.val rfl rfl (R.fld rfl) ?_
          refine L.val rfl rfl (R.ldB rfl B9 rfl) ?_
          refine L.val rfl rfl (R.s2ap rfl (by omega)) ?_
          refine L.be 46 rfl (show _ = Value.pointer (some pa) by rw [hpa]) ?_
          refine L.val rfl rfl (R.ldN rfl (hBs.ext0 E).cells (by rw [vbs_length, h64])) ?_
          refine L.do rfl rfl (R.alloc) ?_
          rintro _ w6 ⟨b47, rfl, hb47, hs47, e6, B47⟩
          have hE6 := E.size
          refine L.set rfl (R.stN rfl rfl B47 (by simp [vbs_length, h64]) (by simp [vbs_length, h64, Value.cells]) (by simpa using vbs_one _)) ?_
          rintro w7 ⟨e7, hs7, B47⟩
          rw [all_stored (by simp [vbs_length, h64, Value.cells])] at B47
          have n7 := e6.news2 e7 (by omega)
          replace E := E.trans0 n7
          replace B9 := B9.ext0 n7
          replace B6 := B6.ext0 n7
          replace o6 := o6.ext0 n7
          replace hB := hB.ext0 n7
          replace D := D.ext0 n7
          refine L.nil ?_
          refine N.seq ?_
          obtain ⟨gl, curl, rfl, rfl, L6, hkl, hO6⟩ := o6.set j (by omega)
          have hE7 := E.size
          have hgl := hM6 gl (by simp)
          refine G.staged [7] [.blocks ([gl])] [fun w' => Ext [] w7 w', fun w' => Ext [gl] w7 w' ∧ Blk w' gl (curl.setIfInBounds j (ptr b47)) 118 (0, 0)] [] (by decide +kernel) (by decide +kernel) rfl rfl rfl (fun _ h => h) ?_
          refine Z.val rfl rfl rfl rfl rfl (fun w8 => R.mv rfl) ?_
          refine Z.val rfl rfl rfl rfl rfl (fun w8 => R.nilChk rfl) ?_
          refine Z.val rfl rfl rfl rfl rfl (fun w8 => R.fld rfl) ?_
          refine Z.read 0 (by decide +kernel) rfl rfl rfl rfl rfl rfl (fun w8 hJ => R.ldB rfl (B6.ext0 hJ) rfl) ?_
          refine Z.val rfl rfl rfl rfl rfl (fun w8 => R.fld rfl) ?_
          refine Z.read 0 (by decide +kernel) rfl rfl rfl rfl rfl rfl (fun w8 hJ => R.ldB rfl (B9.ext0 hJ) rfl) ?_
          refine Z.val rfl rfl rfl rfl rfl (fun w8 => R.idx rfl rfl (by omega) (by omega) _ rfl) ?_
          refine Z.be 54 rfl (show _ = Value.pointer (some ⟨gl, j, none⟩) by rw [Go.Addr.add_lit, hj0]; simp) ?_
          refine Z.set 0 (by decide +kernel) rfl rfl rfl rfl rfl rfl (fun w8 hJ => (R.st rfl rfl (L6.ext0 hJ) hkl rfl).mono (fun _ h => ⟨h.1, h.1.after hJ, h.2.2⟩)) ?_
          refine Z.nil rfl rfl (fun w8 hJ => ?_)
          obtain ⟨e12, L12⟩ := hJ
          replace o6 := hO6 (ptr b47) _ e12 L12
          replace E := E.news2 e12 (by omega)
          replace B6 := B6.ext e12 (fun hm => B6.ne L6 (by decide) (List.mem_singleton.1 hm))
          replace hB := hB.put e12 L6 B47 h64 hj
          refine N.block ?_
          refine N.seq ?_
          refine G.region ?_
          refine L.val rfl rfl (R.add rfl rfl (by omega)) ?_
          refine L.val rfl rfl (R.mv rfl) ?_
          refine L.nil ?_
          exact N.again (i + 1, laid y j o.B', qs.set j b47) (by show ln - (i + 1) < ln - i; omega) (Sub.cons rfl (Sub.cons rfl (Sub.cons rfl (Sub.cons rfl (Sub.cons rfl (Sub.nil _)))))) ⟨by show i + 1 ≤ ln; omega, (laid_length h64 hj).trans hyl, hw2, E, B6, by rw [List.map_set]; exact o6, hB⟩
  · have hw2 : withF x (ws.map wv) = (y, 0) := by rw [hiw, List.drop_of_length_le (by rw [List.length_map]; omega)]; rfl
    refine G.exit _ rfl ?_
    refine N.seq ?_
    refine G.seq ?_
    refine G.region ?_
    refine L.val rfl rfl (R.mv rfl) ?_
    refine L.val rfl rfl (R.as rfl) ?_
    refine L.val rfl rfl (R.as rfl) ?_
    refine L.nil ?_
    refine N.seq ?_
    refine G.ret2 rfl rfl rfl ?_
    first
      | (rw [hw2]; exact ⟨E, fun h => absurd h (by decide), fun _ => rfl⟩)
      | (rw [hw2]; exact ⟨E, fun _ => ⟨b18, rfl, OwnDisk.at (s := 0) ⟨a6, c6, qs, M6, by rw [hdy]; exact B6, by omega, by rw [hdy, hyl]; exact D.len, by rw [hdy]; exact D.pos, by rw [hdy]; exact D.le, by rw [hdy]; exact o6, by simp, hB⟩⟩, fun h => (h rfl).elim⟩)

theorem iwith_nil (la : Option Addr) (ln lc : Nat) (w : World) : Meets Try.prog 19 [.pointer none, .slice la ln lc] w (fun v w' => v = .tuple #[.pointer none, .int .i64 1] ∧ w' = w) := by
  refine Meets.enter Try.func19 rfl 57 rfl (Nat.le_of_ble_eq_true rfl) ?_
  refine G.seq ?_
  refine G.region ?_
  refine L.val rfl rfl (R.as rfl) ?_
  refine L.val rfl rfl (R.as rfl) ?_
  refine L.nil ?_
  refine N.seq ?_
  refine G.seq ?_
  refine G.seq ?_
  refine G.region ?_
  refine L.val rfl rfl (R.mv rfl) ?_
  refine L.val rfl rfl (R.eqNilP rfl rfl) ?_
  refine L.nil ?_
  refine N.seq ?_
  refine G.condT rfl ?_
  refine G.seq ?_
  refine G.region ?_
  refine L.val rfl rfl (R.as rfl) ?_
  refine L.val rfl rfl (R.as rfl) ?_
  refine L.nil ?_
  refine N.seq ?_
  refine G.ret2 rfl rfl rfl ?_
  exact ⟨rfl, rfl⟩

end Go.Proofs.Ytjmlcodlnohgdaa
