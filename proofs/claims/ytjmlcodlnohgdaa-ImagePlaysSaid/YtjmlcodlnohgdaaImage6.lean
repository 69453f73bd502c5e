/-
  The walks of package image.
-/
import Derived.Test.YtjmlcodlnohgdaaImage5
import Derived.Test.YtjmlcodlnohgdaaImageA
set_option linter.unusedVariables false
set_option linter.unusedSimpArgs false
namespace Go.Proofs.Ytjmlcodlnohgdaa
open Go Brv Brv.Image
theorem DiskO.isNil {w : World} {d : Option Addr} {x : List UInt8} (h : DiskO w d x) : d.isNone = decide (x = []) := by
  rcases h with ⟨rfl, rfl⟩ | ⟨b, rfl, h⟩
  · rfl
  · have := h.len
    have hx : x ≠ [] := fun e => by subst e; exact absurd this.2.2 (by decide)
    simp [hx]
def wv (o : WriteV) : Int × List UInt8 := (o.Block', o.B')
theorem isame_ok (da db : Option Addr) (x y : List UInt8) (w : World) (hx : DiskO w da x) (hy : DiskO w db y) : Meets Try.prog 22 [.pointer da, .pointer db] w (fun v w' => v = .bool (decide (x = y)) ∧ Ext [] w w') := by
  refine Meets.enter Try.func22 rfl 17 rfl (Nat.le_of_ble_eq_true rfl) ?_
  have E := Ext.refl [] w
  have hxn := hx.isNil
  have hyn := hy.isNil
  have hdn := diff_nil hx.len.1 hy.len.1
  refine G.seq ?_
  refine G.region ?_
  refine L.val rfl rfl (R.as rfl) ?_
  refine L.nil ?_
  refine N.seq ?_
  refine G.seq ?_
  refine G.region ?_
  refine L.val rfl rfl (R.mv rfl) ?_
  refine L.val rfl rfl (R.eqNilP rfl rfl) ?_
  refine L.val rfl rfl (R.mv rfl) ?_
  refine L.val rfl rfl (R.eqNilP rfl rfl) ?_
  refine L.val rfl rfl (R.eqB rfl rfl) ?_
  refine L.val rfl rfl (R.mv rfl) ?_
  refine L.caseB 10 rfl (fun hg1_5 => ?_) (fun hg1_5 => ?_)
  · refine L.val rfl rfl (R.mv rfl) ?_
    refine L.val rfl rfl (R.mv rfl) ?_
    refine L.callF rfl rfl rfl go26 (idiff_ok da db x y _ hx hy) ?_
    rintro _ w1 ⟨a1, c1, M1, rfl, e1, o1, hM1⟩
    replace E := E.trans0 e1
    refine L.val rfl rfl (R.lenS rfl) ?_
    refine L.val rfl rfl (R.eqI rfl rfl) ?_
    first | refine L.val rfl rfl (R.pickT rfl rfl) ?_ | refine L.val rfl rfl (R.pickF rfl rfl) ?_
    refine L.val rfl rfl (R.as rfl) ?_
    refine L.nil ?_
    refine N.seq ?_
    refine G.ret1 rfl rfl ?_
    exact ⟨congrArg Value.bool (by rw [decide_eq_decide, ← hdn, ← List.length_eq_zero_iff]; omega), E⟩
  · refine L.pass rfl rfl ?_
    refine L.pass rfl rfl ?_
    refine L.pass rfl rfl ?_
    refine L.pass rfl rfl ?_
    refine L.pass rfl rfl ?_
    first | refine L.val rfl rfl (R.pickT rfl rfl) ?_ | refine L.val rfl rfl (R.pickF rfl rfl) ?_
    refine L.val rfl rfl (R.as rfl) ?_
    refine L.nil ?_
    refine N.seq ?_
    refine G.ret1 rfl rfl ?_
    have hne : x ≠ y := fun e => by subst e; rw [hxn, hyn] at hg1_5; simp at hg1_5
    exact ⟨congrArg Value.bool (decide_eq_false hne).symm, E⟩

theorem lsame_ok (a a' : Option Addr) (c c' : Nat) (p q : List Nat) (w : World) (hb : Cells w a (nums p)) (hb' : Cells w a' (nums q)) (hn : p.length ≤ 1000000) : Meets Try.prog 25 [.slice a p.length c, .slice a' q.length c'] w (fun v w' => v = .bool (decide (p = q)) ∧ Ext [] w w') := by
  refine Meets.enter Try.func25 rfl 26 rfl (Nat.le_of_ble_eq_true rfl) ?_
  have E := Ext.refl [] w
  refine G.seq ?_
  refine G.region ?_
  refine L.val rfl rfl (R.as rfl) ?_
  refine L.nil ?_
  refine N.seq ?_
  refine G.seq ?_
  refine G.seq ?_
  refine G.region ?_
  refine L.val rfl rfl (R.mv rfl) ?_
  refine L.val rfl rfl (R.lenS rfl) ?_
  refine L.val rfl rfl (R.mv rfl) ?_
  refine L.val rfl rfl (R.lenS rfl) ?_
  refine L.val rfl rfl (R.neI rfl rfl) ?_
  refine L.nil ?_
  refine N.seq ?_
  refine G.condP rfl (fun h0 => ?_) (fun h0 => ?_)
  · have hpq : p ≠ q := fun e => by subst e; exact h0 rfl
    refine G.seq ?_
    refine G.region ?_
    refine L.val rfl rfl (R.as rfl) ?_
    refine L.nil ?_
    refine N.seq ?_
    refine G.ret1 rfl rfl ?_
    first | exact ⟨congrArg Value.bool (decide_eq_false hpq).symm, E⟩ | exact ⟨congrArg Value.bool (decide_eq_true hpq).symm, E⟩
  · have hlq : p.length = q.length := by omega
    refine G.skip ?_
    refine N.seq ?_
    refine G.seq ?_
    refine G.seq ?_
    refine G.region ?_
    refine L.val rfl rfl (R.mv rfl) ?_
    refine L.val rfl rfl (R.lenS rfl) ?_
    refine L.val rfl rfl (R.mv rfl) ?_
    refine L.nil ?_
    refine N.seq ?_
    refine G.block ?_
    refine G.loop (X := Nat) (fun k => [(0, .slice a p.length c), (1, .slice a' q.length c'), (12, .int .i64 (p.length : Int)), (13, .int .i64 (k : Int))]) (fun k w' => k ≤ p.length ∧ p.take k = q.take k ∧ Ext [] w w') (fun k => p.length - k) (0) (Sub.cons rfl (Sub.cons rfl (Sub.cons rfl (Sub.cons rfl (Sub.nil _))))) ⟨by omega, rfl, E⟩ ?_
    rintro k w1 ⟨hk, hp, E⟩
    refine G.seq ?_
    refine G.region ?_
    refine L.val rfl rfl (R.lss rfl rfl) ?_
    refine L.nil ?_
    refine N.seq ?_
    refine G.seq ?_
    refine G.condP rfl (fun h1 => ?_) (fun h1 => ?_)
    · have hkp : k < p.length := by omega
      obtain ⟨u, hu⟩ : ∃ u, p[k]? = some u := ⟨_, List.getElem?_eq_getElem hkp⟩
      obtain ⟨u', hu'⟩ : ∃ u, q[k]? = some u := ⟨_, List.getElem?_eq_getElem (show k < q.length by omega)⟩
      obtain ⟨x, rfl, hcx⟩ := hb k (num u) (by simp [nums, hu])
      obtain ⟨x', rfl, hcx'⟩ := hb' k (num u') (by simp [nums, hu'])
      refine G.skip ?_
      refine N.seq ?_
      refine G.seq ?_
      refine G.block ?_
      refine G.seq ?_
      refine G.region ?_
      refine L.val rfl rfl (R.mv rfl) ?_
      refine L.val rfl rfl (R.as rfl) ?_
      refine L.nil ?_
      refine N.seq ?_
      refine G.seq ?_
      refine G.quiet (by decide +kernel) rfl ?_
      refine Q.val rfl rfl rfl rfl (fun w2 hE => R.mv rfl) ?_
      refine Q.val rfl rfl rfl rfl (fun w2 hE => R.mv rfl) ?_
      refine Q.val rfl rfl rfl rfl (fun w2 hE => R.idx rfl rfl (by omega) (by omega) x rfl) ?_
      refine Q.val rfl rfl rfl rfl (fun w2 hE => R.ld rfl (v := num u) (by simpa using cell?_ext0' hcx (E.trans0 hE))) ?_
      refine Q.val rfl rfl rfl rfl (fun w2 hE => R.mv rfl) ?_
      refine Q.val rfl rfl rfl rfl (fun w2 hE => R.mv rfl) ?_
      refine Q.val rfl rfl rfl rfl (fun w2 hE => R.idx rfl rfl (by omega) (by omega) x' rfl) ?_
      refine Q.val rfl rfl rfl rfl (fun w2 hE => R.ld rfl (v := num u') (by simpa using cell?_ext0' hcx' (E.trans0 hE))) ?_
      refine Q.val rfl rfl rfl rfl (fun w2 hE => R.neI rfl rfl) ?_
      refine Q.nil (fun w2 e2 => ?_)
      replace E := E.trans0 e2
      refine N.seq ?_
      refine G.condP rfl (fun h2 => ?_) (fun h2 => ?_)
      · have hpq : p ≠ q := fun e => by subst e; rw [hu] at hu'; cases hu'; exact h2 rfl
        refine G.seq ?_
        refine G.region ?_
        refine L.val rfl rfl (R.as rfl) ?_
        refine L.nil ?_
        refine N.seq ?_
        refine G.ret1 rfl rfl ?_
        first | exact ⟨congrArg Value.bool (decide_eq_false hpq).symm, E⟩ | exact ⟨congrArg Value.bool (decide_eq_true hpq).symm, E⟩
      · have hx : u = u' := by omega
        have hp' : p.take (k + 1) = q.take (k + 1) := by rw [List.take_add_one, List.take_add_one, hp, hu, hu', hx]
        refine G.skip ?_
        refine N.block ?_
        refine N.seq ?_
        refine G.region ?_
        refine L.val rfl rfl (R.add rfl rfl (by omega)) ?_
        refine L.val rfl rfl (R.mv rfl) ?_
        refine L.nil ?_
        exact N.again (k + 1) (by omega) (Sub.cons rfl (Sub.cons rfl (Sub.cons rfl (Sub.cons rfl (Sub.nil _))))) ⟨by omega, hp', E⟩
    · have hpq : p = q := by rw [List.take_of_length_le (by omega), List.take_of_length_le (by omega)] at hp; exact hp
      refine G.exit _ rfl ?_
      refine N.seq ?_
      refine G.seq ?_
      refine G.region ?_
      refine L.val rfl rfl (R.as rfl) ?_
      refine L.nil ?_
      refine N.seq ?_
      refine G.ret1 rfl rfl ?_
      first | exact ⟨congrArg Value.bool (decide_eq_false hpq).symm, E⟩ | exact ⟨congrArg Value.bool (decide_eq_true hpq).symm, E⟩

theorem rwith_ok (x : List UInt8) (la : Option Addr) (ln lc : Nat) (ws : List WriteV) (w : World) (hx : x.length ≤ 4096) (hT : Tab w la ln 2 (ws.map WriteV.cells)) (hO : ∀ o ∈ ws, Bs w o.B'a o.B'n o.B') (hln : ln ≤ 1000000) : Meets Try.prog 24 [.string (str x), .slice la ln lc] w (fun v w' => v = .tuple #[.string (str (withF x (ws.map wv)).1), .int .i64 (withF x (ws.map wv)).2] ∧ Ext [] w w') := by
  refine Meets.enter Try.func24 rfl 47 rfl (Nat.le_of_ble_eq_true rfl) ?_
  have E := Ext.refl [] w
  have hn := hT.len
  rw [List.length_map] at hn
  have hdx : dn x = x.length / 64 := rfl
  refine G.seq ?_
  refine G.region ?_
  refine L.val rfl rfl (R.as rfl) ?_
  refine L.val rfl rfl (R.as rfl) ?_
  refine L.nil ?_
  refine N.seq ?_
  refine G.seq ?_
  refine G.seq ?_
  refine G.region ?_
  refine L.val rfl rfl (R.mv rfl) ?_
  refine L.val rfl rfl (R.lenS rfl) ?_
  refine L.val rfl rfl (R.mv rfl) ?_
  refine L.nil ?_
  refine N.seq ?_
  refine G.block ?_
  refine G.loop (X := Nat × List UInt8) (fun s => [(0, .string (str s.2)), (1, .slice la ln lc), (10, .slice la ln lc), (11, .int .i64 (ln : Int)), (12, .int .i64 (s.1 : Int))]) (fun s w' => s.1 ≤ ln ∧ s.2.length = x.length ∧ withF x (ws.map wv) = withF s.2 ((ws.map wv).drop s.1) ∧ Ext [] w w') (fun s => ln - s.1) ((0, x)) (Sub.cons rfl (Sub.cons rfl (Sub.cons rfl (Sub.cons rfl (Sub.cons rfl (Sub.nil _)))))) ⟨Nat.zero_le _, rfl, rfl, E⟩ ?_
  rintro ⟨i, y⟩ w1 ⟨hi, hyl, hiw, E⟩
  dsimp only at hi hyl hiw
  refine G.sub [(0, .string (str y)), (1, .slice la ln lc), (10, .slice la ln lc), (11, .int .i64 (ln : Int)), (12, .int .i64 (i : Int))] (Sub.cons rfl (Sub.cons rfl (Sub.cons rfl (Sub.cons rfl (Sub.cons rfl (Sub.nil _)))))) ?_
  have hdy : dn y = x.length / 64 := by unfold dn; rw [hyl]
  refine G.seq ?_
  refine G.region ?_
  refine L.val rfl rfl (R.lss rfl rfl) ?_
  refine L.nil ?_
  refine N.seq ?_
  refine G.seq ?_
  refine G.condP rfl (fun h0 => ?_) (fun h0 => ?_)
  · refine G.skip ?_
    refine N.seq ?_
    refine G.seq ?_
    refine G.block ?_
    refine G.seq ?_
    refine G.region ?_
    have hdr : (ws.map wv).drop i = wv (ws[i]'(by omega)) :: (ws.map wv).drop (i + 1) := by rw [List.drop_eq_getElem_cons (by rw [List.length_map]; omega), List.getElem_map]
    obtain ⟨q9, hq9, hcl⟩ := hT.at (by decide) i (by rw [List.length_map]; omega)
    rw [List.getElem_map] at hcl
    have hok' := hO _ (List.getElem_mem (show i < ws.length by omega))
    generalize hoe : ws[i]'(by omega) = o at *
    refine L.val rfl rfl (R.idx rfl rfl (by omega) (by omega) q9 hq9) ?_
    refine L.val rfl rfl (R.ldN rfl (hcl.ext0 E) rfl) ?_
    refine L.do rfl rfl (R.alloc) ?_
    rintro _ w2 ⟨b9, rfl, hb9, hs9, e2, B9⟩
    have hEb := E.size
    replace E := E.trans0 e2
    refine L.set rfl (R.stN rfl rfl B9 rfl (Nat.le_refl 2) (WriteV.cells.one _)) ?_
    rintro w3 ⟨e3, hs3, B9⟩
    replace B9 : Blk w3 b9 o.cells.toArray 51 (0, 0) := B9
    replace E := E.trans e3 (M := []) (by simp) (by intro x hx; rw [List.mem_singleton.1 hx]; exact .inr (by omega))
    refine L.nil ?_
    refine N.seq ?_
    refine G.seq ?_
    refine G.region ?_
    refine L.val rfl rfl (R.mv rfl) ?_
    refine L.val rfl rfl (R.fld rfl) ?_
    refine L.val rfl rfl (R.ldB rfl B9 rfl) ?_
    refine L.callF rfl rfl rfl go28 (rget_ok y o.Block' _ (by omega)) ?_
    rintro _ _ ⟨rfl, hw⟩
    obtain rfl := hw.symm
    refine L.val rfl rfl (R.mv rfl) ?_
    refine L.val rfl rfl (R.ext rfl rfl) ?_
    refine L.val rfl rfl (R.ext rfl rfl) ?_
    refine L.val rfl rfl (R.as rfl) ?_
    refine L.val rfl rfl (R.as rfl) ?_
    refine L.nil ?_
    refine N.seq ?_
    refine G.seq ?_
    refine G.seq ?_
    refine G.region ?_
    refine L.val rfl rfl (R.mv rfl) ?_
    refine L.val rfl rfl (R.not rfl) ?_
    refine L.be 24 rfl (show _ = Value.bool (decide (¬ okK y o.Block')) by simp) ?_
    refine L.nil ?_
    refine N.seq ?_
    refine G.condP rfl (fun h1 => ?_) (fun h1 => ?_)
    · have hw2 : withF x (ws.map wv) = ([], 41) := by rw [hiw, hdr]; exact withF_blk (by show o.Block' < 0 ∨ (dn y : Int) ≤ o.Block'; unfold okK at h1; omega)
      refine G.seq ?_
      refine G.region ?_
      refine L.val rfl rfl (R.as rfl) ?_
      refine L.val rfl rfl (R.as rfl) ?_
      refine L.nil ?_
      refine N.seq ?_
      refine G.ret2 rfl rfl rfl ?_
      rw [hw2]; exact ⟨rfl, E⟩
    · have hok : okK y o.Block' := Classical.not_not.1 h1
      obtain ⟨j, hj0⟩ := Int.eq_ofNat_of_zero_le hok.1
      have hj : j < dn y := by have := hok.2; omega
      have hBs := hok'
      have hBl := hBs.len
      refine G.skip ?_
      refine N.seq ?_
      refine G.seq ?_
      refine G.seq ?_
      refine G.region ?_
      refine L.val rfl rfl (R.fld rfl) ?_
      refine L.val rfl rfl (R.ldB rfl B9 rfl) ?_
      refine L.val rfl rfl (R.lenS rfl) ?_
      refine L.val rfl rfl (R.neI rfl rfl) ?_
      refine L.nil ?_
      refine N.seq ?_
      refine G.condP rfl (fun h2 => ?_) (fun h2 => ?_)
      · have hw2 : withF x (ws.map wv) = ([], 42) := by rw [hiw, hdr]; exact withF_size (by show ¬ (o.Block' < 0 ∨ (dn y : Int) ≤ o.Block'); omega) (by show o.B'.length ≠ 64; omega)
        refine G.seq ?_
        refine G.region ?_
        refine L.val rfl rfl (R.as rfl) ?_
        refine L.val rfl rfl (R.as rfl) ?_
        refine L.nil ?_
        refine N.seq ?_
        refine G.ret2 rfl rfl rfl ?_
        rw [hw2]; exact ⟨rfl, E⟩
      · have h64 : o.B'.length = 64 := by omega
        have hw2 : withF x (ws.map wv) = withF (laid y j o.B') ((ws.map wv).drop (i + 1)) := by rw [hiw, hdr, withF_next (by show ¬ (o.Block' < 0 ∨ (dn y : Int) ≤ o.Block'); omega) h64]; rw [show (wv o).1.toNat = j by show o.Block'.toNat = j; omega]; rfl
        refine G.skip ?_
        refine N.seq ?_
        refine G.quiet (by decide +kernel) rfl ?_
        refine Q.val rfl rfl rfl rfl (fun w4 hE => R.mv rfl) ?_
        refine Q.val rfl rfl rfl rfl (fun w4 hE => R.fld rfl) ?_
        refine Q.val rfl rfl rfl rfl (fun w4 hE => R.ldB rfl (B9.ext0 hE) rfl) ?_
        refine Q.val rfl rfl rfl rfl (fun w4 hE => R.mul rfl rfl (by omega)) ?_
        refine Q.val rfl rfl rfl rfl (fun w4 hE => R.slStrH rfl rfl (by omega) (by omega)) ?_
        refine Q.val rfl rfl rfl rfl (fun w4 hE => R.fld rfl) ?_
        refine Q.val rfl rfl rfl rfl (fun w4 hE => R.ldB rfl (B9.ext0 hE) rfl) ?_
        refine Q.val rfl rfl rfl rfl (fun w4 hE => R.bytesStr rfl (hBs.ext0 (E.trans0 hE)).cells hBl) ?_
        refine Q.val rfl rfl rfl rfl (fun w4 hE => R.addStr rfl rfl (by rw [List.length_take]; omega)) ?_
        refine Q.val rfl rfl rfl rfl (fun w4 hE => R.mv rfl) ?_
        refine Q.val rfl rfl rfl rfl (fun w4 hE => R.fld rfl) ?_
        refine Q.val rfl rfl rfl rfl (fun w4 hE => R.ldB rfl (B9.ext0 hE) rfl) ?_
        refine Q.val rfl rfl rfl rfl (fun w4 hE => R.mul rfl rfl (by omega)) ?_
        refine Q.val rfl rfl rfl rfl (fun w4 hE => R.add rfl rfl (by omega)) ?_
        refine Q.val rfl rfl rfl rfl (fun w4 hE => R.slStrL rfl rfl (by omega) (by omega)) ?_
        refine Q.val rfl rfl rfl rfl (fun w4 hE => R.addStr rfl rfl (by simp only [List.length_append, List.length_take, List.length_drop]; omega)) ?_
        refine Q.be 44 rfl (show _ = Value.string (str (laid y j o.B')) by rw [show (64 * o.Block').toNat = 64 * j by omega, show (64 * o.Block' + 64).toNat = 64 * j + 64 by omega]; rfl) ?_
        refine Q.val rfl rfl rfl rfl (fun w4 hE => R.as rfl) ?_
        refine Q.nil (fun w4 e4 => ?_)
        replace E := E.trans0 e4
        refine N.block ?_
        refine N.seq ?_
        refine G.region ?_
        refine L.val rfl rfl (R.add rfl rfl (by omega)) ?_
        refine L.val rfl rfl (R.mv rfl) ?_
        refine L.nil ?_
        exact N.again (i + 1, laid y j o.B') (by show ln - (i + 1) < ln - i; omega) (Sub.cons rfl (Sub.cons rfl (Sub.cons rfl (Sub.cons rfl (Sub.cons rfl (Sub.nil _)))))) ⟨by show i + 1 ≤ ln; omega, (laid_length h64 hj).trans hyl, hw2, E⟩
  · have hw2 : withF x (ws.map wv) = (y, 0) := by rw [hiw, List.drop_of_length_le (by rw [List.length_map]; omega)]; rfl
    refine G.exit _ rfl ?_
    refine N.seq ?_
    refine G.seq ?_
    refine G.region ?_
    refine L.val rfl rfl (R.mv rfl) ?_
    refine L.val rfl rfl (R.as rfl) ?_
    refine L.val rfl rfl (R.as rfl) ?_
    refine L.nil ?_
    refine N.seq ?_
    refine G.ret2 rfl rfl rfl ?_
    rw [hw2]; exact ⟨rfl, E⟩

end Go.Proofs.Ytjmlcodlnohgdaa
