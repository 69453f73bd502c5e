/-
  Texts of this claim, put together.
-/
import Derived.Test.YthpolibakkmmeaaOrlPLz2
/-
  The laws of order.
-/
set_option linter.unusedVariables false
set_option linter.unusedSimpArgs false
set_option maxRecDepth 4000
namespace Go.Proofs.Ythpolibakkmmeaa
open Go Brv
theorem iter_run {P : Program} {gf : FuncId} {lb : List Value} {w : World} {Nn : Nat} {q : Nat → Option (Pr Int)} {Fp : List Nat} (hit : Iter P gf lb w Nn (kvE gv1' q) (fun _ _ => True) Fp []) (f : FuncId) (cap : List Value) (hc : ∀ (vs : Array Value) w, (callFunc f vs).run P w = .ok (.enter f vs) w)
    (D : List Nat) (Inv : Nat → World → Prop) (stop : Nat → Prop) (hD : ∀ g ∈ D, g < w.heap.size ∧ g ∉ Fp)
    (hkeep : ∀ k W W' M', Inv k W → Ext M' W W' → (∀ g ∈ M', g ∉ D ∧ w.heap.size ≤ g) → Inv k W')
    (hstep : ∀ k p W, k < Nn → q k = some p → Inv k W → Meets P f ([Key.val p.1, gv1' p.2] ++ cap) W (fun v W' => ∃ b, v = .bool b ∧ Ext D W W' ∧ Inv (k + 1) W' ∧ (b = false → stop (k + 1))))
    (h0 : Inv 0 w) : Meets P gf (.func (.func f) #[] cap.toArray :: lb) w (fun _ W => ∃ k, k ≤ Nn ∧ Inv k W ∧ (k = Nn ∨ stop k)) := by
  refine (hit (.func (.func f) #[] cap.toArray) D (fun k D' W => D' = D ∧ Inv k W) (fun k D' W => D' = D ∧ Inv k W ∧ stop k) w (Ext.refl _ _) (fun g hg => ⟨(hD g hg).1, (hD g hg).2, by simp⟩) ?_ ?_ ?_ ⟨rfl, h0⟩).mono ?_
  · rintro k D' W W' M' ⟨rfl, h⟩ he hm
    exact ⟨rfl, hkeep k W W' M' h he (fun g hg => ⟨(hm g hg).1, (hm g hg).2.elim (by simp) id⟩)⟩
  · rintro k D' W W' M' ⟨rfl, h, hs⟩ he hm
    exact ⟨rfl, hkeep k W W' M' h he (fun g hg => ⟨(hm g hg).1, (hm g hg).2.elim (by simp) id⟩), hs⟩
  · rintro k D' vs W hk ⟨rfl, h⟩ ⟨p, hp, rfl⟩ hlt
    refine .inr ⟨f, #[], cap.toArray, rfl, hc, ?_⟩
    refine (hstep k p W hk hp h).mono ?_
    rintro v W' ⟨b, rfl, e, hi, hs⟩
    exact ⟨b, rfl, D', e, fun g hg => ⟨Nat.lt_of_lt_of_le (hlt g hg) e.size, .inl hg⟩, fun _ => ⟨rfl, hi⟩, fun hb => ⟨rfl, hi, hs hb⟩⟩
  · rintro v W (⟨D', ⟨_, h⟩, _⟩ | ⟨k, D', hk, ⟨_, h, hs⟩, _⟩)
    · exact ⟨Nn, Nat.le_refl _, h, .inl rfl⟩
    · exact ⟨k, hk, h, .inr hs⟩
theorem gvS {ps : List (Pr Int)} (hst : OkStr ps) (hs : Sorted ps) (k : Int) : ∃ gs, gv1 (.string (str [])) (getK ps k) = .string (str gs) := by
  cases hk : hasK ps k with
  | false => exact ⟨[], by rw [getK_no hk]; rfl⟩
  | true =>
    obtain ⟨p, hp, rfl⟩ := (hasK_exists hs).1 hk
    obtain ⟨s, h⟩ := hst p hp
    exact ⟨s, by rw [(hasK_mem hs hp).2, h]; rfl⟩
theorem floorK_mem {ps : List (Pr Int)} {k : Int} {p : Pr Int} (h : floorK ps k = some p) : p ∈ ps := by
  unfold floorK at h
  split at h
  · exact List.mem_of_getElem? h
  · split at h
    · cases h
    · exact List.mem_of_getElem? h
theorem flS {ps : List (Pr Int)} (hst : OkStr ps) (k : Int) : ∃ fk fs fb, floorV (.int .i64 0) (.string (str [])) (floorK ps k) = .tuple #[.int .i64 fk, .string (str fs), .bool fb] ∧ flC (floorK ps k) = #[.int .i64 fk, .string (str fs)] ∧ (floorK ps k).isSome = fb := by
  cases h : floorK ps k with
  | none => exact ⟨0, [], false, rfl, rfl, rfl⟩
  | some p =>
    obtain ⟨s, hs⟩ := hst p (floorK_mem h)
    obtain ⟨kk, v⟩ := p
    obtain rfl : v = _ := hs
    exact ⟨kk, s, true, rfl, rfl, rfl⟩

set_option maxHeartbeats 2000000 in
theorem look_ok (m : Nat) (ps : List (Pr Int)) (S : List Nat) (a : Option Addr) (n c : Nat) (Mr : List Nat) (kd kq sp : Int) (vv : List UInt8) (w : World) (hd : MapAt (κ := Int) 191 194 1 w m ps S) (hr : Own w 77 (1 + 1) a n c (pcells ps) Mr) (hn : n = ps.length) (hok : OkP 1 ps) (hst : OkStr ps) (hs : Sorted ps) (hnl : n ≤ 1000) : Meets Try.prog 48 [.pointer (some ⟨m, 0, none⟩), .slice a n c, .agg #[.int .i64 kd, .int .i64 kq, .int .i64 sp, .string (str vv)]] w (fun v w' => v = .bool true ∧ Ext [] w w') := by
  refine Meets.enter Try.func48 rfl 154 rfl (Nat.le_of_ble_eq_true rfl) ?_
  have E := Ext.refl [] w
  obtain ⟨gs, hgs⟩ := gvS hst hs kq
  obtain ⟨fk, fs, fb, hfv, hfc, hfb⟩ := flS hst kq
  refine G.seq ?_
  refine G.region ?_
  refine L.do rfl rfl (R.box rfl) ?_
  rintro _ w1 ⟨b4, rfl, hb4, hs4, e1, B4⟩
  replace E := E.trans0 e1
  replace B4 : Blk w1 b4 #[.slice a n c] 64 (0, 0) := B4
  refine L.do rfl rfl (R.box rfl) ?_
  rintro _ w2 ⟨b5, rfl, hb5, hs5, e2, B5⟩
  replace E := E.trans0 e2
  replace B4 := B4.ext0 e2
  replace B5 : Blk w2 b5 #[.int .i64 kd, .int .i64 kq, .int .i64 sp, .string (str vv)] 66 (0, 0) := B5
  refine L.val rfl rfl (R.as rfl) ?_
  refine L.nil ?_
  refine N.seq ?_
  refine G.seq ?_
  refine G.region ?_
  refine L.val rfl rfl (R.mv rfl) ?_
  refine L.val rfl rfl (R.fld rfl) ?_
  refine L.val rfl rfl (R.ldB (v := .int .i64 kq) rfl B5 rfl) ?_
  refine L.callF rfl rfl rfl go49 (getS_ok m ps S kq _ (hd.ext0 E) (by omega)) ?_
  rintro _ w3 ⟨rfl, e3⟩
  replace E := E.trans0 e3
  replace B4 := B4.ext0 e3
  replace B5 := B5.ext0 e3
  refine L.be 23 rfl (show _ = Value.tuple #[.string (str gs), .bool (hasK ps kq)] by rw [← hgs]; rfl) ?_
  refine L.val rfl rfl (R.mv rfl) ?_
  refine L.val rfl rfl (R.ext rfl rfl) ?_
  refine L.val rfl rfl (R.ext rfl rfl) ?_
  refine L.val rfl rfl (R.as rfl) ?_
  refine L.val rfl rfl (R.as rfl) ?_
  refine L.nil ?_
  refine N.seq ?_
  refine G.seq ?_
  refine G.region ?_
  refine L.val rfl rfl (R.ldB rfl B4 rfl) ?_
  refine L.val rfl rfl (R.fld rfl) ?_
  refine L.val rfl rfl (R.ldB (v := .int .i64 kq) rfl B5 rfl) ?_
  refine L.callF rfl rfl rfl go45 (rget_ok a n c ps Mr kq _ (hr.ext0 E) hn hok hst hs hnl) ?_
  rintro _ w4 ⟨rfl, e4⟩
  replace E := E.trans0 e4
  replace B4 := B4.ext0 e4
  replace B5 := B5.ext0 e4
  refine L.be 30 rfl (show _ = Value.tuple #[.string (str gs), .bool (hasK ps kq)] by rw [← hgs]) ?_
  refine L.val rfl rfl (R.mv rfl) ?_
  refine L.val rfl rfl (R.ext rfl rfl) ?_
  refine L.val rfl rfl (R.ext rfl rfl) ?_
  refine L.val rfl rfl (R.as rfl) ?_
  refine L.val rfl rfl (R.as rfl) ?_
  refine L.nil ?_
  refine N.seq ?_
  refine G.seq ?_
  refine G.region ?_
  refine L.val rfl rfl (R.mv rfl) ?_
  refine L.val rfl rfl (R.fld rfl) ?_
  refine L.val rfl rfl (R.ldB (v := .int .i64 kq) rfl B5 rfl) ?_
  refine L.callF rfl rfl rfl go50 (floorS_ok m ps S kq _ (hd.ext0 E) (by omega)) ?_
  rintro _ w5 ⟨rfl, e5⟩
  replace E := E.trans0 e5
  replace B4 := B4.ext0 e5
  replace B5 := B5.ext0 e5
  refine L.be 37 rfl (show _ = Value.tuple #[.int .i64 fk, .string (str fs), .bool fb] from hfv) ?_
  refine L.val rfl rfl (R.mv rfl) ?_
  refine L.val rfl rfl (R.ext rfl rfl) ?_
  refine L.val rfl rfl (R.ext rfl rfl) ?_
  refine L.val rfl rfl (R.ext rfl rfl) ?_
  refine L.val rfl rfl (R.as rfl) ?_
  refine L.val rfl rfl (R.as rfl) ?_
  refine L.val rfl rfl (R.as rfl) ?_
  refine L.nil ?_
  refine N.seq ?_
  refine G.seq ?_
  refine G.region ?_
  refine L.val rfl rfl (R.ldB rfl B4 rfl) ?_
  refine L.val rfl rfl (R.fld rfl) ?_
  refine L.val rfl rfl (R.ldB (v := .int .i64 kq) rfl B5 rfl) ?_
  refine L.callF rfl rfl rfl go114 (rfloor_ok a n c ps Mr kq _ (hr.ext0 E) hn hok hst hs hnl) ?_
  rintro _ w6 ⟨rfl, e6⟩
  replace E := E.trans0 e6
  replace B4 := B4.ext0 e6
  replace B5 := B5.ext0 e6
  refine L.be 45 rfl (show _ = Value.tuple #[.agg #[.int .i64 fk, .string (str fs)], .bool fb] by rw [hfc, hfb]) ?_
  refine L.val rfl rfl (R.mv rfl) ?_
  refine L.val rfl rfl (R.ext rfl rfl) ?_
  refine L.val rfl rfl (R.ext rfl rfl) ?_
  refine L.do rfl rfl (R.alloc) ?_
  rintro _ w7 ⟨b14, rfl, hb14, hs14, e7, B14⟩
  replace B14 : Blk w7 b14 #[.int .i64 0, .string (str [])] 77 (0, 0) := B14
  have hE7 := E.size
  have l4 := B4.lt
  have l5 := B5.lt
  replace E := E.trans0 e7
  replace B4 := B4.ext0 e7
  replace B5 := B5.ext0 e7
  refine L.set rfl (R.stN rfl rfl B14 rfl (by show 0 + 2 ≤ 2; decide) (by intro u hu; simp at hu; rcases hu with rfl | rfl <;> rfl)) ?_
  rintro w8 ⟨e8, hs8, B14⟩
  replace B14 : Blk w8 b14 #[.int .i64 fk, .string (str fs)] 77 (0, 0) := B14
  replace E := E.trans e8 (M := []) (by simp) (by intro x hx; rw [List.mem_singleton.1 hx]; exact .inr (by omega))
  replace B4 := B4.ext e8 (by simp; omega)
  replace B5 := B5.ext e8 (by simp; omega)
  refine L.val rfl rfl (R.as rfl) ?_
  refine L.nil ?_
  refine N.seq ?_
  refine G.seq ?_
  refine G.seq ?_
  refine G.quiet (by decide +kernel) rfl ?_
  refine Q.val rfl rfl rfl rfl (fun w9 hE => R.mv rfl) ?_
  refine Q.val rfl rfl rfl rfl (fun w9 hE => R.mv rfl) ?_
  refine Q.val rfl rfl rfl rfl (fun w9 hE => R.neStr rfl rfl) ?_
  refine Q.val rfl rfl rfl rfl (fun w9 hE => R.mv rfl) ?_
  refine Q.isF 51 rfl (by simp) ?_
  refine Q.val rfl rfl rfl rfl (fun w9 hE => R.mv rfl) ?_
  refine Q.val rfl rfl rfl rfl (fun w9 hE => R.mv rfl) ?_
  refine Q.val rfl rfl rfl rfl (fun w9 hE => R.neB rfl rfl) ?_
  first | refine Q.val rfl rfl rfl rfl (fun w9 hE => R.pickT rfl rfl) ?_ | refine Q.val rfl rfl rfl rfl (fun w9 hE => R.pickF rfl rfl) ?_
  refine Q.val rfl rfl rfl rfl (fun w9 hE => R.mv rfl) ?_
  refine Q.isF 56 rfl (by simp) ?_
  refine Q.val rfl rfl rfl rfl (fun w9 hE => R.mv rfl) ?_
  refine Q.val rfl rfl rfl rfl (fun w9 hE => R.fld rfl) ?_
  refine Q.val rfl rfl rfl rfl (fun w9 hE => R.ldB (v := .int .i64 fk) rfl (B14.ext0 hE) rfl) ?_
  refine Q.val rfl rfl rfl rfl (fun w9 hE => R.neI rfl rfl) ?_
  first | refine Q.val rfl rfl rfl rfl (fun w9 hE => R.pickT rfl rfl) ?_ | refine Q.val rfl rfl rfl rfl (fun w9 hE => R.pickF rfl rfl) ?_
  refine Q.val rfl rfl rfl rfl (fun w9 hE => R.mv rfl) ?_
  refine Q.isF 62 rfl (by simp) ?_
  refine Q.val rfl rfl rfl rfl (fun w9 hE => R.mv rfl) ?_
  refine Q.val rfl rfl rfl rfl (fun w9 hE => R.fld rfl) ?_
  refine Q.val rfl rfl rfl rfl (fun w9 hE => R.ldB (v := .string (str fs)) rfl (B14.ext0 hE) rfl) ?_
  refine Q.val rfl rfl rfl rfl (fun w9 hE => R.neStr rfl rfl) ?_
  first | refine Q.val rfl rfl rfl rfl (fun w9 hE => R.pickT rfl rfl) ?_ | refine Q.val rfl rfl rfl rfl (fun w9 hE => R.pickF rfl rfl) ?_
  refine Q.val rfl rfl rfl rfl (fun w9 hE => R.mv rfl) ?_
  refine Q.isF 68 rfl (by simp) ?_
  refine Q.val rfl rfl rfl rfl (fun w9 hE => R.mv rfl) ?_
  refine Q.val rfl rfl rfl rfl (fun w9 hE => R.mv rfl) ?_
  refine Q.val rfl rfl rfl rfl (fun w9 hE => R.neB rfl rfl) ?_
  first | refine Q.val rfl rfl rfl rfl (fun w9 hE => R.pickT rfl rfl) ?_ | refine Q.val rfl rfl rfl rfl (fun w9 hE => R.pickF rfl rfl) ?_
  refine Q.val rfl rfl rfl rfl (fun w9 hE => R.mv rfl) ?_
  refine Q.isF 73 rfl (by simp) ?_
  refine Q.val rfl rfl rfl rfl (fun w9 hE => R.mv rfl) ?_
  refine Q.call (.int .i64 (ps.length : Int)) rfl rfl rfl go53 (fun w9 hE => ⟨_, rfl, (olenS_ok m ps S _ (hd.ext0 (E.trans0 hE)) (by omega)).mono (by rintro _ _ ⟨rfl, rfl⟩; exact ⟨rfl, Ext.refl _ _⟩)⟩) ?_
  refine Q.val rfl rfl rfl rfl (fun w9 hE => R.ldB rfl (B4.ext0 hE) rfl) ?_
  refine Q.val rfl rfl rfl rfl (fun w9 hE => R.lenS rfl) ?_
  refine Q.val rfl rfl rfl rfl (fun w9 hE => R.neI rfl rfl) ?_
  first | refine Q.val rfl rfl rfl rfl (fun w9 hE => R.pickT rfl rfl) ?_ | refine Q.val rfl rfl rfl rfl (fun w9 hE => R.pickF rfl rfl) ?_
  refine Q.nil (fun w9 e9 => ?_)
  replace E := E.trans0 e9
  replace B4 := B4.ext0 e9
  replace B5 := B5.ext0 e9
  refine N.seq ?_
  refine G.condP rfl (fun h0 => ?_) (fun h0 => ?_)
  · exfalso; omega
  · refine G.skip ?_
    refine N.seq ?_
    refine G.seq ?_
    refine G.region ?_
    refine L.do rfl rfl (R.alloc) ?_
    rintro _ w10 ⟨b16, rfl, hb16, hs16, e10, B16⟩
    have hE10 := E.size
    have l4 := B4.lt
    have l5 := B5.lt
    replace E := E.trans0 e10
    replace B4 := B4.ext0 e10
    replace B5 := B5.ext0 e10
    refine L.do rfl rfl (R.alloc) ?_
    rintro _ w11 ⟨b17, rfl, hb17, hs17, e11, B17⟩
    replace E := E.trans0 e11
    replace B16 := B16.ext0 e11
    replace B4 := B4.ext0 e11
    replace B5 := B5.ext0 e11
    refine L.set rfl (R.st rfl rfl B16 (by show 0 < 1; decide) rfl) ?_
    rintro w12 ⟨e12, hs12, B16⟩
    replace B16 : Blk w12 b16 #[.int .i64 0] 3 (0, 0) := B16
    replace E := E.trans e12 (M := []) (by simp) (by intro x hx; rw [List.mem_singleton.1 hx]; exact .inr (by omega))
    replace B4 := B4.ext e12 (by simp; omega)
    replace B5 := B5.ext e12 (by simp; omega)
    replace B17 := B17.ext e12 (by simp; omega)
    refine L.set rfl (R.st rfl rfl B17 (by show 0 < 1; decide) rfl) ?_
    rintro w13 ⟨e13, hs13, B17⟩
    replace B17 : Blk w13 b17 #[.bool true] 4 (0, 0) := B17
    replace E := E.trans e13 (M := []) (by simp) (by intro x hx; rw [List.mem_singleton.1 hx]; exact .inr (by omega))
    replace B4 := B4.ext e13 (by simp; omega)
    replace B5 := B5.ext e13 (by simp; omega)
    replace B16 := B16.ext e13 (by simp; omega)
    have hLk : LkI ps 3 4 64 66 77 a n c Mr b4 b5 b16 b17 #[.int .i64 kd, .int .i64 kq, .int .i64 sp, .string (str vv)] 0 w13 := ⟨B16, B17, B4, B5, hr.ext0 E⟩
    have n1 : b16 ≠ b17 := hLk.B16.ne hLk.B17 (by decide)
    have n2 : b4 ≠ b16 := hLk.B4.ne hLk.B16 (by decide)
    have n3 : b4 ≠ b17 := hLk.B4.ne hLk.B17 (by decide)
    have n4 : b5 ≠ b16 := hLk.B5.ne hLk.B16 (by decide)
    have n5 : b5 ≠ b17 := hLk.B5.ne hLk.B17 (by decide)
    have n6 : ∀ g ∈ Mr, g ≠ b16 := fun g hg => by obtain ⟨_, hq9⟩ := hLk.row.typ g hg; exact hq9.ne hLk.B16 (by decide)
    have n7 : ∀ g ∈ Mr, g ≠ b17 := fun g hg => by obtain ⟨_, hq9⟩ := hLk.row.typ g hg; exact hq9.ne hLk.B17 (by decide)
    refine L.nil ?_
    refine N.seq ?_
    refine G.seq ?_
    refine G.region ?_
    refine L.val rfl rfl (R.mv rfl) ?_
    refine L.callF rfl rfl rfl go115 (oallS_ok m ps S _ (hd.ext0 E) (by omega)) ?_
    rintro _ w14 ⟨lb, Fp, rfl, e14, hit, hFp⟩
    have hEi14 := E.size
    replace E := E.trans0 e14
    have hsi14 := e14.size
    have l16 := hLk.B16.lt
    have l17 := hLk.B17.lt
    have l4 := hLk.B4.lt
    have l5 := hLk.B5.lt
    have hMs : ∀ g ∈ Mr, g < w14.heap.size := fun g hg => Nat.lt_of_lt_of_le (hLk.row.lt g hg) hsi14
    replace hLk := hLk.ext0 e14
    refine L.val rfl rfl (R.mkFunc rfl rfl) ?_
    have hcall : Meets Try.prog 216 (.func (.func 116) #[] ([.pointer (some ⟨b17, 0, none⟩), .pointer (some ⟨b16, 0, none⟩), .pointer (some ⟨b4, 0, none⟩), .pointer (some ⟨b5, 0, none⟩)] : List Value).toArray :: lb) w14 (fun _ W => ∃ k, k ≤ ps.length ∧ (fun k W => LkI ps 3 4 64 66 77 a n c Mr b4 b5 b16 b17 #[.int .i64 kd, .int .i64 kq, .int .i64 sp, .string (str vv)] ((k : Nat) : Int) W ∧ Ext [] w W) k W ∧ (k = ps.length ∨ (k : Int) = sp)) := by
      refine iter_run (hit _ (Ext.refl _ _)) _ _ go116 [b16, b17] (fun k W => LkI ps 3 4 64 66 77 a n c Mr b4 b5 b16 b17 #[.int .i64 kd, .int .i64 kq, .int .i64 sp, .string (str vv)] ((k : Nat) : Int) W ∧ Ext [] w W) (fun k => (k : Int) = sp) ?_ ?_ ?_ ⟨hLk, E⟩
      · intro g hg
        simp only [List.mem_cons, List.not_mem_nil, or_false] at hg
        refine ⟨by omega, fun h => ?_⟩
        have := hFp g h
        omega
      · rintro k W W' M' ⟨h1, h2⟩ he hm
        exact ⟨h1.ext he (fun h => (hm _ h).1 (by simp)) (fun h => (hm _ h).1 (by simp)) (fun g hg => (hm g hg).2) (by omega) (by omega) hMs, h2.transN he (fun g hg => .inr (by have := (hm g hg).2; omega))⟩
      · rintro k p W hk hp ⟨h1, h2⟩
        obtain ⟨kk, vx⟩ := p
        obtain ⟨ss, hss⟩ := hst _ (List.mem_of_getElem? hp)
        obtain rfl : vx = [.string (str ss)] := hss
        refine (look1_ok kk ss b4 b5 b16 b17 a n c ps Mr kd kq sp vv k W (by exact h1) hn hok hp hnl).mono ?_
        rintro v W' ⟨rfl, e, h3⟩
        exact ⟨_, rfl, e, ⟨by rw [show ((k + 1 : Nat) : Int) = (k : Int) + 1 by omega]; exact h3, h2.transN e (fun g hg => .inr (by simp at hg; omega))⟩, fun hb => by have := of_decide_eq_false hb; omega⟩
    refine L.callV rfl rfl rfl rfl rfl go216 (hcall) ?_
    rintro v15 w15 ⟨k1, hk1, ⟨hLk, E⟩, hks1⟩
    refine L.nil ?_
    refine N.seq ?_
    refine G.seq ?_
    refine G.seq ?_
    refine G.region ?_
    refine L.val rfl rfl (R.ldB rfl hLk.B17 rfl) ?_
    refine L.val rfl rfl (R.not rfl) ?_
    refine L.val rfl rfl (R.mv rfl) ?_
    refine L.isF 86 rfl (by rfl) ?_
    refine L.val rfl rfl (R.ldB rfl hLk.B16 rfl) ?_
    refine L.val rfl rfl (R.ldB rfl hLk.B4 rfl) ?_
    refine L.val rfl rfl (R.lenS rfl) ?_
    refine L.val rfl rfl (R.neI rfl rfl) ?_
    refine L.val rfl rfl (R.mv rfl) ?_
    refine L.caseP 91 rfl (fun hg9_7 => ?_) (fun hg9_7 => ?_)
    · refine L.val rfl rfl (R.ldB rfl hLk.B16 rfl) ?_
      refine L.val rfl rfl (R.fld rfl) ?_
      refine L.val rfl rfl (R.ldB (v := .int .i64 sp) rfl hLk.B5 rfl) ?_
      refine L.val rfl rfl (R.neI rfl rfl) ?_
      first | refine L.val rfl rfl (R.pickT rfl rfl) ?_ | refine L.val rfl rfl (R.pickF rfl rfl) ?_
      first | refine L.val rfl rfl (R.pickT rfl rfl) ?_ | refine L.val rfl rfl (R.pickF rfl rfl) ?_
      refine L.nil ?_
      refine N.seq ?_
      refine G.condP rfl (fun h1 => ?_) (fun h1 => ?_)
      · exfalso; omega
      · refine G.skip ?_
        refine N.seq ?_
        refine G.seq ?_
        refine G.region ?_
        refine L.val rfl rfl (R.ldB rfl hLk.B4 rfl) ?_
        refine L.val rfl rfl (R.lenS rfl) ?_
        refine L.set rfl (R.st rfl rfl hLk.B16 (by show 0 < 1; decide) rfl) ?_
        rintro w16 ⟨e16, hs16, B16⟩
        replace B16 : Blk w16 b16 #[.int .i64 ((n : Int))] 3 (0, 0) := B16
        replace hLk : LkI ps 3 4 64 66 77 a n c Mr b4 b5 b16 b17 #[.int .i64 kd, .int .i64 kq, .int .i64 sp, .string (str vv)] ((n : Int)) w16 := ⟨B16, hLk.B17.ext e16 (by simpa using Ne.symm n1), hLk.B4.ext e16 (by simpa using n2), hLk.B5.ext e16 (by simpa using n4), hLk.row.ext e16 (fun g hg h => n6 g hg (List.mem_singleton.1 h))⟩
        replace E := E.trans e16 (M := []) (by simp) (by intro x hx; rw [List.mem_singleton.1 hx]; exact .inr (by omega))
        refine L.nil ?_
        refine N.seq ?_
        refine G.seq ?_
        refine G.region ?_
        refine L.val rfl rfl (R.mv rfl) ?_
        refine L.callF rfl rfl rfl go117 (odownS_ok m ps S _ (hd.ext0 E) (by omega)) ?_
        rintro _ w17 ⟨lb, Fp, rfl, e17, hit, hFp⟩
        have hEi17 := E.size
        replace E := E.trans0 e17
        have hsi17 := e17.size
        have l16 := hLk.B16.lt
        have l17 := hLk.B17.lt
        have l4 := hLk.B4.lt
        have l5 := hLk.B5.lt
        have hMs : ∀ g ∈ Mr, g < w17.heap.size := fun g hg => Nat.lt_of_lt_of_le (hLk.row.lt g hg) hsi17
        replace hLk := hLk.ext0 e17
        refine L.val rfl rfl (R.mkFunc rfl rfl) ?_
        have hcall : Meets Try.prog 216 (.func (.func 118) #[] ([.pointer (some ⟨b16, 0, none⟩), .pointer (some ⟨b17, 0, none⟩), .pointer (some ⟨b4, 0, none⟩), .pointer (some ⟨b5, 0, none⟩)] : List Value).toArray :: lb) w17 (fun _ W => ∃ k, k ≤ ps.length ∧ (fun k W => LkI ps 3 4 64 66 77 a n c Mr b4 b5 b16 b17 #[.int .i64 kd, .int .i64 kq, .int .i64 sp, .string (str vv)] ((n : Int) - (k : Nat)) W ∧ Ext [] w W) k W ∧ (k = ps.length ∨ (k : Int) = sp)) := by
          refine iter_run (hit _ (Ext.refl _ _)) _ _ go118 [b16, b17] (fun k W => LkI ps 3 4 64 66 77 a n c Mr b4 b5 b16 b17 #[.int .i64 kd, .int .i64 kq, .int .i64 sp, .string (str vv)] ((n : Int) - (k : Nat)) W ∧ Ext [] w W) (fun k => (k : Int) = sp) ?_ ?_ ?_ ⟨by rw [show (n : Int) - ((0 : Nat) : Int) = n by omega]; exact hLk, E⟩
          · intro g hg
            simp only [List.mem_cons, List.not_mem_nil, or_false] at hg
            refine ⟨by omega, fun h => ?_⟩
            have := hFp g h
            omega
          · rintro k W W' M' ⟨h1, h2⟩ he hm
            exact ⟨h1.ext he (fun h => (hm _ h).1 (by simp)) (fun h => (hm _ h).1 (by simp)) (fun g hg => (hm g hg).2) (by omega) (by omega) hMs, h2.transN he (fun g hg => .inr (by have := (hm g hg).2; omega))⟩
          · rintro k p W hk hp ⟨h1, h2⟩
            obtain ⟨kk, vx⟩ := p
            rw [List.getElem?_reverse hk, show ps.length - 1 - k = n - (k + 1) by omega] at hp
            obtain ⟨ss, hss⟩ := hst _ (List.mem_of_getElem? hp)
            obtain rfl : vx = [.string (str ss)] := hss
            refine (look2_ok kk ss b4 b5 b16 b17 a n c ps Mr kd kq sp vv (n - (k + 1)) W (by rw [show ((n - (k + 1) : Nat) : Int) + 1 = (n : Int) - (k : Nat) by omega]; exact h1) hn hok hp hnl).mono ?_
            rintro v W' ⟨rfl, e, h3⟩
            exact ⟨_, rfl, e, ⟨by rw [show (n : Int) - ((k + 1 : Nat) : Int) = ((n - (k + 1) : Nat) : Int) by omega]; exact h3, h2.transN e (fun g hg => .inr (by simp at hg; omega))⟩, fun hb => by have := of_decide_eq_false hb; omega⟩
        refine L.callV rfl rfl rfl rfl rfl go216 (hcall) ?_
        rintro v18 w18 ⟨k2, hk2, ⟨hLk, E⟩, hks2⟩
        refine L.nil ?_
        refine N.seq ?_
        refine G.seq ?_
        refine G.seq ?_
        refine G.region ?_
        refine L.val rfl rfl (R.ldB rfl hLk.B17 rfl) ?_
        refine L.val rfl rfl (R.not rfl) ?_
        refine L.val rfl rfl (R.mv rfl) ?_
        refine L.isF 106 rfl (by rfl) ?_
        refine L.val rfl rfl (R.ldB rfl hLk.B16 rfl) ?_
        refine L.val rfl rfl (R.neI rfl rfl) ?_
        refine L.val rfl rfl (R.mv rfl) ?_
        refine L.caseP 109 rfl (fun hg13_5 => ?_) (fun hg13_5 => ?_)
        · refine L.val rfl rfl (R.ldB rfl hLk.B4 rfl) ?_
          refine L.val rfl rfl (R.lenS rfl) ?_
          refine L.val rfl rfl (R.ldB rfl hLk.B16 rfl) ?_
          refine L.val rfl rfl (R.sub' rfl rfl (by omega)) ?_
          refine L.val rfl rfl (R.fld rfl) ?_
          refine L.val rfl rfl (R.ldB (v := .int .i64 sp) rfl hLk.B5 rfl) ?_
          refine L.val rfl rfl (R.neI rfl rfl) ?_
          first | refine L.val rfl rfl (R.pickT rfl rfl) ?_ | refine L.val rfl rfl (R.pickF rfl rfl) ?_
          first | refine L.val rfl rfl (R.pickT rfl rfl) ?_ | refine L.val rfl rfl (R.pickF rfl rfl) ?_
          refine L.nil ?_
          refine N.seq ?_
          refine G.condP rfl (fun h2 => ?_) (fun h2 => ?_)
          · exfalso; omega
          · refine G.skip ?_
            refine N.seq ?_
            refine G.seq ?_
            refine G.region ?_
            refine L.set rfl (R.st rfl rfl hLk.B16 (by show 0 < 1; decide) rfl) ?_
            rintro w19 ⟨e19, hs19, B16⟩
            replace B16 : Blk w19 b16 #[.int .i64 (0)] 3 (0, 0) := B16
            replace hLk : LkI ps 3 4 64 66 77 a n c Mr b4 b5 b16 b17 #[.int .i64 kd, .int .i64 kq, .int .i64 sp, .string (str vv)] (0) w19 := ⟨B16, hLk.B17.ext e19 (by simpa using Ne.symm n1), hLk.B4.ext e19 (by simpa using n2), hLk.B5.ext e19 (by simpa using n4), hLk.row.ext e19 (fun g hg h => n6 g hg (List.mem_singleton.1 h))⟩
            replace E := E.trans e19 (M := []) (by simp) (by intro x hx; rw [List.mem_singleton.1 hx]; exact .inr (by omega))
            refine L.nil ?_
            refine N.seq ?_
            refine G.seq ?_
            refine G.block ?_
            refine G.loop (X := Nat) (fun s => [(0, .pointer (some ⟨m, 0, none⟩)), (4, .pointer (some ⟨b4, 0, none⟩)), (5, .pointer (some ⟨b5, 0, none⟩)), (16, .pointer (some ⟨b16, 0, none⟩)), (17, .pointer (some ⟨b17, 0, none⟩))]) (fun s w' => s ≤ low ps kq ∧ LkI ps 3 4 64 66 77 a n c Mr b4 b5 b16 b17 #[.int .i64 kd, .int .i64 kq, .int .i64 sp, .string (str vv)] ((s : Nat) : Int) w' ∧ Ext [] w w') (fun s => ps.length - s) (0) (Sub.cons rfl (Sub.cons rfl (Sub.cons rfl (Sub.cons rfl (Sub.cons rfl (Sub.nil _)))))) ⟨Nat.zero_le _, hLk, E⟩ ?_
            rintro i w20 ⟨hi, hLk, E⟩
            refine G.sub [(0, .pointer (some ⟨m, 0, none⟩)), (4, .pointer (some ⟨b4, 0, none⟩)), (5, .pointer (some ⟨b5, 0, none⟩)), (16, .pointer (some ⟨b16, 0, none⟩)), (17, .pointer (some ⟨b17, 0, none⟩))] (Sub.cons rfl (Sub.cons rfl (Sub.cons rfl (Sub.cons rfl (Sub.cons rfl (Sub.nil _)))))) ?_
            have hlow := low_le ps kq
            refine G.seq ?_
            refine G.seq ?_
            refine G.quiet (by decide +kernel) rfl ?_
            refine Q.val rfl rfl rfl rfl (fun w21 hE => R.ldB rfl (hLk.B16.ext0 hE) rfl) ?_
            refine Q.val rfl rfl rfl rfl (fun w21 hE => R.ldB rfl (hLk.B4.ext0 hE) rfl) ?_
            refine Q.val rfl rfl rfl rfl (fun w21 hE => R.lenS rfl) ?_
            refine Q.val rfl rfl rfl rfl (fun w21 hE => R.lss rfl rfl) ?_
            refine Q.val rfl rfl rfl rfl (fun w21 hE => R.mv rfl) ?_
            refine Q.caseP 123 rfl (fun hg16_4 => ?_) (fun hg16_4 => ?_)
            · obtain ⟨p, hp⟩ : ∃ p, ps[i]? = some p := ⟨_, List.getElem?_eq_getElem (by omega)⟩
              obtain ⟨kk, vx⟩ := p
              obtain ⟨ss, hss⟩ := hst _ (List.mem_of_getElem? hp)
              obtain rfl : vx = [.string (str ss)] := hss
              have hil : i < n := by omega
              obtain ⟨q, hq, hcl⟩ := (Tab.pairs hLk.row.cells hn hok).at (by decide) i (by rw [List.length_map]; omega)
              have he : (ps.map pcell)[i]'(by rw [List.length_map]; omega) = pcell (kk, [.string (str ss)]) := by rw [List.getElem_map]; exact congrArg pcell (List.getElem?_eq_some_iff.1 hp).2
              rw [he] at hcl
              replace hcl : Cells _ _ [.int .i64 kk, .string (str ss)] := hcl
              have hlc := low_casesI hs (k := kq) hp
              have hla : (i < low ps kq ∧ kk < kq) ∨ (i = low ps kq ∧ kq ≤ kk) ∨ (low ps kq < i ∧ kq < kk) := by rcases hlc with ⟨h1, h2⟩ | ⟨h1, h2, _⟩ | ⟨h1, h2, _⟩ | ⟨h1, h2⟩ <;> dsimp only at h2 <;> omega
              obtain ⟨q5, hq5, hc5⟩ := hcl 0 (.int .i64 kk) rfl
              cases hq5
              refine Q.val rfl rfl rfl rfl (fun w21 hE => R.ldB rfl (hLk.B4.ext0 hE) rfl) ?_
              refine Q.val rfl rfl rfl rfl (fun w21 hE => R.ldB rfl (hLk.B16.ext0 hE) rfl) ?_
              refine Q.val rfl rfl rfl rfl (fun w21 hE => R.idx rfl rfl (by omega) (by omega) q hq) ?_
              refine Q.val rfl rfl rfl rfl (fun w21 hE => R.fldA rfl) ?_
              refine Q.val rfl rfl rfl rfl (fun w21 hE => R.ld rfl (v := .int .i64 kk) (by rw [Int.toNat_natCast]; exact (Still.of hE).cell hc5)) ?_
              refine Q.val rfl rfl rfl rfl (fun w21 hE => R.fld rfl) ?_
              refine Q.val rfl rfl rfl rfl (fun w21 hE => R.ldB (v := .int .i64 kq) rfl (hLk.B5.ext0 hE) rfl) ?_
              refine Q.val rfl rfl rfl rfl (fun w21 hE => R.lss rfl rfl) ?_
              first | refine Q.val rfl rfl rfl rfl (fun w21 hE => R.pickT rfl rfl) ?_ | refine Q.val rfl rfl rfl rfl (fun w21 hE => R.pickF rfl rfl) ?_
              refine Q.nil (fun w21 e21 => ?_)
              replace E := E.trans0 e21
              replace hLk := hLk.ext0 e21
              refine N.seq ?_
              refine G.condP rfl (fun h3 => ?_) (fun h3 => ?_)
              · refine G.skip ?_
                refine N.seq ?_
                refine G.block ?_
                refine G.region ?_
                refine L.val rfl rfl (R.ldB rfl hLk.B16 rfl) ?_
                refine L.val rfl rfl (R.add rfl rfl (by omega)) ?_
                refine L.set rfl (R.st rfl rfl hLk.B16 (by show 0 < 1; decide) rfl) ?_
                rintro w22 ⟨e22, hs22, B16⟩
                replace B16 : Blk w22 b16 #[.int .i64 ((i : Int) + 1)] 3 (0, 0) := B16
                replace hLk : LkI ps 3 4 64 66 77 a n c Mr b4 b5 b16 b17 #[.int .i64 kd, .int .i64 kq, .int .i64 sp, .string (str vv)] ((i : Int) + 1) w22 := ⟨B16, hLk.B17.ext e22 (by simpa using Ne.symm n1), hLk.B4.ext e22 (by simpa using n2), hLk.B5.ext e22 (by simpa using n4), hLk.row.ext e22 (fun g hg h => n6 g hg (List.mem_singleton.1 h))⟩
                replace E := E.trans e22 (M := []) (by simp) (by intro x hx; rw [List.mem_singleton.1 hx]; exact .inr (by omega))
                refine L.nil ?_
                refine N.block ?_
                exact N.again (i + 1) (by omega) (Sub.cons rfl (Sub.cons rfl (Sub.cons rfl (Sub.cons rfl (Sub.cons rfl (Sub.nil _)))))) ⟨by omega, by rw [show ((i + 1 : Nat) : Int) = (i : Int) + 1 by omega]; exact hLk, E⟩
              · refine G.exit _ rfl ?_
                refine N.seq ?_
                refine G.seq ?_
                refine G.region ?_
                refine L.do rfl rfl (R.alloc) ?_
                have hil2 : i = low ps kq := by omega
                subst hil2
                rintro _ w23 ⟨b18, rfl, hb18, hs18, e23, B18⟩
                have hE23 := E.size
                have l16 := hLk.B16.lt
                have l17 := hLk.B17.lt
                have l4 := hLk.B4.lt
                have l5 := hLk.B5.lt
                have hMs0 := hLk.row.lt
                replace E := E.trans0 e23
                replace hLk := hLk.ext0 e23
                refine L.set rfl (R.st rfl rfl B18 (by show 0 < 1; decide) rfl) ?_
                rintro w24 ⟨e24, hs24, B18⟩
                replace B18 : Blk w24 b18 #[.int .i64 ((0 : Nat) : Int)] 3 (0, 0) := B18
                replace hLk := hLk.ext (s := b18) e24 (by simp; omega) (by simp; omega) (by intro g hg; rw [List.mem_singleton.1 hg]; exact Nat.le_refl _) (by omega) (by omega) (fun g hg => by have := hMs0 g hg; omega)
                replace E := E.trans e24 (M := []) (by simp) (by intro x hx; rw [List.mem_singleton.1 hx]; exact .inr (by omega))
                refine L.nil ?_
                refine N.seq ?_
                refine G.seq ?_
                refine G.region ?_
                refine L.val rfl rfl (R.mv rfl) ?_
                refine L.val rfl rfl (R.fld rfl) ?_
                refine L.val rfl rfl (R.ldB (v := .int .i64 kq) rfl hLk.B5 rfl) ?_
                refine L.callF rfl rfl rfl go119 (ofromS_ok m ps S kq _ (hd.ext0 E) (by omega)) ?_
                rintro _ w25 ⟨lb, Fp, rfl, e25, hit, hFp⟩
                have hEi25 := E.size
                replace E := E.trans0 e25
                have hsi25 := e25.size
                have l16 := hLk.B16.lt
                have l17 := hLk.B17.lt
                have l4 := hLk.B4.lt
                have l5 := hLk.B5.lt
                have hMs : ∀ g ∈ Mr, g < w25.heap.size := fun g hg => Nat.lt_of_lt_of_le (hLk.row.lt g hg) hsi25
                replace hLk := hLk.ext0 e25
                replace B18 := B18.ext0 e25
                have l18 := B18.lt
                refine L.val rfl rfl (R.mkFunc rfl rfl) ?_
                have hcall : Meets Try.prog 216 (.func (.func 120) #[] ([.pointer (some ⟨b17, 0, none⟩), .pointer (some ⟨b16, 0, none⟩), .pointer (some ⟨b4, 0, none⟩), .pointer (some ⟨b18, 0, none⟩), .pointer (some ⟨b5, 0, none⟩)] : List Value).toArray :: lb) w25 (fun _ W => ∃ k, k ≤ (ps.drop (low ps kq)).length ∧ (fun k W => (LkI ps 3 4 64 66 77 a n c Mr b4 b5 b16 b17 #[.int .i64 kd, .int .i64 kq, .int .i64 sp, .string (str vv)] ((low ps kq : Int) + (k : Nat)) W ∧ Blk W b18 #[.int .i64 ((k : Nat) : Int)] 3 (0, 0)) ∧ Ext [] w W) k W ∧ (k = (ps.drop (low ps kq)).length ∨ (k : Int) = sp)) := by
                  refine iter_run (hit _ (Ext.refl _ _)) _ _ go120 [b16, b17, b18] (fun k W => (LkI ps 3 4 64 66 77 a n c Mr b4 b5 b16 b17 #[.int .i64 kd, .int .i64 kq, .int .i64 sp, .string (str vv)] ((low ps kq : Int) + (k : Nat)) W ∧ Blk W b18 #[.int .i64 ((k : Nat) : Int)] 3 (0, 0)) ∧ Ext [] w W) (fun k => (k : Int) = sp) ?_ ?_ ?_ ⟨⟨by rw [show (low ps kq : Int) + ((0 : Nat) : Int) = low ps kq by omega]; exact hLk, B18⟩, E⟩
                  · intro g hg
                    simp only [List.mem_cons, List.not_mem_nil, or_false] at hg
                    refine ⟨by omega, fun h => ?_⟩
                    have := hFp g h
                    omega
                  · rintro k W W' M' ⟨⟨h1, h18⟩, h2⟩ he hm
                    exact ⟨⟨h1.ext he (fun h => (hm _ h).1 (by simp)) (fun h => (hm _ h).1 (by simp)) (fun g hg => (hm g hg).2) (by omega) (by omega) hMs, h18.ext he (fun h => (hm _ h).1 (by simp))⟩, h2.transN he (fun g hg => .inr (by have := (hm g hg).2; omega))⟩
                  · rintro k p W hk hp ⟨⟨h1, h18⟩, h2⟩
                    obtain ⟨kk, vx⟩ := p
                    rw [List.getElem?_drop] at hp
                    rw [List.length_drop] at hk
                    obtain ⟨ss, hss⟩ := hst _ (List.mem_of_getElem? hp)
                    obtain rfl : vx = [.string (str ss)] := hss
                    refine (look3_ok kk ss b4 b5 b16 b17 a n c ps Mr kd kq sp vv (low ps kq + k) b18 k W (by rw [show ((low ps kq + k : Nat) : Int) = (low ps kq : Int) + (k : Nat) by omega]; exact h1) h18 (by omega) (by omega) hn hok hp hnl).mono ?_
                    rintro v W' ⟨rfl, e, h3, h4⟩
                    exact ⟨_, rfl, e, ⟨⟨by rw [show (low ps kq : Int) + ((k + 1 : Nat) : Int) = ((low ps kq + k : Nat) : Int) + 1 by omega]; exact h3, by rw [show ((k + 1 : Nat) : Int) = (k : Int) + 1 by omega]; exact h4⟩, h2.transN e (fun g hg => .inr (by simp at hg; omega))⟩, fun hb => by have := of_decide_eq_false hb; omega⟩
                refine L.callV rfl rfl rfl rfl rfl go216 (hcall) ?_
                rintro v26 w26 ⟨k3, hk3, ⟨⟨hLk, B18⟩, E⟩, hks3⟩
                rw [List.length_drop] at hk3 hks3
                refine L.nil ?_
                refine N.seq ?_
                refine G.seq ?_
                refine G.region ?_
                refine L.val rfl rfl (R.ldB rfl hLk.B17 rfl) ?_
                refine L.val rfl rfl (R.mv rfl) ?_
                refine L.isT 142 rfl (by rfl) ?_
                refine L.val rfl rfl (R.ldB rfl hLk.B16 rfl) ?_
                refine L.val rfl rfl (R.ldB rfl hLk.B4 rfl) ?_
                refine L.val rfl rfl (R.lenS rfl) ?_
                refine L.val rfl rfl (R.eqI rfl rfl) ?_
                refine L.val rfl rfl (R.mv rfl) ?_
                refine L.caseP 147 rfl (fun hg20_6 => ?_) (fun hg20_6 => ?_)
                · refine L.pass rfl rfl ?_
                  refine L.pass rfl rfl ?_
                  refine L.pass rfl rfl ?_
                  refine L.pass rfl rfl ?_
                  first | refine L.val rfl rfl (R.pickT rfl rfl) ?_ | refine L.val rfl rfl (R.pickF rfl rfl) ?_
                  first | refine L.val rfl rfl (R.pickT rfl rfl) ?_ | refine L.val rfl rfl (R.pickF rfl rfl) ?_
                  refine L.val rfl rfl (R.as rfl) ?_
                  refine L.nil ?_
                  refine N.seq ?_
                  refine G.ret1 rfl rfl ?_
                  first
                    | exact ⟨rfl, E⟩
                    | exact ⟨congrArg Value.bool (decide_eq_true (by omega)), E⟩
                · refine L.val rfl rfl (R.ldB rfl B18 rfl) ?_
                  refine L.val rfl rfl (R.fld rfl) ?_
                  refine L.val rfl rfl (R.ldB (v := .int .i64 sp) rfl hLk.B5 rfl) ?_
                  refine L.val rfl rfl (R.eqI rfl rfl) ?_
                  first | refine L.val rfl rfl (R.pickT rfl rfl) ?_ | refine L.val rfl rfl (R.pickF rfl rfl) ?_
                  first | refine L.val rfl rfl (R.pickT rfl rfl) ?_ | refine L.val rfl rfl (R.pickF rfl rfl) ?_
                  refine L.val rfl rfl (R.as rfl) ?_
                  refine L.nil ?_
                  refine N.seq ?_
                  refine G.ret1 rfl rfl ?_
                  first
                    | exact ⟨rfl, E⟩
                    | exact ⟨congrArg Value.bool (decide_eq_true (by omega)), E⟩
            · refine Q.pass rfl rfl rfl ?_
              refine Q.pass rfl rfl rfl ?_
              refine Q.pass rfl rfl rfl ?_
              refine Q.pass rfl rfl rfl ?_
              refine Q.pass rfl rfl rfl ?_
              refine Q.pass rfl rfl rfl ?_
              refine Q.pass rfl rfl rfl ?_
              refine Q.pass rfl rfl rfl ?_
              first | refine Q.val rfl rfl rfl rfl (fun w21 hE => R.pickT rfl rfl) ?_ | refine Q.val rfl rfl rfl rfl (fun w21 hE => R.pickF rfl rfl) ?_
              refine Q.nil (fun w21 e21 => ?_)
              replace E := E.trans0 e21
              replace hLk := hLk.ext0 e21
              refine N.seq ?_
              refine G.condF rfl ?_
              refine G.exit _ rfl ?_
              refine N.seq ?_
              refine G.seq ?_
              refine G.region ?_
              refine L.do rfl rfl (R.alloc) ?_
              have hil2 : i = low ps kq := by omega
              subst hil2
              rintro _ w23 ⟨b18, rfl, hb18, hs18, e23, B18⟩
              have hE23 := E.size
              have l16 := hLk.B16.lt
              have l17 := hLk.B17.lt
              have l4 := hLk.B4.lt
              have l5 := hLk.B5.lt
              have hMs0 := hLk.row.lt
              replace E := E.trans0 e23
              replace hLk := hLk.ext0 e23
              refine L.set rfl (R.st rfl rfl B18 (by show 0 < 1; decide) rfl) ?_
              rintro w24 ⟨e24, hs24, B18⟩
              replace B18 : Blk w24 b18 #[.int .i64 ((0 : Nat) : Int)] 3 (0, 0) := B18
              replace hLk := hLk.ext (s := b18) e24 (by simp; omega) (by simp; omega) (by intro g hg; rw [List.mem_singleton.1 hg]; exact Nat.le_refl _) (by omega) (by omega) (fun g hg => by have := hMs0 g hg; omega)
              replace E := E.trans e24 (M := []) (by simp) (by intro x hx; rw [List.mem_singleton.1 hx]; exact .inr (by omega))
              refine L.nil ?_
              refine N.seq ?_
              refine G.seq ?_
              refine G.region ?_
              refine L.val rfl rfl (R.mv rfl) ?_
              refine L.val rfl rfl (R.fld rfl) ?_
              refine L.val rfl rfl (R.ldB (v := .int .i64 kq) rfl hLk.B5 rfl) ?_
              refine L.callF rfl rfl rfl go119 (ofromS_ok m ps S kq _ (hd.ext0 E) (by omega)) ?_
              rintro _ w25 ⟨lb, Fp, rfl, e25, hit, hFp⟩
              have hEi25 := E.size
              replace E := E.trans0 e25
              have hsi25 := e25.size
              have l16 := hLk.B16.lt
              have l17 := hLk.B17.lt
              have l4 := hLk.B4.lt
              have l5 := hLk.B5.lt
              have hMs : ∀ g ∈ Mr, g < w25.heap.size := fun g hg => Nat.lt_of_lt_of_le (hLk.row.lt g hg) hsi25
              replace hLk := hLk.ext0 e25
              replace B18 := B18.ext0 e25
              have l18 := B18.lt
              refine L.val rfl rfl (R.mkFunc rfl rfl) ?_
              have hcall : Meets Try.prog 216 (.func (.func 120) #[] ([.pointer (some ⟨b17, 0, none⟩), .pointer (some ⟨b16, 0, none⟩), .pointer (some ⟨b4, 0, none⟩), .pointer (some ⟨b18, 0, none⟩), .pointer (some ⟨b5, 0, none⟩)] : List Value).toArray :: lb) w25 (fun _ W => ∃ k, k ≤ (ps.drop (low ps kq)).length ∧ (fun k W => (LkI ps 3 4 64 66 77 a n c Mr b4 b5 b16 b17 #[.int .i64 kd, .int .i64 kq, .int .i64 sp, .string (str vv)] ((low ps kq : Int) + (k : Nat)) W ∧ Blk W b18 #[.int .i64 ((k : Nat) : Int)] 3 (0, 0)) ∧ Ext [] w W) k W ∧ (k = (ps.drop (low ps kq)).length ∨ (k : Int) = sp)) := by
                refine iter_run (hit _ (Ext.refl _ _)) _ _ go120 [b16, b17, b18] (fun k W => (LkI ps 3 4 64 66 77 a n c Mr b4 b5 b16 b17 #[.int .i64 kd, .int .i64 kq, .int .i64 sp, .string (str vv)] ((low ps kq : Int) + (k : Nat)) W ∧ Blk W b18 #[.int .i64 ((k : Nat) : Int)] 3 (0, 0)) ∧ Ext [] w W) (fun k => (k : Int) = sp) ?_ ?_ ?_ ⟨⟨by rw [show (low ps kq : Int) + ((0 : Nat) : Int) = low ps kq by omega]; exact hLk, B18⟩, E⟩
                · intro g hg
                  simp only [List.mem_cons, List.not_mem_nil, or_false] at hg
                  refine ⟨by omega, fun h => ?_⟩
                  have := hFp g h
                  omega
                · rintro k W W' M' ⟨⟨h1, h18⟩, h2⟩ he hm
                  exact ⟨⟨h1.ext he (fun h => (hm _ h).1 (by simp)) (fun h => (hm _ h).1 (by simp)) (fun g hg => (hm g hg).2) (by omega) (by omega) hMs, h18.ext he (fun h => (hm _ h).1 (by simp))⟩, h2.transN he (fun g hg => .inr (by have := (hm g hg).2; omega))⟩
                · rintro k p W hk hp ⟨⟨h1, h18⟩, h2⟩
                  obtain ⟨kk, vx⟩ := p
                  rw [List.getElem?_drop] at hp
                  rw [List.length_drop] at hk
                  obtain ⟨ss, hss⟩ := hst _ (List.mem_of_getElem? hp)
                  obtain rfl : vx = [.string (str ss)] := hss
                  refine (look3_ok kk ss b4 b5 b16 b17 a n c ps Mr kd kq sp vv (low ps kq + k) b18 k W (by rw [show ((low ps kq + k : Nat) : Int) = (low ps kq : Int) + (k : Nat) by omega]; exact h1) h18 (by omega) (by omega) hn hok hp hnl).mono ?_
                  rintro v W' ⟨rfl, e, h3, h4⟩
                  exact ⟨_, rfl, e, ⟨⟨by rw [show (low ps kq : Int) + ((k + 1 : Nat) : Int) = ((low ps kq + k : Nat) : Int) + 1 by omega]; exact h3, by rw [show ((k + 1 : Nat) : Int) = (k : Int) + 1 by omega]; exact h4⟩, h2.transN e (fun g hg => .inr (by simp at hg; omega))⟩, fun hb => by have := of_decide_eq_false hb; omega⟩
              refine L.callV rfl rfl rfl rfl rfl go216 (hcall) ?_
              rintro v26 w26 ⟨k3, hk3, ⟨⟨hLk, B18⟩, E⟩, hks3⟩
              rw [List.length_drop] at hk3 hks3
              refine L.nil ?_
              refine N.seq ?_
              refine G.seq ?_
              refine G.region ?_
              refine L.val rfl rfl (R.ldB rfl hLk.B17 rfl) ?_
              refine L.val rfl rfl (R.mv rfl) ?_
              refine L.isT 142 rfl (by rfl) ?_
              refine L.val rfl rfl (R.ldB rfl hLk.B16 rfl) ?_
              refine L.val rfl rfl (R.ldB rfl hLk.B4 rfl) ?_
              refine L.val rfl rfl (R.lenS rfl) ?_
              refine L.val rfl rfl (R.eqI rfl rfl) ?_
              refine L.val rfl rfl (R.mv rfl) ?_
              refine L.caseP 147 rfl (fun hg20_6 => ?_) (fun hg20_6 => ?_)
              · refine L.pass rfl rfl ?_
                refine L.pass rfl rfl ?_
                refine L.pass rfl rfl ?_
                refine L.pass rfl rfl ?_
                first | refine L.val rfl rfl (R.pickT rfl rfl) ?_ | refine L.val rfl rfl (R.pickF rfl rfl) ?_
                first | refine L.val rfl rfl (R.pickT rfl rfl) ?_ | refine L.val rfl rfl (R.pickF rfl rfl) ?_
                refine L.val rfl rfl (R.as rfl) ?_
                refine L.nil ?_
                refine N.seq ?_
                refine G.ret1 rfl rfl ?_
                first
                  | exact ⟨rfl, E⟩
                  | exact ⟨congrArg Value.bool (decide_eq_true (by omega)), E⟩
              · refine L.val rfl rfl (R.ldB rfl B18 rfl) ?_
                refine L.val rfl rfl (R.fld rfl) ?_
                refine L.val rfl rfl (R.ldB (v := .int .i64 sp) rfl hLk.B5 rfl) ?_
                refine L.val rfl rfl (R.eqI rfl rfl) ?_
                first | refine L.val rfl rfl (R.pickT rfl rfl) ?_ | refine L.val rfl rfl (R.pickF rfl rfl) ?_
                first | refine L.val rfl rfl (R.pickT rfl rfl) ?_ | refine L.val rfl rfl (R.pickF rfl rfl) ?_
                refine L.val rfl rfl (R.as rfl) ?_
                refine L.nil ?_
                refine N.seq ?_
                refine G.ret1 rfl rfl ?_
                first
                  | exact ⟨rfl, E⟩
                  | exact ⟨congrArg Value.bool (decide_eq_true (by omega)), E⟩
        · refine L.pass rfl rfl ?_
          refine L.pass rfl rfl ?_
          refine L.pass rfl rfl ?_
          refine L.pass rfl rfl ?_
          refine L.pass rfl rfl ?_
          refine L.pass rfl rfl ?_
          refine L.pass rfl rfl ?_
          first | refine L.val rfl rfl (R.pickT rfl rfl) ?_ | refine L.val rfl rfl (R.pickF rfl rfl) ?_
          first | refine L.val rfl rfl (R.pickT rfl rfl) ?_ | refine L.val rfl rfl (R.pickF rfl rfl) ?_
          refine L.nil ?_
          refine N.seq ?_
          refine G.condF rfl ?_
          refine G.skip ?_
          refine N.seq ?_
          refine G.seq ?_
          refine G.region ?_
          refine L.set rfl (R.st rfl rfl hLk.B16 (by show 0 < 1; decide) rfl) ?_
          rintro w19 ⟨e19, hs19, B16⟩
          replace B16 : Blk w19 b16 #[.int .i64 (0)] 3 (0, 0) := B16
          replace hLk : LkI ps 3 4 64 66 77 a n c Mr b4 b5 b16 b17 #[.int .i64 kd, .int .i64 kq, .int .i64 sp, .string (str vv)] (0) w19 := ⟨B16, hLk.B17.ext e19 (by simpa using Ne.symm n1), hLk.B4.ext e19 (by simpa using n2), hLk.B5.ext e19 (by simpa using n4), hLk.row.ext e19 (fun g hg h => n6 g hg (List.mem_singleton.1 h))⟩
          replace E := E.trans e19 (M := []) (by simp) (by intro x hx; rw [List.mem_singleton.1 hx]; exact .inr (by omega))
          refine L.nil ?_
          refine N.seq ?_
          refine G.seq ?_
          refine G.block ?_
          refine G.loop (X := Nat) (fun s => [(0, .pointer (some ⟨m, 0, none⟩)), (4, .pointer (some ⟨b4, 0, none⟩)), (5, .pointer (some ⟨b5, 0, none⟩)), (16, .pointer (some ⟨b16, 0, none⟩)), (17, .pointer (some ⟨b17, 0, none⟩))]) (fun s w' => s ≤ low ps kq ∧ LkI ps 3 4 64 66 77 a n c Mr b4 b5 b16 b17 #[.int .i64 kd, .int .i64 kq, .int .i64 sp, .string (str vv)] ((s : Nat) : Int) w' ∧ Ext [] w w') (fun s => ps.length - s) (0) (Sub.cons rfl (Sub.cons rfl (Sub.cons rfl (Sub.cons rfl (Sub.cons rfl (Sub.nil _)))))) ⟨Nat.zero_le _, hLk, E⟩ ?_
          rintro i w20 ⟨hi, hLk, E⟩
          refine G.sub [(0, .pointer (some ⟨m, 0, none⟩)), (4, .pointer (some ⟨b4, 0, none⟩)), (5, .pointer (some ⟨b5, 0, none⟩)), (16, .pointer (some ⟨b16, 0, none⟩)), (17, .pointer (some ⟨b17, 0, none⟩))] (Sub.cons rfl (Sub.cons rfl (Sub.cons rfl (Sub.cons rfl (Sub.cons rfl (Sub.nil _)))))) ?_
          have hlow := low_le ps kq
          refine G.seq ?_
          refine G.seq ?_
          refine G.quiet (by decide +kernel) rfl ?_
          refine Q.val rfl rfl rfl rfl (fun w21 hE => R.ldB rfl (hLk.B16.ext0 hE) rfl) ?_
          refine Q.val rfl rfl rfl rfl (fun w21 hE => R.ldB rfl (hLk.B4.ext0 hE) rfl) ?_
          refine Q.val rfl rfl rfl rfl (fun w21 hE => R.lenS rfl) ?_
          refine Q.val rfl rfl rfl rfl (fun w21 hE => R.lss rfl rfl) ?_
          refine Q.val rfl rfl rfl rfl (fun w21 hE => R.mv rfl) ?_
          refine Q.caseP 123 rfl (fun hg16_4 => ?_) (fun hg16_4 => ?_)
          · obtain ⟨p, hp⟩ : ∃ p, ps[i]? = some p := ⟨_, List.getElem?_eq_getElem (by omega)⟩
            obtain ⟨kk, vx⟩ := p
            obtain ⟨ss, hss⟩ := hst _ (List.mem_of_getElem? hp)
            obtain rfl : vx = [.string (str ss)] := hss
            have hil : i < n := by omega
            obtain ⟨q, hq, hcl⟩ := (Tab.pairs hLk.row.cells hn hok).at (by decide) i (by rw [List.length_map]; omega)
            have he : (ps.map pcell)[i]'(by rw [List.length_map]; omega) = pcell (kk, [.string (str ss)]) := by rw [List.getElem_map]; exact congrArg pcell (List.getElem?_eq_some_iff.1 hp).2
            rw [he] at hcl
            replace hcl : Cells _ _ [.int .i64 kk, .string (str ss)] := hcl
            have hlc := low_casesI hs (k := kq) hp
            have hla : (i < low ps kq ∧ kk < kq) ∨ (i = low ps kq ∧ kq ≤ kk) ∨ (low ps kq < i ∧ kq < kk) := by rcases hlc with ⟨h1, h2⟩ | ⟨h1, h2, _⟩ | ⟨h1, h2, _⟩ | ⟨h1, h2⟩ <;> dsimp only at h2 <;> omega
            obtain ⟨q5, hq5, hc5⟩ := hcl 0 (.int .i64 kk) rfl
            cases hq5
            refine Q.val rfl rfl rfl rfl (fun w21 hE => R.ldB rfl (hLk.B4.ext0 hE) rfl) ?_
            refine Q.val rfl rfl rfl rfl (fun w21 hE => R.ldB rfl (hLk.B16.ext0 hE) rfl) ?_
            refine Q.val rfl rfl rfl rfl (fun w21 hE => R.idx rfl rfl (by omega) (by omega) q hq) ?_
            refine Q.val rfl rfl rfl rfl (fun w21 hE => R.fldA rfl) ?_
            refine Q.val rfl rfl rfl rfl (fun w21 hE => R.ld rfl (v := .int .i64 kk) (by rw [Int.toNat_natCast]; exact (Still.of hE).cell hc5)) ?_
            refine Q.val rfl rfl rfl rfl (fun w21 hE => R.fld rfl) ?_
            refine Q.val rfl rfl rfl rfl (fun w21 hE => R.ldB (v := .int .i64 kq) rfl (hLk.B5.ext0 hE) rfl) ?_
            refine Q.val rfl rfl rfl rfl (fun w21 hE => R.lss rfl rfl) ?_
            first | refine Q.val rfl rfl rfl rfl (fun w21 hE => R.pickT rfl rfl) ?_ | refine Q.val rfl rfl rfl rfl (fun w21 hE => R.pickF rfl rfl) ?_
            refine Q.nil (fun w21 e21 => ?_)
            replace E := E.trans0 e21
            replace hLk := hLk.ext0 e21
            refine N.seq ?_
            refine G.condP rfl (fun h3 => ?_) (fun h3 => ?_)
            · refine G.skip ?_
              refine N.seq ?_
              refine G.block ?_
              refine G.region ?_
              refine L.val rfl rfl (R.ldB rfl hLk.B16 rfl) ?_
              refine L.val rfl rfl (R.add rfl rfl (by omega)) ?_
              refine L.set rfl (R.st rfl rfl hLk.B16 (by show 0 < 1; decide) rfl) ?_
              rintro w22 ⟨e22, hs22, B16⟩
              replace B16 : Blk w22 b16 #[.int .i64 ((i : Int) + 1)] 3 (0, 0) := B16
              replace hLk : LkI ps 3 4 64 66 77 a n c Mr b4 b5 b16 b17 #[.int .i64 kd, .int .i64 kq, .int .i64 sp, .string (str vv)] ((i : Int) + 1) w22 := ⟨B16, hLk.B17.ext e22 (by simpa using Ne.symm n1), hLk.B4.ext e22 (by simpa using n2), hLk.B5.ext e22 (by simpa using n4), hLk.row.ext e22 (fun g hg h => n6 g hg (List.mem_singleton.1 h))⟩
              replace E := E.trans e22 (M := []) (by simp) (by intro x hx; rw [List.mem_singleton.1 hx]; exact .inr (by omega))
              refine L.nil ?_
              refine N.block ?_
              exact N.again (i + 1) (by omega) (Sub.cons rfl (Sub.cons rfl (Sub.cons rfl (Sub.cons rfl (Sub.cons rfl (Sub.nil _)))))) ⟨by omega, by rw [show ((i + 1 : Nat) : Int) = (i : Int) + 1 by omega]; exact hLk, E⟩
            · refine G.exit _ rfl ?_
              refine N.seq ?_
              refine G.seq ?_
              refine G.region ?_
              refine L.do rfl rfl (R.alloc) ?_
              have hil2 : i = low ps kq := by omega
              subst hil2
              rintro _ w23 ⟨b18, rfl, hb18, hs18, e23, B18⟩
              have hE23 := E.size
              have l16 := hLk.B16.lt
              have l17 := hLk.B17.lt
              have l4 := hLk.B4.lt
              have l5 := hLk.B5.lt
              have hMs0 := hLk.row.lt
              replace E := E.trans0 e23
              replace hLk := hLk.ext0 e23
              refine L.set rfl (R.st rfl rfl B18 (by show 0 < 1; decide) rfl) ?_
              rintro w24 ⟨e24, hs24, B18⟩
              replace B18 : Blk w24 b18 #[.int .i64 ((0 : Nat) : Int)] 3 (0, 0) := B18
              replace hLk := hLk.ext (s := b18) e24 (by simp; omega) (by simp; omega) (by intro g hg; rw [List.mem_singleton.1 hg]; exact Nat.le_refl _) (by omega) (by omega) (fun g hg => by have := hMs0 g hg; omega)
              replace E := E.trans e24 (M := []) (by simp) (by intro x hx; rw [List.mem_singleton.1 hx]; exact .inr (by omega))
              refine L.nil ?_
              refine N.seq ?_
              refine G.seq ?_
              refine G.region ?_
              refine L.val rfl rfl (R.mv rfl) ?_
              refine L.val rfl rfl (R.fld rfl) ?_
              refine L.val rfl rfl (R.ldB (v := .int .i64 kq) rfl hLk.B5 rfl) ?_
              refine L.callF rfl rfl rfl go119 (ofromS_ok m ps S kq _ (hd.ext0 E) (by omega)) ?_
              rintro _ w25 ⟨lb, Fp, rfl, e25, hit, hFp⟩
              have hEi25 := E.size
              replace E := E.trans0 e25
              have hsi25 := e25.size
              have l16 := hLk.B16.lt
              have l17 := hLk.B17.lt
              have l4 := hLk.B4.lt
              have l5 := hLk.B5.lt
              have hMs : ∀ g ∈ Mr, g < w25.heap.size := fun g hg => Nat.lt_of_lt_of_le (hLk.row.lt g hg) hsi25
              replace hLk := hLk.ext0 e25
              replace B18 := B18.ext0 e25
              have l18 := B18.lt
              refine L.val rfl rfl (R.mkFunc rfl rfl) ?_
              have hcall : Meets Try.prog 216 (.func (.func 120) #[] ([.pointer (some ⟨b17, 0, none⟩), .pointer (some ⟨b16, 0, none⟩), .pointer (some ⟨b4, 0, none⟩), .pointer (some ⟨b18, 0, none⟩), .pointer (some ⟨b5, 0, none⟩)] : List Value).toArray :: lb) w25 (fun _ W => ∃ k, k ≤ (ps.drop (low ps kq)).length ∧ (fun k W => (LkI ps 3 4 64 66 77 a n c Mr b4 b5 b16 b17 #[.int .i64 kd, .int .i64 kq, .int .i64 sp, .string (str vv)] ((low ps kq : Int) + (k : Nat)) W ∧ Blk W b18 #[.int .i64 ((k : Nat) : Int)] 3 (0, 0)) ∧ Ext [] w W) k W ∧ (k = (ps.drop (low ps kq)).length ∨ (k : Int) = sp)) := by
                refine iter_run (hit _ (Ext.refl _ _)) _ _ go120 [b16, b17, b18] (fun k W => (LkI ps 3 4 64 66 77 a n c Mr b4 b5 b16 b17 #[.int .i64 kd, .int .i64 kq, .int .i64 sp, .string (str vv)] ((low ps kq : Int) + (k : Nat)) W ∧ Blk W b18 #[.int .i64 ((k : Nat) : Int)] 3 (0, 0)) ∧ Ext [] w W) (fun k => (k : Int) = sp) ?_ ?_ ?_ ⟨⟨by rw [show (low ps kq : Int) + ((0 : Nat) : Int) = low ps kq by omega]; exact hLk, B18⟩, E⟩
                · intro g hg
                  simp only [List.mem_cons, List.not_mem_nil, or_false] at hg
                  refine ⟨by omega, fun h => ?_⟩
                  have := hFp g h
                  omega
                · rintro k W W' M' ⟨⟨h1, h18⟩, h2⟩ he hm
                  exact ⟨⟨h1.ext he (fun h => (hm _ h).1 (by simp)) (fun h => (hm _ h).1 (by simp)) (fun g hg => (hm g hg).2) (by omega) (by omega) hMs, h18.ext he (fun h => (hm _ h).1 (by simp))⟩, h2.transN he (fun g hg => .inr (by have := (hm g hg).2; omega))⟩
                · rintro k p W hk hp ⟨⟨h1, h18⟩, h2⟩
                  obtain ⟨kk, vx⟩ := p
                  rw [List.getElem?_drop] at hp
                  rw [List.length_drop] at hk
                  obtain ⟨ss, hss⟩ := hst _ (List.mem_of_getElem? hp)
                  obtain rfl : vx = [.string (str ss)] := hss
                  refine (look3_ok kk ss b4 b5 b16 b17 a n c ps Mr kd kq sp vv (low ps kq + k) b18 k W (by rw [show ((low ps kq + k : Nat) : Int) = (low ps kq : Int) + (k : Nat) by omega]; exact h1) h18 (by omega) (by omega) hn hok hp hnl).mono ?_
                  rintro v W' ⟨rfl, e, h3, h4⟩
                  exact ⟨_, rfl, e, ⟨⟨by rw [show (low ps kq : Int) + ((k + 1 : Nat) : Int) = ((low ps kq + k : Nat) : Int) + 1 by omega]; exact h3, by rw [show ((k + 1 : Nat) : Int) = (k : Int) + 1 by omega]; exact h4⟩, h2.transN e (fun g hg => .inr (by simp at hg; omega))⟩, fun hb => by have := of_decide_eq_false hb; omega⟩
              refine L.callV rfl rfl rfl rfl rfl go216 (hcall) ?_
              rintro v26 w26 ⟨k3, hk3, ⟨⟨hLk, B18⟩, E⟩, hks3⟩
              rw [List.length_drop] at hk3 hks3
              refine L.nil ?_
              refine N.seq ?_
              refine G.seq ?_
              refine G.region ?_
              refine L.val rfl rfl (R.ldB rfl hLk.B17 rfl) ?_
              refine L.val rfl rfl (R.mv rfl) ?_
              refine L.isT 142 rfl (by rfl) ?_
              refine L.val rfl rfl (R.ldB rfl hLk.B16 rfl) ?_
              refine L.val rfl rfl (R.ldB rfl hLk.B4 rfl) ?_
              refine L.val rfl rfl (R.lenS rfl) ?_
              refine L.val rfl rfl (R.eqI rfl rfl) ?_
              refine L.val rfl rfl (R.mv rfl) ?_
              refine L.caseP 147 rfl (fun hg20_6 => ?_) (fun hg20_6 => ?_)
              · refine L.pass rfl rfl ?_
                refine L.pass rfl rfl ?_
                refine L.pass rfl rfl ?_
                refine L.pass rfl rfl ?_
                first | refine L.val rfl rfl (R.pickT rfl rfl) ?_ | refine L.val rfl rfl (R.pickF rfl rfl) ?_
                first | refine L.val rfl rfl (R.pickT rfl rfl) ?_ | refine L.val rfl rfl (R.pickF rfl rfl) ?_
                refine L.val rfl rfl (R.as rfl) ?_
                refine L.nil ?_
                refine N.seq ?_
                refine G.ret1 rfl rfl ?_
                first
                  | exact ⟨rfl, E⟩
                  | exact ⟨congrArg Value.bool (decide_eq_true (by omega)), E⟩
              · refine L.val rfl rfl (R.ldB rfl B18 rfl) ?_
                refine L.val rfl rfl (R.fld rfl) ?_
                refine L.val rfl rfl (R.ldB (v := .int .i64 sp) rfl hLk.B5 rfl) ?_
                refine L.val rfl rfl (R.eqI rfl rfl) ?_
                first | refine L.val rfl rfl (R.pickT rfl rfl) ?_ | refine L.val rfl rfl (R.pickF rfl rfl) ?_
                first | refine L.val rfl rfl (R.pickT rfl rfl) ?_ | refine L.val rfl rfl (R.pickF rfl rfl) ?_
                refine L.val rfl rfl (R.as rfl) ?_
                refine L.nil ?_
                refine N.seq ?_
                refine G.ret1 rfl rfl ?_
                first
                  | exact ⟨rfl, E⟩
                  | exact ⟨congrArg Value.bool (decide_eq_true (by omega)), E⟩
          · refine Q.pass rfl rfl rfl ?_
            refine Q.pass rfl rfl rfl ?_
            refine Q.pass rfl rfl rfl ?_
            refine Q.pass rfl rfl rfl ?_
            refine Q.pass rfl rfl rfl ?_
            refine Q.pass rfl rfl rfl ?_
            refine Q.pass rfl rfl rfl ?_
            refine Q.pass rfl rfl rfl ?_
            first | refine Q.val rfl rfl rfl rfl (fun w21 hE => R.pickT rfl rfl) ?_ | refine Q.val rfl rfl rfl rfl (fun w21 hE => R.pickF rfl rfl) ?_
            refine Q.nil (fun w21 e21 => ?_)
            replace E := E.trans0 e21
            replace hLk := hLk.ext0 e21
            refine N.seq ?_
            refine G.condF rfl ?_
            refine G.exit _ rfl ?_
            refine N.seq ?_
            refine G.seq ?_
            refine G.region ?_
            refine L.do rfl rfl (R.alloc) ?_
            have hil2 : i = low ps kq := by omega
            subst hil2
            rintro _ w23 ⟨b18, rfl, hb18, hs18, e23, B18⟩
            have hE23 := E.size
            have l16 := hLk.B16.lt
            have l17 := hLk.B17.lt
            have l4 := hLk.B4.lt
            have l5 := hLk.B5.lt
            have hMs0 := hLk.row.lt
            replace E := E.trans0 e23
            replace hLk := hLk.ext0 e23
            refine L.set rfl (R.st rfl rfl B18 (by show 0 < 1; decide) rfl) ?_
            rintro w24 ⟨e24, hs24, B18⟩
            replace B18 : Blk w24 b18 #[.int .i64 ((0 : Nat) : Int)] 3 (0, 0) := B18
            replace hLk := hLk.ext (s := b18) e24 (by simp; omega) (by simp; omega) (by intro g hg; rw [List.mem_singleton.1 hg]; exact Nat.le_refl _) (by omega) (by omega) (fun g hg => by have := hMs0 g hg; omega)
            replace E := E.trans e24 (M := []) (by simp) (by intro x hx; rw [List.mem_singleton.1 hx]; exact .inr (by omega))
            refine L.nil ?_
            refine N.seq ?_
            refine G.seq ?_
            refine G.region ?_
            refine L.val rfl rfl (R.mv rfl) ?_
            refine L.val rfl rfl (R.fld rfl) ?_
            refine L.val rfl rfl (R.ldB (v := .int .i64 kq) rfl hLk.B5 rfl) ?_
            refine L.callF rfl rfl rfl go119 (ofromS_ok m ps S kq _ (hd.ext0 E) (by omega)) ?_
            rintro _ w25 ⟨lb, Fp, rfl, e25, hit, hFp⟩
            have hEi25 := E.size
            replace E := E.trans0 e25
            have hsi25 := e25.size
            have l16 := hLk.B16.lt
            have l17 := hLk.B17.lt
            have l4 := hLk.B4.lt
            have l5 := hLk.B5.lt
            have hMs : ∀ g ∈ Mr, g < w25.heap.size := fun g hg => Nat.lt_of_lt_of_le (hLk.row.lt g hg) hsi25
            replace hLk := hLk.ext0 e25
            replace B18 := B18.ext0 e25
            have l18 := B18.lt
            refine L.val rfl rfl (R.mkFunc rfl rfl) ?_
            have hcall : Meets Try.prog 216 (.func (.func 120) #[] ([.pointer (some ⟨b17, 0, none⟩), .pointer (some ⟨b16, 0, none⟩), .pointer (some ⟨b4, 0, none⟩), .pointer (some ⟨b18, 0, none⟩), .pointer (some ⟨b5, 0, none⟩)] : List Value).toArray :: lb) w25 (fun _ W => ∃ k, k ≤ (ps.drop (low ps kq)).length ∧ (fun k W => (LkI ps 3 4 64 66 77 a n c Mr b4 b5 b16 b17 #[.int .i64 kd, .int .i64 kq, .int .i64 sp, .string (str vv)] ((low ps kq : Int) + (k : Nat)) W ∧ Blk W b18 #[.int .i64 ((k : Nat) : Int)] 3 (0, 0)) ∧ Ext [] w W) k W ∧ (k = (ps.drop (low ps kq)).length ∨ (k : Int) = sp)) := by
              refine iter_run (hit _ (Ext.refl _ _)) _ _ go120 [b16, b17, b18] (fun k W => (LkI ps 3 4 64 66 77 a n c Mr b4 b5 b16 b17 #[.int .i64 kd, .int .i64 kq, .int .i64 sp, .string (str vv)] ((low ps kq : Int) + (k : Nat)) W ∧ Blk W b18 #[.int .i64 ((k : Nat) : Int)] 3 (0, 0)) ∧ Ext [] w W) (fun k => (k : Int) = sp) ?_ ?_ ?_ ⟨⟨by rw [show (low ps kq : Int) + ((0 : Nat) : Int) = low ps kq by omega]; exact hLk, B18⟩, E⟩
              · intro g hg
                simp only [List.mem_cons, List.not_mem_nil, or_false] at hg
                refine ⟨by omega, fun h => ?_⟩
                have := hFp g h
                omega
              · rintro k W W' M' ⟨⟨h1, h18⟩, h2⟩ he hm
                exact ⟨⟨h1.ext he (fun h => (hm _ h).1 (by simp)) (fun h => (hm _ h).1 (by simp)) (fun g hg => (hm g hg).2) (by omega) (by omega) hMs, h18.ext he (fun h => (hm _ h).1 (by simp))⟩, h2.transN he (fun g hg => .inr (by have := (hm g hg).2; omega))⟩
              · rintro k p W hk hp ⟨⟨h1, h18⟩, h2⟩
                obtain ⟨kk, vx⟩ := p
                rw [List.getElem?_drop] at hp
                rw [List.length_drop] at hk
                obtain ⟨ss, hss⟩ := hst _ (List.mem_of_getElem? hp)
                obtain rfl : vx = [.string (str ss)] := hss
                refine (look3_ok kk ss b4 b5 b16 b17 a n c ps Mr kd kq sp vv (low ps kq + k) b18 k W (by rw [show ((low ps kq + k : Nat) : Int) = (low ps kq : Int) + (k : Nat) by omega]; exact h1) h18 (by omega) (by omega) hn hok hp hnl).mono ?_
                rintro v W' ⟨rfl, e, h3, h4⟩
                exact ⟨_, rfl, e, ⟨⟨by rw [show (low ps kq : Int) + ((k + 1 : Nat) : Int) = ((low ps kq + k : Nat) : Int) + 1 by omega]; exact h3, by rw [show ((k + 1 : Nat) : Int) = (k : Int) + 1 by omega]; exact h4⟩, h2.transN e (fun g hg => .inr (by simp at hg; omega))⟩, fun hb => by have := of_decide_eq_false hb; omega⟩
            refine L.callV rfl rfl rfl rfl rfl go216 (hcall) ?_
            rintro v26 w26 ⟨k3, hk3, ⟨⟨hLk, B18⟩, E⟩, hks3⟩
            rw [List.length_drop] at hk3 hks3
            refine L.nil ?_
            refine N.seq ?_
            refine G.seq ?_
            refine G.region ?_
            refine L.val rfl rfl (R.ldB rfl hLk.B17 rfl) ?_
            refine L.val rfl rfl (R.mv rfl) ?_
            refine L.isT 142 rfl (by rfl) ?_
            refine L.val rfl rfl (R.ldB rfl hLk.B16 rfl) ?_
            refine L.val rfl rfl (R.ldB rfl hLk.B4 rfl) ?_
            refine L.val rfl rfl (R.lenS rfl) ?_
            refine L.val rfl rfl (R.eqI rfl rfl) ?_
            refine L.val rfl rfl (R.mv rfl) ?_
            refine L.caseP 147 rfl (fun hg20_6 => ?_) (fun hg20_6 => ?_)
            · refine L.pass rfl rfl ?_
              refine L.pass rfl rfl ?_
              refine L.pass rfl rfl ?_
              refine L.pass rfl rfl ?_
              first | refine L.val rfl rfl (R.pickT rfl rfl) ?_ | refine L.val rfl rfl (R.pickF rfl rfl) ?_
              first | refine L.val rfl rfl (R.pickT rfl rfl) ?_ | refine L.val rfl rfl (R.pickF rfl rfl) ?_
              refine L.val rfl rfl (R.as rfl) ?_
              refine L.nil ?_
              refine N.seq ?_
              refine G.ret1 rfl rfl ?_
              first
                | exact ⟨rfl, E⟩
                | exact ⟨congrArg Value.bool (decide_eq_true (by omega)), E⟩
            · refine L.val rfl rfl (R.ldB rfl B18 rfl) ?_
              refine L.val rfl rfl (R.fld rfl) ?_
              refine L.val rfl rfl (R.ldB (v := .int .i64 sp) rfl hLk.B5 rfl) ?_
              refine L.val rfl rfl (R.eqI rfl rfl) ?_
              first | refine L.val rfl rfl (R.pickT rfl rfl) ?_ | refine L.val rfl rfl (R.pickF rfl rfl) ?_
              first | refine L.val rfl rfl (R.pickT rfl rfl) ?_ | refine L.val rfl rfl (R.pickF rfl rfl) ?_
              refine L.val rfl rfl (R.as rfl) ?_
              refine L.nil ?_
              refine N.seq ?_
              refine G.ret1 rfl rfl ?_
              first
                | exact ⟨rfl, E⟩
                | exact ⟨congrArg Value.bool (decide_eq_true (by omega)), E⟩
    · refine L.pass rfl rfl ?_
      refine L.pass rfl rfl ?_
      refine L.pass rfl rfl ?_
      refine L.pass rfl rfl ?_
      first | refine L.val rfl rfl (R.pickT rfl rfl) ?_ | refine L.val rfl rfl (R.pickF rfl rfl) ?_
      first | refine L.val rfl rfl (R.pickT rfl rfl) ?_ | refine L.val rfl rfl (R.pickF rfl rfl) ?_
      refine L.nil ?_
      refine N.seq ?_
      refine G.condF rfl ?_
      refine G.skip ?_
      refine N.seq ?_
      refine G.seq ?_
      refine G.region ?_
      refine L.val rfl rfl (R.ldB rfl hLk.B4 rfl) ?_
      refine L.val rfl rfl (R.lenS rfl) ?_
      refine L.set rfl (R.st rfl rfl hLk.B16 (by show 0 < 1; decide) rfl) ?_
      rintro w16 ⟨e16, hs16, B16⟩
      replace B16 : Blk w16 b16 #[.int .i64 ((n : Int))] 3 (0, 0) := B16
      replace hLk : LkI ps 3 4 64 66 77 a n c Mr b4 b5 b16 b17 #[.int .i64 kd, .int .i64 kq, .int .i64 sp, .string (str vv)] ((n : Int)) w16 := ⟨B16, hLk.B17.ext e16 (by simpa using Ne.symm n1), hLk.B4.ext e16 (by simpa using n2), hLk.B5.ext e16 (by simpa using n4), hLk.row.ext e16 (fun g hg h => n6 g hg (List.mem_singleton.1 h))⟩
      replace E := E.trans e16 (M := []) (by simp) (by intro x hx; rw [List.mem_singleton.1 hx]; exact .inr (by omega))
      refine L.nil ?_
      refine N.seq ?_
      refine G.seq ?_
      refine G.region ?_
      refine L.val rfl rfl (R.mv rfl) ?_
      refine L.callF rfl rfl rfl go117 (odownS_ok m ps S _ (hd.ext0 E) (by omega)) ?_
      rintro _ w17 ⟨lb, Fp, rfl, e17, hit, hFp⟩
      have hEi17 := E.size
      replace E := E.trans0 e17
      have hsi17 := e17.size
      have l16 := hLk.B16.lt
      have l17 := hLk.B17.lt
      have l4 := hLk.B4.lt
      have l5 := hLk.B5.lt
      have hMs : ∀ g ∈ Mr, g < w17.heap.size := fun g hg => Nat.lt_of_lt_of_le (hLk.row.lt g hg) hsi17
      replace hLk := hLk.ext0 e17
      refine L.val rfl rfl (R.mkFunc rfl rfl) ?_
      have hcall : Meets Try.prog 216 (.func (.func 118) #[] ([.pointer (some ⟨b16, 0, none⟩), .pointer (some ⟨b17, 0, none⟩), .pointer (some ⟨b4, 0, none⟩), .pointer (some ⟨b5, 0, none⟩)] : List Value).toArray :: lb) w17 (fun _ W => ∃ k, k ≤ ps.length ∧ (fun k W => LkI ps 3 4 64 66 77 a n c Mr b4 b5 b16 b17 #[.int .i64 kd, .int .i64 kq, .int .i64 sp, .string (str vv)] ((n : Int) - (k : Nat)) W ∧ Ext [] w W) k W ∧ (k = ps.length ∨ (k : Int) = sp)) := by
        refine iter_run (hit _ (Ext.refl _ _)) _ _ go118 [b16, b17] (fun k W => LkI ps 3 4 64 66 77 a n c Mr b4 b5 b16 b17 #[.int .i64 kd, .int .i64 kq, .int .i64 sp, .string (str vv)] ((n : Int) - (k : Nat)) W ∧ Ext [] w W) (fun k => (k : Int) = sp) ?_ ?_ ?_ ⟨by rw [show (n : Int) - ((0 : Nat) : Int) = n by omega]; exact hLk, E⟩
        · intro g hg
          simp only [List.mem_cons, List.not_mem_nil, or_false] at hg
          refine ⟨by omega, fun h => ?_⟩
          have := hFp g h
          omega
        · rintro k W W' M' ⟨h1, h2⟩ he hm
          exact ⟨h1.ext he (fun h => (hm _ h).1 (by simp)) (fun h => (hm _ h).1 (by simp)) (fun g hg => (hm g hg).2) (by omega) (by omega) hMs, h2.transN he (fun g hg => .inr (by have := (hm g hg).2; omega))⟩
        · rintro k p W hk hp ⟨h1, h2⟩
          obtain ⟨kk, vx⟩ := p
          rw [List.getElem?_reverse hk, show ps.length - 1 - k = n - (k + 1) by omega] at hp
          obtain ⟨ss, hss⟩ := hst _ (List.mem_of_getElem? hp)
          obtain rfl : vx = [.string (str ss)] := hss
          refine (look2_ok kk ss b4 b5 b16 b17 a n c ps Mr kd kq sp vv (n - (k + 1)) W (by rw [show ((n - (k + 1) : Nat) : Int) + 1 = (n : Int) - (k : Nat) by omega]; exact h1) hn hok hp hnl).mono ?_
          rintro v W' ⟨rfl, e, h3⟩
          exact ⟨_, rfl, e, ⟨by rw [show (n : Int) - ((k + 1 : Nat) : Int) = ((n - (k + 1) : Nat) : Int) by omega]; exact h3, h2.transN e (fun g hg => .inr (by simp at hg; omega))⟩, fun hb => by have := of_decide_eq_false hb; omega⟩
      refine L.callV rfl rfl rfl rfl rfl go216 (hcall) ?_
      rintro v18 w18 ⟨k2, hk2, ⟨hLk, E⟩, hks2⟩
      refine L.nil ?_
      refine N.seq ?_
      refine G.seq ?_
      refine G.seq ?_
      refine G.region ?_
      refine L.val rfl rfl (R.ldB rfl hLk.B17 rfl) ?_
      refine L.val rfl rfl (R.not rfl) ?_
      refine L.val rfl rfl (R.mv rfl) ?_
      refine L.isF 106 rfl (by rfl) ?_
      refine L.val rfl rfl (R.ldB rfl hLk.B16 rfl) ?_
      refine L.val rfl rfl (R.neI rfl rfl) ?_
      refine L.val rfl rfl (R.mv rfl) ?_
      refine L.caseP 109 rfl (fun hg13_5 => ?_) (fun hg13_5 => ?_)
      · refine L.val rfl rfl (R.ldB rfl hLk.B4 rfl) ?_
        refine L.val rfl rfl (R.lenS rfl) ?_
        refine L.val rfl rfl (R.ldB rfl hLk.B16 rfl) ?_
        refine L.val rfl rfl (R.sub' rfl rfl (by omega)) ?_
        refine L.val rfl rfl (R.fld rfl) ?_
        refine L.val rfl rfl (R.ldB (v := .int .i64 sp) rfl hLk.B5 rfl) ?_
        refine L.val rfl rfl (R.neI rfl rfl) ?_
        first | refine L.val rfl rfl (R.pickT rfl rfl) ?_ | refine L.val rfl rfl (R.pickF rfl rfl) ?_
        first | refine L.val rfl rfl (R.pickT rfl rfl) ?_ | refine L.val rfl rfl (R.pickF rfl rfl) ?_
        refine L.nil ?_
        refine N.seq ?_
        refine G.condP rfl (fun h2 => ?_) (fun h2 => ?_)
        · exfalso; omega
        · refine G.skip ?_
          refine N.seq ?_
          refine G.seq ?_
          refine G.region ?_
          refine L.set rfl (R.st rfl rfl hLk.B16 (by show 0 < 1; decide) rfl) ?_
          rintro w19 ⟨e19, hs19, B16⟩
          replace B16 : Blk w19 b16 #[.int .i64 (0)] 3 (0, 0) := B16
          replace hLk : LkI ps 3 4 64 66 77 a n c Mr b4 b5 b16 b17 #[.int .i64 kd, .int .i64 kq, .int .i64 sp, .string (str vv)] (0) w19 := ⟨B16, hLk.B17.ext e19 (by simpa using Ne.symm n1), hLk.B4.ext e19 (by simpa using n2), hLk.B5.ext e19 (by simpa using n4), hLk.row.ext e19 (fun g hg h => n6 g hg (List.mem_singleton.1 h))⟩
          replace E := E.trans e19 (M := []) (by simp) (by intro x hx; rw [List.mem_singleton.1 hx]; exact .inr (by omega))
          refine L.nil ?_
          refine N.seq ?_
          refine G.seq ?_
          refine G.block ?_
          refine G.loop (X := Nat) (fun s => [(0, .pointer (some ⟨m, 0, none⟩)), (4, .pointer (some ⟨b4, 0, none⟩)), (5, .pointer (some ⟨b5, 0, none⟩)), (16, .pointer (some ⟨b16, 0, none⟩)), (17, .pointer (some ⟨b17, 0, none⟩))]) (fun s w' => s ≤ low ps kq ∧ LkI ps 3 4 64 66 77 a n c Mr b4 b5 b16 b17 #[.int .i64 kd, .int .i64 kq, .int .i64 sp, .string (str vv)] ((s : Nat) : Int) w' ∧ Ext [] w w') (fun s => ps.length - s) (0) (Sub.cons rfl (Sub.cons rfl (Sub.cons rfl (Sub.cons rfl (Sub.cons rfl (Sub.nil _)))))) ⟨Nat.zero_le _, hLk, E⟩ ?_
          rintro i w20 ⟨hi, hLk, E⟩
          refine G.sub [(0, .pointer (some ⟨m, 0, none⟩)), (4, .pointer (some ⟨b4, 0, none⟩)), (5, .pointer (some ⟨b5, 0, none⟩)), (16, .pointer (some ⟨b16, 0, none⟩)), (17, .pointer (some ⟨b17, 0, none⟩))] (Sub.cons rfl (Sub.cons rfl (Sub.cons rfl (Sub.cons rfl (Sub.cons rfl (Sub.nil _)))))) ?_
          have hlow := low_le ps kq
          refine G.seq ?_
          refine G.seq ?_
          refine G.quiet (by decide +kernel) rfl ?_
          refine Q.val rfl rfl rfl rfl (fun w21 hE => R.ldB rfl (hLk.B16.ext0 hE) rfl) ?_
          refine Q.val rfl rfl rfl rfl (fun w21 hE => R.ldB rfl (hLk.B4.ext0 hE) rfl) ?_
          refine Q.val rfl rfl rfl rfl (fun w21 hE => R.lenS rfl) ?_
          refine Q.val rfl rfl rfl rfl (fun w21 hE => R.lss rfl rfl) ?_
          refine Q.val rfl rfl rfl rfl (fun w21 hE => R.mv rfl) ?_
          refine Q.caseP 123 rfl (fun hg16_4 => ?_) (fun hg16_4 => ?_)
          · obtain ⟨p, hp⟩ : ∃ p, ps[i]? = some p := ⟨_, List.getElem?_eq_getElem (by omega)⟩
            obtain ⟨kk, vx⟩ := p
            obtain ⟨ss, hss⟩ := hst _ (List.mem_of_getElem? hp)
            obtain rfl : vx = [.string (str ss)] := hss
            have hil : i < n := by omega
            obtain ⟨q, hq, hcl⟩ := (Tab.pairs hLk.row.cells hn hok).at (by decide) i (by rw [List.length_map]; omega)
            have he : (ps.map pcell)[i]'(by rw [List.length_map]; omega) = pcell (kk, [.string (str ss)]) := by rw [List.getElem_map]; exact congrArg pcell (List.getElem?_eq_some_iff.1 hp).2
            rw [he] at hcl
            replace hcl : Cells _ _ [.int .i64 kk, .string (str ss)] := hcl
            have hlc := low_casesI hs (k := kq) hp
            have hla : (i < low ps kq ∧ kk < kq) ∨ (i = low ps kq ∧ kq ≤ kk) ∨ (low ps kq < i ∧ kq < kk) := by rcases hlc with ⟨h1, h2⟩ | ⟨h1, h2, _⟩ | ⟨h1, h2, _⟩ | ⟨h1, h2⟩ <;> dsimp only at h2 <;> omega
            obtain ⟨q5, hq5, hc5⟩ := hcl 0 (.int .i64 kk) rfl
            cases hq5
            refine Q.val rfl rfl rfl rfl (fun w21 hE => R.ldB rfl (hLk.B4.ext0 hE) rfl) ?_
            refine Q.val rfl rfl rfl rfl (fun w21 hE => R.ldB rfl (hLk.B16.ext0 hE) rfl) ?_
            refine Q.val rfl rfl rfl rfl (fun w21 hE => R.idx rfl rfl (by omega) (by omega) q hq) ?_
            refine Q.val rfl rfl rfl rfl (fun w21 hE => R.fldA rfl) ?_
            refine Q.val rfl rfl rfl rfl (fun w21 hE => R.ld rfl (v := .int .i64 kk) (by rw [Int.toNat_natCast]; exact (Still.of hE).cell hc5)) ?_
            refine Q.val rfl rfl rfl rfl (fun w21 hE => R.fld rfl) ?_
            refine Q.val rfl rfl rfl rfl (fun w21 hE => R.ldB (v := .int .i64 kq) rfl (hLk.B5.ext0 hE) rfl) ?_
            refine Q.val rfl rfl rfl rfl (fun w21 hE => R.lss rfl rfl) ?_
            first | refine Q.val rfl rfl rfl rfl (fun w21 hE => R.pickT rfl rfl) ?_ | refine Q.val rfl rfl rfl rfl (fun w21 hE => R.pickF rfl rfl) ?_
            refine Q.nil (fun w21 e21 => ?_)
            replace E := E.trans0 e21
            replace hLk := hLk.ext0 e21
            refine N.seq ?_
            refine G.condP rfl (fun h3 => ?_) (fun h3 => ?_)
            · refine G.skip ?_
              refine N.seq ?_
              refine G.block ?_
              refine G.region ?_
              refine L.val rfl rfl (R.ldB rfl hLk.B16 rfl) ?_
              refine L.val rfl rfl (R.add rfl rfl (by omega)) ?_
              refine L.set rfl (R.st rfl rfl hLk.B16 (by show 0 < 1; decide) rfl) ?_
              rintro w22 ⟨e22, hs22, B16⟩
              replace B16 : Blk w22 b16 #[.int .i64 ((i : Int) + 1)] 3 (0, 0) := B16
              replace hLk : LkI ps 3 4 64 66 77 a n c Mr b4 b5 b16 b17 #[.int .i64 kd, .int .i64 kq, .int .i64 sp, .string (str vv)] ((i : Int) + 1) w22 := ⟨B16, hLk.B17.ext e22 (by simpa using Ne.symm n1), hLk.B4.ext e22 (by simpa using n2), hLk.B5.ext e22 (by simpa using n4), hLk.row.ext e22 (fun g hg h => n6 g hg (List.mem_singleton.1 h))⟩
              replace E := E.trans e22 (M := []) (by simp) (by intro x hx; rw [List.mem_singleton.1 hx]; exact .inr (by omega))
              refine L.nil ?_
              refine N.block ?_
              exact N.again (i + 1) (by omega) (Sub.cons rfl (Sub.cons rfl (Sub.cons rfl (Sub.cons rfl (Sub.cons rfl (Sub.nil _)))))) ⟨by omega, by rw [show ((i + 1 : Nat) : Int) = (i : Int) + 1 by omega]; exact hLk, E⟩
            · refine G.exit _ rfl ?_
              refine N.seq ?_
              refine G.seq ?_
              refine G.region ?_
              refine L.do rfl rfl (R.alloc) ?_
              have hil2 : i = low ps kq := by omega
              subst hil2
              rintro _ w23 ⟨b18, rfl, hb18, hs18, e23, B18⟩
              have hE23 := E.size
              have l16 := hLk.B16.lt
              have l17 := hLk.B17.lt
              have l4 := hLk.B4.lt
              have l5 := hLk.B5.lt
              have hMs0 := hLk.row.lt
              replace E := E.trans0 e23
              replace hLk := hLk.ext0 e23
              refine L.set rfl (R.st rfl rfl B18 (by show 0 < 1; decide) rfl) ?_
              rintro w24 ⟨e24, hs24, B18⟩
              replace B18 : Blk w24 b18 #[.int .i64 ((0 : Nat) : Int)] 3 (0, 0) := B18
              replace hLk := hLk.ext (s := b18) e24 (by simp; omega) (by simp; omega) (by intro g hg; rw [List.mem_singleton.1 hg]; exact Nat.le_refl _) (by omega) (by omega) (fun g hg => by have := hMs0 g hg; omega)
              replace E := E.trans e24 (M := []) (by simp) (by intro x hx; rw [List.mem_singleton.1 hx]; exact .inr (by omega))
              refine L.nil ?_
              refine N.seq ?_
              refine G.seq ?_
              refine G.region ?_
              refine L.val rfl rfl (R.mv rfl) ?_
              refine L.val rfl rfl (R.fld rfl) ?_
              refine L.val rfl rfl (R.ldB (v := .int .i64 kq) rfl hLk.B5 rfl) ?_
              refine L.callF rfl rfl rfl go119 (ofromS_ok m ps S kq _ (hd.ext0 E) (by omega)) ?_
              rintro _ w25 ⟨lb, Fp, rfl, e25, hit, hFp⟩
              have hEi25 := E.size
              replace E := E.trans0 e25
              have hsi25 := e25.size
              have l16 := hLk.B16.lt
              have l17 := hLk.B17.lt
              have l4 := hLk.B4.lt
              have l5 := hLk.B5.lt
              have hMs : ∀ g ∈ Mr, g < w25.heap.size := fun g hg => Nat.lt_of_lt_of_le (hLk.row.lt g hg) hsi25
              replace hLk := hLk.ext0 e25
              replace B18 := B18.ext0 e25
              have l18 := B18.lt
              refine L.val rfl rfl (R.mkFunc rfl rfl) ?_
              have hcall : Meets Try.prog 216 (.func (.func 120) #[] ([.pointer (some ⟨b17, 0, none⟩), .pointer (some ⟨b16, 0, none⟩), .pointer (some ⟨b4, 0, none⟩), .pointer (some ⟨b18, 0, none⟩), .pointer (some ⟨b5, 0, none⟩)] : List Value).toArray :: lb) w25 (fun _ W => ∃ k, k ≤ (ps.drop (low ps kq)).length ∧ (fun k W => (LkI ps 3 4 64 66 77 a n c Mr b4 b5 b16 b17 #[.int .i64 kd, .int .i64 kq, .int .i64 sp, .string (str vv)] ((low ps kq : Int) + (k : Nat)) W ∧ Blk W b18 #[.int .i64 ((k : Nat) : Int)] 3 (0, 0)) ∧ Ext [] w W) k W ∧ (k = (ps.drop (low ps kq)).length ∨ (k : Int) = sp)) := by
                refine iter_run (hit _ (Ext.refl _ _)) _ _ go120 [b16, b17, b18] (fun k W => (LkI ps 3 4 64 66 77 a n c Mr b4 b5 b16 b17 #[.int .i64 kd, .int .i64 kq, .int .i64 sp, .string (str vv)] ((low ps kq : Int) + (k : Nat)) W ∧ Blk W b18 #[.int .i64 ((k : Nat) : Int)] 3 (0, 0)) ∧ Ext [] w W) (fun k => (k : Int) = sp) ?_ ?_ ?_ ⟨⟨by rw [show (low ps kq : Int) + ((0 : Nat) : Int) = low ps kq by omega]; exact hLk, B18⟩, E⟩
                · intro g hg
                  simp only [List.mem_cons, List.not_mem_nil, or_false] at hg
                  refine ⟨by omega, fun h => ?_⟩
                  have := hFp g h
                  omega
                · rintro k W W' M' ⟨⟨h1, h18⟩, h2⟩ he hm
                  exact ⟨⟨h1.ext he (fun h => (hm _ h).1 (by simp)) (fun h => (hm _ h).1 (by simp)) (fun g hg => (hm g hg).2) (by omega) (by omega) hMs, h18.ext he (fun h => (hm _ h).1 (by simp))⟩, h2.transN he (fun g hg => .inr (by have := (hm g hg).2; omega))⟩
                · rintro k p W hk hp ⟨⟨h1, h18⟩, h2⟩
                  obtain ⟨kk, vx⟩ := p
                  rw [List.getElem?_drop] at hp
                  rw [List.length_drop] at hk
                  obtain ⟨ss, hss⟩ := hst _ (List.mem_of_getElem? hp)
                  obtain rfl : vx = [.string (str ss)] := hss
                  refine (look3_ok kk ss b4 b5 b16 b17 a n c ps Mr kd kq sp vv (low ps kq + k) b18 k W (by rw [show ((low ps kq + k : Nat) : Int) = (low ps kq : Int) + (k : Nat) by omega]; exact h1) h18 (by omega) (by omega) hn hok hp hnl).mono ?_
                  rintro v W' ⟨rfl, e, h3, h4⟩
                  exact ⟨_, rfl, e, ⟨⟨by rw [show (low ps kq : Int) + ((k + 1 : Nat) : Int) = ((low ps kq + k : Nat) : Int) + 1 by omega]; exact h3, by rw [show ((k + 1 : Nat) : Int) = (k : Int) + 1 by omega]; exact h4⟩, h2.transN e (fun g hg => .inr (by simp at hg; omega))⟩, fun hb => by have := of_decide_eq_false hb; omega⟩
              refine L.callV rfl rfl rfl rfl rfl go216 (hcall) ?_
              rintro v26 w26 ⟨k3, hk3, ⟨⟨hLk, B18⟩, E⟩, hks3⟩
              rw [List.length_drop] at hk3 hks3
              refine L.nil ?_
              refine N.seq ?_
              refine G.seq ?_
              refine G.region ?_
              refine L.val rfl rfl (R.ldB rfl hLk.B17 rfl) ?_
              refine L.val rfl rfl (R.mv rfl) ?_
              refine L.isT 142 rfl (by rfl) ?_
              refine L.val rfl rfl (R.ldB rfl hLk.B16 rfl) ?_
              refine L.val rfl rfl (R.ldB rfl hLk.B4 rfl) ?_
              refine L.val rfl rfl (R.lenS rfl) ?_
              refine L.val rfl rfl (R.eqI rfl rfl) ?_
              refine L.val rfl rfl (R.mv rfl) ?_
              refine L.caseP 147 rfl (fun hg20_6 => ?_) (fun hg20_6 => ?_)
              · refine L.pass rfl rfl ?_
                refine L.pass rfl rfl ?_
                refine L.pass rfl rfl ?_
                refine L.pass rfl rfl ?_
                first | refine L.val rfl rfl (R.pickT rfl rfl) ?_ | refine L.val rfl rfl (R.pickF rfl rfl) ?_
                first | refine L.val rfl rfl (R.pickT rfl rfl) ?_ | refine L.val rfl rfl (R.pickF rfl rfl) ?_
                refine L.val rfl rfl (R.as rfl) ?_
                refine L.nil ?_
                refine N.seq ?_
                refine G.ret1 rfl rfl ?_
                first
                  | exact ⟨rfl, E⟩
                  | exact ⟨congrArg Value.bool (decide_eq_true (by omega)), E⟩
              · refine L.val rfl rfl (R.ldB rfl B18 rfl) ?_
                refine L.val rfl rfl (R.fld rfl) ?_
                refine L.val rfl rfl (R.ldB (v := .int .i64 sp) rfl hLk.B5 rfl) ?_
                refine L.val rfl rfl (R.eqI rfl rfl) ?_
                first | refine L.val rfl rfl (R.pickT rfl rfl) ?_ | refine L.val rfl rfl (R.pickF rfl rfl) ?_
                first | refine L.val rfl rfl (R.pickT rfl rfl) ?_ | refine L.val rfl rfl (R.pickF rfl rfl) ?_
                refine L.val rfl rfl (R.as rfl) ?_
                refine L.nil ?_
                refine N.seq ?_
                refine G.ret1 rfl rfl ?_
                first
                  | exact ⟨rfl, E⟩
                  | exact ⟨congrArg Value.bool (decide_eq_true (by omega)), E⟩
          · refine Q.pass rfl rfl rfl ?_
            refine Q.pass rfl rfl rfl ?_
            refine Q.pass rfl rfl rfl ?_
            refine Q.pass rfl rfl rfl ?_
            refine Q.pass rfl rfl rfl ?_
            refine Q.pass rfl rfl rfl ?_
            refine Q.pass rfl rfl rfl ?_
            refine Q.pass rfl rfl rfl ?_
            first | refine Q.val rfl rfl rfl rfl (fun w21 hE => R.pickT rfl rfl) ?_ | refine Q.val rfl rfl rfl rfl (fun w21 hE => R.pickF rfl rfl) ?_
            refine Q.nil (fun w21 e21 => ?_)
            replace E := E.trans0 e21
            replace hLk := hLk.ext0 e21
            refine N.seq ?_
            refine G.condF rfl ?_
            refine G.exit _ rfl ?_
            refine N.seq ?_
            refine G.seq ?_
            refine G.region ?_
            refine L.do rfl rfl (R.alloc) ?_
            have hil2 : i = low ps kq := by omega
            subst hil2
            rintro _ w23 ⟨b18, rfl, hb18, hs18, e23, B18⟩
            have hE23 := E.size
            have l16 := hLk.B16.lt
            have l17 := hLk.B17.lt
            have l4 := hLk.B4.lt
            have l5 := hLk.B5.lt
            have hMs0 := hLk.row.lt
            replace E := E.trans0 e23
            replace hLk := hLk.ext0 e23
            refine L.set rfl (R.st rfl rfl B18 (by show 0 < 1; decide) rfl) ?_
            rintro w24 ⟨e24, hs24, B18⟩
            replace B18 : Blk w24 b18 #[.int .i64 ((0 : Nat) : Int)] 3 (0, 0) := B18
            replace hLk := hLk.ext (s := b18) e24 (by simp; omega) (by simp; omega) (by intro g hg; rw [List.mem_singleton.1 hg]; exact Nat.le_refl _) (by omega) (by omega) (fun g hg => by have := hMs0 g hg; omega)
            replace E := E.trans e24 (M := []) (by simp) (by intro x hx; rw [List.mem_singleton.1 hx]; exact .inr (by omega))
            refine L.nil ?_
            refine N.seq ?_
            refine G.seq ?_
            refine G.region ?_
            refine L.val rfl rfl (R.mv rfl) ?_
            refine L.val rfl rfl (R.fld rfl) ?_
            refine L.val rfl rfl (R.ldB (v := .int .i64 kq) rfl hLk.B5 rfl) ?_
            refine L.callF rfl rfl rfl go119 (ofromS_ok m ps S kq _ (hd.ext0 E) (by omega)) ?_
            rintro _ w25 ⟨lb, Fp, rfl, e25, hit, hFp⟩
            have hEi25 := E.size
            replace E := E.trans0 e25
            have hsi25 := e25.size
            have l16 := hLk.B16.lt
            have l17 := hLk.B17.lt
            have l4 := hLk.B4.lt
            have l5 := hLk.B5.lt
            have hMs : ∀ g ∈ Mr, g < w25.heap.size := fun g hg => Nat.lt_of_lt_of_le (hLk.row.lt g hg) hsi25
            replace hLk := hLk.ext0 e25
            replace B18 := B18.ext0 e25
            have l18 := B18.lt
            refine L.val rfl rfl (R.mkFunc rfl rfl) ?_
            have hcall : Meets Try.prog 216 (.func (.func 120) #[] ([.pointer (some ⟨b17, 0, none⟩), .pointer (some ⟨b16, 0, none⟩), .pointer (some ⟨b4, 0, none⟩), .pointer (some ⟨b18, 0, none⟩), .pointer (some ⟨b5, 0, none⟩)] : List Value).toArray :: lb) w25 (fun _ W => ∃ k, k ≤ (ps.drop (low ps kq)).length ∧ (fun k W => (LkI ps 3 4 64 66 77 a n c Mr b4 b5 b16 b17 #[.int .i64 kd, .int .i64 kq, .int .i64 sp, .string (str vv)] ((low ps kq : Int) + (k : Nat)) W ∧ Blk W b18 #[.int .i64 ((k : Nat) : Int)] 3 (0, 0)) ∧ Ext [] w W) k W ∧ (k = (ps.drop (low ps kq)).length ∨ (k : Int) = sp)) := by
              refine iter_run (hit _ (Ext.refl _ _)) _ _ go120 [b16, b17, b18] (fun k W => (LkI ps 3 4 64 66 77 a n c Mr b4 b5 b16 b17 #[.int .i64 kd, .int .i64 kq, .int .i64 sp, .string (str vv)] ((low ps kq : Int) + (k : Nat)) W ∧ Blk W b18 #[.int .i64 ((k : Nat) : Int)] 3 (0, 0)) ∧ Ext [] w W) (fun k => (k : Int) = sp) ?_ ?_ ?_ ⟨⟨by rw [show (low ps kq : Int) + ((0 : Nat) : Int) = low ps kq by omega]; exact hLk, B18⟩, E⟩
              · intro g hg
                simp only [List.mem_cons, List.not_mem_nil, or_false] at hg
                refine ⟨by omega, fun h => ?_⟩
                have := hFp g h
                omega
              · rintro k W W' M' ⟨⟨h1, h18⟩, h2⟩ he hm
                exact ⟨⟨h1.ext he (fun h => (hm _ h).1 (by simp)) (fun h => (hm _ h).1 (by simp)) (fun g hg => (hm g hg).2) (by omega) (by omega) hMs, h18.ext he (fun h => (hm _ h).1 (by simp))⟩, h2.transN he (fun g hg => .inr (by have := (hm g hg).2; omega))⟩
              · rintro k p W hk hp ⟨⟨h1, h18⟩, h2⟩
                obtain ⟨kk, vx⟩ := p
                rw [List.getElem?_drop] at hp
                rw [List.length_drop] at hk
                obtain ⟨ss, hss⟩ := hst _ (List.mem_of_getElem? hp)
                obtain rfl : vx = [.string (str ss)] := hss
                refine (look3_ok kk ss b4 b5 b16 b17 a n c ps Mr kd kq sp vv (low ps kq + k) b18 k W (by rw [show ((low ps kq + k : Nat) : Int) = (low ps kq : Int) + (k : Nat) by omega]; exact h1) h18 (by omega) (by omega) hn hok hp hnl).mono ?_
                rintro v W' ⟨rfl, e, h3, h4⟩
                exact ⟨_, rfl, e, ⟨⟨by rw [show (low ps kq : Int) + ((k + 1 : Nat) : Int) = ((low ps kq + k : Nat) : Int) + 1 by omega]; exact h3, by rw [show ((k + 1 : Nat) : Int) = (k : Int) + 1 by omega]; exact h4⟩, h2.transN e (fun g hg => .inr (by simp at hg; omega))⟩, fun hb => by have := of_decide_eq_false hb; omega⟩
            refine L.callV rfl rfl rfl rfl rfl go216 (hcall) ?_
            rintro v26 w26 ⟨k3, hk3, ⟨⟨hLk, B18⟩, E⟩, hks3⟩
            rw [List.length_drop] at hk3 hks3
            refine L.nil ?_
            refine N.seq ?_
            refine G.seq ?_
            refine G.region ?_
            refine L.val rfl rfl (R.ldB rfl hLk.B17 rfl) ?_
            refine L.val rfl rfl (R.mv rfl) ?_
            refine L.isT 142 rfl (by rfl) ?_
            refine L.val rfl rfl (R.ldB rfl hLk.B16 rfl) ?_
            refine L.val rfl rfl (R.ldB rfl hLk.B4 rfl) ?_
            refine L.val rfl rfl (R.lenS rfl) ?_
            refine L.val rfl rfl (R.eqI rfl rfl) ?_
            refine L.val rfl rfl (R.mv rfl) ?_
            refine L.caseP 147 rfl (fun hg20_6 => ?_) (fun hg20_6 => ?_)
            · refine L.pass rfl rfl ?_
              refine L.pass rfl rfl ?_
              refine L.pass rfl rfl ?_
              refine L.pass rfl rfl ?_
              first | refine L.val rfl rfl (R.pickT rfl rfl) ?_ | refine L.val rfl rfl (R.pickF rfl rfl) ?_
              first | refine L.val rfl rfl (R.pickT rfl rfl) ?_ | refine L.val rfl rfl (R.pickF rfl rfl) ?_
              refine L.val rfl rfl (R.as rfl) ?_
              refine L.nil ?_
              refine N.seq ?_
              refine G.ret1 rfl rfl ?_
              first
                | exact ⟨rfl, E⟩
                | exact ⟨congrArg Value.bool (decide_eq_true (by omega)), E⟩
            · refine L.val rfl rfl (R.ldB rfl B18 rfl) ?_
              refine L.val rfl rfl (R.fld rfl) ?_
              refine L.val rfl rfl (R.ldB (v := .int .i64 sp) rfl hLk.B5 rfl) ?_
              refine L.val rfl rfl (R.eqI rfl rfl) ?_
              first | refine L.val rfl rfl (R.pickT rfl rfl) ?_ | refine L.val rfl rfl (R.pickF rfl rfl) ?_
              first | refine L.val rfl rfl (R.pickT rfl rfl) ?_ | refine L.val rfl rfl (R.pickF rfl rfl) ?_
              refine L.val rfl rfl (R.as rfl) ?_
              refine L.nil ?_
              refine N.seq ?_
              refine G.ret1 rfl rfl ?_
              first
                | exact ⟨rfl, E⟩
                | exact ⟨congrArg Value.bool (decide_eq_true (by omega)), E⟩
      · refine L.pass rfl rfl ?_
        refine L.pass rfl rfl ?_
        refine L.pass rfl rfl ?_
        refine L.pass rfl rfl ?_
        refine L.pass rfl rfl ?_
        refine L.pass rfl rfl ?_
        refine L.pass rfl rfl ?_
        first | refine L.val rfl rfl (R.pickT rfl rfl) ?_ | refine L.val rfl rfl (R.pickF rfl rfl) ?_
        first | refine L.val rfl rfl (R.pickT rfl rfl) ?_ | refine L.val rfl rfl (R.pickF rfl rfl) ?_
        refine L.nil ?_
        refine N.seq ?_
        refine G.condF rfl ?_
        refine G.skip ?_
        refine N.seq ?_
        refine G.seq ?_
        refine G.region ?_
        refine L.set rfl (R.st rfl rfl hLk.B16 (by show 0 < 1; decide) rfl) ?_
        rintro w19 ⟨e19, hs19, B16⟩
        replace B16 : Blk w19 b16 #[.int .i64 (0)] 3 (0, 0) := B16
        replace hLk : LkI ps 3 4 64 66 77 a n c Mr b4 b5 b16 b17 #[.int .i64 kd, .int .i64 kq, .int .i64 sp, .string (str vv)] (0) w19 := ⟨B16, hLk.B17.ext e19 (by simpa using Ne.symm n1), hLk.B4.ext e19 (by simpa using n2), hLk.B5.ext e19 (by simpa using n4), hLk.row.ext e19 (fun g hg h => n6 g hg (List.mem_singleton.1 h))⟩
        replace E := E.trans e19 (M := []) (by simp) (by intro x hx; rw [List.mem_singleton.1 hx]; exact .inr (by omega))
        refine L.nil ?_
        refine N.seq ?_
        refine G.seq ?_
        refine G.block ?_
        refine G.loop (X := Nat) (fun s => [(0, .pointer (some ⟨m, 0, none⟩)), (4, .pointer (some ⟨b4, 0, none⟩)), (5, .pointer (some ⟨b5, 0, none⟩)), (16, .pointer (some ⟨b16, 0, none⟩)), (17, .pointer (some ⟨b17, 0, none⟩))]) (fun s w' => s ≤ low ps kq ∧ LkI ps 3 4 64 66 77 a n c Mr b4 b5 b16 b17 #[.int .i64 kd, .int .i64 kq, .int .i64 sp, .string (str vv)] ((s : Nat) : Int) w' ∧ Ext [] w w') (fun s => ps.length - s) (0) (Sub.cons rfl (Sub.cons rfl (Sub.cons rfl (Sub.cons rfl (Sub.cons rfl (Sub.nil _)))))) ⟨Nat.zero_le _, hLk, E⟩ ?_
        rintro i w20 ⟨hi, hLk, E⟩
        refine G.sub [(0, .pointer (some ⟨m, 0, none⟩)), (4, .pointer (some ⟨b4, 0, none⟩)), (5, .pointer (some ⟨b5, 0, none⟩)), (16, .pointer (some ⟨b16, 0, none⟩)), (17, .pointer (some ⟨b17, 0, none⟩))] (Sub.cons rfl (Sub.cons rfl (Sub.cons rfl (Sub.cons rfl (Sub.cons rfl (Sub.nil _)))))) ?_
        have hlow := low_le ps kq
        refine G.seq ?_
        refine G.seq ?_
        refine G.quiet (by decide +kernel) rfl ?_
        refine Q.val rfl rfl rfl rfl (fun w21 hE => R.ldB rfl (hLk.B16.ext0 hE) rfl) ?_
        refine Q.val rfl rfl rfl rfl (fun w21 hE => R.ldB rfl (hLk.B4.ext0 hE) rfl) ?_
        refine Q.val rfl rfl rfl rfl (fun w21 hE => R.lenS rfl) ?_
        refine Q.val rfl rfl rfl rfl (fun w21 hE => R.lss rfl rfl) ?_
        refine Q.val rfl rfl rfl rfl (fun w21 hE => R.mv rfl) ?_
        refine Q.caseP 123 rfl (fun hg16_4 => ?_) (fun hg16_4 => ?_)
        · obtain ⟨p, hp⟩ : ∃ p, ps[i]? = some p := ⟨_, List.getElem?_eq_getElem (by omega)⟩
          obtain ⟨kk, vx⟩ := p
          obtain ⟨ss, hss⟩ := hst _ (List.mem_of_getElem? hp)
          obtain rfl : vx = [.string (str ss)] := hss
          have hil : i < n := by omega
          obtain ⟨q, hq, hcl⟩ := (Tab.pairs hLk.row.cells hn hok).at (by decide) i (by rw [List.length_map]; omega)
          have he : (ps.map pcell)[i]'(by rw [List.length_map]; omega) = pcell (kk, [.string (str ss)]) := by rw [List.getElem_map]; exact congrArg pcell (List.getElem?_eq_some_iff.1 hp).2
          rw [he] at hcl
          replace hcl : Cells _ _ [.int .i64 kk, .string (str ss)] := hcl
          have hlc := low_casesI hs (k := kq) hp
          have hla : (i < low ps kq ∧ kk < kq) ∨ (i = low ps kq ∧ kq ≤ kk) ∨ (low ps kq < i ∧ kq < kk) := by rcases hlc with ⟨h1, h2⟩ | ⟨h1, h2, _⟩ | ⟨h1, h2, _⟩ | ⟨h1, h2⟩ <;> dsimp only at h2 <;> omega
          obtain ⟨q5, hq5, hc5⟩ := hcl 0 (.int .i64 kk) rfl
          cases hq5
          refine Q.val rfl rfl rfl rfl (fun w21 hE => R.ldB rfl (hLk.B4.ext0 hE) rfl) ?_
          refine Q.val rfl rfl rfl rfl (fun w21 hE => R.ldB rfl (hLk.B16.ext0 hE) rfl) ?_
          refine Q.val rfl rfl rfl rfl (fun w21 hE => R.idx rfl rfl (by omega) (by omega) q hq) ?_
          refine Q.val rfl rfl rfl rfl (fun w21 hE => R.fldA rfl) ?_
          refine Q.val rfl rfl rfl rfl (fun w21 hE => R.ld rfl (v := .int .i64 kk) (by rw [Int.toNat_natCast]; exact (Still.of hE).cell hc5)) ?_
          refine Q.val rfl rfl rfl rfl (fun w21 hE => R.fld rfl) ?_
          refine Q.val rfl rfl rfl rfl (fun w21 hE => R.ldB (v := .int .i64 kq) rfl (hLk.B5.ext0 hE) rfl) ?_
          refine Q.val rfl rfl rfl rfl (fun w21 hE => R.lss rfl rfl) ?_
          first | refine Q.val rfl rfl rfl rfl (fun w21 hE => R.pickT rfl rfl) ?_ | refine Q.val rfl rfl rfl rfl (fun w21 hE => R.pickF rfl rfl) ?_
          refine Q.nil (fun w21 e21 => ?_)
          replace E := E.trans0 e21
          replace hLk := hLk.ext0 e21
          refine N.seq ?_
          refine G.condP rfl (fun h3 => ?_) (fun h3 => ?_)
          · refine G.skip ?_
            refine N.seq ?_
            refine G.block ?_
            refine G.region ?_
            refine L.val rfl rfl (R.ldB rfl hLk.B16 rfl) ?_
            refine L.val rfl rfl (R.add rfl rfl (by omega)) ?_
            refine L.set rfl (R.st rfl rfl hLk.B16 (by show 0 < 1; decide) rfl) ?_
            rintro w22 ⟨e22, hs22, B16⟩
            replace B16 : Blk w22 b16 #[.int .i64 ((i : Int) + 1)] 3 (0, 0) := B16
            replace hLk : LkI ps 3 4 64 66 77 a n c Mr b4 b5 b16 b17 #[.int .i64 kd, .int .i64 kq, .int .i64 sp, .string (str vv)] ((i : Int) + 1) w22 := ⟨B16, hLk.B17.ext e22 (by simpa using Ne.symm n1), hLk.B4.ext e22 (by simpa using n2), hLk.B5.ext e22 (by simpa using n4), hLk.row.ext e22 (fun g hg h => n6 g hg (List.mem_singleton.1 h))⟩
            replace E := E.trans e22 (M := []) (by simp) (by intro x hx; rw [List.mem_singleton.1 hx]; exact .inr (by omega))
            refine L.nil ?_
            refine N.block ?_
            exact N.again (i + 1) (by omega) (Sub.cons rfl (Sub.cons rfl (Sub.cons rfl (Sub.cons rfl (Sub.cons rfl (Sub.nil _)))))) ⟨by omega, by rw [show ((i + 1 : Nat) : Int) = (i : Int) + 1 by omega]; exact hLk, E⟩
          · refine G.exit _ rfl ?_
            refine N.seq ?_
            refine G.seq ?_
            refine G.region ?_
            refine L.do rfl rfl (R.alloc) ?_
            have hil2 : i = low ps kq := by omega
            subst hil2
            rintro _ w23 ⟨b18, rfl, hb18, hs18, e23, B18⟩
            have hE23 := E.size
            have l16 := hLk.B16.lt
            have l17 := hLk.B17.lt
            have l4 := hLk.B4.lt
            have l5 := hLk.B5.lt
            have hMs0 := hLk.row.lt
            replace E := E.trans0 e23
            replace hLk := hLk.ext0 e23
            refine L.set rfl (R.st rfl rfl B18 (by show 0 < 1; decide) rfl) ?_
            rintro w24 ⟨e24, hs24, B18⟩
            replace B18 : Blk w24 b18 #[.int .i64 ((0 : Nat) : Int)] 3 (0, 0) := B18
            replace hLk := hLk.ext (s := b18) e24 (by simp; omega) (by simp; omega) (by intro g hg; rw [List.mem_singleton.1 hg]; exact Nat.le_refl _) (by omega) (by omega) (fun g hg => by have := hMs0 g hg; omega)
            replace E := E.trans e24 (M := []) (by simp) (by intro x hx; rw [List.mem_singleton.1 hx]; exact .inr (by omega))
            refine L.nil ?_
            refine N.seq ?_
            refine G.seq ?_
            refine G.region ?_
            refine L.val rfl rfl (R.mv rfl) ?_
            refine L.val rfl rfl (R.fld rfl) ?_
            refine L.val rfl rfl (R.ldB (v := .int .i64 kq) rfl hLk.B5 rfl) ?_
            refine L.callF rfl rfl rfl go119 (ofromS_ok m ps S kq _ (hd.ext0 E) (by omega)) ?_
            rintro _ w25 ⟨lb, Fp, rfl, e25, hit, hFp⟩
            have hEi25 := E.size
            replace E := E.trans0 e25
            have hsi25 := e25.size
            have l16 := hLk.B16.lt
            have l17 := hLk.B17.lt
            have l4 := hLk.B4.lt
            have l5 := hLk.B5.lt
            have hMs : ∀ g ∈ Mr, g < w25.heap.size := fun g hg => Nat.lt_of_lt_of_le (hLk.row.lt g hg) hsi25
            replace hLk := hLk.ext0 e25
            replace B18 := B18.ext0 e25
            have l18 := B18.lt
            refine L.val rfl rfl (R.mkFunc rfl rfl) ?_
            have hcall : Meets Try.prog 216 (.func (.func 120) #[] ([.pointer (some ⟨b17, 0, none⟩), .pointer (some ⟨b16, 0, none⟩), .pointer (some ⟨b4, 0, none⟩), .pointer (some ⟨b18, 0, none⟩), .pointer (some ⟨b5, 0, none⟩)] : List Value).toArray :: lb) w25 (fun _ W => ∃ k, k ≤ (ps.drop (low ps kq)).length ∧ (fun k W => (LkI ps 3 4 64 66 77 a n c Mr b4 b5 b16 b17 #[.int .i64 kd, .int .i64 kq, .int .i64 sp, .string (str vv)] ((low ps kq : Int) + (k : Nat)) W ∧ Blk W b18 #[.int .i64 ((k : Nat) : Int)] 3 (0, 0)) ∧ Ext [] w W) k W ∧ (k = (ps.drop (low ps kq)).length ∨ (k : Int) = sp)) := by
              refine iter_run (hit _ (Ext.refl _ _)) _ _ go120 [b16, b17, b18] (fun k W => (LkI ps 3 4 64 66 77 a n c Mr b4 b5 b16 b17 #[.int .i64 kd, .int .i64 kq, .int .i64 sp, .string (str vv)] ((low ps kq : Int) + (k : Nat)) W ∧ Blk W b18 #[.int .i64 ((k : Nat) : Int)] 3 (0, 0)) ∧ Ext [] w W) (fun k => (k : Int) = sp) ?_ ?_ ?_ ⟨⟨by rw [show (low ps kq : Int) + ((0 : Nat) : Int) = low ps kq by omega]; exact hLk, B18⟩, E⟩
              · intro g hg
                simp only [List.mem_cons, List.not_mem_nil, or_false] at hg
                refine ⟨by omega, fun h => ?_⟩
                have := hFp g h
                omega
              · rintro k W W' M' ⟨⟨h1, h18⟩, h2⟩ he hm
                exact ⟨⟨h1.ext he (fun h => (hm _ h).1 (by simp)) (fun h => (hm _ h).1 (by simp)) (fun g hg => (hm g hg).2) (by omega) (by omega) hMs, h18.ext he (fun h => (hm _ h).1 (by simp))⟩, h2.transN he (fun g hg => .inr (by have := (hm g hg).2; omega))⟩
              · rintro k p W hk hp ⟨⟨h1, h18⟩, h2⟩
                obtain ⟨kk, vx⟩ := p
                rw [List.getElem?_drop] at hp
                rw [List.length_drop] at hk
                obtain ⟨ss, hss⟩ := hst _ (List.mem_of_getElem? hp)
                obtain rfl : vx = [.string (str ss)] := hss
                refine (look3_ok kk ss b4 b5 b16 b17 a n c ps Mr kd kq sp vv (low ps kq + k) b18 k W (by rw [show ((low ps kq + k : Nat) : Int) = (low ps kq : Int) + (k : Nat) by omega]; exact h1) h18 (by omega) (by omega) hn hok hp hnl).mono ?_
                rintro v W' ⟨rfl, e, h3, h4⟩
                exact ⟨_, rfl, e, ⟨⟨by rw [show (low ps kq : Int) + ((k + 1 : Nat) : Int) = ((low ps kq + k : Nat) : Int) + 1 by omega]; exact h3, by rw [show ((k + 1 : Nat) : Int) = (k : Int) + 1 by omega]; exact h4⟩, h2.transN e (fun g hg => .inr (by simp at hg; omega))⟩, fun hb => by have := of_decide_eq_false hb; omega⟩
            refine L.callV rfl rfl rfl rfl rfl go216 (hcall) ?_
            rintro v26 w26 ⟨k3, hk3, ⟨⟨hLk, B18⟩, E⟩, hks3⟩
            rw [List.length_drop] at hk3 hks3
            refine L.nil ?_
            refine N.seq ?_
            refine G.seq ?_
            refine G.region ?_
            refine L.val rfl rfl (R.ldB rfl hLk.B17 rfl) ?_
            refine L.val rfl rfl (R.mv rfl) ?_
            refine L.isT 142 rfl (by rfl) ?_
            refine L.val rfl rfl (R.ldB rfl hLk.B16 rfl) ?_
            refine L.val rfl rfl (R.ldB rfl hLk.B4 rfl) ?_
            refine L.val rfl rfl (R.lenS rfl) ?_
            refine L.val rfl rfl (R.eqI rfl rfl) ?_
            refine L.val rfl rfl (R.mv rfl) ?_
            refine L.caseP 147 rfl (fun hg20_6 => ?_) (fun hg20_6 => ?_)
            · refine L.pass rfl rfl ?_
              refine L.pass rfl rfl ?_
              refine L.pass rfl rfl ?_
              refine L.pass rfl rfl ?_
              first | refine L.val rfl rfl (R.pickT rfl rfl) ?_ | refine L.val rfl rfl (R.pickF rfl rfl) ?_
              first | refine L.val rfl rfl (R.pickT rfl rfl) ?_ | refine L.val rfl rfl (R.pickF rfl rfl) ?_
              refine L.val rfl rfl (R.as rfl) ?_
              refine L.nil ?_
              refine N.seq ?_
              refine G.ret1 rfl rfl ?_
              first
                | exact ⟨rfl, E⟩
                | exact ⟨congrArg Value.bool (decide_eq_true (by omega)), E⟩
            · refine L.val rfl rfl (R.ldB rfl B18 rfl) ?_
              refine L.val rfl rfl (R.fld rfl) ?_
              refine L.val rfl rfl (R.ldB (v := .int .i64 sp) rfl hLk.B5 rfl) ?_
              refine L.val rfl rfl (R.eqI rfl rfl) ?_
              first | refine L.val rfl rfl (R.pickT rfl rfl) ?_ | refine L.val rfl rfl (R.pickF rfl rfl) ?_
              first | refine L.val rfl rfl (R.pickT rfl rfl) ?_ | refine L.val rfl rfl (R.pickF rfl rfl) ?_
              refine L.val rfl rfl (R.as rfl) ?_
              refine L.nil ?_
              refine N.seq ?_
              refine G.ret1 rfl rfl ?_
              first
                | exact ⟨rfl, E⟩
                | exact ⟨congrArg Value.bool (decide_eq_true (by omega)), E⟩
        · refine Q.pass rfl rfl rfl ?_
          refine Q.pass rfl rfl rfl ?_
          refine Q.pass rfl rfl rfl ?_
          refine Q.pass rfl rfl rfl ?_
          refine Q.pass rfl rfl rfl ?_
          refine Q.pass rfl rfl rfl ?_
          refine Q.pass rfl rfl rfl ?_
          refine Q.pass rfl rfl rfl ?_
          first | refine Q.val rfl rfl rfl rfl (fun w21 hE => R.pickT rfl rfl) ?_ | refine Q.val rfl rfl rfl rfl (fun w21 hE => R.pickF rfl rfl) ?_
          refine Q.nil (fun w21 e21 => ?_)
          replace E := E.trans0 e21
          replace hLk := hLk.ext0 e21
          refine N.seq ?_
          refine G.condF rfl ?_
          refine G.exit _ rfl ?_
          refine N.seq ?_
          refine G.seq ?_
          refine G.region ?_
          refine L.do rfl rfl (R.alloc) ?_
          have hil2 : i = low ps kq := by omega
          subst hil2
          rintro _ w23 ⟨b18, rfl, hb18, hs18, e23, B18⟩
          have hE23 := E.size
          have l16 := hLk.B16.lt
          have l17 := hLk.B17.lt
          have l4 := hLk.B4.lt
          have l5 := hLk.B5.lt
          have hMs0 := hLk.row.lt
          replace E := E.trans0 e23
          replace hLk := hLk.ext0 e23
          refine L.set rfl (R.st rfl rfl B18 (by show 0 < 1; decide) rfl) ?_
          rintro w24 ⟨e24, hs24, B18⟩
          replace B18 : Blk w24 b18 #[.int .i64 ((0 : Nat) : Int)] 3 (0, 0) := B18
          replace hLk := hLk.ext (s := b18) e24 (by simp; omega) (by simp; omega) (by intro g hg; rw [List.mem_singleton.1 hg]; exact Nat.le_refl _) (by omega) (by omega) (fun g hg => by have := hMs0 g hg; omega)
          replace E := E.trans e24 (M := []) (by simp) (by intro x hx; rw [List.mem_singleton.1 hx]; exact .inr (by omega))
          refine L.nil ?_
          refine N.seq ?_
          refine G.seq ?_
          refine G.region ?_
          refine L.val rfl rfl (R.mv rfl) ?_
          refine L.val rfl rfl (R.fld rfl) ?_
          refine L.val rfl rfl (R.ldB (v := .int .i64 kq) rfl hLk.B5 rfl) ?_
          refine L.callF rfl rfl rfl go119 (ofromS_ok m ps S kq _ (hd.ext0 E) (by omega)) ?_
          rintro _ w25 ⟨lb, Fp, rfl, e25, hit, hFp⟩
          have hEi25 := E.size
          replace E := E.trans0 e25
          have hsi25 := e25.size
          have l16 := hLk.B16.lt
          have l17 := hLk.B17.lt
          have l4 := hLk.B4.lt
          have l5 := hLk.B5.lt
          have hMs : ∀ g ∈ Mr, g < w25.heap.size := fun g hg => Nat.lt_of_lt_of_le (hLk.row.lt g hg) hsi25
          replace hLk := hLk.ext0 e25
          replace B18 := B18.ext0 e25
          have l18 := B18.lt
          refine L.val rfl rfl (R.mkFunc rfl rfl) ?_
          have hcall : Meets Try.prog 216 (.func (.func 120) #[] ([.pointer (some ⟨b17, 0, none⟩), .pointer (some ⟨b16, 0, none⟩), .pointer (some ⟨b4, 0, none⟩), .pointer (some ⟨b18, 0, none⟩), .pointer (some ⟨b5, 0, none⟩)] : List Value).toArray :: lb) w25 (fun _ W => ∃ k, k ≤ (ps.drop (low ps kq)).length ∧ (fun k W => (LkI ps 3 4 64 66 77 a n c Mr b4 b5 b16 b17 #[.int .i64 kd, .int .i64 kq, .int .i64 sp, .string (str vv)] ((low ps kq : Int) + (k : Nat)) W ∧ Blk W b18 #[.int .i64 ((k : Nat) : Int)] 3 (0, 0)) ∧ Ext [] w W) k W ∧ (k = (ps.drop (low ps kq)).length ∨ (k : Int) = sp)) := by
            refine iter_run (hit _ (Ext.refl _ _)) _ _ go120 [b16, b17, b18] (fun k W => (LkI ps 3 4 64 66 77 a n c Mr b4 b5 b16 b17 #[.int .i64 kd, .int .i64 kq, .int .i64 sp, .string (str vv)] ((low ps kq : Int) + (k : Nat)) W ∧ Blk W b18 #[.int .i64 ((k : Nat) : Int)] 3 (0, 0)) ∧ Ext [] w W) (fun k => (k : Int) = sp) ?_ ?_ ?_ ⟨⟨by rw [show (low ps kq : Int) + ((0 : Nat) : Int) = low ps kq by omega]; exact hLk, B18⟩, E⟩
            · intro g hg
              simp only [List.mem_cons, List.not_mem_nil, or_false] at hg
              refine ⟨by omega, fun h => ?_⟩
              have := hFp g h
              omega
            · rintro k W W' M' ⟨⟨h1, h18⟩, h2⟩ he hm
              exact ⟨⟨h1.ext he (fun h => (hm _ h).1 (by simp)) (fun h => (hm _ h).1 (by simp)) (fun g hg => (hm g hg).2) (by omega) (by omega) hMs, h18.ext he (fun h => (hm _ h).1 (by simp))⟩, h2.transN he (fun g hg => .inr (by have := (hm g hg).2; omega))⟩
            · rintro k p W hk hp ⟨⟨h1, h18⟩, h2⟩
              obtain ⟨kk, vx⟩ := p
              rw [List.getElem?_drop] at hp
              rw [List.length_drop] at hk
              obtain ⟨ss, hss⟩ := hst _ (List.mem_of_getElem? hp)
              obtain rfl : vx = [.string (str ss)] := hss
              refine (look3_ok kk ss b4 b5 b16 b17 a n c ps Mr kd kq sp vv (low ps kq + k) b18 k W (by rw [show ((low ps kq + k : Nat) : Int) = (low ps kq : Int) + (k : Nat) by omega]; exact h1) h18 (by omega) (by omega) hn hok hp hnl).mono ?_
              rintro v W' ⟨rfl, e, h3, h4⟩
              exact ⟨_, rfl, e, ⟨⟨by rw [show (low ps kq : Int) + ((k + 1 : Nat) : Int) = ((low ps kq + k : Nat) : Int) + 1 by omega]; exact h3, by rw [show ((k + 1 : Nat) : Int) = (k : Int) + 1 by omega]; exact h4⟩, h2.transN e (fun g hg => .inr (by simp at hg; omega))⟩, fun hb => by have := of_decide_eq_false hb; omega⟩
          refine L.callV rfl rfl rfl rfl rfl go216 (hcall) ?_
          rintro v26 w26 ⟨k3, hk3, ⟨⟨hLk, B18⟩, E⟩, hks3⟩
          rw [List.length_drop] at hk3 hks3
          refine L.nil ?_
          refine N.seq ?_
          refine G.seq ?_
          refine G.region ?_
          refine L.val rfl rfl (R.ldB rfl hLk.B17 rfl) ?_
          refine L.val rfl rfl (R.mv rfl) ?_
          refine L.isT 142 rfl (by rfl) ?_
          refine L.val rfl rfl (R.ldB rfl hLk.B16 rfl) ?_
          refine L.val rfl rfl (R.ldB rfl hLk.B4 rfl) ?_
          refine L.val rfl rfl (R.lenS rfl) ?_
          refine L.val rfl rfl (R.eqI rfl rfl) ?_
          refine L.val rfl rfl (R.mv rfl) ?_
          refine L.caseP 147 rfl (fun hg20_6 => ?_) (fun hg20_6 => ?_)
          · refine L.pass rfl rfl ?_
            refine L.pass rfl rfl ?_
            refine L.pass rfl rfl ?_
            refine L.pass rfl rfl ?_
            first | refine L.val rfl rfl (R.pickT rfl rfl) ?_ | refine L.val rfl rfl (R.pickF rfl rfl) ?_
            first | refine L.val rfl rfl (R.pickT rfl rfl) ?_ | refine L.val rfl rfl (R.pickF rfl rfl) ?_
            refine L.val rfl rfl (R.as rfl) ?_
            refine L.nil ?_
            refine N.seq ?_
            refine G.ret1 rfl rfl ?_
            first
              | exact ⟨rfl, E⟩
              | exact ⟨congrArg Value.bool (decide_eq_true (by omega)), E⟩
          · refine L.val rfl rfl (R.ldB rfl B18 rfl) ?_
            refine L.val rfl rfl (R.fld rfl) ?_
            refine L.val rfl rfl (R.ldB (v := .int .i64 sp) rfl hLk.B5 rfl) ?_
            refine L.val rfl rfl (R.eqI rfl rfl) ?_
            first | refine L.val rfl rfl (R.pickT rfl rfl) ?_ | refine L.val rfl rfl (R.pickF rfl rfl) ?_
            first | refine L.val rfl rfl (R.pickT rfl rfl) ?_ | refine L.val rfl rfl (R.pickF rfl rfl) ?_
            refine L.val rfl rfl (R.as rfl) ?_
            refine L.nil ?_
            refine N.seq ?_
            refine G.ret1 rfl rfl ?_
            first
              | exact ⟨rfl, E⟩
              | exact ⟨congrArg Value.bool (decide_eq_true (by omega)), E⟩

end Go.Proofs.Ythpolibakkmmeaa
/-
  The laws of order.
-/
set_option linter.unusedVariables false
set_option linter.unusedSimpArgs false
set_option maxRecDepth 4000
namespace Go.Proofs.Ythpolibakkmmeaa
open Go Brv
def lenV : List Value → Nat
  | [.string s] => s.size
  | _ => 0
def big (p : Pr Int) : Bool := decide (2 < lenV p.2)
def cntB (ps : List (Pr Int)) (k : Nat) : Nat := ((ps.take k).filter big).length
theorem cntB_le (ps : List (Pr Int)) (k : Nat) : cntB ps k ≤ k := Nat.le_trans (List.length_filter_le _ _) (by rw [List.length_take]; omega)
theorem cntB_yes {ps : List (Pr Int)} {k : Nat} {p : Pr Int} (hp : ps[k]? = some p) (h : 2 < lenV p.2) : cntB ps (k + 1) = cntB ps k + 1 := by
  unfold cntB
  rw [List.take_add_one, hp, List.filter_append]
  simp [big, h]
theorem cntB_no {ps : List (Pr Int)} {k : Nat} {p : Pr Int} (hp : ps[k]? = some p) (h : ¬ 2 < lenV p.2) : cntB ps (k + 1) = cntB ps k := by
  unfold cntB
  rw [List.take_add_one, hp, List.filter_append]
  simp [big, h]
theorem lenV_str (s : List UInt8) : lenV [.string (str s)] = s.length := by simp [lenV, str, ByteArray.size]
def cntI (ps : List (Pr Int)) (TI TF b3 b5 : Nat) (fn : Value) (w0 : World) (k : Nat) (D : List Nat) (W : World) : Prop := D = [b5] ∧ Blk W b5 #[.int .i64 (cntB ps k : Int)] TI (0, 0) ∧ Blk W b3 #[fn] TF (0, 0) ∧ Ext [] w0 W
theorem cntI_keep {ps : List (Pr Int)} {TI TF b3 b5 : Nat} {fn : Value} {w0 : World} {k s : Nat} {D M' : List Nat} {W W' : World} (hs : w0.heap.size ≤ s) (h3 : b3 < s) (h : cntI ps TI TF b3 b5 fn w0 k D W) (he : Ext M' W W') (hm : ∀ g ∈ M', g ∉ D ∧ (g ∈ ([] : List Nat) ∨ s ≤ g)) : cntI ps TI TF b3 b5 fn w0 k D W' := by
  obtain ⟨rfl, B5, B3, E⟩ := h
  exact ⟨rfl, B5.ext he (fun h => (hm _ h).1 (by simp)), B3.ext he (fun h => (hm _ h).2.elim (by simp) (fun h => by omega)), E.transN he (fun g hg => (hm g hg).2.imp (by simp) (Nat.le_trans hs))⟩

theorem plays1_ok (s : List UInt8) (w : World) : Meets Try.prog 52 [.string (str s)] w (fun v w' => v = .bool (decide ((s.length : Int) > 2)) ∧ w' = w) := by
  refine Meets.enter Try.func52 rfl 6 rfl (Nat.le_of_ble_eq_true rfl) ?_
  refine G.seq ?_
  refine G.region ?_
  refine L.val rfl rfl (R.as rfl) ?_
  refine L.nil ?_
  refine N.seq ?_
  refine G.seq ?_
  refine G.region ?_
  refine L.val rfl rfl (R.mv rfl) ?_
  refine L.val rfl rfl (R.lenStr rfl) ?_
  refine L.val rfl rfl (R.gtr rfl rfl) ?_
  refine L.val rfl rfl (R.as rfl) ?_
  refine L.nil ?_
  refine N.seq ?_
  refine G.ret1 rfl rfl ?_
  exact ⟨rfl, rfl⟩

theorem ocount_ok (m : Nat) (ps : List (Pr Int)) (S : List Nat) (w : World) (hd : MapAt (κ := Int) 191 194 1 w m ps S) (hl : ps.length ≤ 99999) (hst : OkStr ps) : Meets Try.prog 51 [.pointer (some ⟨m, 0, none⟩), .func (.func 52) #[] #[]] w (fun v w' => v = .int .i64 (cntB ps ps.length : Int) ∧ Ext [] w w') := by
  refine Meets.enter Try.func51 rfl 18 rfl (Nat.le_of_ble_eq_true rfl) ?_
  have E := Ext.refl [] w
  refine G.seq ?_
  refine G.region ?_
  refine L.do rfl rfl (R.box rfl) ?_
  rintro _ w1 ⟨b3, rfl, hb3, hs3, e1, B3⟩
  replace B3 : Blk w1 b3 #[.func (.func 52) #[] #[]] 56 (0, 0) := B3
  replace E := E.trans0 e1
  refine L.val rfl rfl (R.as rfl) ?_
  refine L.nil ?_
  refine N.seq ?_
  refine G.seq ?_
  refine G.region ?_
  refine L.do rfl rfl (R.alloc) ?_
  rintro _ w2 ⟨b5, rfl, hb5, hs5, e2, B5⟩
  have hE1 := E.size
  replace E := E.trans0 e2
  replace B3 := B3.ext0 e2
  refine L.set rfl (R.st rfl rfl B5 (by show 0 < 1; decide) rfl) ?_
  rintro w3 ⟨e3, hs3, B5⟩
  replace B5 : Blk w3 b5 #[.int .i64 0] 3 (0, 0) := B5
  replace E := E.trans e3 (M := []) (by simp) (by intro x hx; rw [List.mem_singleton.1 hx]; exact .inr (by omega))
  replace B3 := B3.ext e3 (by simp; omega)
  refine L.nil ?_
  refine N.seq ?_
  refine G.seq ?_
  refine G.seq ?_
  refine G.region ?_
  refine L.val rfl rfl (R.mv rfl) ?_
  refine L.callF rfl rfl rfl go115 (oallS_ok m ps S _ (hd.ext0 E) hl) ?_
  rintro _ w4 ⟨lb, Fp, rfl, e4, hit, hFp⟩
  have hE3 := E.size
  replace E := E.trans0 e4
  have l5 := B5.lt
  have l3 := B3.lt
  replace B5 := B5.ext0 e4
  replace B3 := B3.ext0 e4
  have hs4 := e4.size
  have hE4 := E.size
  refine L.nil ?_
  refine N.seq ?_
  refine G.block ?_
  have hD0 : ∀ y ∈ [b5], y < w4.heap.size ∧ y ∉ Fp ∧ y ∉ ([] : List Nat) := by
    intro y hy
    rw [List.mem_singleton] at hy
    subst hy
    exact ⟨B5.lt, fun h => by have := hFp _ h; omega, by simp⟩
  have hI0 : cntI ps 3 56 b3 b5 (.func (.func 52) #[] #[]) w 0 [b5] w4 := ⟨rfl, B5, B3, E⟩
  refine G.range (lb := lb) rfl rfl go216 (hit _ (Ext.refl _ _)) (fun _ _ _ h _ => h) [b5] hD0 (fun y h => h.elim (fun h => (hFp y h).2) (by simp)) (cntI ps 3 56 b3 b5 (.func (.func 52) #[] #[]) w) (fun _ _ _ _ => False) (fun k D W1 W2 M2 h he hm => cntI_keep hE4 (by omega) h he hm) (fun _ _ _ _ _ _ h _ _ => h) hI0 ?_ ?_ ?_
  · rintro l k D vs W1 hl2 hlt hlD hDl hk hIk ⟨p, hp, rfl⟩
    obtain ⟨ss, hss⟩ := hst _ (List.mem_of_getElem? hp)
    obtain ⟨kk, vx⟩ := p
    obtain rfl : vx = [.string (str ss)] := hss
    refine ⟨rfl, ?_⟩
    refine G.sub [(11, .string (str ss)), (3, .pointer (some ⟨b3, 0, none⟩)), (5, .pointer (some ⟨b5, 0, none⟩))] (Sub.cons rfl (Sub.cons rfl (Sub.cons rfl (Sub.nil _)))) ?_
    refine G.region ?_
    refine L.val rfl rfl (R.as rfl) ?_
    refine L.nil ?_
    refine N.round (Ext.refl _ _) (fun wb hb1 hb2 => ?_)
    obtain ⟨rfl, B5, B3, E⟩ := hIk
    replace B3 := B3.still hb2
    replace B5 := B5.still hb2
    replace E := E.transN hb1 (fun g hg => .inr (by rw [List.mem_singleton.1 hg]; omega))
    have hEb := E.size
    have hcl := cntB_le ps k
    have l5b := B5.lt
    have hbig : (lenV [.string (str ss)] : Int) = ss.length := by rw [lenV_str]
    refine G.block ?_
    refine G.seq ?_
    refine G.region ?_
    refine L.val rfl rfl (R.ldB rfl B3 rfl) ?_
    refine L.val rfl rfl (R.mv rfl) ?_
    refine L.callV rfl rfl rfl rfl rfl go52 (plays1_ok ss _) ?_
    rintro _ _ ⟨rfl, hw⟩
    obtain rfl := hw.symm
    refine L.nil ?_
    refine N.seq ?_
    refine G.condP rfl (fun h0 => ?_) (fun h0 => ?_)
    · refine G.region ?_
      refine L.val rfl rfl (R.ldB rfl B5 rfl) ?_
      refine L.val rfl rfl (R.add rfl rfl (by omega)) ?_
      refine L.set rfl (R.st rfl rfl B5 (by show 0 < 1; decide) rfl) ?_
      rintro w7 ⟨e7, hs7, B5⟩
      replace B5 : Blk w7 b5 #[.int .i64 (cntB ps (k + 1) : Int)] 3 (0, 0) := by rw [cntB_yes hp (by show 2 < lenV [.string (str ss)]; omega)]; exact B5
      have X : Ext [b5] wb w7 := e7
      replace B3 := B3.ext e7 (by simp; omega)
      replace E := E.trans e7 (M := []) (by simp) (by intro x hx; rw [List.mem_singleton.1 hx]; exact .inr (by omega))
      refine L.nil ?_
      refine N.block ?_
      refine N.done fun _ _ => ?_
      exact ⟨[b5], X, (by intro g hg; simp at hg; subst hg; exact ⟨B5.lt, .inl (by simp)⟩), rfl, B5, B3, E⟩
    · refine G.skip ?_
      refine N.block ?_
      refine N.done fun _ _ => ?_
      exact ⟨[b5], Ext.refl _ _, (by intro g hg; simp at hg; subst hg; exact ⟨B5.lt, .inl (by simp)⟩), rfl, by rw [cntB_no hp (by show ¬ 2 < lenV [.string (str ss)]; omega)]; exact B5, B3, E⟩
  · rintro d2 D W2 hd2 hdD hK ⟨rfl, B5, B3, E⟩ _
    have hst2 := Still.putObj (.deferred none) hK rfl
    refine N.block ?_
    refine N.seq ?_
    refine G.seq ?_
    refine G.region ?_
    refine L.val rfl rfl (R.ldB rfl B5 rfl) ?_
    refine L.val rfl rfl (R.as rfl) ?_
    refine L.nil ?_
    refine N.seq ?_
    refine G.ret1M rfl rfl (leave1 hK) ?_
    exact ⟨rfl, E.transN (Ext.putObj _ _ _) (fun g hg => .inr (by rw [List.mem_singleton.1 hg]; omega))⟩
  · rintro _ _ _ _ _ _ _ _ _ h _
    exact h.elim

end Go.Proofs.Ythpolibakkmmeaa
/-
  The ops among the arguments of OrderPlays.
-/
set_option linter.unusedVariables false
namespace Go.Proofs.Ythpolibakkmmeaa
open Go Brv
structure OpOV where
  mk ::
  (Kind' : Int)
  (K' : Int)
  (Stop' : Int)
  (V' : List UInt8)
def OpOV.cells (o : OpOV) : List Value := [.int .i64 o.Kind', .int .i64 o.K', .int .i64 o.Stop', .string (str o.V')]
def OpOV.ok (w : World) (o : OpOV) : Prop := (Lit.int .i64 o.Kind').wf = true ∧ (Lit.int .i64 o.K').wf = true ∧ (Lit.int .i64 o.Stop').wf = true ∧ o.V'.length ≤ 140737488351232
theorem OpOV.ok.ext0 {w w' : World} {o : OpOV} (h : o.ok w) (he : Ext [] w w') : o.ok w' := by
  obtain ⟨h0, h1, h2, h3⟩ := h
  exact ⟨h0, h1, h2, h3⟩
theorem OpOV.cells.length (o : OpOV) : o.cells.length = 4 := rfl
theorem OpOV.cells.one (o : OpOV) : ∀ u ∈ o.cells.toArray.toList, u.oneCell' = true := by
  intro u hu
  simp only [OpOV.cells, List.mem_cons, List.not_mem_nil, or_false] at hu
  rcases hu with rfl | rfl | rfl | rfl <;> rfl
set_option maxRecDepth 100000 in
theorem opOV_of {w : World} {f : Nat} {cs : List Value} (h : Rd Try.prog w f 66 cs) : ∃ o : OpOV, cs = o.cells ∧ o.ok w := by
  cases f with
  | zero => exact h.elim
  | succ f =>
    unfold Rd at h
    rw [Try.underlying66] at h
    obtain ⟨hl, hf⟩ := h
    rw [show Try.prog.cellsOf 66 = 4 from by kernel_rfl] at hl
    obtain ⟨v0, v1, v2, v3, rfl⟩ : ∃ v0 v1 v2 v3, cs = [v0, v1, v2, v3] := by
      match cs, hl with
      | [v0, v1, v2, v3], _ => exact ⟨v0, v1, v2, v3, rfl⟩
    have r0 : Rd Try.prog w f 3 (List.take (Try.prog.cellsOf 3) (List.drop 0 [v0, v1, v2, v3])) := hf 0 _ rfl
    rw [show Try.prog.cellsOf 3 = 1 from by kernel_rfl] at r0
    replace r0 : Rd Try.prog w f 3 [v0] := r0
    have r1 : Rd Try.prog w f 3 (List.take (Try.prog.cellsOf 3) (List.drop 1 [v0, v1, v2, v3])) := hf 1 _ rfl
    rw [show Try.prog.cellsOf 3 = 1 from by kernel_rfl] at r1
    replace r1 : Rd Try.prog w f 3 [v1] := r1
    have r2 : Rd Try.prog w f 3 (List.take (Try.prog.cellsOf 3) (List.drop 2 [v0, v1, v2, v3])) := hf 2 _ rfl
    rw [show Try.prog.cellsOf 3 = 1 from by kernel_rfl] at r2
    replace r2 : Rd Try.prog w f 3 [v2] := r2
    have r3 : Rd Try.prog w f 9 (List.take (Try.prog.cellsOf 9) (List.drop 3 [v0, v1, v2, v3])) := hf 3 _ rfl
    rw [show Try.prog.cellsOf 9 = 1 from by kernel_rfl] at r3
    replace r3 : Rd Try.prog w f 9 [v3] := r3
    obtain ⟨x0, e0, w0⟩ := r0.int
    cases e0
    obtain ⟨x1, e1, w1⟩ := r1.int
    cases e1
    obtain ⟨x2, e2, w2⟩ := r2.int
    cases e2
    obtain ⟨x3, e3, w3⟩ := r3.str
    cases e3
    exact ⟨⟨x0, x1, x2, x3⟩, rfl, ⟨w0, w1, w2, w3⟩⟩
set_option maxRecDepth 100000 in
theorem opOV_rows61 {w : World} {f : Nat} {cs : List Value} (h : Rd Try.prog w f 61 cs) : ∃ a n c, ∃ os : List OpOV, cs = [.slice a n c] ∧ n ≤ c ∧ c * 40 ≤ 140737488351232 ∧ Tab w a n 4 (os.map OpOV.cells) ∧ ∀ o ∈ os, o.ok w := by
  cases f with
  | zero => exact h.elim
  | succ f =>
    unfold Rd at h
    rw [Try.underlying61] at h
    obtain ⟨a, n, c, rfl, hnc, _, hb, vss, hl, hcell, hv⟩ := h
    rw [show Try.prog.bytesOf 66 = 40 from by kernel_rfl] at hb
    have hex : ∃ os : List OpOV, vss = os.map OpOV.cells ∧ ∀ o ∈ os, o.ok w := by
      clear hcell hl
      induction vss with
      | nil => exact ⟨[], rfl, by simp⟩
      | cons vs r ih =>
        obtain ⟨o, rfl, ho⟩ := opOV_of (hv vs (by simp)).2
        obtain ⟨os, rfl, hos⟩ := ih (fun x hx => hv x (by simp [hx]))
        exact ⟨o :: os, rfl, fun x hx => (List.mem_cons.1 hx).elim (fun e => e ▸ ho) (hos x)⟩
    obtain ⟨os, rfl, hos⟩ := hex
    exact ⟨a, n, c, os, rfl, hnc, hb, ⟨hcell, hl.symm, fun vs hvs => by obtain ⟨o, _, rfl⟩ := List.mem_map.1 hvs; rfl⟩, hos⟩

end Go.Proofs.Ythpolibakkmmeaa
/-
  The laws of order.
-/
set_option linter.unusedVariables false
set_option linter.unusedSimpArgs false
set_option maxRecDepth 4000
namespace Go.Proofs.Ythpolibakkmmeaa
open Go Brv
structure PlSt where
  i : Nat
  ps : List (Pr Int)
  S : List Nat
  a : Option Addr
  c : Nat
  M : List Nat
theorem u64_posO (z : Int) : 0 ≤ IntKind.u64.wrap z := by
  simp only [IntKind.wrap, IntKind.bits, IntKind.signed]
  simp
  omega

theorem oplays_ok (oa : Option Addr) (on oc : Nat) (os : List OpOV) (w : World) (hT : Tab w oa on 4 (os.map OpOV.cells)) (hO : ∀ x ∈ os, x.ok w) (hon : on = os.length) (hob : on ≤ 140737488351232) : Meets Try.prog 6 [.slice oa on oc] w (fun v w' => v = .bool true ∧ Ext [] w w') := by
  refine Meets.enter Try.func6 rfl 149 rfl (Nat.le_of_ble_eq_true rfl) ?_
  have E := Ext.refl [] w
  refine G.seq ?_
  refine G.region ?_
  refine L.val rfl rfl (R.as rfl) ?_
  refine L.nil ?_
  refine N.seq ?_
  refine G.seq ?_
  refine G.seq ?_
  refine G.region ?_
  refine L.callF rfl rfl rfl go34 (ofirst_ok _) ?_
  rintro _ w1 ⟨rfl, e1⟩
  replace E := E.trans0 e1
  refine L.val rfl rfl (R.not rfl) ?_
  refine L.nil ?_
  refine N.seq ?_
  refine G.condF rfl ?_
  refine G.skip ?_
  refine N.seq ?_
  refine G.seq ?_
  refine G.region ?_
  refine L.callF rfl rfl rfl go42 (onewS_ok _) ?_
  rintro _ w2 ⟨m, rfl, hm, e2, D⟩
  have hEm := E.size
  have hS : ∀ y ∈ [m], w.heap.size ≤ y := by simp; omega
  replace E := E.trans0 e2
  refine L.val rfl rfl (R.as rfl) ?_
  refine L.nil ?_
  refine N.seq ?_
  refine G.seq ?_
  refine G.region ?_
  refine L.val rfl rfl (R.as rfl) ?_
  refine L.nil ?_
  refine N.seq ?_
  refine G.seq ?_
  refine G.seq ?_
  refine G.region ?_
  refine L.val rfl rfl (R.mv rfl) ?_
  refine L.val rfl rfl (R.lenS rfl) ?_
  refine L.val rfl rfl (R.mv rfl) ?_
  refine L.nil ?_
  refine N.seq ?_
  refine G.block ?_
  refine G.loop (X := PlSt) (fun s => [(0, .slice oa on oc), (3, .pointer (some ⟨m, 0, none⟩)), (4, .slice s.a (s.ps).length s.c), (23, .slice oa on oc), (24, .int .i64 (on : Int)), (25, .int .i64 (s.i : Int))]) (fun s w' => s.i ≤ on ∧ s.i ≤ 60 ∧ s.ps.length ≤ s.i ∧ OkP 1 s.ps ∧ OkStr s.ps ∧ MapAt (κ := Int) 191 194 1 w' m s.ps s.S ∧ (∀ y ∈ s.S, w.heap.size ≤ y) ∧ Own w' 77 (1 + 1) s.a s.ps.length s.c (pcells s.ps) s.M ∧ (∀ y ∈ s.M, w.heap.size ≤ y) ∧ (∀ y ∈ s.M, y ∉ s.S) ∧ Ext [] w w') (fun s => on - s.i) (⟨0, [], [m], none, 0, []⟩) (Sub.cons rfl (Sub.cons rfl (Sub.cons rfl (Sub.cons rfl (Sub.cons rfl (Sub.cons rfl (Sub.nil _))))))) ⟨Nat.zero_le _, by show 0 ≤ 60; decide, Nat.le_refl 0, (by intro p hp; cases hp), (by intro p hp; cases hp), D, hS, Own.nil _ _ _, (by intro y hy; cases hy), (by intro y hy; cases hy), E⟩ ?_
  rintro ⟨i, ps, S, a, c, M⟩ w3 ⟨hi, hi60, hlen, hok, hst, D, hS, r, hM, hap, E⟩
  dsimp only at hi hi60 hlen hok hst D hS r hM hap
  refine G.sub [(0, .slice oa on oc), (3, .pointer (some ⟨m, 0, none⟩)), (4, .slice a (ps).length c), (23, .slice oa on oc), (24, .int .i64 (on : Int)), (25, .int .i64 (i : Int))] (Sub.cons rfl (Sub.cons rfl (Sub.cons rfl (Sub.cons rfl (Sub.cons rfl (Sub.cons rfl (Sub.nil _))))))) ?_
  have hs := D.sorted
  refine G.seq ?_
  refine G.region ?_
  refine L.val rfl rfl (R.lss rfl rfl) ?_
  refine L.nil ?_
  refine N.seq ?_
  refine G.seq ?_
  refine G.condP rfl (fun h1 => ?_) (fun h1 => ?_)
  · have hil : i < os.length := by omega
    obtain ⟨q, hq, hcl⟩ := (hT.at (by decide) i (by rw [List.length_map]; exact hil))
    rw [List.getElem_map] at hcl
    have hoo := hO _ (List.getElem_mem hil)
    generalize hoe : os[i]'hil = o at *
    have hDl := D.lt
    have hMl := r.lt
    have hE3 := E.size
    refine G.skip ?_
    refine N.seq ?_
    refine G.seq ?_
    refine G.block ?_
    refine G.seq ?_
    refine G.region ?_
    refine L.val rfl rfl (R.mv rfl) ?_
    refine L.val rfl rfl (R.idx rfl rfl (by omega) (by omega) q hq) ?_
    refine L.val rfl rfl (R.ldN (vs := o.cells) rfl (hcl.ext0 E) rfl) ?_
    refine L.do rfl rfl (R.alloc) ?_
    rintro _ w4 ⟨b6, rfl, hb6, hs6, e4, B6⟩
    replace B6 : Blk w4 b6 #[.int .i64 0, .int .i64 0, .int .i64 0, .string (str [])] 66 (0, 0) := B6
    replace E := E.trans0 e4
    have h6S : b6 ∉ S := fun h => by have := hDl _ h; omega
    have h6M : b6 ∉ M := fun h => by have := hMl _ h; omega
    replace D := D.ext0 e4
    replace r := r.ext0 e4
    refine L.val rfl rfl (R.as rfl) ?_
    refine L.set rfl (R.stN rfl rfl B6 rfl (by show 0 + 4 ≤ 4; decide) (OpOV.cells.one o)) ?_
    rintro w5 ⟨e5, hs5, B6⟩
    replace B6 : Blk w5 b6 #[.int .i64 o.Kind', .int .i64 o.K', .int .i64 o.Stop', .string (str o.V')] 66 (0, 0) := B6
    replace E := E.trans e5 (M := []) (by simp) (by intro x hx; rw [List.mem_singleton.1 hx]; exact .inr (by omega))
    replace D := D.ext e5 (fun y hy h => h6S (by rw [← List.mem_singleton.1 h]; exact hy))
    replace r := r.ext e5 (fun y hy h => h6M (by rw [← List.mem_singleton.1 h]; exact hy))
    refine L.nil ?_
    refine N.seq ?_
    refine G.seq ?_
    refine G.seq ?_
    refine G.region ?_
    refine L.val rfl rfl (R.mv rfl) ?_
    refine L.val rfl rfl (R.geq rfl rfl) ?_
    refine L.val rfl rfl (R.mv rfl) ?_
    refine L.caseP 32 rfl (fun hg8_2 => ?_) (fun hg8_2 => ?_)
    · refine L.pass rfl rfl ?_
      refine L.pass rfl rfl ?_
      refine L.pass rfl rfl ?_
      refine L.pass rfl rfl ?_
      first | refine L.val rfl rfl (R.pickT rfl rfl) ?_ | refine L.val rfl rfl (R.pickF rfl rfl) ?_
      refine L.nil ?_
      refine N.seq ?_
      refine G.condT rfl ?_
      refine G.seq ?_
      refine G.region ?_
      refine L.val rfl rfl (R.as rfl) ?_
      refine L.nil ?_
      refine N.seq ?_
      refine G.ret1 rfl rfl ?_
      first
        | exact ⟨rfl, E⟩
        | exact ⟨by simp, E⟩
    · have hi59 : i < 60 := by omega
      refine L.val rfl rfl (R.fld rfl) ?_
      refine L.val rfl rfl (R.ldB (v := .string (str o.V')) rfl B6 rfl) ?_
      refine L.val rfl rfl (R.lenStr rfl) ?_
      refine L.val rfl rfl (R.gtr rfl rfl) ?_
      first | refine L.val rfl rfl (R.pickT rfl rfl) ?_ | refine L.val rfl rfl (R.pickF rfl rfl) ?_
      refine L.nil ?_
      refine N.seq ?_
      refine G.condP rfl (fun h2 => ?_) (fun h2 => ?_)
      · refine G.seq ?_
        refine G.region ?_
        refine L.val rfl rfl (R.as rfl) ?_
        refine L.nil ?_
        refine N.seq ?_
        refine G.ret1 rfl rfl ?_
        first
          | exact ⟨rfl, E⟩
          | exact ⟨by simp, E⟩
      · refine G.skip ?_
        refine N.seq ?_
        refine G.seq ?_
        refine G.seq ?_
        refine G.region ?_
        refine L.val rfl rfl (R.fld rfl) ?_
        refine L.val rfl rfl (R.ldB (v := .int .i64 o.Kind') rfl B6 rfl) ?_
        refine L.val rfl rfl (R.conv rfl (IntKind.u64.wrap o.Kind') rfl) ?_
        refine L.val rfl rfl (R.rem rfl rfl (u64_posO _) (by decide)) ?_
        refine L.nil ?_
        refine N.seq ?_
        refine G.block ?_
        refine G.seq ?_
        refine G.region ?_
        refine L.val rfl rfl (R.eqI rfl rfl) ?_
        refine L.val rfl rfl (R.as rfl) ?_
        refine L.nil ?_
        refine N.seq ?_
        refine G.condP rfl (fun h3 => ?_) (fun h3 => ?_)
        · refine G.seq ?_
          refine G.region ?_
          refine L.val rfl rfl (R.mv rfl) ?_
          refine L.val rfl rfl (R.fld rfl) ?_
          refine L.val rfl rfl (R.ldB (v := .int .i64 o.K') rfl B6 rfl) ?_
          refine L.val rfl rfl (R.fld rfl) ?_
          refine L.val rfl rfl (R.ldB (v := .string (str o.V')) rfl B6 rfl) ?_
          refine L.callF rfl rfl rfl go43 (rput_ok a ps.length c ps M o.K' o.V' _ r rfl hok hst hs (by omega)) ?_
          rintro _ w6 ⟨a, c, M, rfl, r, e6, hM6⟩
          have hDl := D.lt
          have hE5 := E.size
          replace E := E.trans0 e6
          replace D := D.ext0 e6
          have hl6 := B6.lt
          replace B6 := B6.ext0 e6
          have hap : ∀ y ∈ M, y ∉ S := fun y hy h => by have := hDl y h; have := hM6 y hy; omega
          have hM : ∀ y ∈ M, w.heap.size ≤ y := fun y hy => by have := hM6 y hy; omega
          have hrl := r.lt
          refine L.val rfl rfl (R.mv rfl) ?_
          refine L.val rfl rfl (R.ext rfl rfl) ?_
          refine L.val rfl rfl (R.ext rfl rfl) ?_
          refine L.val rfl rfl (R.as rfl) ?_
          refine L.val rfl rfl (R.as rfl) ?_
          refine L.nil ?_
          refine N.seq ?_
          refine G.seq ?_
          refine G.region ?_
          refine L.val rfl rfl (R.mv rfl) ?_
          refine L.val rfl rfl (R.as rfl) ?_
          refine L.nil ?_
          refine N.seq ?_
          refine G.seq ?_
          refine G.region ?_
          refine L.val rfl rfl (R.mv rfl) ?_
          refine L.val rfl rfl (R.fld rfl) ?_
          refine L.val rfl rfl (R.ldB (v := .int .i64 o.K') rfl B6 rfl) ?_
          refine L.val rfl rfl (R.fld rfl) ?_
          refine L.val rfl rfl (R.ldB (v := .string (str o.V')) rfl B6 rfl) ?_
          refine L.callF rfl rfl rfl go44 (putS_ok m ps S o.K' o.V' _ D (by omega)) ?_
          rintro _ w7 ⟨rfl, S7, g7, D⟩
          have hE7 := E.size
          replace E := E.fresh g7.1 hS
          replace hS := g7.fresh hS hE7
          replace r := r.ext g7.1 hap
          replace hap : ∀ y ∈ M, y ∉ S7 := fun y hy h => (g7.2 y h).elim (hap y hy) (fun h => by have := hrl y hy; omega)
          replace B6 := B6.ext g7.1 h6S
          have hlen2 : ((putK ps o.K' [.string (str o.V')])).length ≤ i + 1 := by rw [put_len]; split <;> omega
          replace hok : OkP 1 (putK ps o.K' [.string (str o.V')]) := hok.put ⟨rfl, (by intro x hx; rw [List.mem_singleton.1 hx]; rfl)⟩
          replace hst : OkStr (putK ps o.K' [.string (str o.V')]) := fun p hp => by rcases (mem_put hs).1 hp with rfl | ⟨h9, _⟩; exact ⟨_, rfl⟩; exact hst p h9
          replace hs := D.sorted
          refine L.val rfl rfl (R.mv rfl) ?_
          refine L.val rfl rfl (R.neB rfl rfl) ?_
          refine L.nil ?_
          refine N.seq ?_
          refine G.condB rfl (fun h4 => ?_) (fun h4 => ?_)
          · simp at h4
          · refine G.skip ?_
            refine N.block ?_
            refine N.seq ?_
            refine G.seq ?_
            refine G.region ?_
            refine L.val rfl rfl (R.mv rfl) ?_
            refine L.val rfl rfl (R.mv rfl) ?_
            refine L.val rfl rfl (R.ldBN rfl B6 rfl) ?_
            refine L.callF rfl rfl rfl go48 (look_ok m _ _ a _ c _ o.Kind' o.K' o.Stop' o.V' _ D r rfl hok hst hs (by omega)) ?_
            rintro _ w10 ⟨rfl, e10⟩
            replace E := E.trans0 e10
            replace D := D.ext0 e10
            replace r := r.ext0 e10
            refine L.val rfl rfl (R.not rfl) ?_
            refine L.nil ?_
            refine N.seq ?_
            refine G.condF rfl ?_
            refine G.skip ?_
            refine N.block ?_
            refine N.seq ?_
            refine G.region ?_
            refine L.val rfl rfl (R.add rfl rfl (by omega)) ?_
            refine L.val rfl rfl (R.mv rfl) ?_
            refine L.nil ?_
            first
              | exact N.again (X := PlSt) ⟨i + 1, (putK ps o.K' [.string (str o.V')]), S7, a, c, M⟩ (by show on - (i + 1) < on - i; omega) (Sub.cons rfl (Sub.cons rfl (Sub.cons rfl (Sub.cons rfl (Sub.cons rfl (Sub.cons rfl (Sub.nil _))))))) ⟨by show i + 1 ≤ on; omega, by show i + 1 ≤ 60; omega, hlen2, hok, hst, D, hS, r, hM, hap, E⟩
              | exact N.again (X := PlSt) ⟨i + 1, (delK ps o.K'), S8, a, c, M⟩ (by show on - (i + 1) < on - i; omega) (Sub.cons rfl (Sub.cons rfl (Sub.cons rfl (Sub.cons rfl (Sub.cons rfl (Sub.cons rfl (Sub.nil _))))))) ⟨by show i + 1 ≤ on; omega, by show i + 1 ≤ 60; omega, Nat.le_succ_of_le hlen2, hok, hst, D, hS, r, hM, hap, E⟩
              | exact N.again (X := PlSt) ⟨i + 1, ps, S, a, c, M⟩ (by show on - (i + 1) < on - i; omega) (Sub.cons rfl (Sub.cons rfl (Sub.cons rfl (Sub.cons rfl (Sub.cons rfl (Sub.cons rfl (Sub.nil _))))))) ⟨by show i + 1 ≤ on; omega, by show i + 1 ≤ 60; omega, Nat.le_succ_of_le hlen, hok, hst, D, hS, r, hM, hap, E⟩
        · refine G.seq ?_
          refine G.region ?_
          refine L.val rfl rfl (R.eqI rfl rfl) ?_
          refine L.val rfl rfl (R.as rfl) ?_
          refine L.nil ?_
          refine N.seq ?_
          refine G.condP rfl (fun h5 => ?_) (fun h5 => ?_)
          · refine G.seq ?_
            refine G.region ?_
            refine L.val rfl rfl (R.mv rfl) ?_
            refine L.val rfl rfl (R.fld rfl) ?_
            refine L.val rfl rfl (R.ldB (v := .int .i64 o.K') rfl B6 rfl) ?_
            refine L.callF rfl rfl rfl go45 (rget_ok a ps.length c ps M o.K' _ r rfl hok hst hs (by omega)) ?_
            rintro _ w6 ⟨rfl, e6⟩
            replace E := E.trans0 e6
            replace D := D.ext0 e6
            replace r := r.ext0 e6
            replace B6 := B6.ext0 e6
            refine L.val rfl rfl (R.mv rfl) ?_
            refine L.val rfl rfl (R.ext rfl rfl) ?_
            refine L.val rfl rfl (R.ext rfl rfl) ?_
            refine L.val rfl rfl (R.as rfl) ?_
            refine L.val rfl rfl (R.as rfl) ?_
            refine L.nil ?_
            refine N.seq ?_
            refine G.seq ?_
            refine G.region ?_
            refine L.val rfl rfl (R.mv rfl) ?_
            refine L.val rfl rfl (R.fld rfl) ?_
            refine L.val rfl rfl (R.ldB (v := .int .i64 o.K') rfl B6 rfl) ?_
            refine L.callF rfl rfl rfl go46 (rdel_ok a ps.length c ps M o.K' _ r rfl hok hst hs (by omega)) ?_
            rintro _ w7 ⟨a, c, M, rfl, r, e7, hM7⟩
            have hDl := D.lt
            have hE6 := E.size
            replace E := E.trans0 e7
            replace D := D.ext0 e7
            replace B6 := B6.ext0 e7
            have hap : ∀ y ∈ M, y ∉ S := fun y hy h => by have := hDl y h; have := hM7 y hy; omega
            have hM : ∀ y ∈ M, w.heap.size ≤ y := fun y hy => by have := hM7 y hy; omega
            have hrl := r.lt
            refine L.val rfl rfl (R.as rfl) ?_
            refine L.nil ?_
            refine N.seq ?_
            refine G.seq ?_
            refine G.region ?_
            refine L.val rfl rfl (R.mv rfl) ?_
            refine L.val rfl rfl (R.fld rfl) ?_
            refine L.val rfl rfl (R.ldB (v := .int .i64 o.K') rfl B6 rfl) ?_
            refine L.callF rfl rfl rfl go47 (odelS_ok m ps S o.K' _ D (by omega)) ?_
            rintro _ w8 ⟨rfl, S8, g8, D⟩
            have hE8 := E.size
            replace E := E.fresh g8.1 hS
            replace hS := g8.fresh hS hE8
            replace r := r.ext g8.1 hap
            replace hap : ∀ y ∈ M, y ∉ S8 := fun y hy h => (g8.2 y h).elim (hap y hy) (fun h => by have := hrl y hy; omega)
            replace B6 := B6.ext g8.1 h6S
            have hlen2 : (delK ps o.K').length ≤ i := by rw [del_len]; split <;> omega
            replace hok : OkP 1 (delK ps o.K') := hok.del
            replace hst : OkStr (delK ps o.K') := fun p hp => hst p ((mem_del hs).1 hp).1
            replace hs := D.sorted
            refine L.val rfl rfl (R.mv rfl) ?_
            refine L.val rfl rfl (R.neB rfl rfl) ?_
            refine L.nil ?_
            refine N.seq ?_
            refine G.condB rfl (fun h6 => ?_) (fun h6 => ?_)
            · simp at h6
            · refine G.skip ?_
              refine N.block ?_
              refine N.seq ?_
              refine G.seq ?_
              refine G.region ?_
              refine L.val rfl rfl (R.mv rfl) ?_
              refine L.val rfl rfl (R.mv rfl) ?_
              refine L.val rfl rfl (R.ldBN rfl B6 rfl) ?_
              refine L.callF rfl rfl rfl go48 (look_ok m _ _ a _ c _ o.Kind' o.K' o.Stop' o.V' _ D r rfl hok hst hs (by omega)) ?_
              rintro _ w10 ⟨rfl, e10⟩
              replace E := E.trans0 e10
              replace D := D.ext0 e10
              replace r := r.ext0 e10
              refine L.val rfl rfl (R.not rfl) ?_
              refine L.nil ?_
              refine N.seq ?_
              refine G.condF rfl ?_
              refine G.skip ?_
              refine N.block ?_
              refine N.seq ?_
              refine G.region ?_
              refine L.val rfl rfl (R.add rfl rfl (by omega)) ?_
              refine L.val rfl rfl (R.mv rfl) ?_
              refine L.nil ?_
              first
                | exact N.again (X := PlSt) ⟨i + 1, (putK ps o.K' [.string (str o.V')]), S7, a, c, M⟩ (by show on - (i + 1) < on - i; omega) (Sub.cons rfl (Sub.cons rfl (Sub.cons rfl (Sub.cons rfl (Sub.cons rfl (Sub.cons rfl (Sub.nil _))))))) ⟨by show i + 1 ≤ on; omega, by show i + 1 ≤ 60; omega, hlen2, hok, hst, D, hS, r, hM, hap, E⟩
                | exact N.again (X := PlSt) ⟨i + 1, (delK ps o.K'), S8, a, c, M⟩ (by show on - (i + 1) < on - i; omega) (Sub.cons rfl (Sub.cons rfl (Sub.cons rfl (Sub.cons rfl (Sub.cons rfl (Sub.cons rfl (Sub.nil _))))))) ⟨by show i + 1 ≤ on; omega, by show i + 1 ≤ 60; omega, Nat.le_succ_of_le hlen2, hok, hst, D, hS, r, hM, hap, E⟩
                | exact N.again (X := PlSt) ⟨i + 1, ps, S, a, c, M⟩ (by show on - (i + 1) < on - i; omega) (Sub.cons rfl (Sub.cons rfl (Sub.cons rfl (Sub.cons rfl (Sub.cons rfl (Sub.cons rfl (Sub.nil _))))))) ⟨by show i + 1 ≤ on; omega, by show i + 1 ≤ 60; omega, Nat.le_succ_of_le hlen, hok, hst, D, hS, r, hM, hap, E⟩
          · refine G.skip ?_
            refine N.block ?_
            refine N.seq ?_
            refine G.seq ?_
            refine G.region ?_
            refine L.val rfl rfl (R.mv rfl) ?_
            refine L.val rfl rfl (R.mv rfl) ?_
            refine L.val rfl rfl (R.ldBN rfl B6 rfl) ?_
            refine L.callF rfl rfl rfl go48 (look_ok m _ _ a _ c _ o.Kind' o.K' o.Stop' o.V' _ D r rfl hok hst hs (by omega)) ?_
            rintro _ w10 ⟨rfl, e10⟩
            replace E := E.trans0 e10
            replace D := D.ext0 e10
            replace r := r.ext0 e10
            refine L.val rfl rfl (R.not rfl) ?_
            refine L.nil ?_
            refine N.seq ?_
            refine G.condF rfl ?_
            refine G.skip ?_
            refine N.block ?_
            refine N.seq ?_
            refine G.region ?_
            refine L.val rfl rfl (R.add rfl rfl (by omega)) ?_
            refine L.val rfl rfl (R.mv rfl) ?_
            refine L.nil ?_
            first
              | exact N.again (X := PlSt) ⟨i + 1, (putK ps o.K' [.string (str o.V')]), S7, a, c, M⟩ (by show on - (i + 1) < on - i; omega) (Sub.cons rfl (Sub.cons rfl (Sub.cons rfl (Sub.cons rfl (Sub.cons rfl (Sub.cons rfl (Sub.nil _))))))) ⟨by show i + 1 ≤ on; omega, by show i + 1 ≤ 60; omega, hlen2, hok, hst, D, hS, r, hM, hap, E⟩
              | exact N.again (X := PlSt) ⟨i + 1, (delK ps o.K'), S8, a, c, M⟩ (by show on - (i + 1) < on - i; omega) (Sub.cons rfl (Sub.cons rfl (Sub.cons rfl (Sub.cons rfl (Sub.cons rfl (Sub.cons rfl (Sub.nil _))))))) ⟨by show i + 1 ≤ on; omega, by show i + 1 ≤ 60; omega, Nat.le_succ_of_le hlen2, hok, hst, D, hS, r, hM, hap, E⟩
              | exact N.again (X := PlSt) ⟨i + 1, ps, S, a, c, M⟩ (by show on - (i + 1) < on - i; omega) (Sub.cons rfl (Sub.cons rfl (Sub.cons rfl (Sub.cons rfl (Sub.cons rfl (Sub.cons rfl (Sub.nil _))))))) ⟨by show i + 1 ≤ on; omega, by show i + 1 ≤ 60; omega, Nat.le_succ_of_le hlen, hok, hst, D, hS, r, hM, hap, E⟩
  · have hps60 : ps.length ≤ 60 := by omega
    refine G.exit _ rfl ?_
    refine N.seq ?_
    refine G.seq ?_
    refine G.region ?_
    refine L.val rfl rfl (R.as rfl) ?_
    refine L.nil ?_
    refine N.seq ?_
    refine G.seq ?_
    refine G.seq ?_
    refine G.region ?_
    refine L.val rfl rfl (R.mv rfl) ?_
    refine L.val rfl rfl (R.lenS rfl) ?_
    refine L.val rfl rfl (R.mv rfl) ?_
    refine L.nil ?_
    refine N.seq ?_
    refine G.block ?_
    refine G.loop (X := Nat × Nat) (fun s => [(3, .pointer (some ⟨m, 0, none⟩)), (11, .int .i64 (s.2 : Int)), (87, .slice a ps.length c), (88, .int .i64 (ps.length : Int)), (89, .int .i64 (s.1 : Int))]) (fun s w' => s.1 ≤ ps.length ∧ s.2 = cntB ps s.1 ∧ MapAt (κ := Int) 191 194 1 w' m ps S ∧ Own w' 77 (1 + 1) a ps.length c (pcells ps) M ∧ Ext [] w w') (fun s => ps.length - s.1) ((0, 0)) (Sub.cons rfl (Sub.cons rfl (Sub.cons rfl (Sub.cons rfl (Sub.cons rfl (Sub.nil _)))))) ⟨Nat.zero_le _, rfl, D, r, E⟩ ?_
    rintro ⟨i, z⟩ w11 ⟨hi, hz, D, o, E⟩
    dsimp only at hi hz
    refine G.sub [(3, .pointer (some ⟨m, 0, none⟩)), (11, .int .i64 (z : Int)), (87, .slice a ps.length c), (88, .int .i64 (ps.length : Int)), (89, .int .i64 (i : Int))] (Sub.cons rfl (Sub.cons rfl (Sub.cons rfl (Sub.cons rfl (Sub.cons rfl (Sub.nil _)))))) ?_
    have hz60 := cntB_le ps i
    have hDl := D.lt
    refine G.seq ?_
    refine G.region ?_
    refine L.val rfl rfl (R.lss rfl rfl) ?_
    refine L.nil ?_
    refine N.seq ?_
    refine G.seq ?_
    refine G.condP rfl (fun h8 => ?_) (fun h8 => ?_)
    · obtain ⟨p, hp⟩ : ∃ p, ps[i]? = some p := ⟨_, List.getElem?_eq_getElem (by omega)⟩
      obtain ⟨ss, hss⟩ := hst p (List.mem_of_getElem? hp)
      obtain ⟨q, hq, hcl⟩ := (Tab.pairs o.cells rfl hok).at (by decide) i (by rw [List.length_map]; omega)
      have he : (ps.map pcell)[i]'(by rw [List.length_map]; omega) = pcell p := by rw [List.getElem_map]; exact congrArg pcell (List.getElem?_eq_some_iff.1 hp).2
      rw [he] at hcl
      obtain ⟨kk, vv⟩ := p
      obtain rfl : vv = [.string (str ss)] := hss
      replace hcl : Cells _ _ [.int .i64 kk, .string (str ss)] := hcl
      have hbig : (lenV [.string (str ss)] : Int) = ((str ss).size : Int) := rfl
      refine G.skip ?_
      refine N.seq ?_
      refine G.seq ?_
      refine G.block ?_
      refine G.seq ?_
      refine G.region ?_
      refine L.val rfl rfl (R.idx rfl rfl (by omega) (by omega) q hq) ?_
      refine L.val rfl rfl (R.ldN (vs := [.int .i64 kk, .string (str ss)]) rfl hcl rfl) ?_
      refine L.do rfl rfl (R.alloc) ?_
      rintro _ w12 ⟨b13, rfl, hb12, hs12, e12, B13⟩
      replace B13 : Blk w12 b13 #[.int .i64 0, .string (str [])] 77 (0, 0) := B13
      have hEa12 := E.size
      have hlo := o.lt
      replace E := E.trans0 e12
      replace o := o.ext0 e12
      replace D := D.ext0 e12
      have h13S : b13 ∉ S := fun h => by have := hDl _ h; omega
      refine L.set rfl (R.stN rfl rfl B13 rfl (by show 0 + 2 ≤ 2; decide) (by intro u hu; simp at hu; rcases hu with rfl | rfl <;> rfl)) ?_
      rintro w13 ⟨e13, hs13, B13⟩
      replace B13 : Blk w13 b13 #[.int .i64 kk, .string (str ss)] 77 (0, 0) := B13
      replace E := E.trans e13 (M := []) (by simp) (by intro x hx; rw [List.mem_singleton.1 hx]; exact .inr (by omega))
      replace o := o.ext e13 (by intro g hg h; have := hlo g hg; rw [List.mem_singleton.1 h] at this; omega)
      have hnb : b13 ∉ M := fun h => by have := hlo _ h; omega
      replace D := D.ext e13 (fun y hy h => h13S (by rw [← List.mem_singleton.1 h]; exact hy))
      refine L.nil ?_
      refine N.seq ?_
      refine G.seq ?_
      refine G.region ?_
      refine L.val rfl rfl (R.fld rfl) ?_
      refine L.val rfl rfl (R.ldB (v := .string (str ss)) rfl B13 rfl) ?_
      refine L.val rfl rfl (R.lenStr rfl) ?_
      refine L.val rfl rfl (R.gtr rfl rfl) ?_
      refine L.nil ?_
      refine N.seq ?_
      refine G.condP rfl (fun h9 => ?_) (fun h9 => ?_)
      · refine G.region ?_
        refine L.val rfl rfl (R.mv rfl) ?_
        refine L.val rfl rfl (R.add rfl rfl (by omega)) ?_
        refine L.val rfl rfl (R.as rfl) ?_
        refine L.be 11 rfl (show _ = Value.int .i64 ((z + 1 : Nat) : Int) by congr 1) ?_
        refine L.nil ?_
        refine N.block ?_
        refine N.seq ?_
        refine G.region ?_
        refine L.val rfl rfl (R.add rfl rfl (by omega)) ?_
        refine L.val rfl rfl (R.mv rfl) ?_
        refine L.nil ?_
        first
          | exact N.again (i + 1, z + 1) (by show ps.length - (i + 1) < ps.length - i; omega) (Sub.cons rfl (Sub.cons rfl (Sub.cons rfl (Sub.cons rfl (Sub.cons rfl (Sub.nil _)))))) ⟨by show i + 1 ≤ ps.length; omega, by show z + 1 = cntB ps (i + 1); rw [cntB_yes hp (by show 2 < lenV [.string (str ss)]; omega), hz], D, o, E⟩
          | exact N.again (i + 1, z) (by show ps.length - (i + 1) < ps.length - i; omega) (Sub.cons rfl (Sub.cons rfl (Sub.cons rfl (Sub.cons rfl (Sub.cons rfl (Sub.nil _)))))) ⟨by show i + 1 ≤ ps.length; omega, by show z = cntB ps (i + 1); rw [cntB_no hp (by show ¬ 2 < lenV [.string (str ss)]; omega), hz], D, o, E⟩
      · refine G.skip ?_
        refine N.block ?_
        refine N.seq ?_
        refine G.region ?_
        refine L.val rfl rfl (R.add rfl rfl (by omega)) ?_
        refine L.val rfl rfl (R.mv rfl) ?_
        refine L.nil ?_
        first
          | exact N.again (i + 1, z + 1) (by show ps.length - (i + 1) < ps.length - i; omega) (Sub.cons rfl (Sub.cons rfl (Sub.cons rfl (Sub.cons rfl (Sub.cons rfl (Sub.nil _)))))) ⟨by show i + 1 ≤ ps.length; omega, by show z + 1 = cntB ps (i + 1); rw [cntB_yes hp (by show 2 < lenV [.string (str ss)]; omega), hz], D, o, E⟩
          | exact N.again (i + 1, z) (by show ps.length - (i + 1) < ps.length - i; omega) (Sub.cons rfl (Sub.cons rfl (Sub.cons rfl (Sub.cons rfl (Sub.cons rfl (Sub.nil _)))))) ⟨by show i + 1 ≤ ps.length; omega, by show z = cntB ps (i + 1); rw [cntB_no hp (by show ¬ 2 < lenV [.string (str ss)]; omega), hz], D, o, E⟩
    · obtain rfl : i = ps.length := by omega
      refine G.exit _ rfl ?_
      refine N.seq ?_
      refine G.seq ?_
      refine G.region ?_
      refine L.val rfl rfl (R.as rfl) ?_
      refine L.nil ?_
      refine N.seq ?_
      refine G.seq ?_
      refine G.region ?_
      refine L.val rfl rfl (R.mv rfl) ?_
      refine L.callF rfl rfl rfl go49 (getS_nil 1 _) ?_
      rintro _ w15 ⟨rfl, e15⟩
      replace E := E.trans0 e15
      replace D := D.ext0 e15
      refine L.val rfl rfl (R.mv rfl) ?_
      refine L.val rfl rfl (R.ext rfl rfl) ?_
      refine L.val rfl rfl (R.ext rfl rfl) ?_
      refine L.val rfl rfl (R.as rfl) ?_
      refine L.val rfl rfl (R.as rfl) ?_
      refine L.nil ?_
      refine N.seq ?_
      refine G.seq ?_
      refine G.region ?_
      refine L.val rfl rfl (R.mv rfl) ?_
      refine L.callF rfl rfl rfl go50 (floorS_nil 1 _) ?_
      rintro _ w16 ⟨rfl, e16⟩
      replace E := E.trans0 e16
      replace D := D.ext0 e16
      refine L.val rfl rfl (R.mv rfl) ?_
      refine L.val rfl rfl (R.ext rfl rfl) ?_
      refine L.val rfl rfl (R.ext rfl rfl) ?_
      refine L.val rfl rfl (R.ext rfl rfl) ?_
      refine L.val rfl rfl (R.as rfl) ?_
      refine L.val rfl rfl (R.as rfl) ?_
      refine L.val rfl rfl (R.as rfl) ?_
      refine L.nil ?_
      refine N.seq ?_
      refine G.seq ?_
      refine G.region ?_
      refine L.val rfl rfl (R.mv rfl) ?_
      refine L.callF rfl rfl rfl go51 (ocount_ok m ps S _ D (by omega) hst) ?_
      rintro _ w17 ⟨rfl, e17⟩
      replace E := E.trans0 e17
      refine L.val rfl rfl (R.mv rfl) ?_
      refine L.val rfl rfl (R.eqI rfl rfl) ?_
      refine L.val rfl rfl (R.mv rfl) ?_
      refine L.isT 115 rfl (by simp [hz]) ?_
      refine L.val rfl rfl (R.mv rfl) ?_
      refine L.callF rfl rfl rfl go44 (putS_nil 1 [] _) ?_
      rintro _ w18 ⟨rfl, e18⟩
      replace E := E.trans0 e18
      refine L.val rfl rfl (R.not rfl) ?_
      first | refine L.val rfl rfl (R.pickT rfl rfl) ?_ | refine L.val rfl rfl (R.pickF rfl rfl) ?_
      refine L.val rfl rfl (R.mv rfl) ?_
      refine L.isT 120 rfl (by rfl) ?_
      refine L.val rfl rfl (R.mv rfl) ?_
      refine L.val rfl rfl (R.not rfl) ?_
      first | refine L.val rfl rfl (R.pickT rfl rfl) ?_ | refine L.val rfl rfl (R.pickF rfl rfl) ?_
      refine L.val rfl rfl (R.mv rfl) ?_
      refine L.isT 124 rfl (by rfl) ?_
      refine L.val rfl rfl (R.mv rfl) ?_
      refine L.val rfl rfl (R.not rfl) ?_
      first | refine L.val rfl rfl (R.pickT rfl rfl) ?_ | refine L.val rfl rfl (R.pickF rfl rfl) ?_
      refine L.val rfl rfl (R.mv rfl) ?_
      refine L.isT 128 rfl (by rfl) ?_
      refine L.val rfl rfl (R.mv rfl) ?_
      refine L.callF rfl rfl rfl go47 (odelS_nil 1 _) ?_
      rintro _ w19 ⟨rfl, e19⟩
      replace E := E.trans0 e19
      refine L.val rfl rfl (R.not rfl) ?_
      first | refine L.val rfl rfl (R.pickT rfl rfl) ?_ | refine L.val rfl rfl (R.pickF rfl rfl) ?_
      refine L.val rfl rfl (R.mv rfl) ?_
      refine L.isT 133 rfl (by rfl) ?_
      refine L.val rfl rfl (R.mv rfl) ?_
      refine L.callF rfl rfl rfl go53 (olenS_nil _) ?_
      rintro _ w20 ⟨rfl, e20⟩
      replace E := E.trans0 e20
      refine L.val rfl rfl (R.eqI rfl rfl) ?_
      first | refine L.val rfl rfl (R.pickT rfl rfl) ?_ | refine L.val rfl rfl (R.pickF rfl rfl) ?_
      refine L.val rfl rfl (R.mv rfl) ?_
      refine L.isT 138 rfl (by rfl) ?_
      refine L.val rfl rfl (R.mv rfl) ?_
      refine L.callF rfl rfl rfl go54 (okeysS_nil [] _ rfl) ?_
      rintro _ w21 ⟨ka, kc, kM, rfl, e21, ko, hkM⟩
      replace E := E.trans0 e21
      refine L.val rfl rfl (R.lenS rfl) ?_
      refine L.val rfl rfl (R.eqI rfl rfl) ?_
      first | refine L.val rfl rfl (R.pickT rfl rfl) ?_ | refine L.val rfl rfl (R.pickF rfl rfl) ?_
      refine L.val rfl rfl (R.mv rfl) ?_
      refine L.isT 144 rfl (by rfl) ?_
      refine L.val rfl rfl (R.mv rfl) ?_
      refine L.callF rfl rfl rfl go55 (ocloneS_nil _) ?_
      rintro _ w22 ⟨rfl, e22⟩
      replace E := E.trans0 e22
      refine L.val rfl rfl (R.eqNilP rfl rfl) ?_
      first | refine L.val rfl rfl (R.pickT rfl rfl) ?_ | refine L.val rfl rfl (R.pickF rfl rfl) ?_
      refine L.val rfl rfl (R.as rfl) ?_
      refine L.nil ?_
      refine N.seq ?_
      refine G.ret1 rfl rfl ?_
      first
        | exact ⟨rfl, E⟩
        | exact ⟨by simp, E⟩

end Go.Proofs.Ythpolibakkmmeaa
