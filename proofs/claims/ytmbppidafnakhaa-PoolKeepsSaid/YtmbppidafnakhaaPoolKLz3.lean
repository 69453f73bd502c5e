/-
  Texts of this claim, put together.
-/
import Derived.Test.YtmbppidafnakhaaPoolKLz2
/-
  The walks of package pool.
-/
set_option linter.unusedVariables false
set_option linter.unusedSimpArgs false
set_option maxRecDepth 4000
namespace Go.Proofs.Ytmbppidafnakhaa
open Go Brv Brv.Image Brv.Dev
structure PuS where
  i : Nat
  hd : List (Int × HdV)
structure RoS where
  a : Option Addr
  c : Nat
theorem dirtyA_succ {hd : List (Int × HdV)} {k : Nat} {t : Int × HdV} (h : hd[k]? = some t) : dirtyL ((absP hd).take (k + 1)) = dirtyL ((absP hd).take k) ++ if t.2.t then [t.1] else [] :=
  dirtyL_succ (t := (t.1, (t.2.d, t.2.t))) (by unfold absP mapT; rw [List.getElem?_map, h]; rfl)
theorem psP_at {hd : List (Int × HdV)} {k : Nat} {q : Pr Int} (h : (psP hd)[k]? = some q) : ∃ t, hd[k]? = some t ∧ q = (t.1, t.2.cells) := by
  unfold psP mapT at h
  rw [List.getElem?_map] at h
  cases ht : hd[k]? with
  | none => rw [ht] at h; cases h
  | some t => rw [ht] at h; cases h; exact ⟨t, rfl, rfl⟩

theorem pput_ok (p d m sz fr B : Nat) (vv : DevV) (hd : List (Int × HdV)) (a : Option Addr) (n c : Nat) (ws : List WriteV) (hn : n ≤ 10000) (hl : hd.length ≤ 10000) : SpecS Try.prog 9 [.pointer (some ⟨p, 0, none⟩), .slice a n c] [blk p [.pointer (some ⟨d, 0, none⟩), .int .i64 (fr : Int), .int .i64 (B : Int), .pointer (some ⟨m, 0, none⟩)] 78, mp (κ := Int) 110 114 2 m (psP hd), sh (fun w => ∀ t ∈ hd, HdV.ok w t.2), dvA d vv sz, sh (fun w => WsP w a n ws)] (fun v H' => ∃ hd', v = .int .i64 (pwsE B (ws.map wv)) ∧ absP hd' = pputV (absP hd) B (ws.map wv) ∧ H' = [blk p [.pointer (some ⟨d, 0, none⟩), .int .i64 (fr : Int), .int .i64 (B : Int), .pointer (some ⟨m, 0, none⟩)] 78, mp (κ := Int) 110 114 2 m (psP hd'), sh (fun w => ∀ t ∈ hd', HdV.ok w t.2), dvA d vv sz]) := by
  refine SpecS.enter Try.func9 rfl 43 rfl (Nat.le_of_ble_eq_true rfl) (fun o => ?_)
  refine SG.fact (fun w9 F9 S9 s => ws_len (s.sh (p := fun w => WsP w a n ws) (by repeat (first | exact Sel.keep | exact Sel.here | apply Sel.there)))) (fun hf9 => ?_)
  have hwl := hf9; clear hf9
  refine SG.seq ?_
  refine SG.region ?_
  refine SL.val rfl rfl (fun w9 F9 S9 s => R.as rfl) ?_
  refine SL.nil ?_
  refine SN.seq ?_
  refine SG.seq ?_
  refine SG.seq ?_
  refine SG.region ?_
  refine SL.val rfl rfl (fun w9 F9 S9 s => R.mv rfl) ?_
  refine SL.val rfl rfl (fun w9 F9 S9 s => R.eqNilP rfl rfl) ?_
  refine SL.nil ?_
  refine SN.seq ?_
  refine SG.condF rfl ?_
  refine SG.skip ?_
  refine SN.seq ?_
  refine SG.seq ?_
  refine SG.seq ?_
  refine SG.region ?_
  refine SL.val rfl rfl (fun w9 F9 S9 s => R.mv rfl) ?_
  refine SL.val rfl rfl (fun w9 F9 S9 s => R.lenS rfl) ?_
  refine SL.val rfl rfl (fun w9 F9 S9 s => R.mv rfl) ?_
  refine SL.nil ?_
  refine SN.seq ?_
  refine SG.block ?_
  refine SG.loop (X := Nat) (fun i => [(0, .pointer (some ⟨p, 0, none⟩)), (1, .slice a n c), (12, .slice a n c), (13, .int .i64 (n : Int)), (14, .int .i64 (i : Int))]) (fun i => [blk p [.pointer (some ⟨d, 0, none⟩), .int .i64 (fr : Int), .int .i64 (B : Int), .pointer (some ⟨m, 0, none⟩)] 78, mp (κ := Int) 110 114 2 m (psP hd), sh (fun w => ∀ t ∈ hd, HdV.ok w t.2), dvA d vv sz, sh (fun w => WsP w a n ws)]) (fun i => i ≤ n ∧ ∀ (j : Nat) (u : Wr), j < i → (ws.map wv)[j]? = some u → pwE B u = 0) (fun i => n - i) (0) (Sub.cons rfl (Sub.cons rfl (Sub.cons rfl (Sub.cons rfl (Sub.cons rfl (Sub.nil _)))))) ((Imp.sels (by repeat (first | exact Sels.nil | apply Sels.cons | exact Sel.keep | exact Sel.here | apply Sel.there)))) (⟨Nat.zero_le _, fun j u hj => by omega⟩) ?_
  rintro i ⟨hi, hall⟩
  show SG _ _ _ _ _ [(0, .pointer (some ⟨p, 0, none⟩)), (1, .slice a n c), (12, .slice a n c), (13, .int .i64 (n : Int)), (14, .int .i64 (i : Int))] [blk p [.pointer (some ⟨d, 0, none⟩), .int .i64 (fr : Int), .int .i64 (B : Int), .pointer (some ⟨m, 0, none⟩)] 78, mp (κ := Int) 110 114 2 m (psP hd), sh (fun w => ∀ t ∈ hd, HdV.ok w t.2), dvA d vv sz, sh (fun w => WsP w a n ws)] _
  refine SG.seq ?_
  refine SG.region ?_
  refine SL.val rfl rfl (fun w9 F9 S9 s => R.lss rfl rfl) ?_
  refine SL.nil ?_
  refine SN.seq ?_
  refine SG.seq ?_
  refine SG.condP rfl (fun h1 => ?_) (fun h1 => ?_)
  · obtain ⟨z, hz⟩ : ∃ z, ws[i]? = some z := ⟨_, List.getElem?_eq_getElem (by omega)⟩
    refine SG.fact (fun w9 F9 S9 s => ws_pt (s.sh (p := fun w => WsP w a n ws) (by repeat (first | exact Sel.keep | exact Sel.here | apply Sel.there))) hz) (fun hf9 => ?_)
    obtain ⟨q, hq⟩ := hf9
    refine SG.fact (fun w9 F9 S9 s => (ws_bs (s.sh (p := fun w => WsP w a n ws) (by repeat (first | exact Sel.keep | exact Sel.here | apply Sel.there))) hz).len) (fun hf9 => ?_)
    have hzl := hf9; clear hf9
    refine SG.skip ?_
    refine SN.seq ?_
    refine SG.seq ?_
    refine SG.block ?_
    refine SG.seq ?_
    refine SG.region ?_
    refine SL.val rfl rfl (fun w9 F9 S9 s => R.idx rfl rfl (by omega) (by omega) q hq) ?_
    refine SL.val rfl rfl (fun w9 F9 S9 s => R.ldN (vs := WriteV.cells z) rfl (ws_cells (s.sh (p := fun w => WsP w a n ws) (by repeat (first | exact Sel.keep | exact Sel.here | apply Sel.there))) hq hz) rfl) ?_
    refine SL.step rfl rfl (CS.alloc [.int .i64 0, .slice none 0 0] rfl) ?_
    rintro _ _ ⟨b6, rfl, rfl⟩
    refine SL.step0 rfl (CS.stA (vs := WriteV.cells z) rfl rfl (by repeat (first | exact Sel.keep | exact Sel.here | apply Sel.there)) (by rfl) (by rfl) (by intro u hu; exact WriteV.cells.one _ u (by simpa using hu))) ?_
    rintro _ _ rfl
    refine SL.nil ?_
    refine SN.seq ?_
    refine SG.seq ?_
    refine SG.region ?_
    refine SL.val rfl rfl (fun w9 F9 S9 s => R.mv rfl) ?_
    refine SL.val rfl rfl (fun w9 F9 S9 s => R.ldBN (cs := (WriteV.cells z).toArray) rfl (s.cel (by repeat (first | exact SelB.blk | exact SelB.fz | apply SelB.there))) (by rfl)) ?_
    refine SL.step rfl rfl (CS.call rfl go29 (pwrong_ok p d m fr B z hzl) (by repeat (first | exact Sels.nil | apply Sels.cons | exact Sel.keep | exact Sel.here | apply Sel.there))) ?_
    rintro _ _ ⟨_, ⟨rfl, rfl⟩, rfl⟩
    refine SL.n1 ?_
    refine SL.val rfl rfl (fun w9 F9 S9 s => R.as rfl) ?_
    refine SL.nil ?_
    refine SN.seq ?_
    refine SG.seq ?_
    refine SG.region ?_
    refine SL.val rfl rfl (fun w9 F9 S9 s => R.mv rfl) ?_
    refine SL.val rfl rfl (fun w9 F9 S9 s => R.neI rfl rfl) ?_
    refine SL.nil ?_
    refine SN.seq ?_
    refine SG.condP rfl (fun h2 => ?_) (fun h2 => ?_)
    · have hpe := pwsE_at hall (ws_wv hz) h2
      refine SG.seq ?_
      refine SG.region ?_
      refine SL.val rfl rfl (fun w9 F9 S9 s => R.mv rfl) ?_
      refine SL.val rfl rfl (fun w9 F9 S9 s => R.as rfl) ?_
      refine SL.nil ?_
      refine SN.seq ?_
      exact SG.ret1 rfl rfl ((Imp.sels (by repeat (first | exact Sels.nil | apply Sels.cons | exact Sel.keep | exact Sel.here | apply Sel.there)))) (⟨hd, congrArg (Value.int .i64) hpe.symm, by unfold pputV; rw [if_neg (by rw [hpe]; exact h2)], rfl⟩)
    · refine SG.skip ?_
      refine SN.block ?_
      refine SN.seq ?_
      refine SG.region ?_
      refine SL.val rfl rfl (fun w9 F9 S9 s => R.add rfl rfl (by omega)) ?_
      refine SL.val rfl rfl (fun w9 F9 S9 s => R.mv rfl) ?_
      refine SL.nil ?_
      exact SN.again (i + 1) (by show n - (i + 1) < n - i; omega) (Sub.cons rfl (Sub.cons rfl (Sub.cons rfl (Sub.cons rfl (Sub.cons rfl (Sub.nil _)))))) ((Imp.sels (by repeat (first | exact Sels.nil | apply Sels.cons | exact Sel.keep | exact Sel.here | apply Sel.there)))) (⟨by show i + 1 ≤ n; omega, fun j u hj hu => by
        by_cases hji : j = i
        · subst hji; rw [ws_wv hz] at hu; cases hu; exact Classical.not_not.1 h2
        · exact hall j u (by omega) hu⟩)
  · have hpe := pwsE_all (fun j u hu => hall j u (by have := (List.getElem?_eq_some_iff.1 hu).1; rw [List.length_map] at this; omega) hu)
    refine SG.exit _ rfl ?_
    refine SN.seq ?_
    refine SG.seq ?_
    refine SG.seq ?_
    refine SG.region ?_
    refine SL.val rfl rfl (fun w9 F9 S9 s => R.mv rfl) ?_
    refine SL.val rfl rfl (fun w9 F9 S9 s => R.lenS rfl) ?_
    refine SL.val rfl rfl (fun w9 F9 S9 s => R.mv rfl) ?_
    refine SL.nil ?_
    refine SN.seq ?_
    refine SG.block ?_
    refine SG.loop (X := PuS) (fun y => [(0, .pointer (some ⟨p, 0, none⟩)), (25, .slice a n c), (26, .int .i64 (n : Int)), (27, .int .i64 (y.i : Int))]) (fun y => [blk p [.pointer (some ⟨d, 0, none⟩), .int .i64 (fr : Int), .int .i64 (B : Int), .pointer (some ⟨m, 0, none⟩)] 78, mp (κ := Int) 110 114 2 m (psP y.hd), sh (fun w => ∀ t ∈ y.hd, HdV.ok w t.2), dvA d vv sz, sh (fun w => WsP w a n ws)]) (fun y => y.i ≤ n ∧ absP y.hd = putL (absP hd) ((ws.map wv).take y.i) ∧ y.hd.length ≤ hd.length + y.i) (fun y => n - y.i) (⟨0, hd⟩) (Sub.cons rfl (Sub.cons rfl (Sub.cons rfl (Sub.cons rfl (Sub.nil _))))) ((Imp.sels (by repeat (first | exact Sels.nil | apply Sels.cons | exact Sel.keep | exact Sel.here | apply Sel.there)))) (⟨Nat.zero_le _, rfl, Nat.le_refl _⟩) ?_
    rintro ⟨i, hd2⟩ ⟨hi, hab, hlen⟩
    dsimp only at hi hab hlen
    show SG _ _ _ _ _ [(0, .pointer (some ⟨p, 0, none⟩)), (25, .slice a n c), (26, .int .i64 (n : Int)), (27, .int .i64 (i : Int))] [blk p [.pointer (some ⟨d, 0, none⟩), .int .i64 (fr : Int), .int .i64 (B : Int), .pointer (some ⟨m, 0, none⟩)] 78, mp (κ := Int) 110 114 2 m (psP hd2), sh (fun w => ∀ t ∈ hd2, HdV.ok w t.2), dvA d vv sz, sh (fun w => WsP w a n ws)] _
    refine SG.seq ?_
    refine SG.region ?_
    refine SL.val rfl rfl (fun w9 F9 S9 s => R.lss rfl rfl) ?_
    refine SL.nil ?_
    refine SN.seq ?_
    refine SG.seq ?_
    refine SG.condP rfl (fun h3 => ?_) (fun h3 => ?_)
    · obtain ⟨z, hz⟩ : ∃ z, ws[i]? = some z := ⟨_, List.getElem?_eq_getElem (by omega)⟩
      refine SG.fact (fun w9 F9 S9 s => ws_pt (s.sh (p := fun w => WsP w a n ws) (by repeat (first | exact Sel.keep | exact Sel.here | apply Sel.there))) hz) (fun hf9 => ?_)
      obtain ⟨q, hq⟩ := hf9
      refine SG.fact (fun w9 F9 S9 s => (ws_bs (s.sh (p := fun w => WsP w a n ws) (by repeat (first | exact Sel.keep | exact Sel.here | apply Sel.there))) hz).len) (fun hf9 => ?_)
      have hzl := hf9; clear hf9
      have hz64 : z.B'.length = 64 := (pwE_in (pwsE_in hpe _ (List.mem_of_getElem? (ws_wv hz)))).2
      refine SG.imp (Imp.weak (p := fun w => WsP w a n ws) (q := fun w => Bs w z.B'a z.B'n z.B') (by repeat (first | exact Sel.keep | exact Sel.here | apply Sel.there)) (fun w hw => ws_bs hw hz)) ?_
      refine SG.skip ?_
      refine SN.seq ?_
      refine SG.seq ?_
      refine SG.block ?_
      refine SG.seq ?_
      refine SG.region ?_
      refine SL.val rfl rfl (fun w9 F9 S9 s => R.idx rfl rfl (by omega) (by omega) q hq) ?_
      refine SL.val rfl rfl (fun w9 F9 S9 s => R.ldN (vs := WriteV.cells z) rfl (ws_cells (s.sh (p := fun w => WsP w a n ws) (by repeat (first | exact Sel.keep | exact Sel.here | apply Sel.there))) hq hz) rfl) ?_
      refine SL.step rfl rfl (CS.alloc [.int .i64 0, .slice none 0 0] rfl) ?_
      rintro _ _ ⟨b9, rfl, rfl⟩
      refine SL.step0 rfl (CS.stA (vs := WriteV.cells z) rfl rfl (by repeat (first | exact Sel.keep | exact Sel.here | apply Sel.there)) (by rfl) (by rfl) (by intro u hu; exact WriteV.cells.one _ u (by simpa using hu))) ?_
      rintro _ _ rfl
      refine SL.nil ?_
      refine SN.seq ?_
      refine SG.draw [8, 10] [0, 1, 2, 3, 4, 5, 6, 7, 8, 9, 10] (by decide +kernel) rfl ?_
      refine SW.pure rfl rfl rfl rfl (fun w9 => R.mv rfl) ?_
      refine SW.pure rfl rfl rfl rfl (fun w9 => R.nilChk rfl) ?_
      refine SW.pure rfl rfl rfl rfl (fun w9 => R.fld rfl) ?_
      refine SW.read rfl rfl rfl rfl (fun w9 F9 S9 s => R.ldB rfl (s.cel (by repeat (first | exact SelB.blk | exact SelB.fz | apply SelB.there))) (by rfl)) ?_
      refine SW.pure rfl rfl rfl rfl (fun w9 => R.fld rfl) ?_
      refine SW.read rfl rfl rfl rfl (fun w9 F9 S9 s => R.ldB (v := .int .i64 z.Block') rfl (s.cel (by repeat (first | exact SelB.blk | exact SelB.fz | apply SelB.there))) (by rfl)) ?_
      refine SW.pure rfl rfl rfl rfl (fun w9 => R.fld rfl) ?_
      refine SW.read rfl rfl rfl rfl (fun w9 F9 S9 s => R.ldB (v := .slice z.B'a z.B'n z.B'c) rfl (s.cel (by repeat (first | exact SelB.blk | exact SelB.fz | apply SelB.there))) (by rfl)) ?_
      refine SW.step rfl rfl rfl rfl (CS.callC rfl go31 (fun w9 F9 S9 s => bclone_ok z.B'a z.B'n z.B'c z.B' w9 (s.sh (p := fun w => Bs w z.B'a z.B'n z.B') (by repeat (first | exact Sel.keep | exact Sel.here | apply Sel.there))) (by omega))) ?_
      rintro _ _ ⟨a39, c39, rfl, rfl⟩
      refine ⟨⟨.inl (by decide +kernel), ⟨.inr (fun w9 F9 S9 s => R.ldB (v := .int .i64 z.Block') rfl (s.cel (by repeat (first | exact SelB.blk | exact SelB.fz | apply SelB.there))) (by rfl)), ⟨.inr (fun w9 F9 S9 s => R.ldB rfl (s.cel (by repeat (first | exact SelB.blk | exact SelB.fz | apply SelB.there))) (by rfl)), trivial⟩⟩⟩, ?_⟩
      refine SW.pure rfl rfl rfl rfl (fun w9 => R.build (cs := (HdV.cells (⟨a39, z.B'n, c39, z.B', true⟩ : HdV)).toArray) rfl rfl) ?_
      refine SW.step rfl rfl rfl rfl (CS.call rfl go30 (pputX m hd2 z.Block' (⟨a39, z.B'n, c39, z.B', true⟩ : HdV) (by omega)) (by repeat (first | exact Sels.nil | apply Sels.cons | exact Sel.keep | exact Sel.here | apply Sel.there))) ?_
      rintro _ _ ⟨_, ⟨rfl, rfl⟩, rfl⟩
      refine ⟨⟨.inl (by decide +kernel), ⟨.inl (by decide +kernel), ⟨.inl (by decide +kernel), trivial⟩⟩⟩, ?_⟩
      refine SW.n1 ?_
      refine SW.nil ?_
      refine SN.fact (fun w9 F9 S9 s => s.ownL (show Sel _ (own 5 1 a39 z.B'n c39 (vbs z.B')) _ from (by repeat (first | exact Sel.keep | exact Sel.here | apply Sel.there)))) (fun hf9 => ?_)
      obtain ⟨_, hc39⟩ := hf9
      refine SN.imp (Imp.ownSh (show Sel _ (own 5 1 a39 z.B'n c39 (vbs z.B')) _ from (by repeat (first | exact Sel.keep | exact Sel.here | apply Sel.there))) (p := fun w => HdV.ok w (⟨a39, z.B'n, c39, z.B', true⟩ : HdV)) (fun w h => ⟨hc39, by show z.B'n ≤ 64; omega, ⟨h, hzl⟩⟩)) ?_
      refine SN.imp (Imp.both (p := fun w => ∀ t ∈ hd2, HdV.ok w t.2) (q := fun w => HdV.ok w (⟨a39, z.B'n, c39, z.B', true⟩ : HdV)) (by repeat (first | exact Sel.keep | exact Sel.here | apply Sel.there)) (by repeat (first | exact Sel.keep | exact Sel.here | apply Sel.there))) ?_
      refine SN.imp (Imp.weak (p := fun w => (∀ t ∈ hd2, HdV.ok w t.2) ∧ HdV.ok w (⟨a39, z.B'n, c39, z.B', true⟩ : HdV)) (q := fun w => ∀ t ∈ putT hd2 z.Block' (⟨a39, z.B'n, c39, z.B', true⟩ : HdV), HdV.ok w t.2) (by repeat (first | exact Sel.keep | exact Sel.here | apply Sel.there)) (fun w hw => hputs_ok hw.1 hw.2)) ?_
      refine SN.block ?_
      refine SN.seq ?_
      refine SG.region ?_
      refine SL.val rfl rfl (fun w9 F9 S9 s => R.add rfl rfl (by omega)) ?_
      refine SL.val rfl rfl (fun w9 F9 S9 s => R.mv rfl) ?_
      refine SL.nil ?_
      exact SN.again (⟨i + 1, putT hd2 z.Block' (⟨a39, z.B'n, c39, z.B', true⟩ : HdV)⟩) (by show n - (i + 1) < n - i; omega) (Sub.cons rfl (Sub.cons rfl (Sub.cons rfl (Sub.cons rfl (Sub.nil _))))) ((Imp.sels (by repeat (first | exact Sels.nil | apply Sels.cons | exact Sel.keep | exact Sel.here | apply Sel.there)))) (⟨by show i + 1 ≤ n; omega, by show absP (putT hd2 z.Block' (⟨a39, z.B'n, c39, z.B', true⟩ : HdV)) = _; rw [absP_put, hab, putL_succ (ws_wv hz)]; rfl, by have := putT_len hd2 z.Block' (⟨a39, z.B'n, c39, z.B', true⟩ : HdV); show (putT hd2 z.Block' (⟨a39, z.B'n, c39, z.B', true⟩ : HdV)).length ≤ hd.length + (i + 1); omega⟩)
    · obtain rfl : i = n := by omega
      rw [List.take_of_length_le (by rw [List.length_map]; omega)] at hab
      refine SG.exit _ rfl ?_
      refine SN.seq ?_
      refine SG.seq ?_
      refine SG.region ?_
      refine SL.val rfl rfl (fun w9 F9 S9 s => R.as rfl) ?_
      refine SL.nil ?_
      refine SN.seq ?_
      exact SG.ret1 rfl rfl ((Imp.sels (by repeat (first | exact Sels.nil | apply Sels.cons | exact Sel.keep | exact Sel.here | apply Sel.there)))) (⟨hd2, congrArg (Value.int .i64) hpe.symm, by unfold pputV; rw [if_pos hpe]; exact hab, rfl⟩)

theorem pdirty_ok (p d m sz fr B : Nat) (vv : DevV) (hd : List (Int × HdV)) (hl : hd.length ≤ 10000) : SpecS Try.prog 13 [.pointer (some ⟨p, 0, none⟩)] [blk p [.pointer (some ⟨d, 0, none⟩), .int .i64 (fr : Int), .int .i64 (B : Int), .pointer (some ⟨m, 0, none⟩)] 78, mp (κ := Int) 110 114 2 m (psP hd), sh (fun w => ∀ t ∈ hd, HdV.ok w t.2), dvA d vv sz] (fun v H' => ∃ a c, v = .slice a (dirtyL (absP hd)).length c ∧ H' = [own 3 1 a (dirtyL (absP hd)).length c ((dirtyL (absP hd)).map (Value.int .i64)), blk p [.pointer (some ⟨d, 0, none⟩), .int .i64 (fr : Int), .int .i64 (B : Int), .pointer (some ⟨m, 0, none⟩)] 78, mp (κ := Int) 110 114 2 m (psP hd), sh (fun w => ∀ t ∈ hd, HdV.ok w t.2), dvA d vv sz]) := by
  refine SpecS.enter Try.func13 rfl 22 rfl (Nat.le_of_ble_eq_true rfl) (fun o => ?_)
  refine SG.seq ?_
  refine SG.region ?_
  refine SL.val rfl rfl (fun w9 F9 S9 s => R.as rfl) ?_
  refine SL.nil ?_
  refine SN.seq ?_
  refine SG.seq ?_
  refine SG.seq ?_
  refine SG.region ?_
  refine SL.val rfl rfl (fun w9 F9 S9 s => R.mv rfl) ?_
  refine SL.val rfl rfl (fun w9 F9 S9 s => R.eqNilP rfl rfl) ?_
  refine SL.nil ?_
  refine SN.seq ?_
  refine SG.condF rfl ?_
  refine SG.skip ?_
  refine SN.seq ?_
  refine SG.seq ?_
  refine SG.region ?_
  refine SL.step rfl rfl (CS.alloc [.slice none 0 0] rfl) ?_
  rintro _ _ ⟨b3, rfl, rfl⟩
  refine SL.nil ?_
  refine SN.seq ?_
  refine SG.seq ?_
  refine SG.seq ?_
  refine SG.region ?_
  refine SL.val rfl rfl (fun w9 F9 S9 s => R.mv rfl) ?_
  refine SL.val rfl rfl (fun w9 F9 S9 s => R.nilChk rfl) ?_
  refine SL.val rfl rfl (fun w9 F9 S9 s => R.fld rfl) ?_
  refine SL.val rfl rfl (fun w9 F9 S9 s => R.ldB rfl (s.cel (by repeat (first | exact SelB.blk | exact SelB.fz | apply SelB.there))) (by rfl)) ?_
  refine SL.step rfl rfl (CS.call rfl go38 (oallPoolheldS m (psP hd) (by rw [psP_len]; omega)) (by repeat (first | exact Sels.nil | apply Sels.cons | exact Sel.keep | exact Sel.here | apply Sel.there))) ?_
  rintro _ _ ⟨_, ⟨lb, rfl, rfl⟩, rfl⟩
  refine SL.n2 ?_
  refine SL.nil ?_
  refine SN.seq ?_
  refine SG.block ?_
  refine SG.range rfl rfl go72 (itPoolheld_run lb (psP hd)) (X := RoS) (Y := Unit) (fun k y => [blk b3 [.slice y.a (dirtyL ((absP hd).take k)).length y.c] 38, own 3 1 y.a (dirtyL ((absP hd).take k)).length y.c ((dirtyL ((absP hd).take k)).map (Value.int .i64)), blk p [.pointer (some ⟨d, 0, none⟩), .int .i64 (fr : Int), .int .i64 (B : Int), .pointer (some ⟨m, 0, none⟩)] 78, mp (κ := Int) 110 114 2 m (psP hd), sh (fun w => ∀ t ∈ hd, HdV.ok w t.2), dvA d vv sz]) (fun k y => True) (fun c k _ => []) (fun c k _ => False) (⟨none, 0⟩) (((Imp.ownNil 3 1).trans (Imp.sels (by repeat (first | exact Sels.nil | apply Sels.cons | exact Sel.keep | exact Sel.here | apply Sel.there))))) (trivial) ?_ ?_ ?_
  · rintro l k ⟨a9, c9⟩ vs p hk _ ⟨⟨q, hq, rfl⟩, rfl⟩
    obtain ⟨t, ht, rfl⟩ := psP_at hq
    have htl := (List.getElem?_eq_some_iff.1 ht).1
    have hdl : (dirtyL ((absP hd).take k)).length ≤ k := by have := dirtyL_le ((absP hd).take k); rw [List.length_take] at this; omega
    refine ⟨rfl, ?_⟩
    intro o8
    refine SG.seq ?_
    refine SG.region ?_
    refine SL.val rfl rfl (fun w9 F9 S9 s => R.as rfl) ?_
    refine SL.nil ?_
    refine SN.seq ?_
    refine SG.region ?_
    refine SL.step rfl rfl (CS.alloc [.slice none 0 0, .bool false] rfl) ?_
    rintro _ _ ⟨b5, rfl, rfl⟩
    refine SL.step0 rfl (CS.stA (vs := HdV.cells t.2) rfl rfl (by repeat (first | exact Sel.keep | exact Sel.here | apply Sel.there)) (by rfl) (by rfl) (by intro u hu; exact HdV.one _ u hu)) ?_
    rintro _ _ rfl
    refine SL.nil ?_
    refine SN.roundA (fun o9 => ?_)
    refine SG.block ?_
    refine SG.seq ?_
    refine SG.region ?_
    refine SL.val rfl rfl (fun w9 F9 S9 s => R.fld rfl) ?_
    refine SL.val rfl rfl (fun w9 F9 S9 s => R.ldB (v := .bool t.2.t) rfl (s.cel (by repeat (first | exact SelB.blk | exact SelB.fz | apply SelB.there))) (by rfl)) ?_
    refine SL.nil ?_
    refine SN.seq ?_
    refine SG.condB rfl (fun h1 => ?_) (fun h1 => ?_)
    · refine SG.region ?_
      refine SL.val rfl rfl (fun w9 F9 S9 s => R.ldB (v := .slice a9 (dirtyL ((absP hd).take k)).length c9) rfl (s.cel (by repeat (first | exact SelB.blk | exact SelB.fz | apply SelB.there))) (by rfl)) ?_
      refine SL.val rfl rfl (fun w9 F9 S9 s => R.mv rfl) ?_
      refine SL.step rfl rfl (CS.buildA rfl rfl rfl rfl rfl ([t.1].map (Value.int .i64)) rfl) ?_
      rintro _ _ ⟨b19, rfl, rfl⟩
      refine SL.step rfl rfl (CS.app rfl rfl (by repeat (first | exact Sel.keep | exact Sel.here | apply Sel.there)) (fun w9 F9 S9 s => s.blkC (show Sel _ (blk b19 ([t.1].map (Value.int .i64)) _) _ from (by repeat (first | exact Sel.keep | exact Sel.here | apply Sel.there)))) rfl (by intro u hu; simp at hu; subst hu; rfl) (by simp [maxLen]; omega) (by omega)) ?_
      rintro _ _ ⟨a20, c20, rfl, rfl⟩
      refine SL.step0 rfl (CS.st rfl rfl (show Sel _ (blk b3 _ _) _ from (by repeat (first | exact Sel.keep | exact Sel.here | apply Sel.there))) (by repeat (first | exact SetAt.here | apply SetAt.there)) rfl) ?_
      rintro _ _ rfl
      refine SL.nil ?_
      refine SN.block ?_
      exact SN.next (⟨a20, c20⟩) (show Imp _ _ by dsimp only; rw [dirtyA_succ ht, if_pos h1, List.length_append, List.map_append]; exact (Imp.sels (by repeat (first | exact Sels.nil | apply Sels.cons | exact Sel.keep | exact Sel.here | apply Sel.there)))) trivial
    · refine SG.skip ?_
      refine SN.block ?_
      exact SN.next (⟨a9, c9⟩) (show Imp _ _ by dsimp only; rw [dirtyA_succ ht, if_neg (by simpa using h1), List.append_nil]; exact (Imp.sels (by repeat (first | exact Sels.nil | apply Sels.cons | exact Sel.keep | exact Sel.here | apply Sel.there)))) trivial
  · rintro d2 ⟨a9, c9⟩ _
    rw [List.take_of_length_le (show (absP hd).length ≤ (psP hd).length by rw [absP_len, psP_len]; exact Nat.le_refl _)]
    refine SN.block ?_
    refine SN.seq ?_
    refine SG.seq ?_
    refine SG.region ?_
    refine SL.val rfl rfl (fun w9 F9 S9 s => R.ldB (v := .slice a9 (dirtyL (absP hd)).length c9) rfl (s.cel (by repeat (first | exact SelB.blk | exact SelB.fz | apply SelB.there))) (by rfl)) ?_
    refine SL.val rfl rfl (fun w9 F9 S9 s => R.as rfl) ?_
    refine SL.nil ?_
    refine SN.seq ?_
    exact SG.ret1M rfl rfl (by repeat (first | exact Dfrs.nil | apply Dfrs.cons | exact Sel.here | apply Sel.there)) ((Imp.sels (by repeat (first | exact Sels.nil | apply Sels.cons | exact Sel.keep | exact Sel.here | apply Sel.there)))) (⟨a9, c9, rfl, rfl⟩)
  · rintro d k c _ hk ⟨⟩

end Go.Proofs.Ytmbppidafnakhaa
/-
  The walks of package pool.
-/
set_option linter.unusedVariables false
set_option linter.unusedSimpArgs false
set_option maxRecDepth 4000
namespace Go.Proofs.Ytmbppidafnakhaa
open Go Brv Brv.Image Brv.Dev
structure SvS where
  i : Nat
  v : DevV
theorem dirtyK {hd : List (Int × HdV)} {B : Nat} (h : ∀ t ∈ hd, 0 ≤ t.1 ∧ t.1 < (B : Int)) : ∀ k ∈ dirtyL (absP hd), 0 ≤ k ∧ k < (B : Int) := by
  intro k hk
  unfold dirtyL absP mapT at hk
  obtain ⟨t, ht, rfl⟩ := List.mem_map.1 hk
  obtain ⟨u, hu, rfl⟩ := List.mem_map.1 (List.mem_filter.1 ht).1
  exact h u hu
theorem ints_pt {w : World} {a : Option Addr} {l : List Int} {i : Nat} {k : Int} (h : Cells w a (l.map (Value.int .i64))) (hk : l[i]? = some k) : ∃ q, a = some q :=
  let ⟨q, hq, _⟩ := h i (.int .i64 k) (by rw [List.getElem?_map, hk]; rfl); ⟨q, hq⟩
theorem ints_ld {w : World} {a : Option Addr} {l : List Int} {i : Nat} {k : Int} {q : Addr} (h : Cells w a (l.map (Value.int .i64))) (hq : a = some q) (hk : l[i]? = some k) : w.cell? (q.add ((i : Int).toNat * 1)) = some (.int .i64 k) := by
  obtain ⟨p, hp, hc⟩ := h i (.int .i64 k) (by rw [List.getElem?_map, hk]; rfl)
  rw [hq] at hp; cases hp
  rw [Int.toNat_natCast, Nat.mul_one]; exact hc
theorem wr_bd {v : DevV} {sz : Nat} {p : Int} {l : List UInt8} (hl : l.length ≤ 64) : v.calls ≤ (writeV v sz p l).1.calls ∧ (writeV v sz p l).1.calls ≤ v.calls + 1 ∧ (writeV v sz p l).1.wt.length ≤ v.wt.length + 1 := by
  have h := writeV_bd v sz p l
  have : dn l ≤ 1 := by unfold dn; omega
  exact ⟨h.1, h.2.1, by have := h.2.2; omega⟩
theorem svPost {M : Hd} {vv v1 : DevV} {sz fr : Nat} {e : Int} {hd' : List (Int × HdV)} {K : List Asn} {A : List (Int × HdV) → DevV → List Asn} (h : psaveV M vv sz fr = ((absP hd', v1), e)) (hK : K = A hd' v1) : ∃ hd', Value.int .i64 e = .int .i64 (psaveV M vv sz fr).2 ∧ absP hd' = (psaveV M vv sz fr).1.1 ∧ K = A hd' (psaveV M vv sz fr).1.2 := by
  rw [h]; exact ⟨hd', rfl, rfl, hK⟩

theorem psave_okS (p d m sz fr B : Nat) (vv : DevV) (hd : List (Int × HdV)) (hfr : fr ≤ 4096) (hB : B ≤ 64) (hky : ∀ t ∈ hd, 0 ≤ t.1 ∧ t.1 < (B : Int)) (hl : hd.length ≤ 10000) (hcb : 0 ≤ vv.calls ∧ vv.calls ≤ 100000000) (hwb : vv.wt.length ≤ 100000) : SpecS Try.prog 10 [.pointer (some ⟨p, 0, none⟩)] [blk p [.pointer (some ⟨d, 0, none⟩), .int .i64 (fr : Int), .int .i64 (B : Int), .pointer (some ⟨m, 0, none⟩)] 78, mp (κ := Int) 110 114 2 m (psP hd), sh (fun w => ∀ t ∈ hd, HdV.ok w t.2), dvA d vv sz] (fun v H' => ∃ hd', v = .int .i64 (psaveV (absP hd) vv sz fr).2 ∧ absP hd' = (psaveV (absP hd) vv sz fr).1.1 ∧ H' = [blk p [.pointer (some ⟨d, 0, none⟩), .int .i64 (fr : Int), .int .i64 (B : Int), .pointer (some ⟨m, 0, none⟩)] 78, mp (κ := Int) 110 114 2 m (psP hd'), sh (fun w => ∀ t ∈ hd', HdV.ok w t.2), dvA d (psaveV (absP hd) vv sz fr).1.2 sz]) := by
  refine SpecS.enter Try.func10 rfl 83 rfl (Nat.le_of_ble_eq_true rfl) (fun o => ?_)
  refine SG.seq ?_
  refine SG.region ?_
  refine SL.val rfl rfl (fun w9 F9 S9 s => R.as rfl) ?_
  refine SL.nil ?_
  refine SN.seq ?_
  refine SG.seq ?_
  refine SG.seq ?_
  refine SG.region ?_
  refine SL.val rfl rfl (fun w9 F9 S9 s => R.mv rfl) ?_
  refine SL.val rfl rfl (fun w9 F9 S9 s => R.eqNilP rfl rfl) ?_
  refine SL.nil ?_
  refine SN.seq ?_
  refine SG.condF rfl ?_
  refine SG.skip ?_
  refine SN.seq ?_
  refine SG.seq ?_
  refine SG.region ?_
  refine SL.val rfl rfl (fun w9 F9 S9 s => R.mv rfl) ?_
  refine SL.step rfl rfl (CS.call rfl go13 (pdirty_ok p d m sz fr B vv hd hl) (by repeat (first | exact Sels.nil | apply Sels.cons | exact Sel.keep | exact Sel.here | apply Sel.there))) ?_
  rintro _ _ ⟨_, ⟨a9, c9, rfl, rfl⟩, rfl⟩
  refine SL.n5 ?_
  refine SL.val rfl rfl (fun w9 F9 S9 s => R.as rfl) ?_
  refine SL.nil ?_
  have hdl := dirtyL_le (absP hd)
  rw [absP_len] at hdl
  refine SN.imp (Imp.ownSh (show Sel _ (own 3 1 a9 (dirtyL (absP hd)).length c9 ((dirtyL (absP hd)).map (Value.int .i64))) _ from (by repeat (first | exact Sel.keep | exact Sel.here | apply Sel.there))) (p := fun w => Cells w a9 ((dirtyL (absP hd)).map (Value.int .i64))) (fun w h => h)) ?_
  refine SN.seq ?_
  refine SG.seq ?_
  refine SG.seq ?_
  refine SG.region ?_
  refine SL.val rfl rfl (fun w9 F9 S9 s => R.mv rfl) ?_
  refine SL.val rfl rfl (fun w9 F9 S9 s => R.lenS rfl) ?_
  refine SL.val rfl rfl (fun w9 F9 S9 s => R.mv rfl) ?_
  refine SL.nil ?_
  refine SN.seq ?_
  refine SG.block ?_
  refine SG.loop (X := SvS) (fun y => [(0, .pointer (some ⟨p, 0, none⟩)), (3, .slice a9 (dirtyL (absP hd)).length c9), (18, .slice a9 (dirtyL (absP hd)).length c9), (19, .int .i64 ((dirtyL (absP hd)).length : Int)), (20, .int .i64 (y.i : Int))]) (fun y => [blk p [.pointer (some ⟨d, 0, none⟩), .int .i64 (fr : Int), .int .i64 (B : Int), .pointer (some ⟨m, 0, none⟩)] 78, mp (κ := Int) 110 114 2 m (psP hd), sh (fun w => ∀ t ∈ hd, HdV.ok w t.2), dvA d y.v sz, sh (fun w => Cells w a9 ((dirtyL (absP hd)).map (Value.int .i64)))]) (fun y => y.i ≤ (dirtyL (absP hd)).length ∧ svL (absP hd) vv sz fr ((dirtyL (absP hd)).take y.i) = (y.v, 0) ∧ 0 ≤ y.v.calls ∧ y.v.calls ≤ vv.calls + (y.i : Int) ∧ y.v.wt.length ≤ vv.wt.length + y.i) (fun y => (dirtyL (absP hd)).length - y.i) (⟨0, vv⟩) (Sub.cons rfl (Sub.cons rfl (Sub.cons rfl (Sub.cons rfl (Sub.cons rfl (Sub.nil _)))))) ((Imp.sels (by repeat (first | exact Sels.nil | apply Sels.cons | exact Sel.keep | exact Sel.here | apply Sel.there)))) (⟨Nat.zero_le _, rfl, hcb.1, by show vv.calls ≤ vv.calls + ((0 : Nat) : Int); omega, by show vv.wt.length ≤ vv.wt.length + 0; omega⟩) ?_
  rintro ⟨i, v1⟩ ⟨hi, hsv, hc1, hc2, hc3⟩
  dsimp only at hi hsv hc1 hc2 hc3
  show SG _ _ _ _ _ [(0, .pointer (some ⟨p, 0, none⟩)), (3, .slice a9 (dirtyL (absP hd)).length c9), (18, .slice a9 (dirtyL (absP hd)).length c9), (19, .int .i64 ((dirtyL (absP hd)).length : Int)), (20, .int .i64 (i : Int))] [blk p [.pointer (some ⟨d, 0, none⟩), .int .i64 (fr : Int), .int .i64 (B : Int), .pointer (some ⟨m, 0, none⟩)] 78, mp (κ := Int) 110 114 2 m (psP hd), sh (fun w => ∀ t ∈ hd, HdV.ok w t.2), dvA d v1 sz, sh (fun w => Cells w a9 ((dirtyL (absP hd)).map (Value.int .i64)))] _
  refine SG.seq ?_
  refine SG.region ?_
  refine SL.val rfl rfl (fun w9 F9 S9 s => R.lss rfl rfl) ?_
  refine SL.nil ?_
  refine SN.seq ?_
  refine SG.seq ?_
  refine SG.condP rfl (fun h1 => ?_) (fun h1 => ?_)
  · obtain ⟨k, hk⟩ : ∃ k, (dirtyL (absP hd))[i]? = some k := ⟨_, List.getElem?_eq_getElem (by omega)⟩
    refine SG.fact (fun w9 F9 S9 s => ints_pt (s.sh (p := fun w => Cells w a9 ((dirtyL (absP hd)).map (Value.int .i64))) (by repeat (first | exact Sel.keep | exact Sel.here | apply Sel.there))) hk) (fun hf9 => ?_)
    obtain ⟨q, hq⟩ := hf9
    obtain ⟨hk0, hkB⟩ := dirtyK hky k (List.mem_of_getElem? hk)
    refine SG.skip ?_
    refine SN.seq ?_
    refine SG.seq ?_
    refine SG.block ?_
    refine SG.seq ?_
    refine SG.region ?_
    refine SL.val rfl rfl (fun w9 F9 S9 s => R.idx rfl rfl (by omega) (by omega) q hq) ?_
    refine SL.val rfl rfl (fun w9 F9 S9 s => R.ld (v := .int .i64 k) rfl (ints_ld (s.sh (p := fun w => Cells w a9 ((dirtyL (absP hd)).map (Value.int .i64))) (by repeat (first | exact Sel.keep | exact Sel.here | apply Sel.there))) hq hk)) ?_
    refine SL.val rfl rfl (fun w9 F9 S9 s => R.as rfl) ?_
    refine SL.nil ?_
    refine SN.seq ?_
    refine SG.seq ?_
    refine SG.region ?_
    refine SL.val rfl rfl (fun w9 F9 S9 s => R.mv rfl) ?_
    refine SL.val rfl rfl (fun w9 F9 S9 s => R.nilChk rfl) ?_
    refine SL.val rfl rfl (fun w9 F9 S9 s => R.fld rfl) ?_
    refine SL.val rfl rfl (fun w9 F9 S9 s => R.ldB rfl (s.cel (by repeat (first | exact SelB.blk | exact SelB.fz | apply SelB.there))) (by rfl)) ?_
    refine SL.val rfl rfl (fun w9 F9 S9 s => R.mv rfl) ?_
    refine SL.step rfl rfl (CS.callR rfl go32 (fun w9 F9 S9 s => (s.mp (show Sel _ (mp (κ := Int) 110 114 2 m (psP hd)) _ from (by repeat (first | exact Sel.keep | exact Sel.here | apply Sel.there)))).elim fun S9 h9 => pgetX m hd k S9 w9 h9 (by omega))) ?_
    rintro _ _ ⟨rfl, rfl⟩
    refine SL.val rfl rfl (fun w9 F9 S9 s => R.mv rfl) ?_
    refine SL.val rfl rfl (fun w9 F9 S9 s => R.ext rfl rfl) ?_
    refine SL.val rfl rfl (fun w9 F9 S9 s => R.ext rfl rfl) ?_
    refine SL.step rfl rfl (CS.alloc [.slice none 0 0, .bool false] rfl) ?_
    rintro _ _ ⟨b6, rfl, rfl⟩
    refine SL.step0 rfl (CS.stA (vs := HdV.cells (ofH hd k)) rfl rfl (by repeat (first | exact Sel.keep | exact Sel.here | apply Sel.there)) (by rfl) (by rfl) (by intro u hu; exact HdV.one _ u hu)) ?_
    rintro _ _ rfl
    refine SL.val rfl rfl (fun w9 F9 S9 s => R.as rfl) ?_
    refine SL.nil ?_
    refine SN.fact (fun w9 F9 S9 s => (ofH_ok (s.sh (p := fun w => ∀ t ∈ hd, HdV.ok w t.2) (by repeat (first | exact Sel.keep | exact Sel.here | apply Sel.there))) k).1) (fun hf9 => ?_)
    have hnc := hf9; clear hf9
    refine SN.fact (fun w9 F9 S9 s => (ofH_ok (s.sh (p := fun w => ∀ t ∈ hd, HdV.ok w t.2) (by repeat (first | exact Sel.keep | exact Sel.here | apply Sel.there))) k).2.1) (fun hf9 => ?_)
    have hn64 := hf9; clear hf9
    refine SN.fact (fun w9 F9 S9 s => (ofH_ok (s.sh (p := fun w => ∀ t ∈ hd, HdV.ok w t.2) (by repeat (first | exact Sel.keep | exact Sel.here | apply Sel.there))) k).2.2.len) (fun hf9 => ?_)
    have hdn := hf9; clear hf9
    refine SN.imp (Imp.weak (p := fun w => ∀ t ∈ hd, HdV.ok w t.2) (q := fun w => Bs w (ofH hd k).a (ofH hd k).n (ofH hd k).d) (by repeat (first | exact Sel.keep | exact Sel.here | apply Sel.there)) (fun w hw => (ofH_ok hw k).2.2)) ?_
    obtain ⟨hw1, hw2, hw3⟩ := wr_bd (v := v1) (sz := sz) (p := (fr : Int) + k) (l := (ofH hd k).d) (by omega)
    have hsn := svL_succ hk hsv
    rw [valH_abs] at hsn
    refine SN.seq ?_
    refine SG.seq ?_
    refine SG.draw [12] [0, 1, 2, 3, 4, 5, 6, 7, 8, 9, 10, 11, 12, 13] (by decide +kernel) rfl ?_
    refine SW.pure rfl rfl rfl rfl (fun w9 => R.mv rfl) ?_
    refine SW.pure rfl rfl rfl rfl (fun w9 => R.nilChk rfl) ?_
    refine SW.pure rfl rfl rfl rfl (fun w9 => R.fld rfl) ?_
    refine SW.read rfl rfl rfl rfl (fun w9 F9 S9 s => R.ldB rfl (s.cel (by repeat (first | exact SelB.blk | exact SelB.fz | apply SelB.there))) (by rfl)) ?_
    refine SW.pure rfl rfl rfl rfl (fun w9 => R.mv rfl) ?_
    refine SW.pure rfl rfl rfl rfl (fun w9 => R.nilChk rfl) ?_
    refine SW.pure rfl rfl rfl rfl (fun w9 => R.fld rfl) ?_
    refine SW.read rfl rfl rfl rfl (fun w9 F9 S9 s => R.ldB rfl (s.cel (by repeat (first | exact SelB.blk | exact SelB.fz | apply SelB.there))) (by rfl)) ?_
    refine SW.pure rfl rfl rfl rfl (fun w9 => R.mv rfl) ?_
    refine SW.pure rfl rfl rfl rfl (fun w9 => R.add rfl rfl (by omega)) ?_
    refine SW.pure rfl rfl rfl rfl (fun w9 => R.fld rfl) ?_
    refine SW.read rfl rfl rfl rfl (fun w9 F9 S9 s => R.ldB (v := .slice (ofH hd k).a (ofH hd k).n (ofH hd k).c) rfl (s.cel (by repeat (first | exact SelB.blk | exact SelB.fz | apply SelB.there))) (by rfl)) ?_
    refine SW.step rfl rfl rfl rfl (CS.call rfl go33 (dwriteS d v1 sz ((fr : Int) + k) (ofH hd k).a (ofH hd k).n (ofH hd k).c (ofH hd k).d ⟨hc1, by omega⟩ (by omega) hnc (by omega)) (by repeat (first | exact Sels.nil | apply Sels.cons | exact Sel.keep | exact Sel.here | apply Sel.there))) ?_
    rintro _ _ ⟨_, ⟨rfl, rfl⟩, rfl⟩
    refine ⟨⟨.inl (by decide +kernel), ⟨.inl (by decide +kernel), ⟨.inl (by decide +kernel), trivial⟩⟩⟩, ?_⟩
    refine SW.n1 ?_
    refine SW.pure rfl rfl rfl rfl (fun w9 => R.as rfl) ?_
    refine SW.nil ?_
    refine SN.seq ?_
    refine SG.seq ?_
    refine SG.region ?_
    refine SL.val rfl rfl (fun w9 F9 S9 s => R.mv rfl) ?_
    refine SL.val rfl rfl (fun w9 F9 S9 s => R.neI rfl rfl) ?_
    refine SL.nil ?_
    refine SN.seq ?_
    refine SG.condP rfl (fun h2 => ?_) (fun h2 => ?_)
    · have hst := svL_stuck (ks := (dirtyL (absP hd))) (i := i + 1) (by rw [hsn]; exact h2)
      rw [hsn] at hst
      refine SG.seq ?_
      refine SG.region ?_
      refine SL.val rfl rfl (fun w9 F9 S9 s => R.mv rfl) ?_
      refine SL.val rfl rfl (fun w9 F9 S9 s => R.as rfl) ?_
      refine SL.nil ?_
      refine SN.seq ?_
      exact SG.ret1 rfl rfl ((Imp.sels (by repeat (first | exact Sels.nil | apply Sels.cons | exact Sel.keep | exact Sel.here | apply Sel.there)))) (svPost (A := (fun hd vv => [blk p [.pointer (some ⟨d, 0, none⟩), .int .i64 (fr : Int), .int .i64 (B : Int), .pointer (some ⟨m, 0, none⟩)] 78, mp (κ := Int) 110 114 2 m (psP hd), sh (fun w => ∀ t ∈ hd, HdV.ok w t.2), dvA d vv sz])) (hd' := hd) (psave_err hst h2) rfl)
    · have hsv2 : svL (absP hd) vv sz fr ((dirtyL (absP hd)).take (i + 1)) = ((writeV v1 sz ((fr : Int) + k) (ofH hd k).d).1, 0) := by rw [hsn]; exact Prod.ext rfl (Classical.not_not.1 h2)
      refine SG.skip ?_
      refine SN.block ?_
      refine SN.seq ?_
      refine SG.region ?_
      refine SL.val rfl rfl (fun w9 F9 S9 s => R.add rfl rfl (by omega)) ?_
      refine SL.val rfl rfl (fun w9 F9 S9 s => R.mv rfl) ?_
      refine SL.nil ?_
      exact SN.again (⟨i + 1, (writeV v1 sz ((fr : Int) + k) (ofH hd k).d).1⟩) (by show (dirtyL (absP hd)).length - (i + 1) < (dirtyL (absP hd)).length - i; omega) (Sub.cons rfl (Sub.cons rfl (Sub.cons rfl (Sub.cons rfl (Sub.cons rfl (Sub.nil _)))))) ((Imp.sels (by repeat (first | exact Sels.nil | apply Sels.cons | exact Sel.keep | exact Sel.here | apply Sel.there)))) (⟨by show i + 1 ≤ _; omega, hsv2, by show 0 ≤ (writeV v1 sz ((fr : Int) + k) (ofH hd k).d).1.calls; omega, by show (writeV v1 sz ((fr : Int) + k) (ofH hd k).d).1.calls ≤ vv.calls + ((i + 1 : Nat) : Int); omega, by show (writeV v1 sz ((fr : Int) + k) (ofH hd k).d).1.wt.length ≤ vv.wt.length + (i + 1); omega⟩)
  · obtain rfl : i = (dirtyL (absP hd)).length := by omega
    rw [List.take_length] at hsv
    refine SG.exit _ rfl ?_
    refine SN.seq ?_
    refine SG.seq ?_
    refine SG.seq ?_
    refine SG.region ?_
    refine SL.val rfl rfl (fun w9 F9 S9 s => R.mv rfl) ?_
    refine SL.val rfl rfl (fun w9 F9 S9 s => R.nilChk rfl) ?_
    refine SL.val rfl rfl (fun w9 F9 S9 s => R.fld rfl) ?_
    refine SL.val rfl rfl (fun w9 F9 S9 s => R.ldB rfl (s.cel (by repeat (first | exact SelB.blk | exact SelB.fz | apply SelB.there))) (by rfl)) ?_
    refine SL.step rfl rfl (CS.call rfl go34 (dflushS d v1 sz ⟨hc1, by omega⟩ (by omega)) (by repeat (first | exact Sels.nil | apply Sels.cons | exact Sel.keep | exact Sel.here | apply Sel.there))) ?_
    rintro _ _ ⟨_, ⟨rfl, rfl⟩, rfl⟩
    refine SL.n1 ?_
    refine SL.val rfl rfl (fun w9 F9 S9 s => R.as rfl) ?_
    refine SL.nil ?_
    refine SN.seq ?_
    refine SG.seq ?_
    refine SG.region ?_
    refine SL.val rfl rfl (fun w9 F9 S9 s => R.mv rfl) ?_
    refine SL.val rfl rfl (fun w9 F9 S9 s => R.neI rfl rfl) ?_
    refine SL.nil ?_
    refine SN.seq ?_
    refine SG.condP rfl (fun h3 => ?_) (fun h3 => ?_)
    · refine SG.seq ?_
      refine SG.region ?_
      refine SL.val rfl rfl (fun w9 F9 S9 s => R.mv rfl) ?_
      refine SL.val rfl rfl (fun w9 F9 S9 s => R.as rfl) ?_
      refine SL.nil ?_
      refine SN.seq ?_
      exact SG.ret1 rfl rfl ((Imp.sels (by repeat (first | exact Sels.nil | apply Sels.cons | exact Sel.keep | exact Sel.here | apply Sel.there)))) (svPost (A := (fun hd vv => [blk p [.pointer (some ⟨d, 0, none⟩), .int .i64 (fr : Int), .int .i64 (B : Int), .pointer (some ⟨m, 0, none⟩)] 78, mp (κ := Int) 110 114 2 m (psP hd), sh (fun w => ∀ t ∈ hd, HdV.ok w t.2), dvA d vv sz])) (hd' := hd) (psave_fl hsv h3) rfl)
    · have hso := psave_ok hsv (Classical.not_not.1 h3)
      refine SG.skip ?_
      refine SN.seq ?_
      refine SG.seq ?_
      refine SG.seq ?_
      refine SG.region ?_
      refine SL.val rfl rfl (fun w9 F9 S9 s => R.mv rfl) ?_
      refine SL.val rfl rfl (fun w9 F9 S9 s => R.lenS rfl) ?_
      refine SL.val rfl rfl (fun w9 F9 S9 s => R.mv rfl) ?_
      refine SL.nil ?_
      refine SN.seq ?_
      refine SG.block ?_
      refine SG.loop (X := PuS) (fun y => [(0, .pointer (some ⟨p, 0, none⟩)), (58, .slice a9 (dirtyL (absP hd)).length c9), (59, .int .i64 ((dirtyL (absP hd)).length : Int)), (60, .int .i64 (y.i : Int))]) (fun y => [blk p [.pointer (some ⟨d, 0, none⟩), .int .i64 (fr : Int), .int .i64 (B : Int), .pointer (some ⟨m, 0, none⟩)] 78, mp (κ := Int) 110 114 2 m (psP y.hd), sh (fun w => ∀ t ∈ y.hd, HdV.ok w t.2), dvA d (flushV v1).1 sz, sh (fun w => Cells w a9 ((dirtyL (absP hd)).map (Value.int .i64)))]) (fun y => y.i ≤ (dirtyL (absP hd)).length ∧ absP y.hd = clean (absP hd) ((dirtyL (absP hd)).take y.i) ∧ y.hd.length ≤ hd.length + y.i) (fun y => (dirtyL (absP hd)).length - y.i) (⟨0, hd⟩) (Sub.cons rfl (Sub.cons rfl (Sub.cons rfl (Sub.cons rfl (Sub.nil _))))) ((Imp.sels (by repeat (first | exact Sels.nil | apply Sels.cons | exact Sel.keep | exact Sel.here | apply Sel.there)))) (⟨Nat.zero_le _, rfl, Nat.le_refl _⟩) ?_
      rintro ⟨i, hd2⟩ ⟨hi, hab, hlen⟩
      dsimp only at hi hab hlen
      show SG _ _ _ _ _ [(0, .pointer (some ⟨p, 0, none⟩)), (58, .slice a9 (dirtyL (absP hd)).length c9), (59, .int .i64 ((dirtyL (absP hd)).length : Int)), (60, .int .i64 (i : Int))] [blk p [.pointer (some ⟨d, 0, none⟩), .int .i64 (fr : Int), .int .i64 (B : Int), .pointer (some ⟨m, 0, none⟩)] 78, mp (κ := Int) 110 114 2 m (psP hd2), sh (fun w => ∀ t ∈ hd2, HdV.ok w t.2), dvA d (flushV v1).1 sz, sh (fun w => Cells w a9 ((dirtyL (absP hd)).map (Value.int .i64)))] _
      refine SG.seq ?_
      refine SG.region ?_
      refine SL.val rfl rfl (fun w9 F9 S9 s => R.lss rfl rfl) ?_
      refine SL.nil ?_
      refine SN.seq ?_
      refine SG.seq ?_
      refine SG.condP rfl (fun h4 => ?_) (fun h4 => ?_)
      · obtain ⟨k, hk⟩ : ∃ k, (dirtyL (absP hd))[i]? = some k := ⟨_, List.getElem?_eq_getElem (by omega)⟩
        refine SG.fact (fun w9 F9 S9 s => ints_pt (s.sh (p := fun w => Cells w a9 ((dirtyL (absP hd)).map (Value.int .i64))) (by repeat (first | exact Sel.keep | exact Sel.here | apply Sel.there))) hk) (fun hf9 => ?_)
        obtain ⟨q, hq⟩ := hf9
        obtain ⟨hk0, hkB⟩ := dirtyK hky k (List.mem_of_getElem? hk)
        refine SG.skip ?_
        refine SN.seq ?_
        refine SG.seq ?_
        refine SG.block ?_
        refine SG.seq ?_
        refine SG.region ?_
        refine SL.val rfl rfl (fun w9 F9 S9 s => R.idx rfl rfl (by omega) (by omega) q hq) ?_
        refine SL.val rfl rfl (fun w9 F9 S9 s => R.ld (v := .int .i64 k) rfl (ints_ld (s.sh (p := fun w => Cells w a9 ((dirtyL (absP hd)).map (Value.int .i64))) (by repeat (first | exact Sel.keep | exact Sel.here | apply Sel.there))) hq hk)) ?_
        refine SL.val rfl rfl (fun w9 F9 S9 s => R.as rfl) ?_
        refine SL.nil ?_
        refine SN.seq ?_
        refine SG.seq ?_
        refine SG.region ?_
        refine SL.val rfl rfl (fun w9 F9 S9 s => R.mv rfl) ?_
        refine SL.val rfl rfl (fun w9 F9 S9 s => R.nilChk rfl) ?_
        refine SL.val rfl rfl (fun w9 F9 S9 s => R.fld rfl) ?_
        refine SL.val rfl rfl (fun w9 F9 S9 s => R.ldB rfl (s.cel (by repeat (first | exact SelB.blk | exact SelB.fz | apply SelB.there))) (by rfl)) ?_
        refine SL.val rfl rfl (fun w9 F9 S9 s => R.mv rfl) ?_
        refine SL.step rfl rfl (CS.callR rfl go32 (fun w9 F9 S9 s => (s.mp (show Sel _ (mp (κ := Int) 110 114 2 m (psP hd2)) _ from (by repeat (first | exact Sel.keep | exact Sel.here | apply Sel.there)))).elim fun S9 h9 => pgetX m hd2 k S9 w9 h9 (by omega))) ?_
        rintro _ _ ⟨rfl, rfl⟩
        refine SL.val rfl rfl (fun w9 F9 S9 s => R.mv rfl) ?_
        refine SL.val rfl rfl (fun w9 F9 S9 s => R.ext rfl rfl) ?_
        refine SL.val rfl rfl (fun w9 F9 S9 s => R.ext rfl rfl) ?_
        refine SL.step rfl rfl (CS.alloc [.slice none 0 0, .bool false] rfl) ?_
        rintro _ _ ⟨b12, rfl, rfl⟩
        refine SL.step0 rfl (CS.stA (vs := HdV.cells (ofH hd2 k)) rfl rfl (by repeat (first | exact Sel.keep | exact Sel.here | apply Sel.there)) (by rfl) (by rfl) (by intro u hu; exact HdV.one _ u hu)) ?_
        rintro _ _ rfl
        refine SL.val rfl rfl (fun w9 F9 S9 s => R.as rfl) ?_
        refine SL.nil ?_
        refine SN.seq ?_
        refine SG.draw [8] [0, 1, 2, 3, 4, 5, 6, 7, 8] (by decide +kernel) rfl ?_
        refine SW.pure rfl rfl rfl rfl (fun w9 => R.mv rfl) ?_
        refine SW.pure rfl rfl rfl rfl (fun w9 => R.nilChk rfl) ?_
        refine SW.pure rfl rfl rfl rfl (fun w9 => R.fld rfl) ?_
        refine SW.read rfl rfl rfl rfl (fun w9 F9 S9 s => R.ldB rfl (s.cel (by repeat (first | exact SelB.blk | exact SelB.fz | apply SelB.there))) (by rfl)) ?_
        refine SW.pure rfl rfl rfl rfl (fun w9 => R.mv rfl) ?_
        refine SW.pure rfl rfl rfl rfl (fun w9 => R.fld rfl) ?_
        refine SW.read rfl rfl rfl rfl (fun w9 F9 S9 s => R.ldB (v := .slice (ofH hd2 k).a (ofH hd2 k).n (ofH hd2 k).c) rfl (s.cel (by repeat (first | exact SelB.blk | exact SelB.fz | apply SelB.there))) (by rfl)) ?_
        refine SW.pure rfl rfl rfl rfl (fun w9 => R.build (cs := (HdV.cells (⟨(ofH hd2 k).a, (ofH hd2 k).n, (ofH hd2 k).c, (ofH hd2 k).d, false⟩ : HdV)).toArray) rfl rfl) ?_
        refine SW.step rfl rfl rfl rfl (CS.call rfl go30 (pputX m hd2 k (⟨(ofH hd2 k).a, (ofH hd2 k).n, (ofH hd2 k).c, (ofH hd2 k).d, false⟩ : HdV) (by omega)) (by repeat (first | exact Sels.nil | apply Sels.cons | exact Sel.keep | exact Sel.here | apply Sel.there))) ?_
        rintro _ _ ⟨_, ⟨rfl, rfl⟩, rfl⟩
        refine ⟨⟨.inl (by decide +kernel), ⟨.inl (by decide +kernel), trivial⟩⟩, ?_⟩
        refine SW.n1 ?_
        refine SW.nil ?_
        refine SN.imp (Imp.weak (p := fun w => ∀ t ∈ hd2, HdV.ok w t.2) (q := fun w => ∀ t ∈ putT hd2 k (⟨(ofH hd2 k).a, (ofH hd2 k).n, (ofH hd2 k).c, (ofH hd2 k).d, false⟩ : HdV), HdV.ok w t.2) (by repeat (first | exact Sel.keep | exact Sel.here | apply Sel.there)) (fun w hw => hputs_ok hw ⟨(ofH_ok hw k).1, (ofH_ok hw k).2.1, (ofH_ok hw k).2.2⟩)) ?_
        refine SN.block ?_
        refine SN.seq ?_
        refine SG.region ?_
        refine SL.val rfl rfl (fun w9 F9 S9 s => R.add rfl rfl (by omega)) ?_
        refine SL.val rfl rfl (fun w9 F9 S9 s => R.mv rfl) ?_
        refine SL.nil ?_
        exact SN.again (⟨i + 1, putT hd2 k (⟨(ofH hd2 k).a, (ofH hd2 k).n, (ofH hd2 k).c, (ofH hd2 k).d, false⟩ : HdV)⟩) (by show (dirtyL (absP hd)).length - (i + 1) < (dirtyL (absP hd)).length - i; omega) (Sub.cons rfl (Sub.cons rfl (Sub.cons rfl (Sub.cons rfl (Sub.nil _))))) ((Imp.sels (by repeat (first | exact Sels.nil | apply Sels.cons | exact Sel.keep | exact Sel.here | apply Sel.there)))) (⟨by show i + 1 ≤ _; omega, by show absP (putT hd2 k (⟨(ofH hd2 k).a, (ofH hd2 k).n, (ofH hd2 k).c, (ofH hd2 k).d, false⟩ : HdV)) = _; rw [absP_put, clean_succ hk, ← hab, valH_abs], by have := putT_len hd2 k (⟨(ofH hd2 k).a, (ofH hd2 k).n, (ofH hd2 k).c, (ofH hd2 k).d, false⟩ : HdV); show (putT hd2 k (⟨(ofH hd2 k).a, (ofH hd2 k).n, (ofH hd2 k).c, (ofH hd2 k).d, false⟩ : HdV)).length ≤ hd.length + (i + 1); omega⟩)
      · obtain rfl : i = (dirtyL (absP hd)).length := by omega
        rw [List.take_length] at hab
        refine SG.exit _ rfl ?_
        refine SN.seq ?_
        refine SG.seq ?_
        refine SG.region ?_
        refine SL.val rfl rfl (fun w9 F9 S9 s => R.as rfl) ?_
        refine SL.nil ?_
        refine SN.seq ?_
        exact SG.ret1 rfl rfl ((Imp.sels (by repeat (first | exact Sels.nil | apply Sels.cons | exact Sel.keep | exact Sel.here | apply Sel.there)))) (svPost (A := (fun hd vv => [blk p [.pointer (some ⟨d, 0, none⟩), .int .i64 (fr : Int), .int .i64 (B : Int), .pointer (some ⟨m, 0, none⟩)] 78, mp (κ := Int) 110 114 2 m (psP hd), sh (fun w => ∀ t ∈ hd, HdV.ok w t.2), dvA d vv sz])) (hd' := hd2) (by rw [hso, hab]) rfl)

end Go.Proofs.Ytmbppidafnakhaa
/-
  The walks of package image.
-/
set_option linter.unusedVariables false
set_option linter.unusedSimpArgs false
namespace Go.Proofs.Ytmbppidafnakhaa
open Go Brv Brv.Image
theorem ifrom_okF (a : Option Addr) (n c : Nat) (l : List UInt8) (w : World) (hb : Bs w a n l) (hc : n ≤ c) (hv : l.length = 64 * dn l ∧ 1 ≤ dn l ∧ dn l ≤ 64) : Meets Try.prog 35 [.slice a n c] w (fun v w' => ∃ d, v = .tuple #[ptr d, .int .i64 0] ∧ Ext [] w w' ∧ DiskF w' w.heap.size d l) := by
  refine Meets.enter Try.func35 rfl 47 rfl (Nat.le_of_ble_eq_true rfl) ?_
  have E := Ext.refl [] w
  have hl := hb.len
  have hdl : dn l = l.length / 64 := rfl
  obtain ⟨hv1, hv2, hv3⟩ := hv
  refine G.seq ?_
  refine G.region ?_
  refine L.val rfl rfl (R.as rfl) ?_
  refine L.val rfl rfl (R.as rfl) ?_
  refine L.nil ?_
  refine N.seq ?_
  refine G.seq ?_
  refine G.seq ?_
  refine G.region ?_
  refine L.val rfl rfl (R.mv rfl) ?_
  refine L.val rfl rfl (R.lenS rfl) ?_
  refine L.val rfl rfl (R.rem rfl rfl (by omega) (by omega)) ?_
  refine L.val rfl rfl (R.neI rfl rfl) ?_
  refine L.nil ?_
  refine N.seq ?_
  refine G.condP rfl (fun h0 => ?_) (fun h0 => ?_)
  · exfalso; omega
  · refine G.skip ?_
    refine N.seq ?_
    refine G.seq ?_
    refine G.region ?_
    refine L.val rfl rfl (R.mv rfl) ?_
    refine L.val rfl rfl (R.lenS rfl) ?_
    refine L.val rfl rfl (R.quo rfl rfl (by omega) (by omega)) ?_
    refine L.be 15 rfl (show _ = Value.int .i64 (dn l : Int) by congr 1; omega) ?_
    refine L.callF rfl rfl rfl go54 (inew_okF (dn l) _ hv2 hv3) ?_
    rintro _ w1 ⟨d, rfl, e1, O1⟩
    replace E := E.trans0 e1
    obtain ⟨x0, hx0⟩ : ∃ x0 : List UInt8, x0 = List.replicate (64 * dn l) 0 := ⟨_, rfl⟩
    have hx0d : dn x0 = dn l := by rw [hx0, dn_zero]
    rw [← hx0] at O1
    obtain ⟨a6, c6, ps, M6, B6, hd6, hl6, _, _, o6, hM6, hB, hq⟩ := O1
    rw [hx0d] at B6 o6
    refine L.val rfl rfl (R.mv rfl) ?_
    refine L.val rfl rfl (R.ext rfl rfl) ?_
    refine L.val rfl rfl (R.ext rfl rfl) ?_
    refine L.val rfl rfl (R.as rfl) ?_
    refine L.val rfl rfl (R.as rfl) ?_
    refine L.nil ?_
    refine N.seq ?_
    refine G.seq ?_
    refine G.seq ?_
    refine G.region ?_
    refine L.val rfl rfl (R.mv rfl) ?_
    refine L.val rfl rfl (R.neI rfl rfl) ?_
    refine L.nil ?_
    refine N.seq ?_
    refine G.condF rfl ?_
    refine G.skip ?_
    refine N.seq ?_
    refine G.seq ?_
    refine G.seq ?_
    refine G.region ?_
    refine L.val rfl rfl (R.mv rfl) ?_
    refine L.val rfl rfl (R.nilChk rfl) ?_
    refine L.val rfl rfl (R.fld rfl) ?_
    refine L.val rfl rfl (R.ldB rfl B6 rfl) ?_
    refine L.val rfl rfl (R.lenS rfl) ?_
    refine L.val rfl rfl (R.mv rfl) ?_
    refine L.nil ?_
    refine N.seq ?_
    refine G.block ?_
    refine G.loop (X := Nat × List UInt8 × List Nat) (fun s => [(0, .slice a n c), (4, .pointer (some ⟨d, 0, none⟩)), (26, .int .i64 (dn l : Int)), (27, .int .i64 (s.1 : Int))]) (fun s w' => s.1 ≤ dn l ∧ s.2.1.length = l.length ∧ (∀ j, blk s.2.1 j = if j < s.1 then blk l j else blk x0 j) ∧ Ext [] w w' ∧ Blk w' d #[.slice a6 (dn l) c6] 123 (0, 0) ∧ Own w' 125 1 a6 (dn l) c6 (s.2.2.map ptr) M6 ∧ Blks w' s.2.2 s.2.1 ∧ ∀ p ∈ s.2.2, w.heap.size ≤ p) (fun s => dn l - s.1) ((0, x0, ps)) (Sub.cons rfl (Sub.cons rfl (Sub.cons rfl (Sub.cons rfl (Sub.nil _))))) ⟨Nat.zero_le _, by show x0.length = _; omega, fun j => (if_neg (Nat.not_lt_zero _)).symm, E, B6, o6, hB, hq⟩ ?_
    rintro ⟨i, y, qs⟩ w2 ⟨hi, hyl, hyb, E, B6, o6, hB, hqs⟩
    dsimp only at hi hyl hyb o6 hB
    refine G.sub [(0, .slice a n c), (4, .pointer (some ⟨d, 0, none⟩)), (26, .int .i64 (dn l : Int)), (27, .int .i64 (i : Int))] (Sub.cons rfl (Sub.cons rfl (Sub.cons rfl (Sub.cons rfl (Sub.nil _))))) ?_
    have hdy : dn y = dn l := by unfold dn; rw [hyl]
    refine G.seq ?_
    refine G.region ?_
    refine L.val rfl rfl (R.lss rfl rfl) ?_
    refine L.nil ?_
    refine N.seq ?_
    refine G.seq ?_
    refine G.condP rfl (fun h2 => ?_) (fun h2 => ?_)
    · have hil : i < dn l := by omega
      have h64 := blk_length hil
      have hbs := (hb.ext0 E).sub (64 * i) c 64 (by omega) (by omega)
      rw [show (l.drop (64 * i)).take 64 = blk l i from rfl] at hbs
      obtain ⟨q, hq⟩ : ∃ q, subA a (64 * i) c 1 = some q := by
        cases hq : subA a (64 * i) c 1 with
        | none => rw [hq] at hbs; have := hbs.none.2; cases this
        | some q => exact ⟨q, rfl⟩
      rw [hq] at hbs
      have hyb2 : ∀ j, blk (laid y i (blk l i)) j = if j < i + 1 then blk l j else blk x0 j := by
        intro j
        rw [laid_blk h64 (by omega), hyb j]
        by_cases e : j = i
        · subst e; rw [if_pos rfl, if_pos (by omega)]
        · rw [if_neg e]
          by_cases e2 : j < i
          · rw [if_pos e2, if_pos (by omega)]
          · rw [if_neg e2, if_neg (by omega)]
      refine G.skip ?_
      refine N.seq ?_
      refine G.seq ?_
      refine G.block ?_
      refine G.seq ?_
      refine G.region ?_
      refine L.val rfl rfl (R.mv rfl) ?_
      refine L.val rfl rfl (R.as rfl) ?_
      refine L.nil ?_
      refine N.seq ?_
      refine G.seq ?_
      refine G.region ?_
      refine L.val rfl rfl (R.mv rfl) ?_
      refine L.val rfl rfl (R.mv rfl) ?_
      refine L.val rfl rfl (R.mul rfl rfl (by omega)) ?_
      refine L.val rfl rfl (R.mv rfl) ?_
      refine L.val rfl rfl (R.add rfl rfl (by omega)) ?_
      refine L.val rfl rfl (R.mul rfl rfl (by omega)) ?_
      refine L.val rfl rfl (R.slLH rfl rfl rfl (by omega) (by omega) (by omega)) ?_
      refine L.be 36 rfl (show _ = Value.slice (some q) 64 (c - 64 * i) by rw [show ((i : Int) * 64).toNat = 64 * i by omega, show (((i : Int) + 1) * 64).toNat - 64 * i = 64 by omega, hq]) ?_
      refine L.val rfl rfl (R.s2ap rfl (by decide)) ?_
      refine L.val rfl rfl (R.ldN rfl hbs.cells (by rw [vbs_length, h64])) ?_
      refine L.do rfl rfl (R.alloc) ?_
      rintro _ w6 ⟨b7, rfl, hb7, hs7, e6, B7⟩
      have hE6 := E.size
      refine L.set rfl (R.stN rfl rfl B7 (by simp [vbs_length, h64]) (by simp [vbs_length, h64, Value.cells]) (by simpa using vbs_one _)) ?_
      rintro w7 ⟨e7, hs7, B7⟩
      rw [all_stored (by simp [vbs_length, h64, Value.cells])] at B7
      have n7 := e6.news2 e7 (by omega)
      replace E := E.trans0 n7
      replace B6 := B6.ext0 n7
      replace o6 := o6.ext0 n7
      replace hB := hB.ext0 n7
      obtain ⟨gl, curl, rfl, rfl, L6, hkl, hO6⟩ := o6.set i (by omega)
      have hgl := hM6 gl (by simp)
      have hE7 := E.size
      refine L.nil ?_
      refine N.seq ?_
      refine G.region ?_
      refine L.val rfl rfl (R.mv rfl) ?_
      refine L.val rfl rfl (R.nilChk rfl) ?_
      refine L.val rfl rfl (R.fld rfl) ?_
      refine L.val rfl rfl (R.ldB rfl B6 rfl) ?_
      refine L.val rfl rfl (R.mv rfl) ?_
      refine L.val rfl rfl (R.idx rfl rfl (by omega) (by omega) _ rfl) ?_
      refine L.be 44 rfl (show _ = Value.pointer (some ⟨gl, i, none⟩) by rw [Go.Addr.add_lit]; simp) ?_
      refine L.set rfl (R.st rfl rfl L6 hkl rfl) ?_
      rintro w8 ⟨e12, hs12, L12⟩
      replace o6 := hO6 (ptr b7) _ e12 L12
      replace E := E.news2 e12 (by omega)
      replace B6 := B6.ext e12 (fun hm => B6.ne L6 (by decide) (List.mem_singleton.1 hm))
      replace hB := hB.put e12 L6 B7 h64 (show i < dn y by omega)
      refine L.nil ?_
      refine N.block ?_
      refine N.seq ?_
      refine G.region ?_
      refine L.val rfl rfl (R.add rfl rfl (by omega)) ?_
      refine L.val rfl rfl (R.mv rfl) ?_
      refine L.nil ?_
      exact N.again (i + 1, laid y i (blk l i), qs.set i b7) (by show dn l - (i + 1) < dn l - i; omega) (Sub.cons rfl (Sub.cons rfl (Sub.cons rfl (Sub.cons rfl (Sub.nil _))))) ⟨by show i + 1 ≤ dn l; omega, (laid_length h64 (by omega)).trans hyl, hyb2, E, B6, by rw [List.map_set]; exact o6, hB, fun p hp => (List.mem_or_eq_of_mem_set hp).elim (hqs p) (fun e => by rw [e]; omega)⟩
    · obtain rfl : i = dn l := by omega
      have hyl2 : y = l := eq_of_blk hyl (by rw [hyl, hdy]; exact hv1) (fun k hk => by rw [hyb k, if_pos (by rw [← hdy]; exact hk)])
      subst hyl2
      refine G.exit _ rfl ?_
      refine N.seq ?_
      refine G.seq ?_
      refine G.region ?_
      refine L.val rfl rfl (R.mv rfl) ?_
      refine L.val rfl rfl (R.as rfl) ?_
      refine L.val rfl rfl (R.as rfl) ?_
      refine L.nil ?_
      refine N.seq ?_
      refine G.ret2 rfl rfl rfl ?_
      exact ⟨d, rfl, E, OwnDiskF.f ⟨a6, c6, qs, M6, B6, by omega, hv1, hv2, hv3, o6, fun g hg => by have := hM6 g hg; omega, hB, hqs⟩⟩

end Go.Proofs.Ytmbppidafnakhaa
/-
  The walks of package image.
-/
set_option linter.unusedVariables false
set_option linter.unusedSimpArgs false
namespace Go.Proofs.Ytmbppidafnakhaa
open Go Brv Brv.Image
/-- What the iterator over the disk reads. -/
def fpIs (w : World) (F : List Nat) (b1 : Nat) (d : Option Addr) (x : List UInt8) : Prop := (∀ g ∈ F, g < w.heap.size) ∧ ∀ M w', Ext M w w' → (∀ g ∈ F, g ∉ M) → Blk w' b1 #[.pointer d] 33 (0, 0) ∧ DiskO w' d x
theorem fp_of {w w0 : World} {b1 : Nat} {d : Option Addr} {x : List UInt8} (h1 : Blk w b1 #[.pointer d] 33 (0, 0)) (h2 : DiskO w0 d x) (he0 : Ext [] w0 w) : ∃ F, fpIs w F b1 d x ∧ ∀ y ∈ F, y = b1 ∨ y < w0.heap.size := by
  rcases h2 with ⟨rfl, rfl⟩ | ⟨b, rfl, g, c, cur, ps, D0⟩
  · exact ⟨[b1], ⟨fun y hy => by rw [List.mem_singleton.1 hy]; exact h1.lt, fun M w' he hm => ⟨h1.ext he (hm b1 (by simp)), .no⟩⟩, fun y hy => .inl (List.mem_singleton.1 hy)⟩
  · have D := D0.ext0 he0
    exact ⟨b1 :: b :: g :: ps, ⟨fun y hy => by
      rcases List.mem_cons.1 hy with rfl | hy
      · exact h1.lt
      · exact D.lt y hy, fun M w' he hm => ⟨h1.ext he (hm b1 (by simp)), .inr ⟨b, rfl, g, c, cur, ps, D.ext he (fun y hy => hm y (List.mem_cons_of_mem _ hy))⟩⟩⟩, fun y hy => (List.mem_cons.1 hy).imp id (D0.lt y)⟩
theorem fpIs.ext0 {w w' : World} {F : List Nat} {b1 : Nat} {d : Option Addr} {x : List UInt8} (h : fpIs w F b1 d x) (he : Ext [] w w') : fpIs w' F b1 d x :=
  ⟨fun g hg => Nat.lt_of_lt_of_le (h.1 g hg) he.size, fun M w2 e hm => by
    have e2 : Ext (M.filter (fun g => decide (g < w.heap.size))) w w2 := by
      refine he.trans e (by simp) (fun g hg => ?_)
      by_cases hl : g < w.heap.size
      · exact .inl (List.mem_filter.2 ⟨hg, by simpa using hl⟩)
      · exact .inr (by omega)
    exact h.2 _ w2 e2 (fun g hg hmem => hm g hg (List.mem_filter.1 hmem).1)⟩
def blkE (x : List UInt8) (k : Nat) (vs : List Value) (W : World) : Prop := ∃ a c, vs = [.int .i64 (k : Int), .slice a (blk x k).length c] ∧ (blk x k).length ≤ c ∧ Bs W a (blk x k).length (blk x k)

theorem iall_ok (d : Option Addr) (w : World) : Meets Try.prog 37 [.pointer d] w (fun v w' => ∃ b1, v = .func (.func 56) #[] #[.pointer (some ⟨b1, 0, none⟩)] ∧ Ext [] w w' ∧ Blk w' b1 #[.pointer d] 33 (0, 0) ∧ w.heap.size ≤ b1) := by
  refine Meets.enter Try.func37 rfl 4 rfl (Nat.le_of_ble_eq_true rfl) ?_
  have E := Ext.refl [] w
  refine G.seq ?_
  refine G.region ?_
  refine L.do rfl rfl (R.box rfl) ?_
  rintro _ w1 ⟨b1, rfl, hb1, hs1, e1, B1⟩
  replace E := E.trans0 e1
  refine L.val rfl rfl (R.as rfl) ?_
  refine L.nil ?_
  refine N.seq ?_
  refine G.seq ?_
  refine G.region ?_
  refine L.val rfl rfl (R.mkFunc rfl rfl) ?_
  refine L.val rfl rfl (R.as rfl) ?_
  refine L.nil ?_
  refine N.seq ?_
  refine G.ret1 rfl rfl ?_
  exact ⟨b1, rfl, E, B1, by omega⟩

theorem iall1_ok (y : Value) (b1 : Nat) (d : Option Addr) (x : List UInt8) (F : List Nat) (D₀ : List Nat) (J Jx : Nat → List Nat → World → Prop) (w : World) (hF : fpIs w F b1 d x) (hD : ∀ g ∈ D₀, g < w.heap.size ∧ g ∉ F ∧ g ∉ ([] : List Nat)) (hJ : ∀ k D W₁ W₂ M', J k D W₁ → Ext M' W₁ W₂ → (∀ g ∈ M', g ∉ D ∧ (g ∈ ([] : List Nat) ∨ w.heap.size ≤ g)) → J k D W₂) (hJx : ∀ k D W₁ W₂ M', Jx k D W₁ → Ext M' W₁ W₂ → (∀ g ∈ M', g ∉ D ∧ (g ∈ ([] : List Nat) ∨ w.heap.size ≤ g)) → Jx k D W₂) (hY : ∀ k D vs W₁, k < dn x → J k D W₁ → blkE x k vs W₁ → (∀ g ∈ D, g < W₁.heap.size) → YCall Try.prog y vs W₁ fun b W₂ => ∃ D', Ext D W₁ W₂ ∧ (∀ g ∈ D', g < W₂.heap.size ∧ (g ∈ D ∨ W₁.heap.size ≤ g)) ∧ (b = true → J (k + 1) D' W₂) ∧ (b = false → Jx (k + 1) D' W₂)) (h0 : J 0 D₀ w) : Meets Try.prog 56 [y, .pointer (some ⟨b1, 0, none⟩)] w (fun _ W₂ => (∃ D, J (dn x) D W₂ ∧ True) ∨ ∃ k D, k ≤ dn x ∧ Jx k D W₂ ∧ True) := by
  refine Meets.enter Try.func56 rfl 24 rfl (Nat.le_of_ble_eq_true rfl) ?_
  obtain ⟨B1, hd⟩ := hF.2 [] w (Ext.refl _ _) (by simp)
  have hFD : ∀ g ∈ F, g ∉ D₀ := fun g hg h => (hD g h).2.1 hg
  have hx0 := hd.len
  refine G.seq ?_
  refine G.region ?_
  refine L.val rfl rfl (R.ldB rfl B1 rfl) ?_
  refine L.callF rfl rfl rfl go57 (iblocks_ok d x _ hd) ?_
  rintro _ _ ⟨rfl, hw⟩
  obtain rfl := hw.symm
  refine L.val rfl rfl (R.mv rfl) ?_
  refine L.nil ?_
  refine N.seq ?_
  refine G.block ?_
  refine G.loop (X := Nat) (fun i => [(0, y), (1, .pointer (some ⟨b1, 0, none⟩)), (5, .int .i64 (dn x : Int)), (6, .int .i64 (i : Int))]) (fun i w' => i ≤ dn x ∧ (∃ D, J i D w' ∧ ∀ g ∈ D, g < w'.heap.size ∧ (g ∈ D₀ ∨ w.heap.size ≤ g)) ∧ Ext D₀ w w') (fun i => dn x - i) (0) (Sub.cons rfl (Sub.cons rfl (Sub.cons rfl (Sub.cons rfl (Sub.nil _))))) ⟨Nat.zero_le _, ⟨D₀, h0, fun g hg => ⟨(hD g hg).1, .inl hg⟩⟩, Ext.refl _ _⟩ ?_
  rintro i w1 ⟨hi, ⟨D, hJi, hDD⟩, e1⟩
  obtain ⟨B1, hd⟩ := hF.2 _ _ e1 hFD
  refine G.seq ?_
  refine G.region ?_
  refine L.val rfl rfl (R.lss rfl rfl) ?_
  refine L.nil ?_
  refine N.seq ?_
  refine G.seq ?_
  refine G.condP rfl (fun h0 => ?_) (fun h0 => ?_)
  · have hix : i < dn x := by omega
    obtain ⟨db, rfl, g1, k1, cur1, ps1, D1⟩ := hd.pos (by omega)
    obtain ⟨z1, hz1, Z1⟩ := D1.ptr hix
    have hs1 := blk_length hix
    have hbs := Bs.of_blk Z1 (blk x i) (by simp) 64 hs1.symm
    refine G.skip ?_
    refine N.seq ?_
    refine G.seq ?_
    refine G.block ?_
    refine G.seq ?_
    refine G.region ?_
    refine L.val rfl rfl (R.mv rfl) ?_
    refine L.val rfl rfl (R.as rfl) ?_
    refine L.nil ?_
    refine N.seq ?_
    refine G.seq ?_
    refine G.region ?_
    refine L.val rfl rfl (R.mv rfl) ?_
    refine L.val rfl rfl (R.mv rfl) ?_
    refine L.val rfl rfl (R.ldB rfl B1 rfl) ?_
    refine L.val rfl rfl (R.nilChk rfl) ?_
    refine L.val rfl rfl (R.fld rfl) ?_
    refine L.val rfl rfl (R.ldB rfl D1.hd rfl) ?_
    refine L.val rfl rfl (R.mv rfl) ?_
    refine L.val rfl rfl (R.idx rfl rfl (by omega) (by omega) _ rfl) ?_
    refine L.val rfl rfl (R.ld rfl (v := ptr z1) (by rw [Go.Addr.add_lit]; simpa using (D1.hg.cell i).trans hz1)) ?_
    refine L.val rfl rfl (R.nilChk rfl) ?_
    refine L.val rfl rfl (R.slA rfl) ?_
    refine L.callF rfl rfl rfl go31 (bclone_ok _ _ _ _ _ hbs (by decide)) ?_
    rintro _ w2 ⟨a1, c1, M1, rfl, e2, o1, hM1⟩
    have hbo := Bs.of_own o1
    have hle := o1.le
    rw [← hs1] at hbo hle ⊢
    replace hJi := hJ i D w1 w2 [] hJi e2 (by simp)
    replace e1 : Ext D₀ w w2 := e1.trans0 e2
    replace hDD : ∀ g ∈ D, g < w2.heap.size ∧ (g ∈ D₀ ∨ w.heap.size ≤ g) := fun g hg => ⟨Nat.lt_of_lt_of_le (hDD g hg).1 e2.size, (hDD g hg).2⟩
    refine L.ycall rfl rfl rfl rfl (hY i D _ w2 hix hJi ⟨_, _, rfl, hle, hbo⟩ (fun g hg => (hDD g hg).1)) ?_
    rintro bb w3 ⟨D2, eD, hD2, hT, hFl⟩
    refine L.val rfl rfl (R.not rfl) ?_
    refine L.nil ?_
    refine N.seq ?_
    refine G.condB rfl (fun h1 => ?_) (fun h1 => ?_)
    · obtain rfl : bb = false := by simpa using h1
      refine G.ret0 rfl ?_
      exact .inr ⟨i + 1, D2, by omega, hFl rfl, trivial⟩
    · obtain rfl : bb = true := by simpa using h1
      refine G.skip ?_
      refine N.block ?_
      refine N.seq ?_
      refine G.region ?_
      refine L.val rfl rfl (R.add rfl rfl (by omega)) ?_
      refine L.val rfl rfl (R.mv rfl) ?_
      refine L.nil ?_
      exact N.again (i + 1) (by omega) (Sub.cons rfl (Sub.cons rfl (Sub.cons rfl (Sub.cons rfl (Sub.nil _))))) ⟨by omega, ⟨D2, hT rfl, fun g hg => ⟨(hD2 g hg).1, (hD2 g hg).2.elim (fun h => (hDD g h).2) (fun h => .inr (Nat.le_trans e1.size h))⟩⟩, e1.transN eD (fun g hg => (hDD g hg).2.imp id id)⟩
  · refine G.exit _ rfl ?_
    refine N.end0 rfl ?_
    obtain rfl : i = dn x := by omega
    exact .inl ⟨D, hJi, trivial⟩

theorem iall_iter (b1 : Nat) (d : Option Addr) (x : List UInt8) (F : List Nat) (w : World) (hF : fpIs w F b1 d x) : Iter Try.prog 56 [.pointer (some ⟨b1, 0, none⟩)] w (dn x) (blkE x) (fun _ _ => True) F [] := by
  intro y D₀ J Jx W hE hD hJ hJx hY h0
  exact iall1_ok y b1 d x F D₀ J Jx W (hF.ext0 hE) hD (fun k D W₁ W₂ M' h he hm => hJ k D W₁ W₂ M' h he (fun g hg => ⟨(hm g hg).1, (hm g hg).2.imp id (Nat.le_trans hE.size)⟩)) (fun k D W₁ W₂ M' h he hm => hJx k D W₁ W₂ M' h he (fun g hg => ⟨(hm g hg).1, (hm g hg).2.imp id (Nat.le_trans hE.size)⟩)) hY h0

end Go.Proofs.Ytmbppidafnakhaa
/-
  The walks of package image.
-/
set_option linter.unusedVariables false
set_option linter.unusedSimpArgs false
namespace Go.Proofs.Ytmbppidafnakhaa
open Go Brv Brv.Image
def byI (x : List UInt8) (b3 : Nat) (w0 : World) (k : Nat) (D : List Nat) (W : World) : Prop := ∃ a c MB, D = b3 :: MB ∧ Blk W b3 #[.slice a (x.take (64 * k)).length c] 36 (0, 0) ∧ Own W 5 1 a (x.take (64 * k)).length c (vbs (x.take (64 * k))) MB ∧ (∀ g ∈ MB, w0.heap.size ≤ g ∧ g ≠ b3) ∧ w0.heap.size ≤ b3 ∧ Ext [] w0 W
theorem byI_keep {x : List UInt8} {b3 : Nat} {w0 : World} {k s : Nat} {D M' : List Nat} {W W' : World} (hs : w0.heap.size ≤ s) (h : byI x b3 w0 k D W) (he : Ext M' W W') (hm : ∀ g ∈ M', g ∉ D ∧ (g ∈ ([] : List Nat) ∨ s ≤ g)) : byI x b3 w0 k D W' := by
  obtain ⟨a, c, MB, rfl, B3, o, hMB, h3, E⟩ := h
  exact ⟨a, c, MB, rfl, B3.ext he (fun h => (hm _ h).1 (by simp)), o.ext he (fun g hg h => (hm g h).1 (by simp [hg])), hMB, h3, E.transN he (fun g hg => (hm g hg).2.imp id (Nat.le_trans hs))⟩

theorem ibytes_ok (d : Option Addr) (x : List UInt8) (w : World) (hd : DiskO w d x) : Meets Try.prog 12 [.pointer d] w (Cloned w 5 1 x.length (vbs x)) := by
  refine Meets.enter Try.func12 rfl 14 rfl (Nat.le_of_ble_eq_true rfl) ?_
  have E := Ext.refl [] w
  have hx0 := hd.len
  refine G.seq ?_
  refine G.region ?_
  refine L.val rfl rfl (R.as rfl) ?_
  refine L.nil ?_
  refine N.seq ?_
  refine G.seq ?_
  refine G.region ?_
  refine L.do rfl rfl (R.alloc) ?_
  rintro _ w1 ⟨b3, rfl, hb3, hs3, e1, B3⟩
  replace B3 : Blk w1 b3 #[.slice none 0 0] 36 (0, 0) := B3
  replace E := E.trans0 e1
  refine L.nil ?_
  refine N.seq ?_
  refine G.seq ?_
  refine G.seq ?_
  refine G.region ?_
  refine L.val rfl rfl (R.mv rfl) ?_
  refine L.callF rfl rfl rfl go37 (iall_ok d _) ?_
  rintro _ w2 ⟨b1, rfl, e2, B1, hb1⟩
  have hE1 := E.size
  replace E := E.trans0 e2
  have l3 := B3.lt
  replace B3 := B3.ext0 e2
  obtain ⟨Fp, hFp, hFa⟩ := fp_of B1 hd E
  have hFn : b3 ∉ Fp := fun h => (hFa b3 h).elim (by omega) (by omega)
  have hE2 := E.size
  refine L.nil ?_
  refine N.seq ?_
  refine G.block ?_
  have hD0 : ∀ y ∈ [b3], y < w2.heap.size ∧ y ∉ Fp ∧ y ∉ ([] : List Nat) := by
    intro y hy
    rw [List.mem_singleton] at hy
    subst hy
    exact ⟨B3.lt, hFn, by simp⟩
  have hI0 : byI x b3 w 0 [b3] w2 := ⟨none, 0, [], rfl, B3, Own.nil _ _ _, by simp, by omega, E⟩
  refine G.range (lb := [.pointer (some ⟨b1, 0, none⟩)]) rfl rfl go56 (iall_iter b1 d x Fp _ hFp) (fun _ _ _ h _ => h) [b3] hD0 (fun y h => h.elim (hFp.1 y) (by simp)) (byI x b3 w) (fun _ _ _ _ => False) (fun k D W1 W2 M2 h he hm => byI_keep hE2 h he hm) (fun _ _ _ _ _ _ h _ _ => h) hI0 ?_ ?_ ?_
  · rintro l k D vs W1 hl hlt hlD hDl hk hIk ⟨a, c, rfl, hac, hb⟩
    refine ⟨rfl, ?_⟩
    refine G.sub [(9, .slice a (blk x k).length c), (3, .pointer (some ⟨b3, 0, none⟩))] (Sub.cons rfl (Sub.cons rfl (Sub.nil _))) ?_
    refine G.region ?_
    refine L.val rfl rfl (R.as rfl) ?_
    refine L.nil ?_
    refine N.round (Ext.refl _ _) (fun wb hb1 hb2 => ?_)
    obtain ⟨a1, c1, MB, rfl, B3, o, hMB, h3, E⟩ := hIk
    replace hb := hb.still hb2
    replace B3 := B3.still hb2
    replace o := o.still hb2
    replace E := E.transN hb1 (fun g hg => .inr (by rw [List.mem_singleton.1 hg]; omega))
    have hEb := E.size
    have l3 := B3.lt
    have hlo := o.lt
    have hs1 := blk_length hk
    have htl : (x.take (64 * k)).length ≤ 4096 := by rw [List.length_take]; omega
    have hn3 : b3 ∉ MB := fun h => (hMB _ h).2 rfl
    refine G.block ?_
    refine G.region ?_
    refine L.val rfl rfl (R.ldB rfl B3 rfl) ?_
    refine L.val rfl rfl (R.mv rfl) ?_
    refine L.do rfl rfl (R.app rfl rfl o hb.cells (by rw [vbs_length]; omega) (vbs_one _) (by simp [maxLen]; omega) (by omega)) ?_
    rintro _ w7 ⟨a3, c3, M3, rfl, e7, hM3, o3⟩
    replace B3 := B3.ext e7 hn3
    replace E : Ext [] w w7 := E.trans e7 (by simp) (fun g hg => .inr (hMB g hg).1)
    have hs7 := e7.size
    rw [← vbs_append, take_succ_blk, ← List.length_append, take_succ_blk] at o3
    have hM4 : ∀ g ∈ M3, w.heap.size ≤ g ∧ g ≠ b3 := fun g hg => (hM3 g hg).elim (hMB g) (fun h => ⟨by omega, by omega⟩)
    refine L.be 12 rfl (show _ = Value.slice a3 (x.take (64 * (k + 1))).length c3 by rw [← take_succ_blk, List.length_append]) ?_
    refine L.set rfl (R.st rfl rfl B3 (by show 0 < 1; decide) rfl) ?_
    rintro w8 ⟨e8, hs8, B3⟩
    replace B3 : Blk w8 b3 #[.slice a3 (x.take (64 * (k + 1))).length c3] 36 (0, 0) := B3
    replace o3 := o3.ext e8 (by intro g hg h; exact (hM4 g hg).2 (List.mem_singleton.1 h))
    replace E : Ext [] w w8 := E.trans e8 (by simp) (fun g hg => .inr (by rw [List.mem_singleton.1 hg]; exact h3))
    have hlo3 := o3.lt
    have X : Ext (b3 :: MB) wb w8 := (e7.mono (fun g hg => .inl (List.mem_cons_of_mem _ hg))).transN e8 (fun g hg => .inl (by rw [List.mem_singleton.1 hg]; simp))
    have hD2 : ∀ g ∈ b3 :: M3, g < w8.heap.size ∧ (g ∈ b3 :: MB ∨ wb.heap.size ≤ g) := by
      intro g hg
      rcases List.mem_cons.1 hg with rfl | hg
      · exact ⟨B3.lt, .inl (by simp)⟩
      · exact ⟨hlo3 g hg, (hM3 g hg).imp (fun h => List.mem_cons_of_mem _ h) id⟩
    refine L.nil ?_
    refine N.block ?_
    refine N.done fun _ _ => ?_
    exact ⟨b3 :: M3, X, hD2, a3, c3, M3, rfl, B3, o3, hM4, h3, E⟩
  · rintro d2 D W2 hd2 hdD hK ⟨a1, c1, MB, rfl, B3, o, hMB, h3, E⟩ _
    have hst := Still.putObj (.deferred none) hK rfl
    rw [List.take_of_length_le (by omega)] at B3 o
    refine N.block ?_
    refine N.seq ?_
    refine G.seq ?_
    refine G.region ?_
    refine L.val rfl rfl (R.ldB rfl B3 rfl) ?_
    refine L.val rfl rfl (R.as rfl) ?_
    refine L.nil ?_
    refine N.seq ?_
    refine G.ret1M rfl rfl (leave1 hK) ?_
    exact ⟨a1, c1, MB, rfl, E.transN (Ext.putObj _ _ _) (fun g hg => .inr (by rw [List.mem_singleton.1 hg]; omega)), o.still hst, fun g hg => (hMB g hg).1⟩
  · rintro _ _ _ _ _ _ _ _ _ h _
    exact h.elim

end Go.Proofs.Ytmbppidafnakhaa
/-
  The walks of package image.
-/
set_option linter.unusedVariables false
set_option linter.unusedSimpArgs false
namespace Go.Proofs.Ytmbppidafnakhaa
open Go Brv Brv.Image
theorem disk_o {w : World} {d g c : Nat} {cur : Array Value} {ps : List Nat} {x : List UInt8} (h : DiskL w d g c cur ps x) : DiskO w (some ⟨d, 0, none⟩) x := .inr ⟨d, rfl, g, c, cur, ps, h⟩
theorem ibytesS (d : Option Addr) (x : List UInt8) : SpecS Try.prog 12 [.pointer d] [sh (fun w => DiskO w d x)] (fun v H' => ∃ a c', v = .slice a x.length c' ∧ H' = [own 5 1 a x.length c' (vbs x), sh (fun w => DiskO w d x)]) :=
  SpecS.ofOwn (φ := fun a c => .slice a x.length c) fun w F S s => ibytes_ok d x w (s.sh (p := fun w => DiskO w d x) .here)

theorem ifromS (a : Option Addr) (n c : Nat) (l : List UInt8) (hc : n ≤ c) (hv : l.length = 64 * dn l ∧ 1 ≤ dn l ∧ dn l ≤ 64) : SpecS Try.prog 35 [.slice a n c] [bs a n l] (fun v H' => ∃ d g c' cur ps, v = .tuple #[.pointer (some ⟨d, 0, none⟩), .int .i64 0] ∧ H' = [sh (fun w => DiskL w d g c' cur ps l), bs a n l]) :=
  (SpecS.ofFresh (φ := fun v A => ∃ d g c' cur ps, v = .tuple #[.pointer (some ⟨d, 0, none⟩), .int .i64 0] ∧ A = sh (fun w => DiskL w d g c' cur ps l)) fun w F S s => (ifrom_okF a n c l w (s.bs .here) hc hv).mono fun v w' ⟨d, h1, h2, g, c', cur, ps, h3, h4⟩ =>
    ⟨_, [], d :: g :: ps, ⟨d, g, c', cur, ps, h1, rfl⟩, h2, fun M w'' he hA => h3.ext he hA, by simp, fun b hb => ⟨h4 b hb, h3.lt b hb⟩⟩).mono fun v H' ⟨A, ⟨d, g, c', cur, ps, h1, h2⟩, h3⟩ => ⟨d, g, c', cur, ps, h1, by rw [h3, h2]⟩
end Go.Proofs.Ytmbppidafnakhaa
/-
  The walks of package pool.
-/
set_option linter.unusedVariables false
set_option linter.unusedSimpArgs false
set_option maxRecDepth 4000
namespace Go.Proofs.Ytmbppidafnakhaa
open Go Brv Brv.Image Brv.Dev
structure CaS where
  i : Nat
  a : Option Addr
  c : Nat
/-- All bytes of rows. -/
def flR (rs : List BRow) : List UInt8 := (rs.map BRow.l).flatten
theorem flR_succ {rs : List BRow} {i : Nat} {r : BRow} (h : rs[i]? = some r) : flR (rs.take (i + 1)) = flR (rs.take i) ++ r.l := by
  unfold flR
  rw [List.take_add_one, h]; simp
theorem flR_le (rs : List BRow) (i : Nat) : (flR (rs.take i)).length ≤ (flR rs).length := by
  conv => rhs; rw [← List.take_append_drop i rs]
  unfold flR
  rw [List.map_append, List.flatten_append, List.length_append]; omega
theorem vbs_app2 (x y : List UInt8) : vbs (x ++ y) = vbs x ++ vbs y := by simp [vbs]
theorem brow_len {w : World} {rs : List BRow} {i : Nat} {r : BRow} (h : ∀ r ∈ rs, Bs w r.a r.n r.l) (hr : rs[i]? = some r) : r.n = r.l.length := (h r (List.mem_of_getElem? hr)).len

theorem grow0_ok (k : Nat) (h1 : 1 ≤ k) (h2 : k ≤ 1000000) : SpecS Try.prog 55 [.slice none 0 0, .int .i64 (k : Int)] [] (fun v H' => ∃ a c, v = .slice a 0 c ∧ H' = [own 5 1 a 0 c []]) := by
  refine SpecS.enter Try.func55 rfl 27 rfl (Nat.le_of_ble_eq_true rfl) (fun o => ?_)
  refine SG.seq ?_
  refine SG.region ?_
  refine SL.val rfl rfl (fun w9 F9 S9 s => R.as rfl) ?_
  refine SL.nil ?_
  refine SN.seq ?_
  refine SG.seq ?_
  refine SG.seq ?_
  refine SG.region ?_
  refine SL.val rfl rfl (fun w9 F9 S9 s => R.mv rfl) ?_
  refine SL.val rfl rfl (fun w9 F9 S9 s => R.lss rfl rfl) ?_
  refine SL.nil ?_
  refine SN.seq ?_
  refine SG.condP rfl (fun h0 => ?_) (fun h0 => ?_)
  · exfalso; omega
  · refine SG.skip ?_
    refine SN.seq ?_
    refine SG.seq ?_
    refine SG.seq ?_
    refine SG.region ?_
    refine SL.val rfl rfl (fun w9 F9 S9 s => R.mv rfl) ?_
    refine SL.val rfl rfl (fun w9 F9 S9 s => R.mv rfl) ?_
    refine SL.val rfl rfl (fun w9 F9 S9 s => R.capS rfl) ?_
    refine SL.val rfl rfl (fun w9 F9 S9 s => R.mv rfl) ?_
    refine SL.val rfl rfl (fun w9 F9 S9 s => R.lenS rfl) ?_
    refine SL.val rfl rfl (fun w9 F9 S9 s => R.sub' rfl rfl (by omega)) ?_
    refine SL.be 13 rfl (show _ = Value.int .i64 0 by rfl) ?_
    refine SL.val rfl rfl (fun w9 F9 S9 s => R.sub' rfl rfl (by omega)) ?_
    refine SL.be 14 rfl (show _ = Value.int .i64 (k : Int) by congr 1) ?_
    refine SL.val rfl rfl (fun w9 F9 S9 s => R.as rfl) ?_
    refine SL.nil ?_
    refine SN.seq ?_
    refine SG.seq ?_
    refine SG.region ?_
    refine SL.val rfl rfl (fun w9 F9 S9 s => R.mv rfl) ?_
    refine SL.val rfl rfl (fun w9 F9 S9 s => R.gtr rfl rfl) ?_
    refine SL.nil ?_
    refine SN.seq ?_
    refine SG.condP rfl (fun h1 => ?_) (fun h1 => ?_)
    · refine SG.region ?_
      refine SL.val rfl rfl (fun w9 F9 S9 s => R.mv rfl) ?_
      refine SL.val rfl rfl (fun w9 F9 S9 s => R.mv rfl) ?_
      refine SL.val rfl rfl (fun w9 F9 S9 s => R.capS rfl) ?_
      refine SL.val rfl rfl (fun w9 F9 S9 s => R.slH rfl rfl (by decide) (by decide)) ?_
      refine SL.be 20 rfl (show _ = Value.slice none 0 0 by rfl) ?_
      refine SL.val rfl rfl (fun w9 F9 S9 s => R.mv rfl) ?_
      refine SL.step rfl rfl (CS.appZ0 rfl rfl (by intro u hu; simp [Value.cells] at hu; subst hu; rfl) (by simp [maxLen]; omega) (by omega) (by decide) (by decide) (by omega)) ?_
      rintro _ _ ⟨a22, c22, xs22, rfl, rfl⟩
      refine SL.imp (Imp.ownPre 0 (show Sel _ (own 5 1 a22 k c22 xs22) _ from (by repeat (first | exact Sel.keep | exact Sel.here | apply Sel.there))) (by omega)) ?_
      refine SL.val rfl rfl (fun w9 F9 S9 s => R.mv rfl) ?_
      refine SL.val rfl rfl (fun w9 F9 S9 s => R.lenS rfl) ?_
      refine SL.val rfl rfl (fun w9 F9 S9 s => R.slH rfl rfl (by omega) (by omega)) ?_
      refine SL.be 25 rfl (show _ = Value.slice a22 0 c22 by rw [subA_zero, Int.toNat_natCast]) ?_
      refine SL.val rfl rfl (fun w9 F9 S9 s => R.as rfl) ?_
      refine SL.nil ?_
      refine SN.seq ?_
      refine SG.seq ?_
      refine SG.region ?_
      refine SL.val rfl rfl (fun w9 F9 S9 s => R.mv rfl) ?_
      refine SL.val rfl rfl (fun w9 F9 S9 s => R.as rfl) ?_
      refine SL.nil ?_
      refine SN.seq ?_
      exact SG.ret1 rfl rfl ((Imp.sels (by repeat (first | exact Sels.nil | apply Sels.cons | exact Sel.keep | exact Sel.here | apply Sel.there)))) (⟨a22, c22, rfl, rfl⟩)
    · exfalso; omega

theorem concat_ok (ra : Option Addr) (n c : Nat) (rs : List BRow) (hn : n = rs.length) (hn2 : n ≤ 100000) (h1 : 1 ≤ (flR rs).length) (h2 : (flR rs).length ≤ 100000) : SpecS Try.prog 36 [.slice ra n c] [sh (fun w => Cells w ra (rs.map BRow.val)), sh (fun w => ∀ r ∈ rs, Bs w r.a r.n r.l)] (fun v H' => ∃ a c, v = .slice a (flR rs).length c ∧ H' = [own 5 1 a (flR rs).length c (vbs (flR rs))]) := by
  refine SpecS.enter Try.func36 rfl 36 rfl (Nat.le_of_ble_eq_true rfl) (fun o => ?_)
  refine SG.seq ?_
  refine SG.region ?_
  refine SL.val rfl rfl (fun w9 F9 S9 s => R.as rfl) ?_
  refine SL.nil ?_
  refine SN.seq ?_
  refine SG.seq ?_
  refine SG.region ?_
  refine SL.val rfl rfl (fun w9 F9 S9 s => R.as rfl) ?_
  refine SL.nil ?_
  refine SN.seq ?_
  refine SG.seq ?_
  refine SG.seq ?_
  refine SG.region ?_
  refine SL.val rfl rfl (fun w9 F9 S9 s => R.mv rfl) ?_
  refine SL.val rfl rfl (fun w9 F9 S9 s => R.lenS rfl) ?_
  refine SL.val rfl rfl (fun w9 F9 S9 s => R.mv rfl) ?_
  refine SL.nil ?_
  refine SN.seq ?_
  refine SG.block ?_
  refine SG.loop (X := Nat) (fun i => [(0, .slice ra n c), (3, .int .i64 ((flR (rs.take i)).length : Int)), (9, .slice ra n c), (10, .int .i64 (n : Int)), (11, .int .i64 (i : Int))]) (fun i => [sh (fun w => Cells w ra (rs.map BRow.val)), sh (fun w => ∀ r ∈ rs, Bs w r.a r.n r.l)]) (fun i => i ≤ n) (fun i => n - i) (0) (Sub.cons rfl (Sub.cons rfl (Sub.cons rfl (Sub.cons rfl (Sub.cons rfl (Sub.nil _)))))) ((Imp.sels (by repeat (first | exact Sels.nil | apply Sels.cons | exact Sel.keep | exact Sel.here | apply Sel.there)))) (Nat.zero_le _) ?_
  intro i hi
  show SG _ _ _ _ _ [(0, .slice ra n c), (3, .int .i64 ((flR (rs.take i)).length : Int)), (9, .slice ra n c), (10, .int .i64 (n : Int)), (11, .int .i64 (i : Int))] [sh (fun w => Cells w ra (rs.map BRow.val)), sh (fun w => ∀ r ∈ rs, Bs w r.a r.n r.l)] _
  refine SG.seq ?_
  refine SG.region ?_
  refine SL.val rfl rfl (fun w9 F9 S9 s => R.lss rfl rfl) ?_
  refine SL.nil ?_
  refine SN.seq ?_
  refine SG.seq ?_
  refine SG.condP rfl (fun h0 => ?_) (fun h0 => ?_)
  · obtain ⟨r, hr⟩ : ∃ r, rs[i]? = some r := ⟨_, List.getElem?_eq_getElem (by omega)⟩
    refine SG.fact (fun w9 F9 S9 s => brow_pt (s.sh (p := fun w => Cells w ra (rs.map BRow.val)) (by repeat (first | exact Sel.keep | exact Sel.here | apply Sel.there))) hr) (fun hf9 => ?_)
    obtain ⟨q, hq⟩ := hf9
    refine SG.fact (fun w9 F9 S9 s => brow_len (s.sh (p := fun w => ∀ r ∈ rs, Bs w r.a r.n r.l) (by repeat (first | exact Sel.keep | exact Sel.here | apply Sel.there))) hr) (fun hf9 => ?_)
    have hrn := hf9; clear hf9
    have hfs := flR_succ hr
    have hfl := flR_le rs (i + 1)
    rw [hfs, List.length_append] at hfl
    refine SG.skip ?_
    refine SN.seq ?_
    refine SG.seq ?_
    refine SG.block ?_
    refine SG.seq ?_
    refine SG.region ?_
    refine SL.val rfl rfl (fun w9 F9 S9 s => R.idx rfl rfl (by omega) (by omega) q hq) ?_
    refine SL.val rfl rfl (fun w9 F9 S9 s => R.ld (v := r.val) rfl (brow_ld (s.sh (p := fun w => Cells w ra (rs.map BRow.val)) (by repeat (first | exact Sel.keep | exact Sel.here | apply Sel.there))) hq hr)) ?_
    refine SL.be 14 rfl (show _ = Value.slice r.a r.n r.c from rfl) ?_
    refine SL.val rfl rfl (fun w9 F9 S9 s => R.as rfl) ?_
    refine SL.nil ?_
    refine SN.seq ?_
    refine SG.seq ?_
    refine SG.region ?_
    refine SL.val rfl rfl (fun w9 F9 S9 s => R.mv rfl) ?_
    refine SL.val rfl rfl (fun w9 F9 S9 s => R.mv rfl) ?_
    refine SL.val rfl rfl (fun w9 F9 S9 s => R.lenS rfl) ?_
    refine SL.val rfl rfl (fun w9 F9 S9 s => R.add rfl rfl (by omega)) ?_
    refine SL.val rfl rfl (fun w9 F9 S9 s => R.as rfl) ?_
    refine SL.nil ?_
    refine SN.be 3 rfl (show _ = Value.int .i64 (((flR (rs.take (i + 1))).length : Nat) : Int) by rw [hfs, List.length_append]; congr 1; omega) ?_
    refine SN.seq ?_
    refine SG.seq ?_
    refine SG.region ?_
    refine SL.val rfl rfl (fun w9 F9 S9 s => R.mv rfl) ?_
    refine SL.val rfl rfl (fun w9 F9 S9 s => R.lss rfl rfl) ?_
    refine SL.nil ?_
    refine SN.seq ?_
    refine SG.condP rfl (fun h1 => ?_) (fun h1 => ?_)
    · exfalso; omega
    · refine SG.skip ?_
      refine SN.block ?_
      refine SN.seq ?_
      refine SG.region ?_
      refine SL.val rfl rfl (fun w9 F9 S9 s => R.add rfl rfl (by omega)) ?_
      refine SL.val rfl rfl (fun w9 F9 S9 s => R.mv rfl) ?_
      refine SL.nil ?_
      exact SN.again (i + 1) (by show n - (i + 1) < n - i; omega) (Sub.cons rfl (Sub.cons rfl (Sub.cons rfl (Sub.cons rfl (Sub.cons rfl (Sub.nil _)))))) ((Imp.sels (by repeat (first | exact Sels.nil | apply Sels.cons | exact Sel.keep | exact Sel.here | apply Sel.there)))) (by show i + 1 ≤ n; omega)
  · obtain rfl : i = n := by omega
    rw [List.take_of_length_le (by omega)]
    refine SG.exit _ rfl ?_
    refine SN.seq ?_
    refine SG.seq ?_
    refine SG.region ?_
    refine SL.val rfl rfl (fun w9 F9 S9 s => R.mv rfl) ?_
    refine SL.step rfl rfl (CS.call rfl go55 (grow0_ok (flR rs).length h1 (by omega)) (by repeat (first | exact Sels.nil | apply Sels.cons | exact Sel.keep | exact Sel.here | apply Sel.there))) ?_
    rintro _ _ ⟨_, ⟨a24, c24, rfl, rfl⟩, rfl⟩
    refine SL.n1 ?_
    refine SL.val rfl rfl (fun w9 F9 S9 s => R.as rfl) ?_
    refine SL.nil ?_
    refine SN.seq ?_
    refine SG.seq ?_
    refine SG.seq ?_
    refine SG.region ?_
    refine SL.val rfl rfl (fun w9 F9 S9 s => R.mv rfl) ?_
    refine SL.val rfl rfl (fun w9 F9 S9 s => R.lenS rfl) ?_
    refine SL.val rfl rfl (fun w9 F9 S9 s => R.mv rfl) ?_
    refine SL.nil ?_
    refine SN.seq ?_
    refine SG.block ?_
    obtain ⟨i0, rfl⟩ : ∃ i0, i0 = i := ⟨_, rfl⟩
    refine SG.loop (X := CaS) (fun y => [(6, .slice y.a (flR (rs.take y.i)).length y.c), (25, .slice ra i0 c), (26, .int .i64 (i0 : Int)), (27, .int .i64 (y.i : Int))]) (fun y => [own 5 1 y.a (flR (rs.take y.i)).length y.c (vbs (flR (rs.take y.i))), sh (fun w => Cells w ra (rs.map BRow.val)), sh (fun w => ∀ r ∈ rs, Bs w r.a r.n r.l)]) (fun y => y.i ≤ i0) (fun y => i0 - y.i) (⟨0, a24, c24⟩) (Sub.cons rfl (Sub.cons rfl (Sub.cons rfl (Sub.cons rfl (Sub.nil _))))) ((Imp.sels (by repeat (first | exact Sels.nil | apply Sels.cons | exact Sel.keep | exact Sel.here | apply Sel.there)))) (Nat.zero_le _) ?_
    rintro ⟨i, a9, c9⟩ hi
    dsimp only at hi
    show SG _ _ _ _ _ [(6, .slice a9 (flR (rs.take i)).length c9), (25, .slice ra i0 c), (26, .int .i64 (i0 : Int)), (27, .int .i64 (i : Int))] [own 5 1 a9 (flR (rs.take i)).length c9 (vbs (flR (rs.take i))), sh (fun w => Cells w ra (rs.map BRow.val)), sh (fun w => ∀ r ∈ rs, Bs w r.a r.n r.l)] _
    refine SG.seq ?_
    refine SG.region ?_
    refine SL.val rfl rfl (fun w9 F9 S9 s => R.lss rfl rfl) ?_
    refine SL.nil ?_
    refine SN.seq ?_
    refine SG.seq ?_
    refine SG.condP rfl (fun h2 => ?_) (fun h2 => ?_)
    · obtain ⟨r, hr⟩ : ∃ r, rs[i]? = some r := ⟨_, List.getElem?_eq_getElem (by omega)⟩
      refine SG.fact (fun w9 F9 S9 s => brow_pt (s.sh (p := fun w => Cells w ra (rs.map BRow.val)) (by repeat (first | exact Sel.keep | exact Sel.here | apply Sel.there))) hr) (fun hf9 => ?_)
      obtain ⟨q, hq⟩ := hf9
      refine SG.fact (fun w9 F9 S9 s => brow_len (s.sh (p := fun w => ∀ r ∈ rs, Bs w r.a r.n r.l) (by repeat (first | exact Sel.keep | exact Sel.here | apply Sel.there))) hr) (fun hf9 => ?_)
      have hrn := hf9; clear hf9
      have hfs := flR_succ hr
      have hfl := flR_le rs (i + 1)
      rw [hfs, List.length_append] at hfl
      refine SG.imp (Imp.weak (p := fun w => ∀ r ∈ rs, Bs w r.a r.n r.l) (q := fun w => Bs w r.a r.n r.l) (by repeat (first | exact Sel.keep | exact Sel.here | apply Sel.there)) (fun w hw => hw r (List.mem_of_getElem? hr))) ?_
      refine SG.skip ?_
      refine SN.seq ?_
      refine SG.seq ?_
      refine SG.block ?_
      refine SG.seq ?_
      refine SG.region ?_
      refine SL.val rfl rfl (fun w9 F9 S9 s => R.idx rfl rfl (by omega) (by omega) q hq) ?_
      refine SL.val rfl rfl (fun w9 F9 S9 s => R.ld (v := r.val) rfl (brow_ld (s.sh (p := fun w => Cells w ra (rs.map BRow.val)) (by repeat (first | exact Sel.keep | exact Sel.here | apply Sel.there))) hq hr)) ?_
      refine SL.be 30 rfl (show _ = Value.slice r.a r.n r.c from rfl) ?_
      refine SL.val rfl rfl (fun w9 F9 S9 s => R.as rfl) ?_
      refine SL.nil ?_
      refine SN.seq ?_
      refine SG.region ?_
      refine SL.val rfl rfl (fun w9 F9 S9 s => R.mv rfl) ?_
      refine SL.val rfl rfl (fun w9 F9 S9 s => R.mv rfl) ?_
      refine SL.step rfl rfl (CS.app rfl rfl (by repeat (first | exact Sel.keep | exact Sel.here | apply Sel.there)) (fun w9 F9 S9 s => (s.sh (p := fun w => Bs w r.a r.n r.l) (by repeat (first | exact Sel.keep | exact Sel.here | apply Sel.there))).cells) (by rw [vbs_length]; omega) (vbs_one _) (by simp [maxLen]; omega) (by omega)) ?_
      rintro _ _ ⟨a33, c33, rfl, rfl⟩
      refine SL.val rfl rfl (fun w9 F9 S9 s => R.as rfl) ?_
      refine SL.nil ?_
      refine SN.be 6 rfl (show _ = Value.slice a33 (flR (rs.take (i + 1))).length c33 by rw [hfs, List.length_append, ← hrn]) ?_
      refine SN.block ?_
      refine SN.seq ?_
      refine SG.region ?_
      refine SL.val rfl rfl (fun w9 F9 S9 s => R.add rfl rfl (by omega)) ?_
      refine SL.val rfl rfl (fun w9 F9 S9 s => R.mv rfl) ?_
      refine SL.nil ?_
      exact SN.again (⟨i + 1, a33, c33⟩) (by show i0 - (i + 1) < i0 - i; omega) (Sub.cons rfl (Sub.cons rfl (Sub.cons rfl (Sub.cons rfl (Sub.nil _))))) ((show Imp _ _ by dsimp only; rw [hfs, List.length_append, vbs_app2, ← hrn]; exact (Imp.sels (by repeat (first | exact Sels.nil | apply Sels.cons | exact Sel.keep | exact Sel.here | apply Sel.there))))) (by show i + 1 ≤ i0; omega)
    · obtain rfl : i = i0 := by omega
      rw [List.take_of_length_le (by omega)]
      refine SG.exit _ rfl ?_
      refine SN.seq ?_
      refine SG.seq ?_
      refine SG.region ?_
      refine SL.val rfl rfl (fun w9 F9 S9 s => R.mv rfl) ?_
      refine SL.val rfl rfl (fun w9 F9 S9 s => R.as rfl) ?_
      refine SL.nil ?_
      refine SN.seq ?_
      exact SG.ret1 rfl rfl ((Imp.sels (by repeat (first | exact Sels.nil | apply Sels.cons | exact Sel.keep | exact Sel.here | apply Sel.there)))) (⟨a9, c9, rfl, rfl⟩)

end Go.Proofs.Ytmbppidafnakhaa
/-
  The walks of package pool.
-/
set_option linter.unusedVariables false
set_option linter.unusedSimpArgs false
set_option maxRecDepth 4000
namespace Go.Proofs.Ytmbppidafnakhaa
open Go Brv Brv.Image Brv.Dev
structure ImS where
  i : Nat
  a : Option Addr
  c : Nat
  rs : List BRow
theorem flR_snoc (rs : List BRow) (r : BRow) : flR (rs ++ [r]) = flR rs ++ r.l := by simp [flR]
theorem rsPost {M : Hd} {vv : DevV} {sz fr B : Nat} {l : List UInt8} {e : Int} {q : Option Addr} {K R : List Asn} (h : pimV M vv sz fr B = (l, e)) (hK : K = sh (fun w => DiskO w q l) :: R) : ∃ q', Value.tuple #[.pointer q, .int .i64 e] = .tuple #[.pointer q', .int .i64 (pimV M vv sz fr B).2] ∧ K = sh (fun w => DiskO w q' (pimV M vv sz fr B).1) :: R := by
  rw [h]; exact ⟨q, rfl, hK⟩

theorem pnew_ok (d sz fr B : Nat) (vv : DevV) (h1 : 1 ≤ B) (h2 : B ≤ 64) (h3 : fr + B ≤ sz) (h4 : sz ≤ 4096) : SpecS Try.prog 8 [.pointer (some ⟨d, 0, none⟩), .int .i64 (fr : Int), .int .i64 (B : Int)] [dvA d vv sz] (fun v H' => ∃ p' m', v = .tuple #[.pointer (some ⟨p', 0, none⟩), .int .i64 0] ∧ H' = [blk p' [.pointer (some ⟨d, 0, none⟩), .int .i64 (fr : Int), .int .i64 (B : Int), .pointer (some ⟨m', 0, none⟩)] 78, mp (κ := Int) 110 114 2 m' (psP ([] : List (Int × HdV))), sh (fun w => ∀ t ∈ ([] : List (Int × HdV)), HdV.ok w t.2), dvA d vv sz]) := by
  refine SpecS.enter Try.func8 rfl 35 rfl (Nat.le_of_ble_eq_true rfl) (fun o => ?_)
  refine SG.seq ?_
  refine SG.region ?_
  refine SL.val rfl rfl (fun w9 F9 S9 s => R.as rfl) ?_
  refine SL.val rfl rfl (fun w9 F9 S9 s => R.as rfl) ?_
  refine SL.nil ?_
  refine SN.seq ?_
  refine SG.seq ?_
  refine SG.block ?_
  refine SG.seq ?_
  refine SG.region ?_
  refine SL.val rfl rfl (fun w9 F9 S9 s => R.mv rfl) ?_
  refine SL.val rfl rfl (fun w9 F9 S9 s => R.eqNilP rfl rfl) ?_
  refine SL.val rfl rfl (fun w9 F9 S9 s => R.as rfl) ?_
  refine SL.nil ?_
  refine SN.seq ?_
  refine SG.condF rfl ?_
  refine SG.seq ?_
  refine SG.region ?_
  refine SL.val rfl rfl (fun w9 F9 S9 s => R.mv rfl) ?_
  refine SL.val rfl rfl (fun w9 F9 S9 s => R.lss rfl rfl) ?_
  refine SL.val rfl rfl (fun w9 F9 S9 s => R.mv rfl) ?_
  refine SL.caseP 14 rfl (fun hg3_2 => ?_) (fun hg3_2 => ?_)
  · exfalso; omega
  · refine SL.val rfl rfl (fun w9 F9 S9 s => R.mv rfl) ?_
    refine SL.val rfl rfl (fun w9 F9 S9 s => R.lss rfl rfl) ?_
    first | refine SL.val rfl rfl (fun w9 F9 S9 s => R.pickT rfl rfl) ?_ | refine SL.val rfl rfl (fun w9 F9 S9 s => R.pickF rfl rfl) ?_
    refine SL.val rfl rfl (fun w9 F9 S9 s => R.mv rfl) ?_
    refine SL.caseP 18 rfl (fun hg3_6 => ?_) (fun hg3_6 => ?_)
    · exfalso; omega
    · refine SL.val rfl rfl (fun w9 F9 S9 s => R.mv rfl) ?_
      refine SL.val rfl rfl (fun w9 F9 S9 s => R.gtr rfl rfl) ?_
      first | refine SL.val rfl rfl (fun w9 F9 S9 s => R.pickT rfl rfl) ?_ | refine SL.val rfl rfl (fun w9 F9 S9 s => R.pickF rfl rfl) ?_
      refine SL.val rfl rfl (fun w9 F9 S9 s => R.as rfl) ?_
      refine SL.nil ?_
      refine SN.seq ?_
      refine SG.condP rfl (fun h1 => ?_) (fun h1 => ?_)
      · exfalso; omega
      · refine SG.seq ?_
        refine SG.region ?_
        refine SL.val rfl rfl (fun w9 F9 S9 s => R.mv rfl) ?_
        refine SL.val rfl rfl (fun w9 F9 S9 s => R.mv rfl) ?_
        refine SL.step rfl rfl (CS.callR rfl go27 (fun w9 F9 S9 s => dsizeS d vv sz w9 (s.dv (by repeat (first | exact Sel.keep | exact Sel.here | apply Sel.there))))) ?_
        rintro _ _ ⟨rfl, rfl⟩
        refine SL.val rfl rfl (fun w9 F9 S9 s => R.mv rfl) ?_
        refine SL.val rfl rfl (fun w9 F9 S9 s => R.sub' rfl rfl (by omega)) ?_
        refine SL.val rfl rfl (fun w9 F9 S9 s => R.gtr rfl rfl) ?_
        refine SL.val rfl rfl (fun w9 F9 S9 s => R.as rfl) ?_
        refine SL.nil ?_
        refine SN.seq ?_
        refine SG.condP rfl (fun h2 => ?_) (fun h2 => ?_)
        · exfalso; omega
        · refine SG.skip ?_
          refine SN.block ?_
          refine SN.seq ?_
          refine SG.seq ?_
          refine SG.region ?_
          refine SL.val rfl rfl (fun w9 F9 S9 s => R.mv rfl) ?_
          refine SL.val rfl rfl (fun w9 F9 S9 s => R.mv rfl) ?_
          refine SL.val rfl rfl (fun w9 F9 S9 s => R.mv rfl) ?_
          refine SL.step rfl rfl (CS.call rfl go28 (SpecS.ofNew (fun w => onewPoolheld_ok w)) (by repeat (first | exact Sels.nil | apply Sels.cons | exact Sel.keep | exact Sel.here | apply Sel.there))) ?_
          rintro _ _ ⟨_, ⟨m2, rfl, rfl⟩, rfl⟩
          refine SL.n1 ?_
          refine SL.imp (Imp.pure (p := fun w => ∀ t ∈ ([] : List (Int × HdV)), HdV.ok w t.2) (fun w t ht => by cases ht)) ?_
          refine SL.val rfl rfl (fun w9 F9 S9 s => R.build (cs := #[.pointer (some ⟨d, 0, none⟩), .int .i64 (fr : Int), .int .i64 (B : Int), .pointer (some ⟨m2, 0, none⟩)]) rfl rfl) ?_
          refine SL.step rfl rfl (CS.boxA rfl) ?_
          rintro _ _ ⟨b34, rfl, rfl⟩
          refine SL.val rfl rfl (fun w9 F9 S9 s => R.as rfl) ?_
          refine SL.val rfl rfl (fun w9 F9 S9 s => R.as rfl) ?_
          refine SL.nil ?_
          refine SN.seq ?_
          exact SG.ret2 rfl rfl rfl ((Imp.sels (by repeat (first | exact Sels.nil | apply Sels.cons | exact Sel.keep | exact Sel.here | apply Sel.there)))) (⟨b34, m2, rfl, rfl⟩)

theorem pdrop_ok (p d m sz fr B : Nat) (vv : DevV) (hd : List (Int × HdV)) : SpecS Try.prog 16 [.pointer (some ⟨p, 0, none⟩)] [blk p [.pointer (some ⟨d, 0, none⟩), .int .i64 (fr : Int), .int .i64 (B : Int), .pointer (some ⟨m, 0, none⟩)] 78, mp (κ := Int) 110 114 2 m (psP hd), sh (fun w => ∀ t ∈ hd, HdV.ok w t.2), dvA d vv sz] (fun v H' => ∃ m', v = .tuple #[] ∧ H' = [blk p [.pointer (some ⟨d, 0, none⟩), .int .i64 (fr : Int), .int .i64 (B : Int), .pointer (some ⟨m', 0, none⟩)] 78, mp (κ := Int) 110 114 2 m' (psP ([] : List (Int × HdV))), sh (fun w => ∀ t ∈ ([] : List (Int × HdV)), HdV.ok w t.2), dvA d vv sz]) := by
  refine SpecS.enter Try.func16 rfl 8 rfl (Nat.le_of_ble_eq_true rfl) (fun o => ?_)
  refine SG.seq ?_
  refine SG.region ?_
  refine SL.val rfl rfl (fun w9 F9 S9 s => R.mv rfl) ?_
  refine SL.val rfl rfl (fun w9 F9 S9 s => R.neNilP rfl rfl) ?_
  refine SL.nil ?_
  refine SN.seq ?_
  refine SG.condT rfl ?_
  refine SG.region ?_
  refine SL.val rfl rfl (fun w9 F9 S9 s => R.mv rfl) ?_
  refine SL.step rfl rfl (CS.call rfl go28 (SpecS.ofNew (fun w => onewPoolheld_ok w)) (by repeat (first | exact Sels.nil | apply Sels.cons | exact Sel.keep | exact Sel.here | apply Sel.there))) ?_
  rintro _ _ ⟨_, ⟨m2, rfl, rfl⟩, rfl⟩
  refine SL.n1 ?_
  refine SL.imp (Imp.pure (p := fun w => ∀ t ∈ ([] : List (Int × HdV)), HdV.ok w t.2) (fun w t ht => by cases ht)) ?_
  refine SL.val rfl rfl (fun w9 F9 S9 s => R.nilChk rfl) ?_
  refine SL.val rfl rfl (fun w9 F9 S9 s => R.fld rfl) ?_
  refine SL.step0 rfl (CS.st rfl rfl (by repeat (first | exact Sel.keep | exact Sel.here | apply Sel.there)) (by repeat (first | exact SetAt.here | apply SetAt.there)) rfl) ?_
  rintro _ _ rfl
  refine SL.nil ?_
  exact SN.end0 rfl ((Imp.sels (by repeat (first | exact Sels.nil | apply Sels.cons | exact Sel.keep | exact Sel.here | apply Sel.there)))) (⟨m2, rfl, rfl⟩)

theorem pimage_ok (p d m sz fr B : Nat) (vv : DevV) (hd : List (Int × HdV)) (hfr : fr ≤ 4096) (hB1 : 1 ≤ B) (hB : B ≤ 64) (hM : ∀ t ∈ absP hd, t.2.1.length = 64) (hl : hd.length ≤ 10000) (hwb : vv.wt.length ≤ 1000000) : SpecS Try.prog 11 [.pointer (some ⟨p, 0, none⟩)] [blk p [.pointer (some ⟨d, 0, none⟩), .int .i64 (fr : Int), .int .i64 (B : Int), .pointer (some ⟨m, 0, none⟩)] 78, mp (κ := Int) 110 114 2 m (psP hd), sh (fun w => ∀ t ∈ hd, HdV.ok w t.2), dvA d vv sz] (fun v H' => ∃ q, v = .tuple #[.pointer q, .int .i64 (pimV (absP hd) vv sz fr B).2] ∧ H' = [sh (fun w => DiskO w q (pimV (absP hd) vv sz fr B).1), blk p [.pointer (some ⟨d, 0, none⟩), .int .i64 (fr : Int), .int .i64 (B : Int), .pointer (some ⟨m, 0, none⟩)] 78, mp (κ := Int) 110 114 2 m (psP hd), sh (fun w => ∀ t ∈ hd, HdV.ok w t.2), dvA d vv sz]) := by
  refine SpecS.enter Try.func11 rfl 36 rfl (Nat.le_of_ble_eq_true rfl) (fun o => ?_)
  refine SG.fact (fun w9 F9 S9 s => (s.dv (show Sel _ (dvA d vv sz) _ from (by repeat (first | exact Sel.keep | exact Sel.here | apply Sel.there)))).elim fun S9 h9 => h9.wf.1) (fun hf9 => ?_)
  have hwf := hf9; clear hf9
  refine SG.seq ?_
  refine SG.region ?_
  refine SL.val rfl rfl (fun w9 F9 S9 s => R.as rfl) ?_
  refine SL.val rfl rfl (fun w9 F9 S9 s => R.as rfl) ?_
  refine SL.nil ?_
  refine SN.seq ?_
  refine SG.seq ?_
  refine SG.seq ?_
  refine SG.region ?_
  refine SL.val rfl rfl (fun w9 F9 S9 s => R.mv rfl) ?_
  refine SL.val rfl rfl (fun w9 F9 S9 s => R.eqNilP rfl rfl) ?_
  refine SL.nil ?_
  refine SN.seq ?_
  refine SG.condF rfl ?_
  refine SG.skip ?_
  refine SN.seq ?_
  refine SG.seq ?_
  refine SG.region ?_
  refine SL.val rfl rfl (fun w9 F9 S9 s => R.as rfl) ?_
  refine SL.nil ?_
  refine SN.seq ?_
  refine SG.seq ?_
  refine SG.seq ?_
  refine SG.region ?_
  refine SL.val rfl rfl (fun w9 F9 S9 s => R.mv rfl) ?_
  refine SL.val rfl rfl (fun w9 F9 S9 s => R.nilChk rfl) ?_
  refine SL.val rfl rfl (fun w9 F9 S9 s => R.fld rfl) ?_
  refine SL.val rfl rfl (fun w9 F9 S9 s => R.ldB rfl (s.cel (by repeat (first | exact SelB.blk | exact SelB.fz | apply SelB.there))) (by rfl)) ?_
  refine SL.val rfl rfl (fun w9 F9 S9 s => R.mv rfl) ?_
  refine SL.nil ?_
  refine SN.seq ?_
  refine SG.block ?_
  refine SG.imp (Imp.ownNil 36 1) ?_
  refine SG.imp (Imp.pure (p := fun w => ∀ r ∈ ([] : List BRow), Bs w r.a r.n r.l) (fun w r hr => by cases hr)) ?_
  refine SG.loop (X := ImS) (fun y => [(0, .pointer (some ⟨p, 0, none⟩)), (4, .slice y.a y.i y.c), (13, .int .i64 (B : Int)), (14, .int .i64 (y.i : Int))]) (fun y => [own 36 1 y.a y.i y.c (y.rs.map BRow.val), sh (fun w => ∀ r ∈ y.rs, Bs w r.a r.n r.l), blk p [.pointer (some ⟨d, 0, none⟩), .int .i64 (fr : Int), .int .i64 (B : Int), .pointer (some ⟨m, 0, none⟩)] 78, mp (κ := Int) 110 114 2 m (psP hd), sh (fun w => ∀ t ∈ hd, HdV.ok w t.2), dvA d vv sz]) (fun y => y.i ≤ B ∧ y.rs.length = y.i ∧ pimL (absP hd) vv sz fr B y.i = (flR y.rs, 0) ∧ (flR y.rs).length = 64 * y.i) (fun y => B - y.i) (⟨0, none, 0, []⟩) (Sub.cons rfl (Sub.cons rfl (Sub.cons rfl (Sub.cons rfl (Sub.nil _))))) ((Imp.sels (by repeat (first | exact Sels.nil | apply Sels.cons | exact Sel.keep | exact Sel.here | apply Sel.there)))) (⟨Nat.zero_le _, rfl, rfl, rfl⟩) ?_
  rintro ⟨i, a9, c9, rs⟩ ⟨hi, hrl, hpi, hfl⟩
  dsimp only at hi hrl hpi hfl
  show SG _ _ _ _ _ [(0, .pointer (some ⟨p, 0, none⟩)), (4, .slice a9 i c9), (13, .int .i64 (B : Int)), (14, .int .i64 (i : Int))] [own 36 1 a9 i c9 (rs.map BRow.val), sh (fun w => ∀ r ∈ rs, Bs w r.a r.n r.l), blk p [.pointer (some ⟨d, 0, none⟩), .int .i64 (fr : Int), .int .i64 (B : Int), .pointer (some ⟨m, 0, none⟩)] 78, mp (κ := Int) 110 114 2 m (psP hd), sh (fun w => ∀ t ∈ hd, HdV.ok w t.2), dvA d vv sz] _
  refine SG.seq ?_
  refine SG.region ?_
  refine SL.val rfl rfl (fun w9 F9 S9 s => R.lss rfl rfl) ?_
  refine SL.nil ?_
  refine SN.seq ?_
  refine SG.seq ?_
  refine SG.condP rfl (fun h1 => ?_) (fun h1 => ?_)
  · refine SG.skip ?_
    refine SN.seq ?_
    refine SG.seq ?_
    refine SG.block ?_
    refine SG.seq ?_
    refine SG.region ?_
    refine SL.val rfl rfl (fun w9 F9 S9 s => R.mv rfl) ?_
    refine SL.val rfl rfl (fun w9 F9 S9 s => R.as rfl) ?_
    refine SL.nil ?_
    refine SN.seq ?_
    refine SG.seq ?_
    refine SG.region ?_
    refine SL.val rfl rfl (fun w9 F9 S9 s => R.mv rfl) ?_
    refine SL.val rfl rfl (fun w9 F9 S9 s => R.mv rfl) ?_
    refine SL.step rfl rfl (CS.call rfl go19 (pget_ok p d m sz fr B vv hd (i : Int) hfr hB hl hwb) (by repeat (first | exact Sels.nil | apply Sels.cons | exact Sel.keep | exact Sel.here | apply Sel.there))) ?_
    rintro _ _ ⟨_, ⟨a20, c20, rfl, rfl⟩, rfl⟩
    refine SL.n5 ?_
    refine SL.val rfl rfl (fun w9 F9 S9 s => R.mv rfl) ?_
    refine SL.val rfl rfl (fun w9 F9 S9 s => R.ext rfl rfl) ?_
    refine SL.val rfl rfl (fun w9 F9 S9 s => R.ext rfl rfl) ?_
    refine SL.val rfl rfl (fun w9 F9 S9 s => R.as rfl) ?_
    refine SL.val rfl rfl (fun w9 F9 S9 s => R.as rfl) ?_
    refine SL.nil ?_
    refine SN.seq ?_
    refine SG.seq ?_
    refine SG.seq ?_
    refine SG.region ?_
    refine SL.val rfl rfl (fun w9 F9 S9 s => R.mv rfl) ?_
    refine SL.val rfl rfl (fun w9 F9 S9 s => R.neI rfl rfl) ?_
    refine SL.nil ?_
    refine SN.seq ?_
    refine SG.condP rfl (fun h2 => ?_) (fun h2 => ?_)
    · refine SG.seq ?_
      refine SG.region ?_
      refine SL.val rfl rfl (fun w9 F9 S9 s => R.mv rfl) ?_
      refine SL.val rfl rfl (fun w9 F9 S9 s => R.as rfl) ?_
      refine SL.val rfl rfl (fun w9 F9 S9 s => R.as rfl) ?_
      refine SL.nil ?_
      refine SN.seq ?_
      exact SG.ret2 rfl rfl rfl ((Imp.pure (p := fun w => DiskO w none []) (fun w => .inl ⟨rfl, rfl⟩)).trans (Imp.sels (by repeat (first | exact Sels.nil | apply Sels.cons | exact Sel.keep | exact Sel.here | apply Sel.there)))) (rsPost (q := none) (l := []) (e := (pgetV (absP hd) vv sz fr B (i : Int)).2) (pim_err hpi (by omega) h2) rfl)
    · have h20 : (pgetV (absP hd) vv sz fr B (i : Int)).2 = 0 := Classical.not_not.1 h2
      have h64i := pget_64 hwf hM h20
      refine SG.imp (Imp.ownSh (show Sel _ (own 5 1 a20 (pgetV (absP hd) vv sz fr B (i : Int)).1.length c20 (vbs (pgetV (absP hd) vv sz fr B (i : Int)).1)) _ from (by repeat (first | exact Sel.keep | exact Sel.here | apply Sel.there))) (p := fun w => Bs w a20 (pgetV (absP hd) vv sz fr B (i : Int)).1.length (pgetV (absP hd) vv sz fr B (i : Int)).1) (fun w h => ⟨h, rfl⟩)) ?_
      refine SG.imp (Imp.both (p := fun w => ∀ r ∈ rs, Bs w r.a r.n r.l) (q := fun w => Bs w a20 (pgetV (absP hd) vv sz fr B (i : Int)).1.length (pgetV (absP hd) vv sz fr B (i : Int)).1) (by repeat (first | exact Sel.keep | exact Sel.here | apply Sel.there)) (by repeat (first | exact Sel.keep | exact Sel.here | apply Sel.there))) ?_
      refine SG.imp (Imp.weak (p := fun w => (∀ r ∈ rs, Bs w r.a r.n r.l) ∧ Bs w a20 (pgetV (absP hd) vv sz fr B (i : Int)).1.length (pgetV (absP hd) vv sz fr B (i : Int)).1) (q := fun w => ∀ r ∈ rs ++ [(⟨a20, (pgetV (absP hd) vv sz fr B (i : Int)).1.length, c20, (pgetV (absP hd) vv sz fr B (i : Int)).1⟩ : BRow)], Bs w r.a r.n r.l) (by repeat (first | exact Sel.keep | exact Sel.here | apply Sel.there)) (fun w hw r hr => (List.mem_append.1 hr).elim (hw.1 r) (fun h => by rw [List.mem_singleton.1 h]; exact hw.2))) ?_
      refine SG.skip ?_
      refine SN.seq ?_
      refine SG.region ?_
      refine SL.val rfl rfl (fun w9 F9 S9 s => R.mv rfl) ?_
      refine SL.val rfl rfl (fun w9 F9 S9 s => R.mv rfl) ?_
      refine SL.step rfl rfl (CS.buildA rfl rfl rfl rfl rfl ([(⟨a20, (pgetV (absP hd) vv sz fr B (i : Int)).1.length, c20, (pgetV (absP hd) vv sz fr B (i : Int)).1⟩ : BRow)].map BRow.val) rfl) ?_
      rintro _ _ ⟨b28, rfl, rfl⟩
      refine SL.step rfl rfl (CS.app rfl rfl (by repeat (first | exact Sel.keep | exact Sel.here | apply Sel.there)) (fun w9 F9 S9 s => s.blkC (show Sel _ (blk b28 ([(⟨a20, (pgetV (absP hd) vv sz fr B (i : Int)).1.length, c20, (pgetV (absP hd) vv sz fr B (i : Int)).1⟩ : BRow)].map BRow.val) _) _ from (by repeat (first | exact Sel.keep | exact Sel.here | apply Sel.there)))) rfl (by intro u hu; simp at hu; subst hu; rfl) (by simp [maxLen]; omega) (by omega)) ?_
      rintro _ _ ⟨a29, c29, rfl, rfl⟩
      refine SL.val rfl rfl (fun w9 F9 S9 s => R.as rfl) ?_
      refine SL.nil ?_
      refine SN.block ?_
      refine SN.seq ?_
      refine SG.region ?_
      refine SL.val rfl rfl (fun w9 F9 S9 s => R.add rfl rfl (by omega)) ?_
      refine SL.val rfl rfl (fun w9 F9 S9 s => R.mv rfl) ?_
      refine SL.nil ?_
      exact SN.again (⟨i + 1, a29, c29, rs ++ [(⟨a20, (pgetV (absP hd) vv sz fr B (i : Int)).1.length, c20, (pgetV (absP hd) vv sz fr B (i : Int)).1⟩ : BRow)]⟩) (by show B - (i + 1) < B - i; omega) (Sub.cons rfl (Sub.cons rfl (Sub.cons rfl (Sub.cons rfl (Sub.nil _))))) ((show Imp _ _ by dsimp only; rw [List.map_append]; exact (Imp.sels (by repeat (first | exact Sels.nil | apply Sels.cons | exact Sel.keep | exact Sel.here | apply Sel.there))))) (⟨by show i + 1 ≤ B; omega, by show (rs ++ [(⟨a20, (pgetV (absP hd) vv sz fr B (i : Int)).1.length, c20, (pgetV (absP hd) vv sz fr B (i : Int)).1⟩ : BRow)]).length = i + 1; rw [List.length_append, hrl]; rfl, by show pimL _ _ _ _ _ (i + 1) = (flR (rs ++ [(⟨a20, (pgetV (absP hd) vv sz fr B (i : Int)).1.length, c20, (pgetV (absP hd) vv sz fr B (i : Int)).1⟩ : BRow)]), 0); rw [pim_next hpi h20, flR_snoc], by show (flR (rs ++ [(⟨a20, (pgetV (absP hd) vv sz fr B (i : Int)).1.length, c20, (pgetV (absP hd) vv sz fr B (i : Int)).1⟩ : BRow)])).length = 64 * (i + 1); rw [flR_snoc, List.length_append, hfl]; show 64 * i + (pgetV (absP hd) vv sz fr B (i : Int)).1.length = _; omega⟩)
  · obtain rfl : i = B := by omega
    have hpv : pimV (absP hd) vv sz fr i = (flR rs, 0) := hpi
    have hdn : (flR rs).length = 64 * dn (flR rs) ∧ 1 ≤ dn (flR rs) ∧ dn (flR rs) ≤ 64 := by unfold dn; omega
    refine SG.imp (Imp.ownSh (show Sel _ (own 36 1 a9 i c9 (rs.map BRow.val)) _ from (by repeat (first | exact Sel.keep | exact Sel.here | apply Sel.there))) (p := fun w => Cells w a9 (rs.map BRow.val)) (fun w h => h)) ?_
    refine SG.exit _ rfl ?_
    refine SN.seq ?_
    refine SG.seq ?_
    refine SG.region ?_
    refine SL.val rfl rfl (fun w9 F9 S9 s => R.mv rfl) ?_
    refine SL.step rfl rfl (CS.call rfl go36 (concat_ok a9 i c9 rs hrl.symm (by omega) (by omega) (by omega)) (by repeat (first | exact Sels.nil | apply Sels.cons | exact Sel.keep | exact Sel.here | apply Sel.there))) ?_
    rintro _ _ ⟨_, ⟨a32, c32, rfl, rfl⟩, rfl⟩
    refine SL.n1 ?_
    refine SL.fact (fun w9 F9 S9 s => s.ownL (show Sel _ (own 5 1 a32 (flR rs).length c32 (vbs (flR rs))) _ from (by repeat (first | exact Sel.keep | exact Sel.here | apply Sel.there)))) (fun hf9 => ?_)
    obtain ⟨_, hc32⟩ := hf9
    refine SL.imp (Imp.ownBs (show Sel _ (own 5 1 a32 (flR rs).length c32 (vbs (flR rs))) _ from (by repeat (first | exact Sel.keep | exact Sel.here | apply Sel.there)))) ?_
    refine SL.step rfl rfl (CS.call rfl go35 (ifromS a32 (flR rs).length c32 (flR rs) hc32 hdn) (by repeat (first | exact Sels.nil | apply Sels.cons | exact Sel.keep | exact Sel.here | apply Sel.there))) ?_
    rintro _ _ ⟨_, ⟨d33, g33, c33, cur33, ps33, rfl, rfl⟩, rfl⟩
    refine SL.n2 ?_
    refine SL.val rfl rfl (fun w9 F9 S9 s => R.ext rfl rfl) ?_
    refine SL.val rfl rfl (fun w9 F9 S9 s => R.ext rfl rfl) ?_
    refine SL.val rfl rfl (fun w9 F9 S9 s => R.as rfl) ?_
    refine SL.val rfl rfl (fun w9 F9 S9 s => R.as rfl) ?_
    refine SL.nil ?_
    refine SN.seq ?_
    exact SG.ret2 rfl rfl rfl ((Imp.weak (p := fun w => DiskL w d33 g33 c33 cur33 ps33 (flR rs)) (q := fun w => DiskO w (some ⟨d33, 0, none⟩) (flR rs)) (by repeat (first | exact Sel.keep | exact Sel.here | apply Sel.there)) (fun w hw => disk_o hw)).trans (Imp.sels (by repeat (first | exact Sels.nil | apply Sels.cons | exact Sel.keep | exact Sel.here | apply Sel.there)))) (rsPost (q := some ⟨d33, 0, none⟩) hpv rfl)

end Go.Proofs.Ytmbppidafnakhaa
/-
  Laws on pools: what is put is there; saving changes nothing that is told.
-/
set_option linter.unusedVariables false
set_option linter.unusedSimpArgs false
namespace Brv
open Go Brv.Image Brv.Dev
section
variable {α : Type}
theorem lowT_cons (p : Int × α) (l : List (Int × α)) (k : Int) : lowT (p :: l) k = if p.1 < k then lowT l k + 1 else 0 := by
  unfold lowT
  rw [List.takeWhile_cons]
  by_cases h : p.1 < k
  · rw [if_pos h, if_pos (by simpa using h)]; rfl
  · rw [if_neg h, if_neg (by simpa using h)]; rfl
theorem hasT_cons (p : Int × α) (l : List (Int × α)) (k : Int) : hasT (p :: l) k = if p.1 < k then hasT l k else !decide (k < p.1) := by
  unfold hasT
  rw [lowT_cons]
  by_cases h : p.1 < k
  · rw [if_pos h, if_pos h, List.getElem?_cons_succ]
  · rw [if_neg h, if_neg h]; rfl
def insT (k : Int) (v : α) : List (Int × α) → List (Int × α)
  | [] => [(k, v)]
  | p :: l => if p.1 < k then p :: insT k v l else if k < p.1 then (k, v) :: p :: l else (k, v) :: l
theorem putT_ins (l : List (Int × α)) (k : Int) (v : α) : putT l k v = insT k v l := by
  induction l with
  | nil => rfl
  | cons p l ih =>
    unfold putT at ih ⊢
    rw [hasT_cons, lowT_cons, insT]
    by_cases h : p.1 < k
    · rw [if_pos h, if_pos h, if_pos h, ← ih]
      by_cases h2 : hasT l k = true
      · rw [if_pos h2, if_pos h2]; rfl
      · rw [if_neg h2, if_neg h2]; rfl
    · rw [if_neg h, if_neg h, if_neg h]
      by_cases h2 : k < p.1
      · rw [if_pos h2]; simp [h2]
      · rw [if_neg h2]; simp [h2]
theorem mem_ins {l : List (Int × α)} (hs : Srt l) {k : Int} {v : α} {q : Int × α} : q ∈ insT k v l ↔ q = (k, v) ∨ (q ∈ l ∧ q.1 ≠ k) := by
  unfold Srt at hs
  induction l with
  | nil => simp [insT]
  | cons p l ih =>
    rw [List.pairwise_cons] at hs
    rw [insT]
    by_cases h : p.1 < k
    · rw [if_pos h, List.mem_cons, ih hs.2, List.mem_cons]
      constructor
      · rintro (rfl | rfl | ⟨h1, h2⟩)
        · exact .inr ⟨.inl rfl, by omega⟩
        · exact .inl rfl
        · exact .inr ⟨.inr h1, h2⟩
      · rintro (rfl | ⟨rfl | h1, h2⟩)
        · exact .inr (.inl rfl)
        · exact .inl rfl
        · exact .inr (.inr ⟨h1, h2⟩)
    · rw [if_neg h]
      by_cases h2 : k < p.1
      · rw [if_pos h2, List.mem_cons]
        constructor
        · rintro (rfl | h1)
          · exact .inl rfl
          · refine .inr ⟨h1, ?_⟩
            rcases List.mem_cons.1 h1 with rfl | h1
            · omega
            · have := hs.1 q h1; omega
        · rintro (rfl | ⟨h1, _⟩)
          · exact .inl rfl
          · exact .inr h1
      · rw [if_neg h2, List.mem_cons]
        constructor
        · rintro (rfl | h1)
          · exact .inl rfl
          · exact .inr ⟨List.mem_cons_of_mem _ h1, by have := hs.1 q h1; omega⟩
        · rintro (rfl | ⟨h1, h3⟩)
          · exact .inl rfl
          · rcases List.mem_cons.1 h1 with rfl | h1
            · omega
            · exact .inr h1
theorem srt_ins {l : List (Int × α)} (hs : Srt l) (k : Int) (v : α) : Srt (insT k v l) := by
  have hs0 := hs
  unfold Srt at hs ⊢
  induction l with
  | nil => simp [insT]
  | cons p l ih =>
    rw [List.pairwise_cons] at hs
    rw [insT]
    by_cases h : p.1 < k
    · rw [if_pos h, List.pairwise_cons]
      refine ⟨fun q hq => ?_, ih hs.2 hs.2⟩
      rcases (mem_ins hs.2).1 hq with rfl | ⟨h1, _⟩
      · exact h
      · exact hs.1 q h1
    · rw [if_neg h]
      by_cases h2 : k < p.1
      · rw [if_pos h2, List.pairwise_cons, List.pairwise_cons]
        refine ⟨fun q hq => ?_, hs⟩
        rcases List.mem_cons.1 hq with rfl | hq
        · exact h2
        · have := hs.1 q hq; show k < q.1; omega
      · rw [if_neg h2, List.pairwise_cons]
        exact ⟨fun q hq => by have := hs.1 q hq; show k < q.1; omega, hs.2⟩
theorem srt_put {l : List (Int × α)} (hs : Srt l) (k : Int) (v : α) : Srt (putT l k v) := by rw [putT_ins]; exact srt_ins hs k v
theorem mem_put2 {l : List (Int × α)} (hs : Srt l) {k : Int} {v : α} {q : Int × α} : q ∈ putT l k v ↔ q = (k, v) ∨ (q ∈ l ∧ q.1 ≠ k) := by rw [putT_ins]; exact mem_ins hs
theorem getT_iff {l : List (Int × α)} (hs : Srt l) {k : Int} {v : α} : getT l k = some v ↔ (k, v) ∈ l :=
  ⟨getT_some, fun h => let ⟨i, hi⟩ := List.getElem?_of_mem h; getT_at hs hi⟩
theorem getT_put {l : List (Int × α)} (hs : Srt l) (k : Int) (v : α) (j : Int) : getT (putT l k v) j = if j = k then some v else getT l j := by
  refine Option.ext fun a => ?_
  rw [getT_iff (srt_put hs k v), mem_put2 hs]
  by_cases h : j = k
  · subst h
    rw [if_pos rfl]
    constructor
    · rintro (h | ⟨_, h⟩)
      · cases h; rfl
      · exact (h rfl).elim
    · intro h; cases h; exact .inl rfl
  · rw [if_neg h, getT_iff hs]
    constructor
    · rintro (h1 | ⟨h1, _⟩)
      · cases h1; exact (h rfl).elim
      · exact h1
    · exact fun h1 => .inr ⟨h1, h⟩
theorem srt_few {l : List (Int × α)} (hs : Srt l) {lo hi : Int} (hlh : lo ≤ hi) (h : ∀ t ∈ l, lo ≤ t.1 ∧ t.1 < hi) : (l.length : Int) ≤ hi - lo := by
  unfold Srt at hs
  induction l generalizing lo with
  | nil => simp; omega
  | cons p l ih =>
    rw [List.pairwise_cons] at hs
    have hp := h p (by simp)
    have := ih hs.2 (lo := p.1 + 1) (by omega) (fun t ht => ⟨by have := hs.1 t ht; omega, (h t (by simp [ht])).2⟩)
    rw [List.length_cons]; omega
end
/-- What lies in the window of a pool. -/
structure PKey (M : Hd) (B : Nat) : Prop where
  srt : Srt M
  key : ∀ t ∈ M, 0 ≤ t.1 ∧ t.1 < (B : Int)
  len : ∀ t ∈ M, t.2.1.length = 64
theorem PKey.nil (B : Nat) : PKey [] B := ⟨List.Pairwise.nil, by simp, by simp⟩
theorem PKey.few {M : Hd} {B : Nat} (h : PKey M B) : M.length ≤ B := by have := srt_few h.srt (by omega) h.key; omega
theorem PKey.put {M : Hd} {B : Nat} (h : PKey M B) {k : Int} {x : List UInt8 × Bool} (hk : 0 ≤ k ∧ k < (B : Int)) (hx : x.1.length = 64) : PKey (putT M k x) B :=
  ⟨srt_put h.srt k x, fun t ht => (mem_putT ht).elim (fun e => by rw [e]; exact hk) (h.key t), fun t ht => (mem_putT ht).elim (fun e => by rw [e]; exact hx) (h.len t)⟩
theorem PKey.putL {M : Hd} {B : Nat} (h : PKey M B) {l : List Wr} (hl : ∀ w ∈ l, pwE B w = 0) : PKey (putL M l) B := by
  unfold Brv.putL
  induction l generalizing M with
  | nil => exact h
  | cons w l ih => exact ih (h.put (pwE_in (hl w (by simp))).1 (pwE_in (hl w (by simp))).2) (fun w hw => hl w (by simp [hw]))
theorem PKey.pput {M : Hd} {B : Nat} (h : PKey M B) (l : List Wr) : PKey (pputV M B l) B := by
  unfold pputV
  split
  · rename_i h1; exact h.putL (pwsE_in h1)
  · exact h
theorem valH_len {M : Hd} {B : Nat} (h : PKey M B) {k : Int} (hk : k ∈ dirtyL M) : (valH M k).length = 64 := by
  unfold dirtyL at hk
  obtain ⟨t, ht, rfl⟩ := List.mem_map.1 hk
  have hm := (List.mem_filter.1 ht).1
  unfold valH
  rw [(getT_iff h.srt).2 (show (t.1, t.2) ∈ M from hm)]
  exact h.len t hm
theorem dirty_key {M : Hd} {B : Nat} (h : PKey M B) {k : Int} (hk : k ∈ dirtyL M) : 0 ≤ k ∧ k < (B : Int) := by
  unfold dirtyL at hk
  obtain ⟨t, ht, rfl⟩ := List.mem_map.1 hk
  exact h.key t (List.mem_filter.1 ht).1
theorem dirty_iff {M : Hd} (h : Srt M) {k : Int} : k ∈ dirtyL M ↔ ∃ x, getT M k = some (x, true) := by
  unfold dirtyL
  constructor
  · intro hk
    obtain ⟨t, ht, rfl⟩ := List.mem_map.1 hk
    obtain ⟨h1, h2⟩ := List.mem_filter.1 ht
    refine ⟨t.2.1, (getT_iff h).2 ?_⟩
    have h2 : t.2.2 = true := h2
    rw [← h2]; exact h1
  · rintro ⟨x, hx⟩
    exact List.mem_map.2 ⟨(k, (x, true)), List.mem_filter.2 ⟨getT_some hx, rfl⟩, rfl⟩
theorem clean_get (ks : List Int) : ∀ (M : Hd), Srt M → Srt (clean M ks) ∧ ∀ j, getT (clean M ks) j = if j ∈ ks then some (valH M j, false) else getT M j := by
  induction ks with
  | nil => exact fun M h => ⟨h, fun j => by simp [clean]⟩
  | cons k ks ih =>
    intro M h
    have hs := srt_put h k (valH M k, false)
    obtain ⟨h1, h2⟩ := ih _ hs
    have e : clean M (k :: ks) = clean (putT M k (valH M k, false)) ks := rfl
    rw [e]
    refine ⟨h1, fun j => ?_⟩
    have hv : valH (putT M k (valH M k, false)) j = valH M j := by
      unfold valH
      rw [getT_put h]
      by_cases hj : j = k
      · subst hj; rw [if_pos rfl]; rfl
      · rw [if_neg hj]
    rw [h2 j, hv]
    by_cases hj : j ∈ ks
    · rw [if_pos hj, if_pos (List.mem_cons_of_mem _ hj)]
    · rw [if_neg hj, getT_put h]
      by_cases hk : j = k
      · subst hk; rw [if_pos rfl, if_pos List.mem_cons_self]
      · rw [if_neg hk, if_neg (by simp [hj, hk])]
theorem PKey.clean {M : Hd} {B : Nat} (h : PKey M B) {ks : List Int} (hk : ∀ k ∈ ks, (0 ≤ k ∧ k < (B : Int)) ∧ (valH M k).length = 64) : PKey (clean M ks) B := by
  obtain ⟨h1, h2⟩ := clean_get ks M h.srt
  have key : ∀ t ∈ Brv.clean M ks, (0 ≤ t.1 ∧ t.1 < (B : Int)) ∧ t.2.1.length = 64 := by
    intro t ht
    have hg := (getT_iff h1).2 (show (t.1, t.2) ∈ _ from ht)
    rw [h2] at hg
    split at hg
    · rename_i hm
      have e : t.2 = (valH M t.1, false) := (Option.some.inj hg).symm
      rw [e]; exact hk _ hm
    · exact ⟨h.key (t.1, t.2) (getT_some hg), h.len (t.1, t.2) (getT_some hg)⟩
  exact ⟨h1, fun t ht => (key t ht).1, fun t ht => (key t ht).2⟩
end Brv
/-
  Pools over a device that is well: what is saved is there.
-/
set_option linter.unusedVariables false
set_option linter.unusedSimpArgs false
namespace Brv
open Go Brv.Image Brv.Dev
/-- A device that is well. -/
def WellD (v : DevV) : Prop := v.off = false ∧ v.left = -1
def wrsL (M : Hd) (fr : Nat) (ks : List Int) : List (Nat × List UInt8) := ks.map fun k => (fr + k.toNat, valH M k)
theorem svL_good {M : Hd} {sz fr B : Nat} (hf : fr + B ≤ sz) : ∀ (ks : List Int) (v : DevV), WellD v → (∀ k ∈ ks, (0 ≤ k ∧ k < (B : Int)) ∧ (valH M k).length = 64) →
    ks.foldl (svS M sz fr) (v, 0) = ({ v with calls := v.calls + (ks.length : Int), wt := v.wt ++ wrsL M fr ks }, 0) := by
  intro ks
  induction ks with
  | nil => intro v _ _; simp [wrsL]
  | cons k ks ih =>
    intro v hg hk
    obtain ⟨⟨h1, h2⟩, h3⟩ := hk k (by simp)
    have e : svS M sz fr (v, 0) k = ({ v with calls := v.calls + 1, wt := v.wt ++ [(fr + k.toNat, valH M k)] }, 0) := by
      unfold svS
      rw [if_pos rfl, show (fr : Int) + k = ((fr + k.toNat : Nat) : Int) by omega, write_ok hg.1 h3 (by omega) (by rw [hg.2]; decide), hg.2]
      rw [if_neg (by decide), ← hg.2]
    rw [List.foldl_cons, e, ih { v with calls := v.calls + 1, wt := v.wt ++ [(fr + k.toNat, valH M k)] } hg (fun k hk' => hk k (by simp [hk']))]
    simp only [wrsL, List.map_cons, List.append_assoc, List.singleton_append, List.length_cons]
    refine Prod.ext ?_ rfl
    dsimp only
    congr 1
    omega
/-- The device behind saving. -/
def savedV (M : Hd) (v : DevV) (fr : Nat) : DevV := ⟨laidAll v.stay (v.wt ++ wrsL M fr (dirtyL M)), [], v.calls + ((dirtyL M).length : Int) + 1, -1, false⟩
theorem saved_good (M : Hd) (v : DevV) (fr : Nat) : WellD (savedV M v fr) := ⟨rfl, rfl⟩
theorem psave_good {M : Hd} {v : DevV} {sz fr B : Nat} (hM : PKey M B) (hg : WellD v) (hf : fr + B ≤ sz) : psaveV M v sz fr = ((clean M (dirtyL M), savedV M v fr), 0) := by
  have h1 : svL M v sz fr (dirtyL M) = _ := svL_good hf (dirtyL M) v hg (fun k hk => ⟨dirty_key hM hk, valH_len hM hk⟩)
  have h2 := flush_ok (v := { v with calls := v.calls + ((dirtyL M).length : Int), wt := v.wt ++ wrsL M fr (dirtyL M) }) hg.1 (by show v.left ≠ 0; rw [hg.2]; decide)
  rw [psave_ok h1 (by rw [h2]), h2]
  refine Prod.ext (Prod.ext rfl ?_) rfl
  show DevV.mk _ _ _ _ _ = _
  unfold savedV
  congr 1
  show (if 0 < v.left then v.left - 1 else v.left) = -1
  rw [hg.2]; rfl
theorem laidAll_G {N : Nat} {G : Nat → List UInt8} : ∀ (ws : List (Nat × List UInt8)) (s : List UInt8), s.length = 64 * N → (∀ x ∈ ws, x.1 < N ∧ x.2.length = 64 ∧ x.2 = G x.1) → ∀ j, ((∃ x ∈ ws, x.1 = j) → Image.blk (laidAll s ws) j = G j) ∧ ((∀ x ∈ ws, x.1 ≠ j) → Image.blk (laidAll s ws) j = Image.blk s j) := by
  intro ws
  induction ws with
  | nil => exact fun s _ _ j => ⟨by simp, fun _ => rfl⟩
  | cons x ws ih =>
    intro s hs hw j
    obtain ⟨hx1, hx2, hx3⟩ := hw x (by simp)
    have hd : x.1 < dn s := by rw [dn_of hs]; exact hx1
    obtain ⟨h1, h2⟩ := ih (laid s x.1 x.2) ((laid_length hx2 hd).trans hs) (fun y hy => hw y (by simp [hy])) j
    have e : laidAll s (x :: ws) = laidAll (laid s x.1 x.2) ws := rfl
    rw [e]
    by_cases hex : ∃ y ∈ ws, y.1 = j
    · refine ⟨fun _ => h1 hex, fun h => ?_⟩
      obtain ⟨y, hy, he⟩ := hex
      exact (h y (by simp [hy]) he).elim
    · have hno : ∀ y ∈ ws, y.1 ≠ j := fun y hy he => hex ⟨y, hy, he⟩
      rw [h2 hno, laid_blk hx2 hd]
      refine ⟨fun h => ?_, fun h => if_neg (fun e => h x (by simp) e.symm)⟩
      obtain ⟨y, hy, he⟩ := h
      rcases List.mem_cons.1 hy with rfl | hy
      · rw [if_pos he.symm, ← he]; exact hx3
      · exact (hno y hy he).elim
/-- A block that is told. -/
def vwB (M : Hd) (v : DevV) (fr k : Nat) : List UInt8 := match getT M (k : Int) with
  | some x => x.1
  | none => Image.blk (laidAll v.stay v.wt) (fr + k)
def imgL (M : Hd) (v : DevV) (fr B : Nat) : List UInt8 := ((List.range B).map (vwB M v fr)).flatten
theorem pget_good {M : Hd} {v : DevV} {sz fr B k : Nat} (hg : WellD v) (hw : v.Wf sz) (hf : fr + B ≤ sz) (hk : k < B) : pgetV M v sz fr B (k : Int) = (vwB M v fr k, 0) := by
  have hin : inP B (k : Int) = true := decide_eq_true (by omega)
  unfold vwB
  cases hgt : getT M (k : Int) with
  | some x => exact pget_hand hin hgt
  | none =>
    rw [pget_dev hin hgt]
    unfold readV
    rw [if_neg (by rw [hg.1]; decide), if_pos (show thereP sz ((fr : Int) + (k : Int)) 1 by unfold thereP; omega), show ((fr : Int) + (k : Int)).toNat = fr + k by omega]
    rfl
theorem pim_good {M : Hd} {v : DevV} {sz fr B : Nat} (hg : WellD v) (hw : v.Wf sz) (hf : fr + B ≤ sz) : pimV M v sz fr B = (imgL M v fr B, 0) := by
  have key : ∀ j, j ≤ B → pimL M v sz fr B j = (((List.range j).map (vwB M v fr)).flatten, 0) := by
    intro j
    induction j with
    | zero => intro _; rfl
    | succ j ih =>
      intro hj
      have hp := pget_good (M := M) hg hw hf (show j < B by omega)
      rw [pim_next (ih (by omega)) (by rw [hp]), hp, List.range_succ]
      simp
  exact key B (Nat.le_refl _)
/-- What is clean in hand lies on the device. -/
def Cln (M : Hd) (v : DevV) (fr : Nat) : Prop := ∀ t ∈ M, t.2.2 = false → t.2.1 = Image.blk (laidAll v.stay v.wt) (fr + t.1.toNat)
theorem Cln.nil (v : DevV) (fr : Nat) : Cln [] v fr := by intro t ht; cases ht
theorem Cln.putL {M : Hd} {v : DevV} {fr : Nat} (h : Cln M v fr) (l : List Wr) : Cln (putL M l) v fr := by
  unfold Brv.putL
  induction l generalizing M with
  | nil => exact h
  | cons w l ih =>
    refine ih fun t ht hc => ?_
    rcases mem_putT ht with rfl | ht
    · cases hc
    · exact h t ht hc
theorem Cln.pput {M : Hd} {v : DevV} {fr B : Nat} (h : Cln M v fr) (l : List Wr) : Cln (pputV M B l) v fr := by
  unfold pputV
  split
  · exact h.putL l
  · exact h
theorem saved_blk {M : Hd} {v : DevV} {sz fr B : Nat} (hM : PKey M B) (hw : v.Wf sz) (hf : fr + B ≤ sz) (j : Nat) :
    ((∃ k ∈ dirtyL M, fr + k.toNat = j) → Image.blk (savedV M v fr).stay j = valH M ((j : Int) - (fr : Int))) ∧ ((∀ k ∈ dirtyL M, fr + k.toNat ≠ j) → Image.blk (savedV M v fr).stay j = Image.blk (laidAll v.stay v.wt) j) := by
  have e : (savedV M v fr).stay = laidAll (laidAll v.stay v.wt) (wrsL M fr (dirtyL M)) := laidAll_append _ _ _
  rw [e]
  obtain ⟨h1, h2⟩ := laidAll_G (N := sz) (G := fun j => valH M ((j : Int) - (fr : Int))) (wrsL M fr (dirtyL M)) (laidAll v.stay v.wt) (laidAll_length (s := v.stay) hw.len hw.wt) (fun x hx => by
    obtain ⟨k, hk, rfl⟩ := List.mem_map.1 hx
    have := dirty_key hM hk
    exact ⟨by show fr + k.toNat < sz; omega, valH_len hM hk, by show valH M k = valH M _; congr 1; show k = ((fr + k.toNat : Nat) : Int) - (fr : Int); omega⟩) j
  refine ⟨fun ⟨k, hk, he⟩ => h1 ⟨_, List.mem_map.2 ⟨k, hk, rfl⟩, he⟩, fun h => h2 fun x hx => ?_⟩
  obtain ⟨k, hk, rfl⟩ := List.mem_map.1 hx
  exact h k hk
theorem saved_in {M : Hd} {v : DevV} {sz fr B : Nat} (hM : PKey M B) (hw : v.Wf sz) (hf : fr + B ≤ sz) (hc : Cln M v fr) {k : Nat} (hk : k < B) : Image.blk (savedV M v fr).stay (fr + k) = vwB M v fr k := by
  obtain ⟨h1, h2⟩ := saved_blk hM hw hf (fr + k)
  unfold vwB
  by_cases hd : (k : Int) ∈ dirtyL M
  · rw [h1 ⟨(k : Int), hd, by omega⟩, show ((fr + k : Nat) : Int) - (fr : Int) = (k : Int) by omega]
    obtain ⟨x, hx⟩ := (dirty_iff hM.srt).1 hd
    unfold valH
    rw [hx]; rfl
  · rw [h2 (fun z hz he => hd (by have := dirty_key hM hz; rw [show (k : Int) = z by omega]; exact hz))]
    cases hg : getT M (k : Int) with
    | none => rfl
    | some x =>
      obtain ⟨x, f⟩ := x
      have hf2 : f = false := by
        cases f with
        | false => rfl
        | true => exact (hd ((dirty_iff hM.srt).2 ⟨x, hg⟩)).elim
      exact (hc ((k : Int), (x, f)) (getT_some hg) hf2).symm
theorem saved_out {M : Hd} {v : DevV} {sz fr B : Nat} (hM : PKey M B) (hw : v.Wf sz) (hf : fr + B ≤ sz) {j : Nat} (hj : j < fr ∨ fr + B ≤ j) : Image.blk (savedV M v fr).stay j = Image.blk (laidAll v.stay v.wt) j :=
  (saved_blk hM hw hf j).2 fun k hk he => by have := dirty_key hM hk; omega
theorem saved_wf {M : Hd} {v : DevV} {sz fr B : Nat} (hM : PKey M B) (hw : v.Wf sz) (hf : fr + B ≤ sz) : (savedV M v fr).Wf sz := by
  refine ⟨laidAll_length (s := v.stay) hw.len ?_, by simp [savedV], by simp [savedV]⟩
  intro x hx
  rcases List.mem_append.1 hx with hx | hx
  · exact hw.wt x hx
  · obtain ⟨k, hk, rfl⟩ := List.mem_map.1 hx
    have := dirty_key hM hk
    exact ⟨by show fr + k.toNat < sz; omega, valH_len hM hk⟩
theorem clean_dirty {M : Hd} {B : Nat} (hM : PKey M B) : dirtyL (clean M (dirtyL M)) = [] := by
  obtain ⟨h1, h2⟩ := clean_get (dirtyL M) M hM.srt
  refine List.eq_nil_iff_forall_not_mem.2 fun k hk => ?_
  obtain ⟨x, hx⟩ := (dirty_iff h1).1 hk
  rw [h2] at hx
  split at hx
  · cases hx
  · rename_i hn; exact hn ((dirty_iff hM.srt).2 ⟨x, hx⟩)
theorem clean_vw {M : Hd} {v : DevV} {sz fr B : Nat} (hM : PKey M B) (hw : v.Wf sz) (hf : fr + B ≤ sz) (hc : Cln M v fr) {k : Nat} (hk : k < B) : vwB (clean M (dirtyL M)) (savedV M v fr) fr k = vwB M v fr k := by
  have hs := saved_in hM hw hf hc hk
  have h2 := (clean_get (dirtyL M) M hM.srt).2 (k : Int)
  have e : laidAll (savedV M v fr).stay (savedV M v fr).wt = (savedV M v fr).stay := rfl
  unfold vwB at hs ⊢
  rw [h2, e, hs]
  by_cases hd : (k : Int) ∈ dirtyL M
  · obtain ⟨x, hx⟩ := (dirty_iff hM.srt).1 hd
    rw [if_pos hd, hx]
    show valH M (k : Int) = x
    unfold valH; rw [hx]; rfl
  · rw [if_neg hd]
    cases hg : getT M (k : Int) with
    | none => rfl
    | some x => rfl
theorem clean_cln {M : Hd} {v : DevV} {sz fr B : Nat} (hM : PKey M B) (hw : v.Wf sz) (hf : fr + B ≤ sz) (hc : Cln M v fr) : Cln (clean M (dirtyL M)) (savedV M v fr) fr := by
  obtain ⟨h1, _⟩ := clean_get (dirtyL M) M hM.srt
  have hk := (hM.clean (ks := dirtyL M) fun k hk => ⟨dirty_key hM hk, valH_len hM hk⟩).key
  intro t ht _
  obtain ⟨h3, h4⟩ := hk t ht
  have hg := (getT_iff h1).2 (show (t.1, t.2) ∈ _ from ht)
  have hv := clean_vw hM hw hf hc (k := t.1.toNat) (by omega)
  have hb := saved_in hM hw hf hc (k := t.1.toNat) (by omega)
  rw [← hv] at hb
  have e : ((t.1.toNat : Nat) : Int) = t.1 := by omega
  unfold vwB at hb
  rw [e, hg] at hb
  exact hb.symm
theorem img_clean {M : Hd} {v : DevV} {sz fr B : Nat} (hM : PKey M B) (hw : v.Wf sz) (hf : fr + B ≤ sz) (hc : Cln M v fr) : imgL (clean M (dirtyL M)) (savedV M v fr) fr B = imgL M v fr B := by
  unfold imgL
  congr 1
  exact List.map_congr_left fun k hk => clean_vw hM hw hf hc (List.mem_range.1 hk)
theorem win_flat {s : List UInt8} {N a : Nat} (h : s.length = 64 * N) : ∀ n, a + n ≤ N → win s a n = ((List.range n).map (fun k => Image.blk s (a + k))).flatten := by
  intro n
  induction n with
  | zero => intro _; rfl
  | succ n ih =>
    intro hn
    rw [List.range_succ, List.map_append, List.flatten_append, ← ih (by omega)]
    unfold win Image.blk
    simp only [List.map_cons, List.map_nil, List.flatten_cons, List.flatten_nil, List.append_nil]
    rw [show 64 * (n + 1) = 64 * n + 64 by omega, List.take_add, List.drop_drop, show 64 * a + 64 * n = 64 * (a + n) by omega]
theorem win_saved {M : Hd} {v : DevV} {sz fr B : Nat} (hM : PKey M B) (hw : v.Wf sz) (hf : fr + B ≤ sz) (hc : Cln M v fr) : win (savedV M v fr).stay fr B = imgL M v fr B := by
  rw [win_flat (saved_wf hM hw hf).len B hf]
  unfold imgL
  congr 1
  exact List.map_congr_left fun k hk => saved_in hM hw hf hc (List.mem_range.1 hk)
theorem img_drop {M : Hd} {v : DevV} {sz fr B : Nat} (hM : PKey M B) (hw : v.Wf sz) (hf : fr + B ≤ sz) (hc : Cln M v fr) {v' : DevV} (h1 : v'.stay = (savedV M v fr).stay) (h2 : v'.wt = []) : imgL [] v' fr B = imgL M v fr B := by
  unfold imgL
  congr 1
  refine List.map_congr_left fun k hk => ?_
  rw [← saved_in hM hw hf hc (List.mem_range.1 hk), ← h1]
  show Image.blk (laidAll v'.stay v'.wt) (fr + k) = _
  rw [h2]; rfl
theorem win_before {M : Hd} {v : DevV} {sz fr B : Nat} (hM : PKey M B) (hw : v.Wf sz) (hf : fr + B ≤ sz) : win (savedV M v fr).stay 0 fr = win (laidAll v.stay v.wt) 0 fr := by
  rw [win_flat (saved_wf hM hw hf).len fr (by omega), win_flat (laidAll_length (s := v.stay) hw.len hw.wt) fr (by omega)]
  congr 1
  exact List.map_congr_left fun k hk => saved_out hM hw hf (.inl (by have := List.mem_range.1 hk; omega))
end Brv
namespace Brv
open Go Brv.Image Brv.Dev
theorem put_pack {M : Hd} {v : DevV} {fr B : Nat} (hK : PKey M B) (hc : Cln M v fr) (l : List Wr) : ∃ M', pputV M B l = M' ∧ PKey M' B ∧ Cln M' v fr ∧ M'.length ≤ B :=
  ⟨_, rfl, hK.pput l, hc.pput l, (hK.pput l).few⟩
theorem save_pack {M : Hd} {v : DevV} {sz fr B K : Nat} (hM : PKey M B) (hg : WellD v) (hw : v.Wf sz) (hf : fr + B ≤ sz) (hc : Cln M v fr) (hcb : 0 ≤ v.calls ∧ v.calls ≤ (K : Int)) :
    ∃ N v', psaveV M v sz fr = ((N, v'), 0) ∧ PKey N B ∧ WellD v' ∧ v'.Wf sz ∧ Cln N v' fr ∧ v'.wt = [] ∧ (0 ≤ v'.calls ∧ v'.calls ≤ ((K + B + 1 : Nat) : Int)) ∧ dirtyL N = [] ∧ imgL N v' fr B = imgL M v fr B ∧ win v'.stay fr B = imgL M v fr B ∧ win v'.stay 0 fr = win (laidAll v.stay v.wt) 0 fr ∧
      (∀ v'', v''.stay = v'.stay → v''.wt = [] → imgL [] v'' fr B = imgL M v fr B) ∧ N.length ≤ B := by
  have hN := hM.clean (ks := dirtyL M) fun k hk => ⟨dirty_key hM hk, valH_len hM hk⟩
  have hd := dirtyL_le M
  have hf2 := hM.few
  refine ⟨_, _, psave_good hM hg hf, hN, saved_good M v fr, saved_wf hM hw hf, clean_cln hM hw hf hc, rfl, ⟨?_, ?_⟩, clean_dirty hM, img_clean hM hw hf hc, win_saved hM hw hf hc, win_before hM hw hf, fun v'' h1 h2 => img_drop hM hw hf hc h1 h2, hN.few⟩
  · show 0 ≤ v.calls + ((dirtyL M).length : Int) + 1; omega
  · show v.calls + ((dirtyL M).length : Int) + 1 ≤ _; omega
theorem crash_none {v : DevV} (h : v.wt = []) : crashV v [] = ⟨v.stay, [], v.calls, -1, false⟩ := by
  unfold crashV; rw [h]; rfl
theorem flat_len {l : List (List UInt8)} (h : ∀ b ∈ l, b.length = 64) : l.flatten.length = 64 * l.length := by
  induction l with
  | nil => rfl
  | cons b l ih => rw [List.flatten_cons, List.length_append, h b (by simp), ih (fun x hx => h x (by simp [hx])), List.length_cons]; omega
/-! what must be answered ahead -/
def f11W : List UInt8 := 7 :: List.replicate 63 0
def f11M : Hd := [((3 : Int), (f11W, true))]
def f11N : Hd := [((3 : Int), (f11W, false))]
def f11V : DevV := savedV f11M (newV 8) 2
theorem f11_K : PKey f11M 4 := ⟨by simp [f11M, Srt], by simp [f11M], by simp [f11M, f11W]⟩
theorem f11_s : psaveV f11M (newV 8) 8 2 = ((f11N, f11V), 0) := psave_good f11_K ⟨rfl, rfl⟩ (by decide)
theorem f11_w : f11V.Wf 8 := saved_wf f11_K (newV_wf 8) (by decide)
theorem f11_g : pgetV [] f11V 8 2 4 3 = (f11W, 0) := by
  have := pget_good (M := []) (v := f11V) (sz := 8) (fr := 2) (B := 4) (k := 3) ⟨rfl, rfl⟩ f11_w (by decide) (by decide)
  refine this.trans (Prod.ext ?_ rfl)
  have h := saved_in f11_K (newV_wf 8) (fr := 2) (by decide) (by intro t ht hc; rw [f11M, List.mem_singleton] at ht; subst ht; cases hc) (k := 3) (by decide)
  exact h
theorem f11_i : pimV [] f11V 8 2 4 = (imgL [] f11V 2 4, 0) := pim_good ⟨rfl, rfl⟩ f11_w (by decide)
theorem f11_il : (imgL [] f11V 2 4).length = 256 := by
  unfold imgL
  rw [flat_len]
  · rfl
  · intro b hb
    obtain ⟨k, hk, rfl⟩ := List.mem_map.1 hb
    have := pget_good (M := []) (v := f11V) (sz := 8) (fr := 2) (B := 4) (k := k) ⟨rfl, rfl⟩ f11_w (by decide) (List.mem_range.1 hk)
    have h2 := pget_64 (M := []) (v := f11V) (sz := 8) (fr := 2) (B := 4) (n := (k : Int)) f11_w (by simp) (by rw [this])
    rw [this] at h2; exact h2
end Brv
/-
  The walks of package pool.
-/
set_option linter.unusedVariables false
set_option linter.unusedSimpArgs false
set_option maxRecDepth 4000
namespace Go.Proofs.Ytmbppidafnakhaa
open Go Brv Brv.Image Brv.Dev
/-- A pool, what is in hand told. -/
def plA (p d fr B : Nat) (M : Hd) : Asn := pk (fun i : {i : Nat × List (Int × HdV) // absP i.2 = M} => [blk p [.pointer (some ⟨d, 0, none⟩), .int .i64 (fr : Int), .int .i64 (B : Int), .pointer (some ⟨i.1.1, 0, none⟩)] 78, mp (κ := Int) 110 114 2 i.1.1 (psP i.1.2), sh (fun w => ∀ t ∈ i.1.2, HdV.ok w t.2)])
theorem pl_close {p d fr B m : Nat} {hd : List (Int × HdV)} {M : Hd} (h : absP hd = M) (K : List Asn) : Imp (blk p [.pointer (some ⟨d, 0, none⟩), .int .i64 (fr : Int), .int .i64 (B : Int), .pointer (some ⟨m, 0, none⟩)] 78 :: mp (κ := Int) 110 114 2 m (psP hd) :: sh (fun w => ∀ t ∈ hd, HdV.ok w t.2) :: K) (plA p d fr B M :: K) := Imp.close (A := (fun i : {i : Nat × List (Int × HdV) // absP i.2 = M} => [blk p [.pointer (some ⟨d, 0, none⟩), .int .i64 (fr : Int), .int .i64 (B : Int), .pointer (some ⟨i.1.1, 0, none⟩)] 78, mp (κ := Int) 110 114 2 i.1.1 (psP i.1.2), sh (fun w => ∀ t ∈ i.1.2, HdV.ok w t.2)])) ⟨⟨m, hd⟩, h⟩ K
theorem abs_key {hd : List (Int × HdV)} {B : Nat} (h : PKey (absP hd) B) : ∀ t ∈ hd, 0 ≤ t.1 ∧ t.1 < (B : Int) := fun t ht => h.key (t.1, (t.2.d, t.2.t)) (List.mem_map.2 ⟨t, ht, rfl⟩)

theorem pgetS (p d sz fr B : Nat) (vv : DevV) (M : Hd) (n : Int) (hl : M.length ≤ 10000) (hfr : fr ≤ 4096) (hB : B ≤ 64) (hwb : vv.wt.length ≤ 1000000) : SpecS Try.prog 19 [.pointer (some ⟨p, 0, none⟩), .int .i64 n] (plA p d fr B M :: dvA d vv sz :: []) (fun v H' => ∃ a c, v = .tuple #[.slice a (pgetV M vv sz fr B n).1.length c, .int .i64 (pgetV M vv sz fr B n).2] ∧ H' = [own 5 1 a (pgetV M vv sz fr B n).1.length c (vbs (pgetV M vv sz fr B n).1), plA p d fr B M, dvA d vv sz]) :=
  SpecS.opened fun ⟨⟨m, hd⟩, hM⟩ => by
    subst hM
    have hl' : hd.length ≤ 10000 := by rw [← absP_len]; exact hl
    exact SpecS.closed (pget_ok p d m sz fr B vv hd n hfr hB hl' hwb) fun v H' ⟨a, c, h1, h3⟩ => ⟨_, by rw [h3]; exact Imp.under (pl_close rfl _), a, c, h1, rfl⟩

theorem pputS (p d sz fr B : Nat) (vv : DevV) (M : Hd) (a : Option Addr) (n c : Nat) (ws : List WriteV) (hl : M.length ≤ 10000) (hn : n ≤ 10000) : SpecS Try.prog 9 [.pointer (some ⟨p, 0, none⟩), .slice a n c] (plA p d fr B M :: dvA d vv sz :: [sh (fun w => WsP w a n ws)]) (fun v H' => v = .int .i64 (pwsE B (ws.map wv)) ∧ H' = [plA p d fr B (pputV M B (ws.map wv)), dvA d vv sz]) :=
  SpecS.opened fun ⟨⟨m, hd⟩, hM⟩ => by
    subst hM
    have hl' : hd.length ≤ 10000 := by rw [← absP_len]; exact hl
    exact SpecS.closed (pput_ok p d m sz fr B vv hd a n c ws hn hl') fun v H' ⟨hd2, h1, h2, h3⟩ => ⟨_, by rw [h3]; exact pl_close h2 _, h1, rfl⟩

theorem pdirtyS (p d sz fr B : Nat) (vv : DevV) (M : Hd) (hl : M.length ≤ 10000) : SpecS Try.prog 13 [.pointer (some ⟨p, 0, none⟩)] (plA p d fr B M :: dvA d vv sz :: []) (fun v H' => ∃ a c, v = .slice a (dirtyL M).length c ∧ H' = [own 3 1 a (dirtyL M).length c ((dirtyL M).map (Value.int .i64)), plA p d fr B M, dvA d vv sz]) :=
  SpecS.opened fun ⟨⟨m, hd⟩, hM⟩ => by
    subst hM
    have hl' : hd.length ≤ 10000 := by rw [← absP_len]; exact hl
    exact SpecS.closed (pdirty_ok p d m sz fr B vv hd hl') fun v H' ⟨a, c, h1, h3⟩ => ⟨_, by rw [h3]; exact Imp.under (pl_close rfl _), a, c, h1, rfl⟩

theorem psaveS (p d sz fr B : Nat) (vv : DevV) (M : Hd) (hl : M.length ≤ 10000) (hfr : fr ≤ 4096) (hB : B ≤ 64) (hK : PKey M B) (hcb : 0 ≤ vv.calls ∧ vv.calls ≤ 100000000) (hwb : vv.wt.length ≤ 100000) : SpecS Try.prog 10 [.pointer (some ⟨p, 0, none⟩)] (plA p d fr B M :: dvA d vv sz :: []) (fun v H' => v = .int .i64 (psaveV M vv sz fr).2 ∧ H' = [plA p d fr B (psaveV M vv sz fr).1.1, dvA d (psaveV M vv sz fr).1.2 sz]) :=
  SpecS.opened fun ⟨⟨m, hd⟩, hM⟩ => by
    subst hM
    have hl' : hd.length ≤ 10000 := by rw [← absP_len]; exact hl
    exact SpecS.closed (psave_okS p d m sz fr B vv hd hfr hB (abs_key hK) hl' hcb hwb) fun v H' ⟨hd2, h1, h2, h3⟩ => ⟨_, by rw [h3]; exact pl_close h2 _, h1, rfl⟩

theorem pdropS (p d sz fr B : Nat) (vv : DevV) (M : Hd) (hl : M.length ≤ 10000) : SpecS Try.prog 16 [.pointer (some ⟨p, 0, none⟩)] (plA p d fr B M :: dvA d vv sz :: []) (fun v H' => v = .tuple #[] ∧ H' = [plA p d fr B [], dvA d vv sz]) :=
  SpecS.opened fun ⟨⟨m, hd⟩, hM⟩ => by
    subst hM
    have hl' : hd.length ≤ 10000 := by rw [← absP_len]; exact hl
    exact SpecS.closed (pdrop_ok p d m sz fr B vv hd) fun v H' ⟨m', h1, h3⟩ => ⟨_, by rw [h3]; exact pl_close (hd := []) rfl _, h1, rfl⟩

theorem pimageS (p d sz fr B : Nat) (vv : DevV) (M : Hd) (hl : M.length ≤ 10000) (hfr : fr ≤ 4096) (hB1 : 1 ≤ B) (hB : B ≤ 64) (hK : PKey M B) (hwb : vv.wt.length ≤ 1000000) : SpecS Try.prog 11 [.pointer (some ⟨p, 0, none⟩)] (plA p d fr B M :: dvA d vv sz :: []) (fun v H' => ∃ q, v = .tuple #[.pointer q, .int .i64 (pimV M vv sz fr B).2] ∧ H' = [sh (fun w => DiskO w q (pimV M vv sz fr B).1), plA p d fr B M, dvA d vv sz]) :=
  SpecS.opened fun ⟨⟨m, hd⟩, hM⟩ => by
    subst hM
    have hl' : hd.length ≤ 10000 := by rw [← absP_len]; exact hl
    exact SpecS.closed (pimage_ok p d m sz fr B vv hd hfr hB1 hB hK.len hl' hwb) fun v H' ⟨q, h1, h3⟩ => ⟨_, by rw [h3]; exact Imp.under (pl_close rfl _), q, h1, rfl⟩

theorem pnewS (d sz fr B : Nat) (vv : DevV) (h1 : 1 ≤ B) (h2 : B ≤ 64) (h3 : fr + B ≤ sz) (h4 : sz ≤ 4096) : SpecS Try.prog 8 [.pointer (some ⟨d, 0, none⟩), .int .i64 (fr : Int), .int .i64 (B : Int)] [dvA d vv sz] (fun v H' => ∃ p, v = .tuple #[.pointer (some ⟨p, 0, none⟩), .int .i64 0] ∧ H' = [plA p d fr B [], dvA d vv sz]) :=
  SpecS.closed (pnew_ok d sz fr B vv h1 h2 h3 h4) fun v H' ⟨p, m', h1, h3⟩ => ⟨_, by rw [h3]; exact pl_close (hd := []) rfl _, p, h1, rfl⟩
theorem ws_one {H H1 H2 : List Asn} {b1 : Nat} {z : WriteV} {T : TypeId} (hb : Sel H (blk b1 (WriteV.cells z) T) H1) (hs : Sel H1 (bs z.B'a z.B'n z.B') H2) : Imp H (sh (fun w => WsP w (some ⟨b1, 0, none⟩) 1 [z]) :: H2) :=
  (Imp.blkSh (p := fun w => Cells w (some ⟨b1, 0, none⟩) (WriteV.cells z)) hb (fun w h => Cells.of_blk h 0 _ (fun j v hj => by simpa using hj))).trans ((Imp.both .here hs).trans (Imp.weak .here fun w h => ⟨⟨by simpa using h.1, rfl, fun vs hv => by simp at hv; subst hv; rfl⟩, fun x hx => by rw [List.mem_singleton.1 hx]; exact h.2⟩))

end Go.Proofs.Ytmbppidafnakhaa
/-
  The walks of package pool.
-/
set_option linter.unusedVariables false
set_option linter.unusedSimpArgs false
set_option maxRecDepth 4000
namespace Go.Proofs.Ytmbppidafnakhaa
open Go Brv Brv.Image Brv.Dev
theorem f11_e (a : Option Addr) : pwsE 4 ([(⟨3, a, 64, 64, f11W⟩ : WriteV)].map wv) = 0 := by
  show pwsE 4 [((3 : Int), f11W)] = 0
  decide +kernel
theorem f11_m (a : Option Addr) : pputV [] 4 ([(⟨3, a, 64, 64, f11W⟩ : WriteV)].map wv) = f11M := by
  unfold pputV; rw [if_pos (f11_e a)]; rfl

set_option maxHeartbeats 1000000 in
theorem first11_ok  : SpecS Try.prog 6 [] [] (fun v H' => v = .bool true ∧ H' = []) := by
  refine SpecS.enter Try.func6 rfl 94 rfl (Nat.le_of_ble_eq_true rfl) (fun o => ?_)
  refine SG.seq ?_
  refine SG.region ?_
  refine SL.val rfl rfl (fun w9 F9 S9 s => R.as rfl) ?_
  refine SL.nil ?_
  refine SN.seq ?_
  refine SG.seq ?_
  refine SG.region ?_
  refine SL.step rfl rfl (CS.call rfl go7 (dnewS 8 (by decide) (by decide)) (by repeat (first | exact Sels.nil | apply Sels.cons | exact Sel.keep | exact Sel.here | apply Sel.there))) ?_
  rintro _ _ ⟨_, ⟨d, rfl, rfl⟩, rfl⟩
  refine SL.n1 ?_
  refine SL.val rfl rfl (fun w9 F9 S9 s => R.mv rfl) ?_
  refine SL.val rfl rfl (fun w9 F9 S9 s => R.ext rfl rfl) ?_
  refine SL.val rfl rfl (fun w9 F9 S9 s => R.ext rfl rfl) ?_
  refine SL.val rfl rfl (fun w9 F9 S9 s => R.as rfl) ?_
  refine SL.val rfl rfl (fun w9 F9 S9 s => R.as rfl) ?_
  refine SL.nil ?_
  refine SN.seq ?_
  refine SG.seq ?_
  refine SG.region ?_
  refine SL.val rfl rfl (fun w9 F9 S9 s => R.mv rfl) ?_
  refine SL.step rfl rfl (CS.call rfl go8 (pnewS d 8 2 4 (newV 8) (by decide) (by decide) (by decide) (by decide)) (by repeat (first | exact Sels.nil | apply Sels.cons | exact Sel.keep | exact Sel.here | apply Sel.there))) ?_
  rintro _ _ ⟨_, ⟨p, rfl, rfl⟩, rfl⟩
  refine SL.n2 ?_
  refine SL.val rfl rfl (fun w9 F9 S9 s => R.mv rfl) ?_
  refine SL.val rfl rfl (fun w9 F9 S9 s => R.ext rfl rfl) ?_
  refine SL.val rfl rfl (fun w9 F9 S9 s => R.ext rfl rfl) ?_
  refine SL.val rfl rfl (fun w9 F9 S9 s => R.as rfl) ?_
  refine SL.val rfl rfl (fun w9 F9 S9 s => R.as rfl) ?_
  refine SL.nil ?_
  refine SN.seq ?_
  refine SG.seq ?_
  refine SG.region ?_
  refine SL.step rfl rfl (CS.make rfl rfl (by decide) (by decide) (by decide) (by decide) (vbs (List.replicate 64 0)) (madeCells_bytes 64)) ?_
  rintro _ _ ⟨b22, rfl, rfl⟩
  refine SL.val rfl rfl (fun w9 F9 S9 s => R.as rfl) ?_
  refine SL.nil ?_
  refine SN.seq ?_
  refine SG.seq ?_
  refine SG.region ?_
  refine SL.val rfl rfl (fun w9 F9 S9 s => R.mv rfl) ?_
  refine SL.val rfl rfl (fun w9 F9 S9 s => R.idxO (i := 0) rfl rfl (by decide) (by decide) rfl 0 (by decide)) ?_
  refine SL.step0 rfl (CS.st (cs' := vbs f11W) rfl rfl (by repeat (first | exact Sel.keep | exact Sel.here | apply Sel.there)) SetAt.here rfl) ?_
  rintro _ _ rfl
  refine SL.nil ?_
  refine SN.imp (Imp.blkSh (p := fun w => Bs w (some ⟨b22, 0, none⟩) 64 f11W) (show Sel _ (blk b22 (vbs f11W) _) _ from (by repeat (first | exact Sel.keep | exact Sel.here | apply Sel.there))) (fun w h => ⟨Cells.of_blk h 0 _ (fun j v hj => by simpa using hj), by decide +kernel⟩)) ?_
  refine SN.seq ?_
  refine SG.seq ?_
  refine SG.region ?_
  refine SL.val rfl rfl (fun w9 F9 S9 s => R.mv rfl) ?_
  refine SL.val rfl rfl (fun w9 F9 S9 s => R.mv rfl) ?_
  refine SL.val rfl rfl (fun w9 F9 S9 s => R.build (cs := (WriteV.cells (⟨3, some ⟨b22, 0, none⟩, 64, 64, f11W⟩ : WriteV)).toArray) rfl rfl) ?_
  refine SL.step rfl rfl (CS.buildA rfl rfl rfl rfl rfl (WriteV.cells (⟨3, some ⟨b22, 0, none⟩, 64, 64, f11W⟩ : WriteV)) rfl) ?_
  rintro _ _ ⟨b28, rfl, rfl⟩
  refine SL.imp (ws_one (z := (⟨3, some ⟨b22, 0, none⟩, 64, 64, f11W⟩ : WriteV)) (show Sel _ (blk b28 (WriteV.cells (⟨3, some ⟨b22, 0, none⟩, 64, 64, f11W⟩ : WriteV)) _) _ from (by repeat (first | exact Sel.keep | exact Sel.here | apply Sel.there))) (show Sel _ (sh (fun w => Bs w (some ⟨b22, 0, none⟩) 64 f11W)) _ from (by repeat (first | exact Sel.keep | exact Sel.here | apply Sel.there)))) ?_
  refine SL.step rfl rfl (CS.call rfl go9 (pputS p d 8 2 4 (newV 8) [] (some ⟨b28, 0, none⟩) 1 1 [(⟨3, some ⟨b22, 0, none⟩, 64, 64, f11W⟩ : WriteV)] (by decide) (by decide)) (by repeat (first | exact Sels.nil | apply Sels.cons | exact Sel.keep | exact Sel.here | apply Sel.there))) ?_
  rintro _ _ ⟨_, ⟨rfl, rfl⟩, rfl⟩
  refine SL.n2 ?_
  rw [f11_e, f11_m]
  refine SL.val rfl rfl (fun w9 F9 S9 s => R.as rfl) ?_
  refine SL.nil ?_
  refine SN.seq ?_
  refine SG.seq ?_
  refine SG.region ?_
  refine SL.val rfl rfl (fun w9 F9 S9 s => R.mv rfl) ?_
  refine SL.step rfl rfl (CS.call rfl go13 (pdirtyS p d 8 2 4 (newV 8) f11M (by decide)) (by repeat (first | exact Sels.nil | apply Sels.cons | exact Sel.keep | exact Sel.here | apply Sel.there))) ?_
  rintro _ _ ⟨_, ⟨a31, c31, rfl, rfl⟩, rfl⟩
  refine SL.n3 ?_
  refine SL.val rfl rfl (fun w9 F9 S9 s => R.as rfl) ?_
  refine SL.nil ?_
  refine SN.imp (Imp.ownSh (show Sel _ (own 3 1 a31 (dirtyL f11M).length c31 ((dirtyL f11M).map (Value.int .i64))) _ from (by repeat (first | exact Sel.keep | exact Sel.here | apply Sel.there))) (p := fun w => Cells w a31 ([(3 : Int)].map (Value.int .i64))) (fun w h => h)) ?_
  refine SN.fact (fun w9 F9 S9 s => ints_pt (l := [(3 : Int)]) (i := 0) (s.sh (p := fun w => Cells w a31 ([(3 : Int)].map (Value.int .i64))) (by repeat (first | exact Sel.keep | exact Sel.here | apply Sel.there))) rfl) (fun hf9 => ?_)
  obtain ⟨q, hq⟩ := hf9
  refine SN.seq ?_
  refine SG.seq ?_
  refine SG.region ?_
  refine SL.val rfl rfl (fun w9 F9 S9 s => R.mv rfl) ?_
  refine SL.step rfl rfl (CS.call rfl go10 (psaveS p d 8 2 4 (newV 8) f11M (by decide) (by decide) (by decide) f11_K (by decide) (by decide)) (by repeat (first | exact Sels.nil | apply Sels.cons | exact Sel.keep | exact Sel.here | apply Sel.there))) ?_
  rintro _ _ ⟨_, ⟨rfl, rfl⟩, rfl⟩
  refine SL.n2 ?_
  rw [f11_s]
  refine SL.val rfl rfl (fun w9 F9 S9 s => R.as rfl) ?_
  refine SL.nil ?_
  refine SN.seq ?_
  refine SG.seq ?_
  refine SG.region ?_
  refine SL.val rfl rfl (fun w9 F9 S9 s => R.mv rfl) ?_
  refine SL.step rfl rfl (CS.call rfl go16 (pdropS p d 8 2 4 f11V f11N (by decide)) (by repeat (first | exact Sels.nil | apply Sels.cons | exact Sel.keep | exact Sel.here | apply Sel.there))) ?_
  rintro _ _ ⟨_, ⟨rfl, rfl⟩, rfl⟩
  refine SL.n2 ?_
  refine SL.nil ?_
  refine SN.seq ?_
  refine SG.seq ?_
  refine SG.region ?_
  refine SL.val rfl rfl (fun w9 F9 S9 s => R.mv rfl) ?_
  refine SL.step rfl rfl (CS.call rfl go19 (pgetS p d 8 2 4 f11V [] 3 (by decide) (by decide) (by decide) (by decide)) (by repeat (first | exact Sels.nil | apply Sels.cons | exact Sel.keep | exact Sel.here | apply Sel.there))) ?_
  rintro _ _ ⟨_, ⟨a38, c38, rfl, rfl⟩, rfl⟩
  refine SL.n3 ?_
  rw [f11_g]
  refine SL.val rfl rfl (fun w9 F9 S9 s => R.mv rfl) ?_
  refine SL.val rfl rfl (fun w9 F9 S9 s => R.ext rfl rfl) ?_
  refine SL.val rfl rfl (fun w9 F9 S9 s => R.ext rfl rfl) ?_
  refine SL.val rfl rfl (fun w9 F9 S9 s => R.as rfl) ?_
  refine SL.val rfl rfl (fun w9 F9 S9 s => R.as rfl) ?_
  refine SL.nil ?_
  refine SN.seq ?_
  refine SG.seq ?_
  refine SG.region ?_
  refine SL.val rfl rfl (fun w9 F9 S9 s => R.mv rfl) ?_
  refine SL.step rfl rfl (CS.call rfl go11 (pimageS p d 8 2 4 f11V [] (by decide) (by decide) (by decide) (by decide) (PKey.nil 4) (by decide)) (by repeat (first | exact Sels.nil | apply Sels.cons | exact Sel.keep | exact Sel.here | apply Sel.there))) ?_
  rintro _ _ ⟨_, ⟨q43, rfl, rfl⟩, rfl⟩
  refine SL.n3 ?_
  rw [f11_i]
  refine SL.val rfl rfl (fun w9 F9 S9 s => R.mv rfl) ?_
  refine SL.val rfl rfl (fun w9 F9 S9 s => R.ext rfl rfl) ?_
  refine SL.val rfl rfl (fun w9 F9 S9 s => R.ext rfl rfl) ?_
  refine SL.val rfl rfl (fun w9 F9 S9 s => R.as rfl) ?_
  refine SL.val rfl rfl (fun w9 F9 S9 s => R.as rfl) ?_
  refine SL.nil ?_
  refine SN.seq ?_
  refine SG.seq ?_
  refine SG.region ?_
  refine SL.val rfl rfl (fun w9 F9 S9 s => R.mv rfl) ?_
  refine SL.val rfl rfl (fun w9 F9 S9 s => R.eqI rfl rfl) ?_
  refine SL.val rfl rfl (fun w9 F9 S9 s => R.mv rfl) ?_
  refine SL.isT 48 rfl (rfl) ?_
  refine SL.val rfl rfl (fun w9 F9 S9 s => R.mv rfl) ?_
  refine SL.val rfl rfl (fun w9 F9 S9 s => R.eqI rfl rfl) ?_
  first | refine SL.val rfl rfl (fun w9 F9 S9 s => R.pickT rfl rfl) ?_ | refine SL.val rfl rfl (fun w9 F9 S9 s => R.pickF rfl rfl) ?_
  refine SL.val rfl rfl (fun w9 F9 S9 s => R.mv rfl) ?_
  refine SL.isT 52 rfl (rfl) ?_
  refine SL.val rfl rfl (fun w9 F9 S9 s => R.mv rfl) ?_
  refine SL.val rfl rfl (fun w9 F9 S9 s => R.lenS rfl) ?_
  refine SL.val rfl rfl (fun w9 F9 S9 s => R.eqI rfl rfl) ?_
  first | refine SL.val rfl rfl (fun w9 F9 S9 s => R.pickT rfl rfl) ?_ | refine SL.val rfl rfl (fun w9 F9 S9 s => R.pickF rfl rfl) ?_
  refine SL.val rfl rfl (fun w9 F9 S9 s => R.mv rfl) ?_
  refine SL.isT 57 rfl (rfl) ?_
  refine SL.val rfl rfl (fun w9 F9 S9 s => R.mv rfl) ?_
  refine SL.val rfl rfl (fun w9 F9 S9 s => R.idx (i := 0) rfl rfl (by decide) (by decide) q hq) ?_
  refine SL.val rfl rfl (fun w9 F9 S9 s => R.ld (v := .int .i64 3) rfl (ints_ld (l := [(3 : Int)]) (i := 0) (s.sh (p := fun w => Cells w a31 ([(3 : Int)].map (Value.int .i64))) (by repeat (first | exact Sel.keep | exact Sel.here | apply Sel.there))) hq rfl)) ?_
  refine SL.val rfl rfl (fun w9 F9 S9 s => R.eqI rfl rfl) ?_
  first | refine SL.val rfl rfl (fun w9 F9 S9 s => R.pickT rfl rfl) ?_ | refine SL.val rfl rfl (fun w9 F9 S9 s => R.pickF rfl rfl) ?_
  refine SL.val rfl rfl (fun w9 F9 S9 s => R.mv rfl) ?_
  refine SL.isT 63 rfl (rfl) ?_
  refine SL.val rfl rfl (fun w9 F9 S9 s => R.mv rfl) ?_
  refine SL.val rfl rfl (fun w9 F9 S9 s => R.eqI rfl rfl) ?_
  first | refine SL.val rfl rfl (fun w9 F9 S9 s => R.pickT rfl rfl) ?_ | refine SL.val rfl rfl (fun w9 F9 S9 s => R.pickF rfl rfl) ?_
  refine SL.val rfl rfl (fun w9 F9 S9 s => R.mv rfl) ?_
  refine SL.isT 67 rfl (rfl) ?_
  refine SL.val rfl rfl (fun w9 F9 S9 s => R.mv rfl) ?_
  refine SL.val rfl rfl (fun w9 F9 S9 s => R.eqI rfl rfl) ?_
  first | refine SL.val rfl rfl (fun w9 F9 S9 s => R.pickT rfl rfl) ?_ | refine SL.val rfl rfl (fun w9 F9 S9 s => R.pickF rfl rfl) ?_
  refine SL.val rfl rfl (fun w9 F9 S9 s => R.mv rfl) ?_
  refine SL.isT 71 rfl (rfl) ?_
  refine SL.val rfl rfl (fun w9 F9 S9 s => R.mv rfl) ?_
  refine SL.val rfl rfl (fun w9 F9 S9 s => R.strB rfl (⟨s.ownC (show Sel _ (own 5 1 a38 f11W.length c38 (vbs f11W)) _ from (by repeat (first | exact Sel.keep | exact Sel.here | apply Sel.there))), rfl⟩ : Bs _ a38 f11W.length f11W)) ?_
  refine SL.val rfl rfl (fun w9 F9 S9 s => R.mv rfl) ?_
  refine SL.val rfl rfl (fun w9 F9 S9 s => R.strB rfl (s.sh (p := fun w => Bs w (some ⟨b22, 0, none⟩) 64 f11W) (by repeat (first | exact Sel.keep | exact Sel.here | apply Sel.there)))) ?_
  refine SL.val rfl rfl (fun w9 F9 S9 s => R.eqStr rfl rfl) ?_
  first | refine SL.val rfl rfl (fun w9 F9 S9 s => R.pickT rfl rfl) ?_ | refine SL.val rfl rfl (fun w9 F9 S9 s => R.pickF rfl rfl) ?_
  refine SL.val rfl rfl (fun w9 F9 S9 s => R.mv rfl) ?_
  refine SL.isT 78 rfl (decide_eq_true rfl) ?_
  refine SL.val rfl rfl (fun w9 F9 S9 s => R.mv rfl) ?_
  refine SL.val rfl rfl (fun w9 F9 S9 s => R.eqI rfl rfl) ?_
  first | refine SL.val rfl rfl (fun w9 F9 S9 s => R.pickT rfl rfl) ?_ | refine SL.val rfl rfl (fun w9 F9 S9 s => R.pickF rfl rfl) ?_
  refine SL.val rfl rfl (fun w9 F9 S9 s => R.mv rfl) ?_
  refine SL.isT 82 rfl (rfl) ?_
  refine SL.val rfl rfl (fun w9 F9 S9 s => R.mv rfl) ?_
  refine SL.step rfl rfl (CS.call rfl go12 (ibytesS q43 (imgL [] f11V 2 4)) (by repeat (first | exact Sels.nil | apply Sels.cons | exact Sel.keep | exact Sel.here | apply Sel.there))) ?_
  rintro _ _ ⟨_, ⟨a84, c84, rfl, rfl⟩, rfl⟩
  refine SL.n2 ?_
  refine SL.val rfl rfl (fun w9 F9 S9 s => R.lenS rfl) ?_
  refine SL.val rfl rfl (fun w9 F9 S9 s => R.eqI rfl rfl) ?_
  first | refine SL.val rfl rfl (fun w9 F9 S9 s => R.pickT rfl rfl) ?_ | refine SL.val rfl rfl (fun w9 F9 S9 s => R.pickF rfl rfl) ?_
  refine SL.val rfl rfl (fun w9 F9 S9 s => R.mv rfl) ?_
  refine SL.isT 88 rfl (decide_eq_true (by rw [f11_il]; rfl)) ?_
  refine SL.val rfl rfl (fun w9 F9 S9 s => R.mv rfl) ?_
  refine SL.step rfl rfl (CS.call rfl go13 (pdirtyS p d 8 2 4 f11V [] (by decide)) (by repeat (first | exact Sels.nil | apply Sels.cons | exact Sel.keep | exact Sel.here | apply Sel.there))) ?_
  rintro _ _ ⟨_, ⟨a90, c90, rfl, rfl⟩, rfl⟩
  refine SL.n3 ?_
  refine SL.val rfl rfl (fun w9 F9 S9 s => R.lenS rfl) ?_
  refine SL.val rfl rfl (fun w9 F9 S9 s => R.eqI rfl rfl) ?_
  first | refine SL.val rfl rfl (fun w9 F9 S9 s => R.pickT rfl rfl) ?_ | refine SL.val rfl rfl (fun w9 F9 S9 s => R.pickF rfl rfl) ?_
  refine SL.val rfl rfl (fun w9 F9 S9 s => R.as rfl) ?_
  refine SL.nil ?_
  refine SN.seq ?_
  exact SG.ret1 rfl rfl (Imp.sels Sels.nil) (⟨congrArg Value.bool (decide_eq_true rfl), rfl⟩)

end Go.Proofs.Ytmbppidafnakhaa
/-
  The walks of package pool.
-/
set_option linter.unusedVariables false
set_option linter.unusedSimpArgs false
set_option maxRecDepth 4000
namespace Go.Proofs.Ytmbppidafnakhaa
open Go Brv Brv.Image Brv.Dev
set_option maxHeartbeats 2000000 in
theorem keeps_law (aa : Option Addr) (an ac : Nat) (as9 : List WriteV) (ba : Option Addr) (bn bc : Nat) (bs9 : List WriteV) (w : World) (hA : WsP w aa an as9) (hB : WsP w ba bn bs9) (hac : an ≤ 70368744175616) (hbc : bn ≤ 70368744175616) : Meets Try.prog 4 [.slice aa an ac, .slice ba bn bc] w (fun v w' => v = .bool true ∧ Ext [] w w') := by
  refine Meets.law Try.func4 rfl 80 rfl (Nat.le_of_ble_eq_true rfl) (law_cons (p := fun w => WsP w aa an as9) (fun w9 he => ⟨hA.1.ext0 he, fun z hz => (hA.2 z hz).ext0 he⟩) (law_cons (p := fun w => WsP w ba bn bs9) (fun w9 he => ⟨hB.1.ext0 he, fun z hz => (hB.2 z hz).ext0 he⟩) (law_nil w))) ?_
  obtain ⟨M1, hM1, K1, C1, L1⟩ := put_pack (PKey.nil 6) (Cln.nil (newV 10) 3) (as9.map wv)
  obtain ⟨N1, v1, hS1, KN1, G1, W1, CN1, T1, B1, D1, I1, _, In1, Id1, LN1⟩ := save_pack (K := 0) K1 ⟨rfl, rfl⟩ (newV_wf 10) (by decide) C1 (by decide)
  obtain ⟨M2, hM2, K2, C2, L2⟩ := put_pack KN1 CN1 (bs9.map wv)
  have hT1 : v1.wt.length = 0 := by rw [T1]; rfl
  have hst := W1.len
  have Ic := Id1 (⟨v1.stay, [], v1.calls, -1, false⟩ : DevV) rfl rfl
  have Wc : ((⟨v1.stay, [], v1.calls, -1, false⟩ : DevV)).Wf 10 := ⟨W1.len, by simp, by simp⟩
  have Z0 : win (laidAll (newV 10).stay (newV 10).wt) 0 3 = List.replicate 192 0 := by decide +kernel
  rw [Z0] at In1
  refine SG.fact (fun w9 F9 S9 s => ws_len (s.sh (p := fun w => WsP w aa an as9) (by repeat (first | exact Sel.keep | exact Sel.here | apply Sel.there)))) (fun hf9 => ?_)
  have hla := hf9; clear hf9
  refine SG.fact (fun w9 F9 S9 s => ws_len (s.sh (p := fun w => WsP w ba bn bs9) (by repeat (first | exact Sel.keep | exact Sel.here | apply Sel.there)))) (fun hf9 => ?_)
  have hlb := hf9; clear hf9
  refine SG.seq ?_
  refine SG.region ?_
  refine SL.val rfl rfl (fun w9 F9 S9 s => R.as rfl) ?_
  refine SL.nil ?_
  refine SN.seq ?_
  refine SG.seq ?_
  refine SG.seq ?_
  refine SG.region ?_
  refine SL.step rfl rfl (CS.call rfl go6 (first11_ok) (by repeat (first | exact Sels.nil | apply Sels.cons | exact Sel.keep | exact Sel.here | apply Sel.there))) ?_
  rintro _ _ ⟨_, ⟨rfl, rfl⟩, rfl⟩
  refine SL.n0 ?_
  refine SL.val rfl rfl (fun w9 F9 S9 s => R.not rfl) ?_
  refine SL.nil ?_
  refine SN.seq ?_
  refine SG.condF rfl ?_
  refine SG.skip ?_
  refine SN.seq ?_
  refine SG.seq ?_
  refine SG.seq ?_
  refine SG.region ?_
  refine SL.val rfl rfl (fun w9 F9 S9 s => R.mv rfl) ?_
  refine SL.val rfl rfl (fun w9 F9 S9 s => R.lenS rfl) ?_
  refine SL.val rfl rfl (fun w9 F9 S9 s => R.mv rfl) ?_
  refine SL.val rfl rfl (fun w9 F9 S9 s => R.lenS rfl) ?_
  refine SL.val rfl rfl (fun w9 F9 S9 s => R.add rfl rfl (by omega)) ?_
  refine SL.val rfl rfl (fun w9 F9 S9 s => R.gtr rfl rfl) ?_
  refine SL.nil ?_
  refine SN.seq ?_
  refine SG.condP rfl (fun h1 => ?_) (fun h1 => ?_)
  · refine SG.seq ?_
    refine SG.region ?_
    refine SL.val rfl rfl (fun w9 F9 S9 s => R.as rfl) ?_
    refine SL.nil ?_
    refine SN.seq ?_
    exact SG.ret1 rfl rfl ((Imp.sels (by repeat (first | exact Sels.nil | apply Sels.cons | exact Sel.keep | exact Sel.here | apply Sel.there)))) (rfl)
  · refine SG.skip ?_
    refine SN.seq ?_
    refine SG.seq ?_
    refine SG.region ?_
    refine SL.step rfl rfl (CS.call rfl go7 (dnewS 10 (by decide) (by decide)) (by repeat (first | exact Sels.nil | apply Sels.cons | exact Sel.keep | exact Sel.here | apply Sel.there))) ?_
    rintro _ _ ⟨_, ⟨d, rfl, rfl⟩, rfl⟩
    refine SL.n1 ?_
    refine SL.val rfl rfl (fun w9 F9 S9 s => R.mv rfl) ?_
    refine SL.val rfl rfl (fun w9 F9 S9 s => R.ext rfl rfl) ?_
    refine SL.val rfl rfl (fun w9 F9 S9 s => R.ext rfl rfl) ?_
    refine SL.val rfl rfl (fun w9 F9 S9 s => R.as rfl) ?_
    refine SL.val rfl rfl (fun w9 F9 S9 s => R.as rfl) ?_
    refine SL.nil ?_
    refine SN.seq ?_
    refine SG.seq ?_
    refine SG.region ?_
    refine SL.val rfl rfl (fun w9 F9 S9 s => R.mv rfl) ?_
    refine SL.step rfl rfl (CS.call rfl go8 (pnewS d 10 3 6 (newV 10) (by decide) (by decide) (by decide) (by decide)) (by repeat (first | exact Sels.nil | apply Sels.cons | exact Sel.keep | exact Sel.here | apply Sel.there))) ?_
    rintro _ _ ⟨_, ⟨p, rfl, rfl⟩, rfl⟩
    refine SL.n2 ?_
    refine SL.val rfl rfl (fun w9 F9 S9 s => R.mv rfl) ?_
    refine SL.val rfl rfl (fun w9 F9 S9 s => R.ext rfl rfl) ?_
    refine SL.val rfl rfl (fun w9 F9 S9 s => R.ext rfl rfl) ?_
    refine SL.val rfl rfl (fun w9 F9 S9 s => R.as rfl) ?_
    refine SL.val rfl rfl (fun w9 F9 S9 s => R.as rfl) ?_
    refine SL.nil ?_
    refine SN.seq ?_
    refine SG.seq ?_
    refine SG.seq ?_
    refine SG.region ?_
    refine SL.val rfl rfl (fun w9 F9 S9 s => R.mv rfl) ?_
    refine SL.val rfl rfl (fun w9 F9 S9 s => R.mv rfl) ?_
    refine SL.step rfl rfl (CS.call rfl go9 (pputS p d 10 3 6 (newV 10) [] aa an ac as9 (by decide) (by omega)) (by repeat (first | exact Sels.nil | apply Sels.cons | exact Sel.keep | exact Sel.here | apply Sel.there))) ?_
    rintro _ _ ⟨_, ⟨rfl, rfl⟩, rfl⟩
    refine SL.n2 ?_
    rw [hM1]
    refine SL.val rfl rfl (fun w9 F9 S9 s => R.as rfl) ?_
    refine SL.nil ?_
    refine SN.seq ?_
    refine SG.seq ?_
    refine SG.region ?_
    refine SL.val rfl rfl (fun w9 F9 S9 s => R.mv rfl) ?_
    refine SL.val rfl rfl (fun w9 F9 S9 s => R.neI rfl rfl) ?_
    refine SL.nil ?_
    refine SN.seq ?_
    refine SG.condP rfl (fun h2 => ?_) (fun h2 => ?_)
    · have hM0 : M1 = [] := by rw [← hM1]; exact if_neg h2
      refine SG.seq ?_
      refine SG.region ?_
      refine SL.val rfl rfl (fun w9 F9 S9 s => R.mv rfl) ?_
      refine SL.step rfl rfl (CS.call rfl go13 (pdirtyS p d 10 3 6 (newV 10) M1 (by omega)) (by repeat (first | exact Sels.nil | apply Sels.cons | exact Sel.keep | exact Sel.here | apply Sel.there))) ?_
      rintro _ _ ⟨_, ⟨a37, c37, rfl, rfl⟩, rfl⟩
      refine SL.n3 ?_
      refine SL.val rfl rfl (fun w9 F9 S9 s => R.lenS rfl) ?_
      refine SL.val rfl rfl (fun w9 F9 S9 s => R.eqI rfl rfl) ?_
      refine SL.val rfl rfl (fun w9 F9 S9 s => R.as rfl) ?_
      refine SL.nil ?_
      refine SN.seq ?_
      exact SG.ret1 rfl rfl ((Imp.sels (by repeat (first | exact Sels.nil | apply Sels.cons | exact Sel.keep | exact Sel.here | apply Sel.there)))) (congrArg Value.bool (decide_eq_true (by rw [hM0]; rfl)))
    · refine SG.skip ?_
      refine SN.seq ?_
      refine SG.seq ?_
      refine SG.region ?_
      refine SL.val rfl rfl (fun w9 F9 S9 s => R.mv rfl) ?_
      refine SL.step rfl rfl (CS.call rfl go11 (pimageS p d 10 3 6 (newV 10) M1 (by omega) (by decide) (by decide) (by decide) K1 (by decide)) (by repeat (first | exact Sels.nil | apply Sels.cons | exact Sel.keep | exact Sel.here | apply Sel.there))) ?_
      rintro _ _ ⟨_, ⟨q1, rfl, rfl⟩, rfl⟩
      refine SL.n3 ?_
      rw [pim_good (show WellD (newV 10) from ⟨rfl, rfl⟩) (newV_wf 10) (show 3 + 6 ≤ 10 by decide)]
      refine SL.val rfl rfl (fun w9 F9 S9 s => R.mv rfl) ?_
      refine SL.val rfl rfl (fun w9 F9 S9 s => R.ext rfl rfl) ?_
      refine SL.val rfl rfl (fun w9 F9 S9 s => R.ext rfl rfl) ?_
      refine SL.val rfl rfl (fun w9 F9 S9 s => R.as rfl) ?_
      refine SL.val rfl rfl (fun w9 F9 S9 s => R.as rfl) ?_
      refine SL.nil ?_
      refine SN.seq ?_
      refine SG.seq ?_
      refine SG.seq ?_
      refine SG.region ?_
      refine SL.val rfl rfl (fun w9 F9 S9 s => R.mv rfl) ?_
      refine SL.step rfl rfl (CS.call rfl go10 (psaveS p d 10 3 6 (newV 10) M1 (by omega) (by decide) (by decide) K1 (by decide) (by decide)) (by repeat (first | exact Sels.nil | apply Sels.cons | exact Sel.keep | exact Sel.here | apply Sel.there))) ?_
      rintro _ _ ⟨_, ⟨rfl, rfl⟩, rfl⟩
      refine SL.n2 ?_
      rw [hS1]
      refine SL.val rfl rfl (fun w9 F9 S9 s => R.neI rfl rfl) ?_
      refine SL.nil ?_
      refine SN.seq ?_
      refine SG.condF rfl ?_
      refine SG.skip ?_
      refine SN.seq ?_
      refine SG.seq ?_
      refine SG.region ?_
      refine SL.val rfl rfl (fun w9 F9 S9 s => R.mv rfl) ?_
      refine SL.val rfl rfl (fun w9 F9 S9 s => R.mv rfl) ?_
      refine SL.step rfl rfl (CS.call rfl go9 (pputS p d 10 3 6 v1 N1 ba bn bc bs9 (by omega) (by omega)) (by repeat (first | exact Sels.nil | apply Sels.cons | exact Sel.keep | exact Sel.here | apply Sel.there))) ?_
      rintro _ _ ⟨_, ⟨rfl, rfl⟩, rfl⟩
      refine SL.n2 ?_
      rw [hM2]
      refine SL.nil ?_
      refine SN.seq ?_
      refine SG.seq ?_
      refine SG.region ?_
      refine SL.val rfl rfl (fun w9 F9 S9 s => R.mv rfl) ?_
      refine SL.imp (Imp.pure (p := fun w => Cells w none (([] : List Bool).map Value.bool)) (fun w => Cells.nil _ _)) ?_
      refine SL.step rfl rfl (CS.call rfl go15 (dcrashS d v1 10 none 0 [] (by omega)) (by repeat (first | exact Sels.nil | apply Sels.cons | exact Sel.keep | exact Sel.here | apply Sel.there))) ?_
      rintro _ _ ⟨_, ⟨_, rfl⟩, rfl⟩
      refine SL.n1 ?_
      rw [crash_none T1]
      refine SL.nil ?_
      refine SN.seq ?_
      refine SG.seq ?_
      refine SG.region ?_
      refine SL.val rfl rfl (fun w9 F9 S9 s => R.mv rfl) ?_
      refine SL.step rfl rfl (CS.call rfl go16 (pdropS p d 10 3 6 (⟨v1.stay, [], v1.calls, -1, false⟩ : DevV) M2 (by omega)) (by repeat (first | exact Sels.nil | apply Sels.cons | exact Sel.keep | exact Sel.here | apply Sel.there))) ?_
      rintro _ _ ⟨_, ⟨rfl, rfl⟩, rfl⟩
      refine SL.n2 ?_
      refine SL.nil ?_
      refine SN.seq ?_
      refine SG.seq ?_
      refine SG.region ?_
      refine SL.val rfl rfl (fun w9 F9 S9 s => R.mv rfl) ?_
      refine SL.step rfl rfl (CS.call rfl go11 (pimageS p d 10 3 6 (⟨v1.stay, [], v1.calls, -1, false⟩ : DevV) [] (by decide) (by decide) (by decide) (by decide) (PKey.nil 6) (Nat.zero_le _)) (by repeat (first | exact Sels.nil | apply Sels.cons | exact Sel.keep | exact Sel.here | apply Sel.there))) ?_
      rintro _ _ ⟨_, ⟨q2, rfl, rfl⟩, rfl⟩
      refine SL.n3 ?_
      rw [pim_good (show WellD (⟨v1.stay, [], v1.calls, -1, false⟩ : DevV) from ⟨rfl, rfl⟩) Wc (show 3 + 6 ≤ 10 by decide), Ic]
      refine SL.val rfl rfl (fun w9 F9 S9 s => R.mv rfl) ?_
      refine SL.val rfl rfl (fun w9 F9 S9 s => R.ext rfl rfl) ?_
      refine SL.val rfl rfl (fun w9 F9 S9 s => R.ext rfl rfl) ?_
      refine SL.val rfl rfl (fun w9 F9 S9 s => R.as rfl) ?_
      refine SL.val rfl rfl (fun w9 F9 S9 s => R.as rfl) ?_
      refine SL.nil ?_
      refine SN.seq ?_
      refine SG.seq ?_
      refine SG.drawT (.flo 0 (.flo 1 (.flo 2 (.flo 3 (.flo 6 (.alt 4 (.flo 5 (.alt 7 (.flo 8 (.flo 9 (.flo 10 (.flo 11 (.flo 12 (.alt 13 (.flo 14 (.flo 15 (.alt 16 (.flo 17 (.flo 18 (.flo 19 (.flo 20 .nil)))) .stop))) (.alt 16 (.flo 17 (.alt 13 (.flo 14 (.flo 15 (.flo 18 (.flo 19 (.flo 20 .nil))))) .stop)) .stop))))))) .stop)) .stop)))))) (by decide +kernel) rfl ?_
      refine TW.pure rfl rfl rfl rfl (fun w9 => R.mv rfl) ?_
      refine TW.pure rfl rfl rfl rfl (fun w9 => R.eqI rfl rfl) ?_
      refine TW.pure rfl rfl rfl rfl (fun w9 => R.mv rfl) ?_
      refine TW.isT 62 rfl (rfl) ?_
      refine TW.pure rfl rfl rfl rfl (fun w9 => R.mv rfl) ?_
      refine TW.pure rfl rfl rfl rfl (fun w9 => R.mv rfl) ?_
      refine TW.step rfl rfl rfl rfl (CS.call rfl go12 (ibytesS q1 (imgL M1 (newV 10) 3 6)) (by repeat (first | exact Sels.nil | apply Sels.cons | exact Sel.keep | exact Sel.here | apply Sel.there))) ?_
      rintro _ _ ⟨_, ⟨a64, c64, rfl, rfl⟩, rfl⟩
      refine ⟨trivial, ?_⟩
      refine TW.n2 ?_
      refine TW.read rfl rfl rfl rfl (fun w9 F9 S9 s => R.strB rfl (⟨s.ownC (show Sel _ (own 5 1 a64 (imgL M1 (newV 10) 3 6).length c64 (vbs (imgL M1 (newV 10) 3 6))) _ from (by repeat (first | exact Sel.keep | exact Sel.here | apply Sel.there))), rfl⟩ : Bs _ a64 (imgL M1 (newV 10) 3 6).length (imgL M1 (newV 10) 3 6))) ?_
      refine TW.step rfl rfl rfl rfl (CS.call rfl go12 (ibytesS q2 (imgL M1 (newV 10) 3 6)) (by repeat (first | exact Sels.nil | apply Sels.cons | exact Sel.keep | exact Sel.here | apply Sel.there))) ?_
      rintro _ _ ⟨_, ⟨a67, c67, rfl, rfl⟩, rfl⟩
      refine ⟨⟨.inr (fun w9 F9 S9 s => R.strB rfl (⟨s.ownC (show Sel _ (own 5 1 a64 (imgL M1 (newV 10) 3 6).length c64 (vbs (imgL M1 (newV 10) 3 6))) _ from (by repeat (first | exact Sel.keep | exact Sel.here | apply Sel.there))), rfl⟩ : Bs _ a64 (imgL M1 (newV 10) 3 6).length (imgL M1 (newV 10) 3 6))), trivial⟩, ?_⟩
      refine TW.n2 ?_
      refine TW.read rfl rfl rfl rfl (fun w9 F9 S9 s => R.strB rfl (⟨s.ownC (show Sel _ (own 5 1 a67 (imgL M1 (newV 10) 3 6).length c67 (vbs (imgL M1 (newV 10) 3 6))) _ from (by repeat (first | exact Sel.keep | exact Sel.here | apply Sel.there))), rfl⟩ : Bs _ a67 (imgL M1 (newV 10) 3 6).length (imgL M1 (newV 10) 3 6))) ?_
      refine TW.pure rfl rfl rfl rfl (fun w9 => R.eqStr rfl rfl) ?_
      first | refine TW.pure rfl rfl rfl rfl (fun w9 => R.pickT rfl rfl) ?_ | refine TW.pure rfl rfl rfl rfl (fun w9 => R.pickF rfl rfl) ?_
      refine TW.pure rfl rfl rfl rfl (fun w9 => R.mv rfl) ?_
      refine TW.isT 71 rfl (decide_eq_true rfl) ?_
      refine TW.pure rfl rfl rfl rfl (fun w9 => R.mv rfl) ?_
      refine TW.or ?_ ?_
      · refine TW.step rfl rfl rfl rfl (CS.call rfl go14 (dimageS d (⟨v1.stay, [], v1.calls, -1, false⟩ : DevV) 10) (by repeat (first | exact Sels.nil | apply Sels.cons | exact Sel.keep | exact Sel.here | apply Sel.there))) ?_
        rintro _ _ ⟨_, ⟨a73, c73, rfl, hc73, rfl⟩, rfl⟩
        refine ⟨⟨.inl (by decide +kernel), ⟨.inl (by decide +kernel), trivial⟩⟩, ?_⟩
        refine TW.n2 ?_
        replace hc73 : v1.stay.length ≤ c73 := hc73
        refine TW.pure rfl rfl rfl rfl (fun w9 => R.slH rfl rfl (by omega) (by omega)) ?_
        refine TW.read rfl rfl rfl rfl (fun w9 F9 S9 s => R.strB rfl ((⟨s.ownC (show Sel _ (own 5 1 a73 v1.stay.length c73 (vbs v1.stay)) _ from (by repeat (first | exact Sel.keep | exact Sel.here | apply Sel.there))), rfl⟩ : Bs _ a73 v1.stay.length v1.stay).sub 0 c73 192 (by omega) (by omega))) ?_
        refine TW.step rfl rfl rfl rfl (CS.make rfl rfl (by decide) (by decide) (by decide) (by decide) (vbs (List.replicate 192 0)) (madeCells_bytes 192)) ?_
        rintro _ _ ⟨b76, rfl, rfl⟩
        refine ⟨⟨.inr (fun w9 F9 S9 s => R.strB rfl ((⟨s.ownC (show Sel _ (own 5 1 a73 v1.stay.length c73 (vbs v1.stay)) _ from (by repeat (first | exact Sel.keep | exact Sel.here | apply Sel.there))), rfl⟩ : Bs _ a73 v1.stay.length v1.stay).sub 0 c73 192 (by omega) (by omega))), ⟨.inl (by decide +kernel), ⟨.inl (by decide +kernel), trivial⟩⟩⟩, ?_⟩
        refine TW.read rfl rfl rfl rfl (fun w9 F9 S9 s => R.strB rfl (⟨s.blkC (show Sel _ (blk b76 (vbs (List.replicate 192 0)) _) _ from (by repeat (first | exact Sel.keep | exact Sel.here | apply Sel.there))), by decide⟩ : Bs _ (some ⟨b76, 0, none⟩) 192 (List.replicate 192 0))) ?_
        refine TW.pure rfl rfl rfl rfl (fun w9 => R.eqStr rfl rfl) ?_
        first | refine TW.pure rfl rfl rfl rfl (fun w9 => R.pickT rfl rfl) ?_ | refine TW.pure rfl rfl rfl rfl (fun w9 => R.pickF rfl rfl) ?_
        refine TW.pure rfl rfl rfl rfl (fun w9 => R.as rfl) ?_
        refine TW.nil ?_
        refine SN.seq ?_
        exact SG.ret1 rfl rfl ((Imp.sels (by repeat (first | exact Sels.nil | apply Sels.cons | exact Sel.keep | exact Sel.here | apply Sel.there)))) (congrArg Value.bool (decide_eq_true In1))
      refine TW.step rfl rfl rfl rfl (CS.make rfl rfl (by decide) (by decide) (by decide) (by decide) (vbs (List.replicate 192 0)) (madeCells_bytes 192)) ?_
      rintro _ _ ⟨b76, rfl, rfl⟩
      refine ⟨⟨.inl (by decide +kernel), ⟨.inl (by decide +kernel), trivial⟩⟩, ?_⟩
      refine TW.read rfl rfl rfl rfl (fun w9 F9 S9 s => R.strB rfl (⟨s.blkC (show Sel _ (blk b76 (vbs (List.replicate 192 0)) _) _ from (by repeat (first | exact Sel.keep | exact Sel.here | apply Sel.there))), by decide⟩ : Bs _ (some ⟨b76, 0, none⟩) 192 (List.replicate 192 0))) ?_
      refine TW.step rfl rfl rfl rfl (CS.call rfl go14 (dimageS d (⟨v1.stay, [], v1.calls, -1, false⟩ : DevV) 10) (by repeat (first | exact Sels.nil | apply Sels.cons | exact Sel.keep | exact Sel.here | apply Sel.there))) ?_
      rintro _ _ ⟨_, ⟨a73, c73, rfl, hc73, rfl⟩, rfl⟩
      refine ⟨⟨.inr (fun w9 F9 S9 s => R.strB rfl (⟨s.blkC (show Sel _ (blk b76 (vbs (List.replicate 192 0)) _) _ from (by repeat (first | exact Sel.keep | exact Sel.here | apply Sel.there))), by decide⟩ : Bs _ (some ⟨b76, 0, none⟩) 192 (List.replicate 192 0))), ⟨.inl (by decide +kernel), ⟨.inl (by decide +kernel), trivial⟩⟩⟩, ?_⟩
      refine TW.n2 ?_
      replace hc73 : v1.stay.length ≤ c73 := hc73
      refine TW.pure rfl rfl rfl rfl (fun w9 => R.slH rfl rfl (by omega) (by omega)) ?_
      refine TW.read rfl rfl rfl rfl (fun w9 F9 S9 s => R.strB rfl ((⟨s.ownC (show Sel _ (own 5 1 a73 v1.stay.length c73 (vbs v1.stay)) _ from (by repeat (first | exact Sel.keep | exact Sel.here | apply Sel.there))), rfl⟩ : Bs _ a73 v1.stay.length v1.stay).sub 0 c73 192 (by omega) (by omega))) ?_
      refine TW.pure rfl rfl rfl rfl (fun w9 => R.eqStr rfl rfl) ?_
      first | refine TW.pure rfl rfl rfl rfl (fun w9 => R.pickT rfl rfl) ?_ | refine TW.pure rfl rfl rfl rfl (fun w9 => R.pickF rfl rfl) ?_
      refine TW.pure rfl rfl rfl rfl (fun w9 => R.as rfl) ?_
      refine TW.nil ?_
      refine SN.seq ?_
      exact SG.ret1 rfl rfl ((Imp.sels (by repeat (first | exact Sels.nil | apply Sels.cons | exact Sel.keep | exact Sel.here | apply Sel.there)))) (congrArg Value.bool (decide_eq_true In1))

end Go.Proofs.Ytmbppidafnakhaa
