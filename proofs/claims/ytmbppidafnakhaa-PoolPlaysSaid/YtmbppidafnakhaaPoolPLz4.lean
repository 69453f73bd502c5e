/-
  Texts of this claim, put together.
-/
import Derived.Test.YtmbppidafnakhaaPoolPLz3
/-
  The walks of package pool.
-/
set_option linter.unusedVariables false
set_option linter.unusedSimpArgs false
set_option maxRecDepth 4000
namespace Go.Proofs.Ytmbppidafnakhaa
open Go Brv Brv.Image Brv.Dev
theorem rpPost {M M2 : Hd} {fr B : Nat} {vv : DevV} {wa : Option Addr} {wc : Nat} {ha : Option Addr} {hc : Nat} {da : Option Addr} {dc : Nat} {e e2 : Int} {K : List Asn} (h1 : M = M2) (h2 : e = e2) (hK : K = [sh (fun w => RefAt w vv.wt wa), sh (fun w => Cells w ha (handC M B)), sh (fun w => Cells w da (dirtC M B))]) :
    ∃ ha' hc' da' dc', Value.tuple #[.agg ([.string (str vv.stay), .slice wa vv.wt.length wc, .int .i64 vv.calls, .int .i64 vv.left, .bool vv.off, .int .i64 (fr : Int), .slice ha B hc, .slice da B dc]).toArray, .int .i64 e] = .tuple #[.agg ([.string (str vv.stay), .slice wa vv.wt.length wc, .int .i64 vv.calls, .int .i64 vv.left, .bool vv.off, .int .i64 (fr : Int), .slice ha' B hc', .slice da' B dc']).toArray, .int .i64 e2] ∧ K = [sh (fun w => RefAt w vv.wt wa), sh (fun w => Cells w ha' (handC M2 B)), sh (fun w => Cells w da' (dirtC M2 B))] := by
  subst h1; subst h2; exact ⟨ha, hc, da, dc, rfl, hK⟩

set_option maxHeartbeats 1000000 in
theorem rpput_ok (fr B sz : Nat) (vv : DevV) (M : Hd) (wa : Option Addr) (wc : Nat) (ha : Option Addr) (hc : Nat) (da : Option Addr) (dc : Nat) (a : Option Addr) (n c : Nat) (ws : List WriteV) (hn : n ≤ 10000) (hs : Srt M) (hB1 : 1 ≤ B) (hB : B ≤ 64) : SpecS Try.prog 20 [.agg ([.string (str vv.stay), .slice wa vv.wt.length wc, .int .i64 vv.calls, .int .i64 vv.left, .bool vv.off, .int .i64 (fr : Int), .slice ha B hc, .slice da B dc]).toArray, .slice a n c] [sh (fun w => RefAt w vv.wt wa), sh (fun w => Cells w ha (handC M B)), sh (fun w => Cells w da (dirtC M B)), sh (fun w => WsP w a n ws)] (fun v H' => ∃ ha' hc' da' dc', v = .tuple #[.agg ([.string (str vv.stay), .slice wa vv.wt.length wc, .int .i64 vv.calls, .int .i64 vv.left, .bool vv.off, .int .i64 (fr : Int), .slice ha' B hc', .slice da' B dc']).toArray, .int .i64 (pwsE B (ws.map wv))] ∧ H' = [sh (fun w => RefAt w vv.wt wa), sh (fun w => Cells w ha' (handC (pputV M B (ws.map wv)) B)), sh (fun w => Cells w da' (dirtC (pputV M B (ws.map wv)) B))]) := by
  refine SpecS.enter Try.func20 rfl 54 rfl (Nat.le_of_ble_eq_true rfl) (fun o => ?_)
  refine SG.fact (fun w9 F9 S9 s => ws_len (s.sh (p := fun w => WsP w a n ws) (by repeat (first | exact Sel.keep | exact Sel.here | apply Sel.there)))) (fun hf9 => ?_)
  have hwl := hf9; clear hf9
  refine SG.seq ?_
  refine SG.region ?_
  refine SL.step rfl rfl (CS.boxA rfl) ?_
  rintro _ _ ⟨b2, rfl, rfl⟩
  refine SL.step rfl rfl (CS.alloc [.string ByteArray.empty, .slice none 0 0, .int .i64 0, .int .i64 0, .bool false, .int .i64 0, .slice none 0 0, .slice none 0 0] rfl) ?_
  rintro _ _ ⟨b4, rfl, rfl⟩
  refine SL.val rfl rfl (fun w9 F9 S9 s => R.as rfl) ?_
  refine SL.nil ?_
  refine SN.seq ?_
  refine SG.seq ?_
  refine SG.region ?_
  refine SL.val rfl rfl (fun w9 F9 S9 s => R.fld rfl) ?_
  refine SL.val rfl rfl (fun w9 F9 S9 s => R.ldB (v := .slice ha B hc) rfl (s.cel (by repeat (first | exact SelB.blk | exact SelB.fz | apply SelB.there))) (by rfl)) ?_
  refine SL.val rfl rfl (fun w9 F9 S9 s => R.lenS rfl) ?_
  refine SL.step rfl rfl (CS.callR rfl go43 (fun w9 F9 S9 s => rzero_ok B w9 (by omega))) ?_
  rintro _ _ ⟨rfl, rfl⟩
  refine SL.val rfl rfl (fun w9 F9 S9 s => R.mv rfl) ?_
  refine SL.step rfl rfl (CS.callR rfl go42 (fun w9 F9 S9 s => rwith_ok (List.replicate (64 * B) 0) a n c ws w9 (by rw [List.length_replicate]; omega) (s.sh (p := fun w => WsP w a n ws) (by repeat (first | exact Sel.keep | exact Sel.here | apply Sel.there))).1 (fun o ho => (s.sh (p := fun w => WsP w a n ws) (by repeat (first | exact Sel.keep | exact Sel.here | apply Sel.there))).2 o ho) (by omega))) ?_
  rintro _ _ ⟨rfl, rfl⟩
  refine SL.val rfl rfl (fun w9 F9 S9 s => R.mv rfl) ?_
  refine SL.val rfl rfl (fun w9 F9 S9 s => R.ext rfl rfl) ?_
  refine SL.val rfl rfl (fun w9 F9 S9 s => R.ext rfl rfl) ?_
  refine SL.val rfl rfl (fun w9 F9 S9 s => R.as rfl) ?_
  refine SL.val rfl rfl (fun w9 F9 S9 s => R.as rfl) ?_
  refine SL.nil ?_
  have hwe := withF_pws (B := B) (ws.map wv) (x := (List.replicate (64 * B) 0)) (by rw [List.length_replicate])
  refine SN.seq ?_
  refine SG.seq ?_
  refine SG.seq ?_
  refine SG.region ?_
  refine SL.val rfl rfl (fun w9 F9 S9 s => R.mv rfl) ?_
  refine SL.val rfl rfl (fun w9 F9 S9 s => R.neI rfl rfl) ?_
  refine SL.nil ?_
  refine SN.seq ?_
  refine SG.condP rfl (fun h0 => ?_) (fun h0 => ?_)
  · refine SG.seq ?_
    refine SG.region ?_
    refine SL.val rfl rfl (fun w9 F9 S9 s => R.ldBN (cs := ([.string (str vv.stay), .slice wa vv.wt.length wc, .int .i64 vv.calls, .int .i64 vv.left, .bool vv.off, .int .i64 (fr : Int), .slice ha B hc, .slice da B dc]).toArray) rfl (s.cel (by repeat (first | exact SelB.blk | exact SelB.fz | apply SelB.there))) (by rfl)) ?_
    refine SL.val rfl rfl (fun w9 F9 S9 s => R.mv rfl) ?_
    refine SL.step0 rfl (CS.stA (vs := [.string (str vv.stay), .slice wa vv.wt.length wc, .int .i64 vv.calls, .int .i64 vv.left, .bool vv.off, .int .i64 (fr : Int), .slice ha B hc, .slice da B dc]) rfl rfl (by repeat (first | exact Sel.keep | exact Sel.here | apply Sel.there)) (by rfl) (by rfl) (by intro u hu; simp only [List.mem_cons, List.not_mem_nil, or_false] at hu; rcases hu with rfl | rfl | rfl | rfl | rfl | rfl | rfl | rfl <;> rfl)) ?_
    rintro _ _ rfl
    refine SL.val rfl rfl (fun w9 F9 S9 s => R.as rfl) ?_
    refine SL.nil ?_
    refine SN.seq ?_
    exact SG.retCT rfl rfl rfl (by repeat (first | exact Sel.keep | exact Sel.here | apply Sel.there)) (by rfl) ((Imp.sels (by repeat (first | exact Sels.nil | apply Sels.cons | exact Sel.keep | exact Sel.here | apply Sel.there)))) (rpPost (show M = pputV M B (ws.map wv) by unfold pputV; rw [if_neg (by rw [← hwe]; exact h0)]) hwe rfl)
  · have hpe : pwsE B (ws.map wv) = 0 := by rw [← hwe]; exact Classical.not_not.1 h0
    refine SG.skip ?_
    refine SN.seq ?_
    refine SG.seq ?_
    refine SG.region ?_
    refine SL.step rfl rfl (CS.buildA rfl rfl rfl rfl rfl [] rfl) ?_
    rintro _ _ ⟨b23, rfl, rfl⟩
    refine SL.imp (Imp.ownBlk (size := 1) (k := 0) (show Sel _ (blk b23 [] 9) _ from (by repeat (first | exact Sel.keep | exact Sel.here | apply Sel.there))) rfl (Nat.zero_le _)) ?_
    refine SL.val rfl rfl (fun w9 F9 S9 s => R.fld rfl) ?_
    refine SL.val rfl rfl (fun w9 F9 S9 s => R.ldB (v := .slice ha B hc) rfl (s.cel (by repeat (first | exact SelB.blk | exact SelB.fz | apply SelB.there))) (by rfl)) ?_
    refine SL.step rfl rfl (CS.app rfl rfl (show Sel _ (own 9 1 (some ⟨b23, 0, none⟩) 0 0 []) _ from (by repeat (first | exact Sel.keep | exact Sel.here | apply Sel.there))) (fun w9 F9 S9 s => (s.sh (p := fun w => Cells w ha (handC M B)) (by repeat (first | exact Sel.keep | exact Sel.here | apply Sel.there)))) (by rw [handC_len]; omega) (handC_one M B) (by simp [maxLen]; omega) (by omega)) ?_
    rintro _ _ ⟨a26, c26, rfl, rfl⟩
    refine SL.fact (fun w9 F9 S9 s => s.ownG (show Sel _ (own 9 1 a26 (0 + B) c26 ([] ++ handC M B)) _ from (by repeat (first | exact Sel.keep | exact Sel.here | apply Sel.there))) (by omega)) (fun hf9 => ?_)
    obtain ⟨g1, hg1⟩ := hf9
    subst hg1
    refine SL.val rfl rfl (fun w9 F9 S9 s => R.fld rfl) ?_
    refine SL.step0 rfl (CS.st rfl rfl (show Sel _ (blk b2 _ _) _ from (by repeat (first | exact Sel.keep | exact Sel.here | apply Sel.there))) (by repeat (first | exact SetAt.here | apply SetAt.there)) rfl) ?_
    rintro _ _ rfl
    refine SL.nil ?_
    refine SN.seq ?_
    refine SG.seq ?_
    refine SG.region ?_
    refine SL.step rfl rfl (CS.buildA rfl rfl rfl rfl rfl [] rfl) ?_
    rintro _ _ ⟨b28, rfl, rfl⟩
    refine SL.imp (Imp.ownBlk (size := 1) (k := 0) (show Sel _ (blk b28 [] 4) _ from (by repeat (first | exact Sel.keep | exact Sel.here | apply Sel.there))) rfl (Nat.zero_le _)) ?_
    refine SL.val rfl rfl (fun w9 F9 S9 s => R.fld rfl) ?_
    refine SL.val rfl rfl (fun w9 F9 S9 s => R.ldB (v := .slice da B dc) rfl (s.cel (by repeat (first | exact SelB.blk | exact SelB.fz | apply SelB.there))) (by rfl)) ?_
    refine SL.step rfl rfl (CS.app rfl rfl (show Sel _ (own 4 1 (some ⟨b28, 0, none⟩) 0 0 []) _ from (by repeat (first | exact Sel.keep | exact Sel.here | apply Sel.there))) (fun w9 F9 S9 s => (s.sh (p := fun w => Cells w da (dirtC M B)) (by repeat (first | exact Sel.keep | exact Sel.here | apply Sel.there)))) (by rw [dirtC_len]; omega) (dirtC_one M B) (by simp [maxLen]; omega) (by omega)) ?_
    rintro _ _ ⟨a31, c31, rfl, rfl⟩
    refine SL.fact (fun w9 F9 S9 s => s.ownG (show Sel _ (own 4 1 a31 (0 + B) c31 ([] ++ dirtC M B)) _ from (by repeat (first | exact Sel.keep | exact Sel.here | apply Sel.there))) (by omega)) (fun hf9 => ?_)
    obtain ⟨g2, hg2⟩ := hf9
    subst hg2
    refine SL.val rfl rfl (fun w9 F9 S9 s => R.fld rfl) ?_
    refine SL.step0 rfl (CS.st rfl rfl (show Sel _ (blk b2 _ _) _ from (by repeat (first | exact Sel.keep | exact Sel.here | apply Sel.there))) (by repeat (first | exact SetAt.here | apply SetAt.there)) rfl) ?_
    rintro _ _ rfl
    refine SL.nil ?_
    refine SN.seq ?_
    refine SG.seq ?_
    refine SG.seq ?_
    refine SG.region ?_
    refine SL.val rfl rfl (fun w9 F9 S9 s => R.mv rfl) ?_
    refine SL.val rfl rfl (fun w9 F9 S9 s => R.lenS rfl) ?_
    refine SL.val rfl rfl (fun w9 F9 S9 s => R.mv rfl) ?_
    refine SL.nil ?_
    refine SN.seq ?_
    refine SG.block ?_
    refine SG.loop (X := Nat) (fun i => [(2, .pointer (some ⟨b2, 0, none⟩)), (4, .pointer (some ⟨b4, 0, none⟩)), (33, .slice a n c), (34, .int .i64 (n : Int)), (35, .int .i64 (i : Int))]) (fun i => [blk b2 [.string (str vv.stay), .slice wa vv.wt.length wc, .int .i64 vv.calls, .int .i64 vv.left, .bool vv.off, .int .i64 (fr : Int), .slice (some ⟨g1, 0, none⟩) (0 + B) c26, .slice (some ⟨g2, 0, none⟩) (0 + B) c31] 49, blk b4 [.string (str []), .slice none 0 0, .int .i64 0, .int .i64 0, .bool false, .int .i64 0, .slice none 0 0, .slice none 0 0] 49, own 9 1 (some ⟨g1, 0, none⟩) (0 + B) c26 (handC (putL M ((ws.map wv).take i)) B), own 4 1 (some ⟨g2, 0, none⟩) (0 + B) c31 (dirtC (putL M ((ws.map wv).take i)) B), sh (fun w => RefAt w vv.wt wa), sh (fun w => WsP w a n ws)]) (fun i => i ≤ n ∧ Srt (putL M ((ws.map wv).take i))) (fun i => n - i) (0) (Sub.cons rfl (Sub.cons rfl (Sub.cons rfl (Sub.cons rfl (Sub.cons rfl (Sub.nil _)))))) ((Imp.sels (by repeat (first | exact Sels.nil | apply Sels.cons | exact Sel.keep | exact Sel.here | apply Sel.there)))) (⟨Nat.zero_le _, hs⟩) ?_
    rintro i ⟨hi, hsi⟩
    show SG _ _ _ _ _ [(2, .pointer (some ⟨b2, 0, none⟩)), (4, .pointer (some ⟨b4, 0, none⟩)), (33, .slice a n c), (34, .int .i64 (n : Int)), (35, .int .i64 (i : Int))] [blk b2 [.string (str vv.stay), .slice wa vv.wt.length wc, .int .i64 vv.calls, .int .i64 vv.left, .bool vv.off, .int .i64 (fr : Int), .slice (some ⟨g1, 0, none⟩) (0 + B) c26, .slice (some ⟨g2, 0, none⟩) (0 + B) c31] 49, blk b4 [.string (str []), .slice none 0 0, .int .i64 0, .int .i64 0, .bool false, .int .i64 0, .slice none 0 0, .slice none 0 0] 49, own 9 1 (some ⟨g1, 0, none⟩) (0 + B) c26 (handC (putL M ((ws.map wv).take i)) B), own 4 1 (some ⟨g2, 0, none⟩) (0 + B) c31 (dirtC (putL M ((ws.map wv).take i)) B), sh (fun w => RefAt w vv.wt wa), sh (fun w => WsP w a n ws)] _
    refine SG.seq ?_
    refine SG.region ?_
    refine SL.val rfl rfl (fun w9 F9 S9 s => R.lss rfl rfl) ?_
    refine SL.nil ?_
    refine SN.seq ?_
    refine SG.seq ?_
    refine SG.condP rfl (fun h1 => ?_) (fun h1 => ?_)
    · obtain ⟨z, hz⟩ : ∃ z, ws[i]? = some z := ⟨_, List.getElem?_eq_getElem (by omega)⟩
      refine SG.fact (fun w9 F9 S9 s => ws_pt (s.sh (p := fun w => WsP w a n ws) (by repeat (first | exact Sel.keep | exact Sel.here | apply Sel.there))) hz) (fun hf9 => ?_)
      obtain ⟨q, hq⟩ := hf9
      refine SG.fact (fun w9 F9 S9 s => (ws_bs (s.sh (p := fun w => WsP w a n ws) (by repeat (first | exact Sel.keep | exact Sel.here | apply Sel.there))) hz).len) (fun hf9 => ?_)
      have hzl := hf9; clear hf9
      have hze := pwE_in (pwsE_in hpe _ (List.mem_of_getElem? (ws_wv hz)))
      have hzB : 0 ≤ z.Block' ∧ z.Block' < (B : Int) := hze.1
      obtain ⟨k, hk⟩ := Int.eq_ofNat_of_zero_le hzB.1
      refine SG.imp (Imp.weak (p := fun w => WsP w a n ws) (q := fun w => Bs w z.B'a z.B'n z.B') (by repeat (first | exact Sel.keep | exact Sel.here | apply Sel.there)) (fun w hw => ws_bs hw hz)) ?_
      refine SG.skip ?_
      refine SN.seq ?_
      refine SG.seq ?_
      refine SG.block ?_
      refine SG.seq ?_
      refine SG.region ?_
      refine SL.val rfl rfl (fun w9 F9 S9 s => R.idx rfl rfl (by omega) (by omega) q hq) ?_
      refine SL.val rfl rfl (fun w9 F9 S9 s => R.ldN (vs := WriteV.cells z) rfl (ws_cells (s.sh (p := fun w => WsP w a n ws) (by repeat (first | exact Sel.keep | exact Sel.here | apply Sel.there))) hq hz) rfl) ?_
      refine SL.step rfl rfl (CS.alloc [.int .i64 0, .slice none 0 0] rfl) ?_
      rintro _ _ ⟨b9, rfl, rfl⟩
      refine SL.step0 rfl (CS.stA (vs := WriteV.cells z) rfl rfl (by repeat (first | exact Sel.keep | exact Sel.here | apply Sel.there)) (by rfl) (by rfl) (by intro u hu; exact WriteV.cells.one _ u (by simpa using hu))) ?_
      rintro _ _ rfl
      refine SL.nil ?_
      refine SN.seq ?_
      refine SG.seq ?_
      refine SG.region ?_
      refine SL.val rfl rfl (fun w9 F9 S9 s => R.fld rfl) ?_
      refine SL.val rfl rfl (fun w9 F9 S9 s => R.ldB (v := .slice (some ⟨g1, 0, none⟩) (0 + B) c26) rfl (s.cel (by repeat (first | exact SelB.blk | exact SelB.fz | apply SelB.there))) (by rfl)) ?_
      refine SL.val rfl rfl (fun w9 F9 S9 s => R.fld rfl) ?_
      refine SL.val rfl rfl (fun w9 F9 S9 s => R.ldB (v := .int .i64 z.Block') rfl (s.cel (by repeat (first | exact SelB.blk | exact SelB.fz | apply SelB.there))) (by rfl)) ?_
      refine SL.val rfl rfl (fun w9 F9 S9 s => R.fld rfl) ?_
      refine SL.val rfl rfl (fun w9 F9 S9 s => R.ldB (v := .slice z.B'a z.B'n z.B'c) rfl (s.cel (by repeat (first | exact SelB.blk | exact SelB.fz | apply SelB.there))) (by rfl)) ?_
      refine SL.val rfl rfl (fun w9 F9 S9 s => R.strB rfl (s.sh (p := fun w => Bs w z.B'a z.B'n z.B') (by repeat (first | exact Sel.keep | exact Sel.here | apply Sel.there)))) ?_
      refine SL.val rfl rfl (fun w9 F9 S9 s => R.idxO (i := z.Block') rfl rfl (by omega) (by omega) rfl k (by omega)) ?_
      refine SL.step0 rfl (CS.stO (j := k) rfl rfl (show Sel _ (own 9 1 (some ⟨g1, 0, none⟩) (0 + B) c26 (handC (putL M ((ws.map wv).take i)) B)) _ from (by repeat (first | exact Sel.keep | exact Sel.here | apply Sel.there))) (by omega) rfl) ?_
      rintro _ _ rfl
      refine SL.nil ?_
      refine SN.seq ?_
      refine SG.region ?_
      refine SL.val rfl rfl (fun w9 F9 S9 s => R.fld rfl) ?_
      refine SL.val rfl rfl (fun w9 F9 S9 s => R.ldB (v := .slice (some ⟨g2, 0, none⟩) (0 + B) c31) rfl (s.cel (by repeat (first | exact SelB.blk | exact SelB.fz | apply SelB.there))) (by rfl)) ?_
      refine SL.val rfl rfl (fun w9 F9 S9 s => R.fld rfl) ?_
      refine SL.val rfl rfl (fun w9 F9 S9 s => R.ldB (v := .int .i64 z.Block') rfl (s.cel (by repeat (first | exact SelB.blk | exact SelB.fz | apply SelB.there))) (by rfl)) ?_
      refine SL.val rfl rfl (fun w9 F9 S9 s => R.idxO (i := z.Block') rfl rfl (by omega) (by omega) rfl k (by omega)) ?_
      refine SL.step0 rfl (CS.stO (j := k) rfl rfl (show Sel _ (own 4 1 (some ⟨g2, 0, none⟩) (0 + B) c31 (dirtC (putL M ((ws.map wv).take i)) B)) _ from (by repeat (first | exact Sel.keep | exact Sel.here | apply Sel.there))) (by omega) rfl) ?_
      rintro _ _ rfl
      refine SL.nil ?_
      refine SN.block ?_
      refine SN.seq ?_
      refine SG.region ?_
      refine SL.val rfl rfl (fun w9 F9 S9 s => R.add rfl rfl (by omega)) ?_
      refine SL.val rfl rfl (fun w9 F9 S9 s => R.mv rfl) ?_
      refine SL.nil ?_
      exact SN.again (i + 1) (by show n - (i + 1) < n - i; omega) (Sub.cons rfl (Sub.cons rfl (Sub.cons rfl (Sub.cons rfl (Sub.cons rfl (Sub.nil _)))))) ((show Imp _ _ by rw [putL_succ (ws_wv hz)]; show Imp _ [_, _, own _ _ _ _ _ (handC (putT (putL M ((ws.map wv).take i)) z.Block' (z.B', true)) B), own _ _ _ _ _ (dirtC (putT (putL M ((ws.map wv).take i)) z.Block' (z.B', true)) B), _, _]; rw [hk, ← handC_put hsi (z.B', true), ← dirtC_put hsi (z.B', true)]; exact (Imp.sels (by repeat (first | exact Sels.nil | apply Sels.cons | exact Sel.keep | exact Sel.here | apply Sel.there))))) (⟨by show i + 1 ≤ n; omega, by show Srt (putL M ((ws.map wv).take (i + 1))); rw [putL_succ (ws_wv hz)]; exact srt_put hsi _ _⟩)
    · obtain rfl : i = n := by omega
      rw [List.take_of_length_le (by rw [List.length_map]; omega)]
      rw [Nat.zero_add]
      refine SG.imp (Imp.ownSh (show Sel _ (own 9 1 (some ⟨g1, 0, none⟩) (B) c26 (handC (putL M (ws.map wv)) B)) _ from (by repeat (first | exact Sel.keep | exact Sel.here | apply Sel.there))) (p := fun w => Cells w (some ⟨g1, 0, none⟩) (handC (putL M (ws.map wv)) B)) (fun w h => h)) ?_
      refine SG.imp (Imp.ownSh (show Sel _ (own 4 1 (some ⟨g2, 0, none⟩) (B) c31 (dirtC (putL M (ws.map wv)) B)) _ from (by repeat (first | exact Sel.keep | exact Sel.here | apply Sel.there))) (p := fun w => Cells w (some ⟨g2, 0, none⟩) (dirtC (putL M (ws.map wv)) B)) (fun w h => h)) ?_
      refine SG.exit _ rfl ?_
      refine SN.seq ?_
      refine SG.seq ?_
      refine SG.region ?_
      refine SL.val rfl rfl (fun w9 F9 S9 s => R.ldBN (cs := ([.string (str vv.stay), .slice wa vv.wt.length wc, .int .i64 vv.calls, .int .i64 vv.left, .bool vv.off, .int .i64 (fr : Int), .slice (some ⟨g1, 0, none⟩) (B) c26, .slice (some ⟨g2, 0, none⟩) (B) c31]).toArray) rfl (s.cel (by repeat (first | exact SelB.blk | exact SelB.fz | apply SelB.there))) (by rfl)) ?_
      refine SL.step0 rfl (CS.stA (vs := [.string (str vv.stay), .slice wa vv.wt.length wc, .int .i64 vv.calls, .int .i64 vv.left, .bool vv.off, .int .i64 (fr : Int), .slice (some ⟨g1, 0, none⟩) (B) c26, .slice (some ⟨g2, 0, none⟩) (B) c31]) rfl rfl (by repeat (first | exact Sel.keep | exact Sel.here | apply Sel.there)) (by rfl) (by rfl) (by intro u hu; simp only [List.mem_cons, List.not_mem_nil, or_false] at hu; rcases hu with rfl | rfl | rfl | rfl | rfl | rfl | rfl | rfl <;> rfl)) ?_
      rintro _ _ rfl
      refine SL.val rfl rfl (fun w9 F9 S9 s => R.as rfl) ?_
      refine SL.nil ?_
      refine SN.seq ?_
      exact SG.retCT rfl rfl rfl (by repeat (first | exact Sel.keep | exact Sel.here | apply Sel.there)) (by rfl) ((Imp.sels (by repeat (first | exact Sels.nil | apply Sels.cons | exact Sel.keep | exact Sel.here | apply Sel.there)))) (rpPost (show putL M (ws.map wv) = pputV M B (ws.map wv) by unfold pputV; rw [if_pos hpe]) hpe.symm rfl)

end Go.Proofs.Ytmbppidafnakhaa
/-
  The walks of package pool.
-/
set_option linter.unusedVariables false
set_option linter.unusedSimpArgs false
set_option maxRecDepth 4000
namespace Go.Proofs.Ytmbppidafnakhaa
open Go Brv Brv.Image Brv.Dev
structure ImR where
  i : Nat
  l : List UInt8
structure SvR where
  i : Nat
  v : DevV
  wa : Option Addr
  wc : Nat
  e : Int
theorem riPost {M : Hd} {vv : DevV} {sz fr B : Nat} {l : List UInt8} {e : Int} {K : List Asn} (h : pimV M vv sz fr B = (l, e)) (hK : K = []) : Value.tuple #[.string (str l), .int .i64 e] = .tuple #[.string (str (pimV M vv sz fr B).1), .int .i64 (pimV M vv sz fr B).2] ∧ K = [] := by
  rw [h]; exact ⟨rfl, hK⟩
theorem flag_dirty {M : Hd} {B : Nat} (h : PKey M B) {i : Nat} (hf : flagH M (i : Int) = true) : (i : Int) ∈ dirtyL M := by
  rw [dirty_iff h.srt]
  unfold flagH at hf
  cases hg : getT M (i : Int) with
  | none => rw [hg] at hf; cases hf
  | some x =>
    obtain ⟨x, f⟩ := x
    rw [hg] at hf
    cases f with
    | false => cases hf
    | true => exact ⟨x, rfl⟩
theorem sv_skip {M : Hd} {vv v1 : DevV} {sz fr i : Nat} {e1 : Int} (hf : flagH M (i : Int) = false) (h : svL M vv sz fr (dirtN M i) = (v1, e1)) : svL M vv sz fr (dirtN M (i + 1)) = (v1, e1) := by
  rw [dirtN_succ, hf, if_neg (by simp), List.append_nil]; exact h
theorem sv_stay {M : Hd} {vv v1 : DevV} {sz fr i : Nat} {e1 : Int} (hf : flagH M (i : Int) = true) (he : ¬ e1 = 0) (h : svL M vv sz fr (dirtN M i) = (v1, e1)) : svL M vv sz fr (dirtN M (i + 1)) = (v1, e1) := by
  rw [dirtN_succ, hf, if_pos rfl, svL_snoc, h]
  exact if_neg he
theorem sv_step {M : Hd} {vv v1 : DevV} {sz fr i : Nat} {e1 : Int} (hf : flagH M (i : Int) = true) (he : e1 = 0) (h : svL M vv sz fr (dirtN M i) = (v1, e1)) : svL M vv sz fr (dirtN M (i + 1)) = writeV v1 sz ((fr : Int) + (i : Int)) (valH M (i : Int)) := by
  rw [dirtN_succ, hf, if_pos rfl, svL_snoc, h]
  exact if_pos he
theorem rsPost2 {M M2 : Hd} {vv v2 : DevV} {sz fr B : Nat} {e : Int} {wa : Option Addr} {wc : Nat} {ha : Option Addr} {hc : Nat} {da : Option Addr} {dc : Nat} {K : List Asn} (h : psaveV M vv sz fr = ((M2, v2), e)) (hK : K = [sh (fun w => RefAt w v2.wt wa), sh (fun w => Cells w ha (handC M2 B)), sh (fun w => Cells w da (dirtC M2 B))]) :
    ∃ wa' wc' da' dc', Value.tuple #[.agg ([.string (str v2.stay), .slice wa v2.wt.length wc, .int .i64 v2.calls, .int .i64 v2.left, .bool v2.off, .int .i64 (fr : Int), .slice ha B hc, .slice da B dc]).toArray, .int .i64 e] = .tuple #[.agg ([.string (str (psaveV M vv sz fr).1.2.stay), .slice wa' (psaveV M vv sz fr).1.2.wt.length wc', .int .i64 (psaveV M vv sz fr).1.2.calls, .int .i64 (psaveV M vv sz fr).1.2.left, .bool (psaveV M vv sz fr).1.2.off, .int .i64 (fr : Int), .slice ha B hc, .slice da' B dc']).toArray, .int .i64 (psaveV M vv sz fr).2] ∧ K = [sh (fun w => RefAt w (psaveV M vv sz fr).1.2.wt wa'), sh (fun w => Cells w ha (handC (psaveV M vv sz fr).1.1 B)), sh (fun w => Cells w da' (dirtC (psaveV M vv sz fr).1.1 B))] := by
  rw [h]; exact ⟨wa, wc, da, dc, rfl, hK⟩

theorem rpimage_ok (fr B sz : Nat) (vv : DevV) (M : Hd) (wa : Option Addr) (wc : Nat) (ha : Option Addr) (hc : Nat) (da : Option Addr) (dc : Nat) (hK : PKey M B) (hB : B ≤ 64) (hfr : fr ≤ 4096) (hwf : vv.Wf sz) (hz : sz ≤ 4096) (hwb : vv.wt.length ≤ 1000000) : SpecS Try.prog 24 [.agg ([.string (str vv.stay), .slice wa vv.wt.length wc, .int .i64 vv.calls, .int .i64 vv.left, .bool vv.off, .int .i64 (fr : Int), .slice ha B hc, .slice da B dc]).toArray] [sh (fun w => RefAt w vv.wt wa), sh (fun w => Cells w ha (handC M B)), sh (fun w => Cells w da (dirtC M B))] (fun v H' => v = .tuple #[.string (str (pimV M vv sz fr B).1), .int .i64 (pimV M vv sz fr B).2] ∧ H' = []) := by
  refine SpecS.enter Try.func24 rfl 28 rfl (Nat.le_of_ble_eq_true rfl) (fun o => ?_)
  refine SG.seq ?_
  refine SG.region ?_
  refine SL.step rfl rfl (CS.boxA rfl) ?_
  rintro _ _ ⟨b1, rfl, rfl⟩
  refine SL.val rfl rfl (fun w9 F9 S9 s => R.as rfl) ?_
  refine SL.val rfl rfl (fun w9 F9 S9 s => R.as rfl) ?_
  refine SL.nil ?_
  refine SN.seq ?_
  refine SG.seq ?_
  refine SG.region ?_
  refine SL.val rfl rfl (fun w9 F9 S9 s => R.as rfl) ?_
  refine SL.nil ?_
  refine SN.seq ?_
  refine SG.seq ?_
  refine SG.seq ?_
  refine SG.region ?_
  refine SL.val rfl rfl (fun w9 F9 S9 s => R.fld rfl) ?_
  refine SL.val rfl rfl (fun w9 F9 S9 s => R.ldB (v := .slice ha B hc) rfl (s.cel (by repeat (first | exact SelB.blk | exact SelB.fz | apply SelB.there))) (by rfl)) ?_
  refine SL.val rfl rfl (fun w9 F9 S9 s => R.lenS rfl) ?_
  refine SL.val rfl rfl (fun w9 F9 S9 s => R.mv rfl) ?_
  refine SL.nil ?_
  refine SN.seq ?_
  refine SG.block ?_
  refine SG.loop (X := ImR) (fun y => [(1, .pointer (some ⟨b1, 0, none⟩)), (4, .string (str y.l)), (9, .slice ha B hc), (10, .int .i64 (B : Int)), (11, .int .i64 (y.i : Int))]) (fun y => [blk b1 [.string (str vv.stay), .slice wa vv.wt.length wc, .int .i64 vv.calls, .int .i64 vv.left, .bool vv.off, .int .i64 (fr : Int), .slice ha B hc, .slice da B dc] 49, sh (fun w => RefAt w vv.wt wa), sh (fun w => Cells w ha (handC M B)), sh (fun w => Cells w da (dirtC M B))]) (fun y => y.i ≤ B ∧ pimL M vv sz fr B y.i = (y.l, 0) ∧ y.l.length = 64 * y.i) (fun y => B - y.i) (⟨0, []⟩) (Sub.cons rfl (Sub.cons rfl (Sub.cons rfl (Sub.cons rfl (Sub.cons rfl (Sub.nil _)))))) ((Imp.sels (by repeat (first | exact Sels.nil | apply Sels.cons | exact Sel.keep | exact Sel.here | apply Sel.there)))) (⟨Nat.zero_le _, rfl, rfl⟩) ?_
  rintro ⟨i, l⟩ ⟨hi, hpi, hll⟩
  dsimp only at hi hpi hll
  show SG _ _ _ _ _ [(1, .pointer (some ⟨b1, 0, none⟩)), (4, .string (str l)), (9, .slice ha B hc), (10, .int .i64 (B : Int)), (11, .int .i64 (i : Int))] [blk b1 [.string (str vv.stay), .slice wa vv.wt.length wc, .int .i64 vv.calls, .int .i64 vv.left, .bool vv.off, .int .i64 (fr : Int), .slice ha B hc, .slice da B dc] 49, sh (fun w => RefAt w vv.wt wa), sh (fun w => Cells w ha (handC M B)), sh (fun w => Cells w da (dirtC M B))] _
  refine SG.seq ?_
  refine SG.region ?_
  refine SL.val rfl rfl (fun w9 F9 S9 s => R.lss rfl rfl) ?_
  refine SL.nil ?_
  refine SN.seq ?_
  refine SG.seq ?_
  refine SG.condP rfl (fun h0 => ?_) (fun h0 => ?_)
  · refine SG.skip ?_
    refine SN.seq ?_
    refine SG.seq ?_
    refine SG.block ?_
    refine SG.seq ?_
    refine SG.region ?_
    refine SL.val rfl rfl (fun w9 F9 S9 s => R.mv rfl) ?_
    refine SL.val rfl rfl (fun w9 F9 S9 s => R.as rfl) ?_
    refine SL.nil ?_
    refine SN.seq ?_
    refine SG.seq ?_
    refine SG.region ?_
    refine SL.val rfl rfl (fun w9 F9 S9 s => R.ldBN (cs := ([.string (str vv.stay), .slice wa vv.wt.length wc, .int .i64 vv.calls, .int .i64 vv.left, .bool vv.off, .int .i64 (fr : Int), .slice ha B hc, .slice da B dc]).toArray) rfl (s.cel (by repeat (first | exact SelB.blk | exact SelB.fz | apply SelB.there))) (by rfl)) ?_
    refine SL.val rfl rfl (fun w9 F9 S9 s => R.mv rfl) ?_
    refine SL.step rfl rfl (CS.call rfl go21 (rpget_ok fr B sz vv M wa wc ha hc da dc (i : Int) hK hB hfr hwf hz hwb) (by repeat (first | exact Sels.nil | apply Sels.cons | exact Sel.keep | exact Sel.here | apply Sel.there))) ?_
    rintro _ _ ⟨_, ⟨rfl, rfl⟩, rfl⟩
    refine SL.n0 ?_
    refine SL.val rfl rfl (fun w9 F9 S9 s => R.mv rfl) ?_
    refine SL.val rfl rfl (fun w9 F9 S9 s => R.ext rfl rfl) ?_
    refine SL.val rfl rfl (fun w9 F9 S9 s => R.ext rfl rfl) ?_
    refine SL.val rfl rfl (fun w9 F9 S9 s => R.as rfl) ?_
    refine SL.val rfl rfl (fun w9 F9 S9 s => R.as rfl) ?_
    refine SL.nil ?_
    refine SN.seq ?_
    refine SG.seq ?_
    refine SG.seq ?_
    refine SG.region ?_
    refine SL.val rfl rfl (fun w9 F9 S9 s => R.mv rfl) ?_
    refine SL.val rfl rfl (fun w9 F9 S9 s => R.neI rfl rfl) ?_
    refine SL.nil ?_
    refine SN.seq ?_
    refine SG.condP rfl (fun h1 => ?_) (fun h1 => ?_)
    · refine SG.seq ?_
      refine SG.region ?_
      refine SL.val rfl rfl (fun w9 F9 S9 s => R.mv rfl) ?_
      refine SL.val rfl rfl (fun w9 F9 S9 s => R.as rfl) ?_
      refine SL.val rfl rfl (fun w9 F9 S9 s => R.as rfl) ?_
      refine SL.nil ?_
      refine SN.seq ?_
      exact SG.ret2 rfl rfl rfl (Imp.sels Sels.nil) (riPost (pim_err hpi (by omega) h1) rfl)
    · have h20 : (pgetV M vv sz fr B (i : Int)).2 = 0 := Classical.not_not.1 h1
      have h64 := pget_64 hwf hK.len h20
      refine SG.skip ?_
      refine SN.seq ?_
      refine SG.region ?_
      refine SL.val rfl rfl (fun w9 F9 S9 s => R.mv rfl) ?_
      refine SL.val rfl rfl (fun w9 F9 S9 s => R.mv rfl) ?_
      refine SL.val rfl rfl (fun w9 F9 S9 s => R.addStr rfl rfl (by omega)) ?_
      refine SL.val rfl rfl (fun w9 F9 S9 s => R.as rfl) ?_
      refine SL.nil ?_
      refine SN.block ?_
      refine SN.seq ?_
      refine SG.region ?_
      refine SL.val rfl rfl (fun w9 F9 S9 s => R.add rfl rfl (by omega)) ?_
      refine SL.val rfl rfl (fun w9 F9 S9 s => R.mv rfl) ?_
      refine SL.nil ?_
      exact SN.again (⟨i + 1, l ++ (pgetV M vv sz fr B (i : Int)).1⟩) (by show B - (i + 1) < B - i; omega) (Sub.cons rfl (Sub.cons rfl (Sub.cons rfl (Sub.cons rfl (Sub.cons rfl (Sub.nil _)))))) ((Imp.sels (by repeat (first | exact Sels.nil | apply Sels.cons | exact Sel.keep | exact Sel.here | apply Sel.there)))) (⟨by show i + 1 ≤ B; omega, pim_next hpi h20, by show (l ++ (pgetV M vv sz fr B (i : Int)).1).length = 64 * (i + 1); rw [List.length_append]; omega⟩)
  · obtain rfl : i = B := by omega
    refine SG.exit _ rfl ?_
    refine SN.seq ?_
    refine SG.seq ?_
    refine SG.region ?_
    refine SL.val rfl rfl (fun w9 F9 S9 s => R.mv rfl) ?_
    refine SL.val rfl rfl (fun w9 F9 S9 s => R.as rfl) ?_
    refine SL.val rfl rfl (fun w9 F9 S9 s => R.as rfl) ?_
    refine SL.nil ?_
    refine SN.seq ?_
    exact SG.ret2 rfl rfl rfl (Imp.sels Sels.nil) (riPost (show pimV M vv sz fr i = (l, 0) from hpi) rfl)

set_option maxHeartbeats 1000000 in
theorem rpsave_ok (fr B sz : Nat) (vv : DevV) (M : Hd) (wa : Option Addr) (wc : Nat) (ha : Option Addr) (hc : Nat) (da : Option Addr) (dc : Nat) (hK : PKey M B) (hB : B ≤ 64) (hfr : fr ≤ 4096) (hwf : vv.Wf sz) (hz : sz ≤ 4096) (hcb : 0 ≤ vv.calls ∧ vv.calls ≤ 100000000) (hwb : vv.wt.length ≤ 100000) : SpecS Try.prog 22 [.agg ([.string (str vv.stay), .slice wa vv.wt.length wc, .int .i64 vv.calls, .int .i64 vv.left, .bool vv.off, .int .i64 (fr : Int), .slice ha B hc, .slice da B dc]).toArray] [sh (fun w => RefAt w vv.wt wa), sh (fun w => Cells w ha (handC M B)), sh (fun w => Cells w da (dirtC M B))] (fun v H' => ∃ wa' wc' da' dc', v = .tuple #[.agg ([.string (str (psaveV M vv sz fr).1.2.stay), .slice wa' (psaveV M vv sz fr).1.2.wt.length wc', .int .i64 (psaveV M vv sz fr).1.2.calls, .int .i64 (psaveV M vv sz fr).1.2.left, .bool (psaveV M vv sz fr).1.2.off, .int .i64 (fr : Int), .slice ha B hc, .slice da' B dc']).toArray, .int .i64 (psaveV M vv sz fr).2] ∧ H' = [sh (fun w => RefAt w (psaveV M vv sz fr).1.2.wt wa'), sh (fun w => Cells w ha (handC (psaveV M vv sz fr).1.1 B)), sh (fun w => Cells w da' (dirtC (psaveV M vv sz fr).1.1 B))]) := by
  refine SpecS.enter Try.func22 rfl 56 rfl (Nat.le_of_ble_eq_true rfl) (fun o => ?_)
  refine SG.seq ?_
  refine SG.region ?_
  refine SL.step rfl rfl (CS.boxA rfl) ?_
  rintro _ _ ⟨b1, rfl, rfl⟩
  refine SL.step rfl rfl (CS.alloc [.string ByteArray.empty, .slice none 0 0, .int .i64 0, .int .i64 0, .bool false, .int .i64 0, .slice none 0 0, .slice none 0 0] rfl) ?_
  rintro _ _ ⟨b2, rfl, rfl⟩
  refine SL.val rfl rfl (fun w9 F9 S9 s => R.as rfl) ?_
  refine SL.nil ?_
  refine SN.seq ?_
  refine SG.seq ?_
  refine SG.region ?_
  refine SL.val rfl rfl (fun w9 F9 S9 s => R.as rfl) ?_
  refine SL.nil ?_
  refine SN.seq ?_
  refine SG.seq ?_
  refine SG.seq ?_
  refine SG.region ?_
  refine SL.val rfl rfl (fun w9 F9 S9 s => R.fld rfl) ?_
  refine SL.val rfl rfl (fun w9 F9 S9 s => R.ldB (v := .slice da B dc) rfl (s.cel (by repeat (first | exact SelB.blk | exact SelB.fz | apply SelB.there))) (by rfl)) ?_
  refine SL.val rfl rfl (fun w9 F9 S9 s => R.lenS rfl) ?_
  refine SL.val rfl rfl (fun w9 F9 S9 s => R.mv rfl) ?_
  refine SL.nil ?_
  refine SN.seq ?_
  refine SG.block ?_
  refine SG.loop (X := SvR) (fun y => [(1, .pointer (some ⟨b1, 0, none⟩)), (2, .pointer (some ⟨b2, 0, none⟩)), (4, .int .i64 y.e), (8, .slice da B dc), (9, .int .i64 (B : Int)), (10, .int .i64 (y.i : Int))]) (fun y => [blk b1 [.string (str y.v.stay), .slice y.wa y.v.wt.length y.wc, .int .i64 y.v.calls, .int .i64 y.v.left, .bool y.v.off, .int .i64 (fr : Int), .slice ha B hc, .slice da B dc] 49, blk b2 [.string (str []), .slice none 0 0, .int .i64 0, .int .i64 0, .bool false, .int .i64 0, .slice none 0 0, .slice none 0 0] 49, sh (fun w => RefAt w y.v.wt y.wa), sh (fun w => Cells w ha (handC M B)), sh (fun w => Cells w da (dirtC M B))]) (fun y => y.i ≤ B ∧ svL M vv sz fr (dirtN M y.i) = (y.v, y.e) ∧ y.v.Wf sz ∧ 0 ≤ y.v.calls ∧ y.v.calls ≤ vv.calls + (y.i : Int) ∧ y.v.wt.length ≤ vv.wt.length + y.i) (fun y => B - y.i) (⟨0, vv, wa, wc, 0⟩) (Sub.cons rfl (Sub.cons rfl (Sub.cons rfl (Sub.cons rfl (Sub.cons rfl (Sub.cons rfl (Sub.nil _))))))) ((Imp.sels (by repeat (first | exact Sels.nil | apply Sels.cons | exact Sel.keep | exact Sel.here | apply Sel.there)))) (⟨Nat.zero_le _, rfl, hwf, hcb.1, by show vv.calls ≤ vv.calls + ((0 : Nat) : Int); omega, by show vv.wt.length ≤ vv.wt.length + 0; omega⟩) ?_
  rintro ⟨i, v1, wa1, wc1, e1⟩ ⟨hi, hsv, hwf1, hc1, hc2, hc3⟩
  dsimp only at hi hsv hwf1 hc1 hc2 hc3
  show SG _ _ _ _ _ [(1, .pointer (some ⟨b1, 0, none⟩)), (2, .pointer (some ⟨b2, 0, none⟩)), (4, .int .i64 e1), (8, .slice da B dc), (9, .int .i64 (B : Int)), (10, .int .i64 (i : Int))] [blk b1 [.string (str v1.stay), .slice wa1 v1.wt.length wc1, .int .i64 v1.calls, .int .i64 v1.left, .bool v1.off, .int .i64 (fr : Int), .slice ha B hc, .slice da B dc] 49, blk b2 [.string (str []), .slice none 0 0, .int .i64 0, .int .i64 0, .bool false, .int .i64 0, .slice none 0 0, .slice none 0 0] 49, sh (fun w => RefAt w v1.wt wa1), sh (fun w => Cells w ha (handC M B)), sh (fun w => Cells w da (dirtC M B))] _
  refine SG.seq ?_
  refine SG.region ?_
  refine SL.val rfl rfl (fun w9 F9 S9 s => R.lss rfl rfl) ?_
  refine SL.nil ?_
  refine SN.seq ?_
  refine SG.seq ?_
  refine SG.condP rfl (fun h0 => ?_) (fun h0 => ?_)
  · refine SG.fact (fun w9 F9 S9 s => dirt_pt (s.sh (p := fun w => Cells w da (dirtC M B)) (by repeat (first | exact Sel.keep | exact Sel.here | apply Sel.there))) (show i < B by omega)) (fun hf9 => ?_)
    obtain ⟨q, hq⟩ := hf9
    refine SG.fact (fun w9 F9 S9 s => hand_pt (s.sh (p := fun w => Cells w ha (handC M B)) (by repeat (first | exact Sel.keep | exact Sel.here | apply Sel.there))) (show i < B by omega)) (fun hf9 => ?_)
    obtain ⟨q2, hq2⟩ := hf9
    refine SG.skip ?_
    refine SN.seq ?_
    refine SG.seq ?_
    refine SG.block ?_
    refine SG.seq ?_
    refine SG.region ?_
    refine SL.val rfl rfl (fun w9 F9 S9 s => R.mv rfl) ?_
    refine SL.val rfl rfl (fun w9 F9 S9 s => R.idx (i := (i : Int)) rfl rfl (by omega) (by omega) q hq) ?_
    refine SL.val rfl rfl (fun w9 F9 S9 s => R.ld (v := .bool (flagH M (i : Int))) rfl (dirt_ld (s.sh (p := fun w => Cells w da (dirtC M B)) (by repeat (first | exact Sel.keep | exact Sel.here | apply Sel.there))) hq (by omega))) ?_
    refine SL.val rfl rfl (fun w9 F9 S9 s => R.as rfl) ?_
    refine SL.val rfl rfl (fun w9 F9 S9 s => R.as rfl) ?_
    refine SL.nil ?_
    refine SN.seq ?_
    refine SG.seq ?_
    refine SG.region ?_
    refine SL.val rfl rfl (fun w9 F9 S9 s => R.mv rfl) ?_
    refine SL.val rfl rfl (fun w9 F9 S9 s => R.mv rfl) ?_
    refine SL.caseB 16 rfl (fun hg5_1 => ?_) (fun hg5_1 => ?_)
    · refine SL.val rfl rfl (fun w9 F9 S9 s => R.mv rfl) ?_
      refine SL.val rfl rfl (fun w9 F9 S9 s => R.eqI rfl rfl) ?_
      first | refine SL.val rfl rfl (fun w9 F9 S9 s => R.pickT rfl rfl) ?_ | refine SL.val rfl rfl (fun w9 F9 S9 s => R.pickF rfl rfl) ?_
      refine SL.nil ?_
      refine SN.seq ?_
      refine SG.condP rfl (fun h1 => ?_) (fun h1 => ?_)
      · have h64 := valH_len hK (flag_dirty hK (by simpa using hg5_1))
        obtain ⟨hw1, hw2, hw3⟩ := wr_bd (v := v1) (sz := sz) (p := (fr : Int) + (i : Int)) (l := valH M (i : Int)) (by omega)
        refine SG.draw [11, 12, 17] [0, 1, 2, 3, 4, 5, 6, 7, 8, 9, 10, 11, 12, 13, 14, 15, 16, 17, 18] (by decide +kernel) rfl ?_
        refine SW.pure rfl rfl rfl rfl (fun w9 => R.fld rfl) ?_
        refine SW.read rfl rfl rfl rfl (fun w9 F9 S9 s => R.ldN (vs := (rdC v1 wa1 wc1).toList) rfl (s.left (show Sel _ (blk b1 _ _) _ from (by repeat (first | exact Sel.keep | exact Sel.here | apply Sel.there))) rfl) rfl) ?_
        refine SW.pure rfl rfl rfl rfl (fun w9 => R.fld rfl) ?_
        refine SW.read rfl rfl rfl rfl (fun w9 F9 S9 s => R.ldB rfl (s.cel (by repeat (first | exact SelB.blk | exact SelB.fz | apply SelB.there))) (by rfl)) ?_
        refine SW.pure rfl rfl rfl rfl (fun w9 => R.mv rfl) ?_
        refine SW.pure rfl rfl rfl rfl (fun w9 => R.add rfl rfl (by omega)) ?_
        refine SW.pure rfl rfl rfl rfl (fun w9 => R.fld rfl) ?_
        refine SW.read rfl rfl rfl rfl (fun w9 F9 S9 s => R.ldB (v := .slice ha B hc) rfl (s.cel (by repeat (first | exact SelB.blk | exact SelB.fz | apply SelB.there))) (by rfl)) ?_
        refine SW.pure rfl rfl rfl rfl (fun w9 => R.mv rfl) ?_
        refine SW.pure rfl rfl rfl rfl (fun w9 => R.idx (i := (i : Int)) rfl rfl (by omega) (by omega) q2 hq2) ?_
        refine SW.read rfl rfl rfl rfl (fun w9 F9 S9 s => R.ld (v := .string (str (valH M (i : Int)))) rfl (hand_ld (s.sh (p := fun w => Cells w ha (handC M B)) (by repeat (first | exact Sel.keep | exact Sel.here | apply Sel.there))) hq2 (by omega))) ?_
        refine SW.step rfl rfl rfl rfl (CS.strBytes rfl) ?_
        rintro _ _ ⟨a32, c32, rfl, hc32, rfl⟩
        refine ⟨⟨.inl (by decide +kernel), ⟨.inl (by decide +kernel), ⟨.inr (fun w9 F9 S9 s => R.ldB rfl (s.cel (by repeat (first | exact SelB.blk | exact SelB.fz | apply SelB.there))) (by rfl)), ⟨.inr (fun w9 F9 S9 s => R.ldN (vs := (rdC v1 wa1 wc1).toList) rfl (s.left (show Sel _ (blk b1 _ _) _ from (by repeat (first | exact Sel.keep | exact Sel.here | apply Sel.there))) rfl) rfl), trivial⟩⟩⟩⟩, ?_⟩
        refine SW.step rfl rfl rfl rfl (CS.call rfl go45 (rwriteS v1 sz wa1 wc1 ((fr : Int) + (i : Int)) a32 (valH M (i : Int)).length c32 (valH M (i : Int)) hwf1 hz ⟨hc1, by omega⟩ (by omega) hc32 (by omega)) (by repeat (first | exact Sels.nil | apply Sels.cons | exact Sel.keep | exact Sel.here | apply Sel.there))) ?_
        rintro _ _ ⟨_, ⟨wa2, wc2, rfl, rfl⟩, rfl⟩
        refine ⟨⟨.inl (by decide +kernel), ⟨.inl (by decide +kernel), ⟨.inl (by decide +kernel), ⟨.inl (by decide +kernel), trivial⟩⟩⟩⟩, ?_⟩
        refine SW.n1 ?_
        refine SW.pure rfl rfl rfl rfl (fun w9 => R.mv rfl) ?_
        refine SW.pure rfl rfl rfl rfl (fun w9 => R.ext rfl rfl) ?_
        refine SW.pure rfl rfl rfl rfl (fun w9 => R.ext rfl rfl) ?_
        refine SW.pure rfl rfl rfl rfl (fun w9 => R.fld rfl) ?_
        refine SW.step0 rfl rfl rfl (CS.stN (k := 0) (vs := (rdC (writeV v1 sz ((fr : Int) + (i : Int)) (valH M (i : Int))).1 wa2 wc2).toList) (cs' := [.string (str (writeV v1 sz ((fr : Int) + (i : Int)) (valH M (i : Int))).1.stay), .slice wa2 (writeV v1 sz ((fr : Int) + (i : Int)) (valH M (i : Int))).1.wt.length wc2, .int .i64 (writeV v1 sz ((fr : Int) + (i : Int)) (valH M (i : Int))).1.calls, .int .i64 (writeV v1 sz ((fr : Int) + (i : Int)) (valH M (i : Int))).1.left, .bool (writeV v1 sz ((fr : Int) + (i : Int)) (valH M (i : Int))).1.off, .int .i64 (fr : Int), .slice ha B hc, .slice da B dc]) rfl rfl (show Sel _ (blk b1 _ _) _ from (by repeat (first | exact Sel.keep | exact Sel.here | apply Sel.there))) rfl (by show 0 + 5 ≤ 8; decide) (rdC_one _ _ _) rfl) ?_
        rintro _ _ rfl
        refine ⟨⟨.inl (by decide +kernel), ⟨.inl (by decide +kernel), ⟨.inl (by decide +kernel), ⟨.inl (by decide +kernel), trivial⟩⟩⟩⟩, ?_⟩
        refine SW.pure rfl rfl rfl rfl (fun w9 => R.as rfl) ?_
        refine SW.nil ?_
        refine SN.block ?_
        refine SN.seq ?_
        refine SG.region ?_
        refine SL.val rfl rfl (fun w9 F9 S9 s => R.add rfl rfl (by omega)) ?_
        refine SL.val rfl rfl (fun w9 F9 S9 s => R.mv rfl) ?_
        refine SL.nil ?_
        exact SN.again (⟨i + 1, (writeV v1 sz ((fr : Int) + (i : Int)) (valH M (i : Int))).1, wa2, wc2, (writeV v1 sz ((fr : Int) + (i : Int)) (valH M (i : Int))).2⟩) (by show B - (i + 1) < B - i; omega) (Sub.cons rfl (Sub.cons rfl (Sub.cons rfl (Sub.cons rfl (Sub.cons rfl (Sub.cons rfl (Sub.nil _))))))) ((Imp.sels (by repeat (first | exact Sels.nil | apply Sels.cons | exact Sel.keep | exact Sel.here | apply Sel.there)))) (⟨by show i + 1 ≤ B; omega, sv_step (by simpa using hg5_1) h1 hsv, writeV_wf hwf1, by show 0 ≤ (writeV v1 sz ((fr : Int) + (i : Int)) (valH M (i : Int))).1.calls; omega, by show (writeV v1 sz ((fr : Int) + (i : Int)) (valH M (i : Int))).1.calls ≤ vv.calls + ((i + 1 : Nat) : Int); omega, by show (writeV v1 sz ((fr : Int) + (i : Int)) (valH M (i : Int))).1.wt.length ≤ vv.wt.length + (i + 1); omega⟩)
      · refine SG.skip ?_
        refine SN.block ?_
        refine SN.seq ?_
        refine SG.region ?_
        refine SL.val rfl rfl (fun w9 F9 S9 s => R.add rfl rfl (by omega)) ?_
        refine SL.val rfl rfl (fun w9 F9 S9 s => R.mv rfl) ?_
        refine SL.nil ?_
        exact SN.again (⟨i + 1, v1, wa1, wc1, e1⟩) (by show B - (i + 1) < B - i; omega) (Sub.cons rfl (Sub.cons rfl (Sub.cons rfl (Sub.cons rfl (Sub.cons rfl (Sub.cons rfl (Sub.nil _))))))) ((Imp.sels (by repeat (first | exact Sels.nil | apply Sels.cons | exact Sel.keep | exact Sel.here | apply Sel.there)))) (⟨by show i + 1 ≤ B; omega, sv_stay (by simpa using hg5_1) h1 hsv, hwf1, hc1, by show v1.calls ≤ vv.calls + ((i + 1 : Nat) : Int); omega, by show v1.wt.length ≤ vv.wt.length + (i + 1); omega⟩)
    · refine SL.pass rfl rfl ?_
      refine SL.pass rfl rfl ?_
      first | refine SL.val rfl rfl (fun w9 F9 S9 s => R.pickT rfl rfl) ?_ | refine SL.val rfl rfl (fun w9 F9 S9 s => R.pickF rfl rfl) ?_
      refine SL.nil ?_
      refine SN.seq ?_
      refine SG.condF rfl ?_
      refine SG.skip ?_
      refine SN.block ?_
      refine SN.seq ?_
      refine SG.region ?_
      refine SL.val rfl rfl (fun w9 F9 S9 s => R.add rfl rfl (by omega)) ?_
      refine SL.val rfl rfl (fun w9 F9 S9 s => R.mv rfl) ?_
      refine SL.nil ?_
      exact SN.again (⟨i + 1, v1, wa1, wc1, e1⟩) (by show B - (i + 1) < B - i; omega) (Sub.cons rfl (Sub.cons rfl (Sub.cons rfl (Sub.cons rfl (Sub.cons rfl (Sub.cons rfl (Sub.nil _))))))) ((Imp.sels (by repeat (first | exact Sels.nil | apply Sels.cons | exact Sel.keep | exact Sel.here | apply Sel.there)))) (⟨by show i + 1 ≤ B; omega, sv_skip (by simpa using hg5_1) hsv, hwf1, hc1, by show v1.calls ≤ vv.calls + ((i + 1 : Nat) : Int); omega, by show v1.wt.length ≤ vv.wt.length + (i + 1); omega⟩)
  · obtain rfl : i = B := by omega
    rw [show dirtN M i = dirtyL M from (dirtyL_range hK).symm] at hsv
    refine SG.exit _ rfl ?_
    refine SN.seq ?_
    refine SG.seq ?_
    refine SG.seq ?_
    refine SG.region ?_
    refine SL.val rfl rfl (fun w9 F9 S9 s => R.mv rfl) ?_
    refine SL.val rfl rfl (fun w9 F9 S9 s => R.eqI rfl rfl) ?_
    refine SL.nil ?_
    refine SN.seq ?_
    refine SG.condP rfl (fun h2 => ?_) (fun h2 => ?_)
    · subst h2
      refine SG.imp (Imp.pure (p := fun w => True) (fun w => trivial)) ?_
      refine SG.region ?_
      refine SL.val rfl rfl (fun w9 F9 S9 s => R.fld rfl) ?_
      refine SL.val rfl rfl (fun w9 F9 S9 s => R.ldN (vs := (rdC v1 wa1 wc1).toList) rfl (s.left (show Sel _ (blk b1 _ _) _ from (by repeat (first | exact Sel.keep | exact Sel.here | apply Sel.there))) rfl) rfl) ?_
      refine SL.step rfl rfl (CS.call rfl go46 (rflushS v1 sz wa1 wc1 hwf1 hz ⟨hc1, by omega⟩ (by omega)) (by repeat (first | exact Sels.nil | apply Sels.cons | exact Sel.keep | exact Sel.here | apply Sel.there))) ?_
      rintro _ _ ⟨_, ⟨wa3, wc3, rfl, rfl⟩, rfl⟩
      refine SL.n1 ?_
      refine SL.val rfl rfl (fun w9 F9 S9 s => R.mv rfl) ?_
      refine SL.val rfl rfl (fun w9 F9 S9 s => R.ext rfl rfl) ?_
      refine SL.val rfl rfl (fun w9 F9 S9 s => R.ext rfl rfl) ?_
      refine SL.val rfl rfl (fun w9 F9 S9 s => R.fld rfl) ?_
      refine SL.step0 rfl (CS.stN (k := 0) (vs := (rdC (flushV v1).1 wa3 wc3).toList) (cs' := [.string (str (flushV v1).1.stay), .slice wa3 (flushV v1).1.wt.length wc3, .int .i64 (flushV v1).1.calls, .int .i64 (flushV v1).1.left, .bool (flushV v1).1.off, .int .i64 (fr : Int), .slice ha i hc, .slice da i dc]) rfl rfl (show Sel _ (blk b1 _ _) _ from (by repeat (first | exact Sel.keep | exact Sel.here | apply Sel.there))) rfl (by show 0 + 5 ≤ 8; decide) (rdC_one _ _ _) rfl) ?_
      rintro _ _ rfl
      refine SL.val rfl rfl (fun w9 F9 S9 s => R.as rfl) ?_
      refine SL.nil ?_
      refine SN.seq ?_
      refine SG.seq ?_
      refine SG.seq ?_
      refine SG.region ?_
      refine SL.val rfl rfl (fun w9 F9 S9 s => R.mv rfl) ?_
      refine SL.val rfl rfl (fun w9 F9 S9 s => R.eqI rfl rfl) ?_
      refine SL.nil ?_
      refine SN.seq ?_
      refine SG.condP rfl (fun h3 => ?_) (fun h3 => ?_)
      · refine SG.region ?_
        refine SL.val rfl rfl (fun w9 F9 S9 s => R.fld rfl) ?_
        refine SL.val rfl rfl (fun w9 F9 S9 s => R.ldB (v := .slice ha i hc) rfl (s.cel (by repeat (first | exact SelB.blk | exact SelB.fz | apply SelB.there))) (by rfl)) ?_
        refine SL.val rfl rfl (fun w9 F9 S9 s => R.lenS rfl) ?_
        refine SL.step rfl rfl (CS.make rfl rfl (by omega) (Int.le_refl _) (by omega) (by omega) (dirtC [] i) (made_dirt i)) ?_
        rintro _ _ ⟨b52, rfl, rfl⟩
        refine SL.be 52 rfl (show _ = Value.slice (some ⟨b52, 0, none⟩) i i by rw [Int.toNat_natCast]) ?_
        refine SL.val rfl rfl (fun w9 F9 S9 s => R.fld rfl) ?_
        refine SL.step0 rfl (CS.st rfl rfl (show Sel _ (blk b1 _ _) _ from (by repeat (first | exact Sel.keep | exact Sel.here | apply Sel.there))) (by repeat (first | exact SetAt.here | apply SetAt.there)) rfl) ?_
        rintro _ _ rfl
        refine SL.nil ?_
        refine SN.imp (blk_cells (show Sel _ (blk b52 (dirtC [] i) _) _ from (by repeat (first | exact Sel.keep | exact Sel.here | apply Sel.there)))) ?_
        refine SN.imp (Imp.weak (p := fun w => Cells w (some ⟨b52, 0, none⟩) (dirtC [] i)) (q := fun w => Cells w (some ⟨b52, 0, none⟩) (dirtC (clean M (dirtyL M)) i)) (by repeat (first | exact Sel.keep | exact Sel.here | apply Sel.there)) (fun w h => by rw [dirtC_clean hK.srt, ← dirtC_nil]; exact h)) ?_
        refine SN.imp (Imp.weak (p := fun w => Cells w ha (handC M i)) (q := fun w => Cells w ha (handC (clean M (dirtyL M)) i)) (by repeat (first | exact Sel.keep | exact Sel.here | apply Sel.there)) (fun w h => by rw [handC_clean hK.srt]; exact h)) ?_
        refine SN.seq ?_
        refine SG.seq ?_
        refine SG.region ?_
        refine SL.val rfl rfl (fun w9 F9 S9 s => R.ldBN (cs := ([.string (str (flushV v1).1.stay), .slice wa3 (flushV v1).1.wt.length wc3, .int .i64 (flushV v1).1.calls, .int .i64 (flushV v1).1.left, .bool (flushV v1).1.off, .int .i64 (fr : Int), .slice ha i hc, .slice (some ⟨b52, 0, none⟩) i i]).toArray) rfl (s.cel (by repeat (first | exact SelB.blk | exact SelB.fz | apply SelB.there))) (by rfl)) ?_
        refine SL.val rfl rfl (fun w9 F9 S9 s => R.mv rfl) ?_
        refine SL.step0 rfl (CS.stA (vs := [.string (str (flushV v1).1.stay), .slice wa3 (flushV v1).1.wt.length wc3, .int .i64 (flushV v1).1.calls, .int .i64 (flushV v1).1.left, .bool (flushV v1).1.off, .int .i64 (fr : Int), .slice ha i hc, .slice (some ⟨b52, 0, none⟩) i i]) rfl rfl (by repeat (first | exact Sel.keep | exact Sel.here | apply Sel.there)) (by rfl) (by rfl) (by intro u hu; simp only [List.mem_cons, List.not_mem_nil, or_false] at hu; rcases hu with rfl | rfl | rfl | rfl | rfl | rfl | rfl | rfl <;> rfl)) ?_
        rintro _ _ rfl
        refine SL.val rfl rfl (fun w9 F9 S9 s => R.as rfl) ?_
        refine SL.nil ?_
        refine SN.seq ?_
        exact SG.retCT rfl rfl rfl (by repeat (first | exact Sel.keep | exact Sel.here | apply Sel.there)) (by rfl) ((Imp.sels (by repeat (first | exact Sels.nil | apply Sels.cons | exact Sel.keep | exact Sel.here | apply Sel.there)))) (rsPost2 (M2 := (clean M (dirtyL M))) (by rw [show (flushV v1).2 = 0 from h3]; exact psave_ok hsv h3) rfl)
      · refine SG.skip ?_
        refine SN.seq ?_
        refine SG.seq ?_
        refine SG.region ?_
        refine SL.val rfl rfl (fun w9 F9 S9 s => R.ldBN (cs := ([.string (str (flushV v1).1.stay), .slice wa3 (flushV v1).1.wt.length wc3, .int .i64 (flushV v1).1.calls, .int .i64 (flushV v1).1.left, .bool (flushV v1).1.off, .int .i64 (fr : Int), .slice ha i hc, .slice da i dc]).toArray) rfl (s.cel (by repeat (first | exact SelB.blk | exact SelB.fz | apply SelB.there))) (by rfl)) ?_
        refine SL.val rfl rfl (fun w9 F9 S9 s => R.mv rfl) ?_
        refine SL.step0 rfl (CS.stA (vs := [.string (str (flushV v1).1.stay), .slice wa3 (flushV v1).1.wt.length wc3, .int .i64 (flushV v1).1.calls, .int .i64 (flushV v1).1.left, .bool (flushV v1).1.off, .int .i64 (fr : Int), .slice ha i hc, .slice da i dc]) rfl rfl (by repeat (first | exact Sel.keep | exact Sel.here | apply Sel.there)) (by rfl) (by rfl) (by intro u hu; simp only [List.mem_cons, List.not_mem_nil, or_false] at hu; rcases hu with rfl | rfl | rfl | rfl | rfl | rfl | rfl | rfl <;> rfl)) ?_
        rintro _ _ rfl
        refine SL.val rfl rfl (fun w9 F9 S9 s => R.as rfl) ?_
        refine SL.nil ?_
        refine SN.seq ?_
        exact SG.retCT rfl rfl rfl (by repeat (first | exact Sel.keep | exact Sel.here | apply Sel.there)) (by rfl) ((Imp.sels (by repeat (first | exact Sels.nil | apply Sels.cons | exact Sel.keep | exact Sel.here | apply Sel.there)))) (rsPost2 (M2 := M) (psave_fl hsv h3) rfl)
    · refine SG.skip ?_
      refine SN.seq ?_
      refine SG.seq ?_
      refine SG.seq ?_
      refine SG.region ?_
      refine SL.val rfl rfl (fun w9 F9 S9 s => R.mv rfl) ?_
      refine SL.val rfl rfl (fun w9 F9 S9 s => R.eqI rfl rfl) ?_
      refine SL.nil ?_
      refine SN.seq ?_
      refine SG.condP rfl (fun h3 => ?_) (fun h3 => ?_)
      · exfalso; omega
      · refine SG.skip ?_
        refine SN.seq ?_
        refine SG.seq ?_
        refine SG.region ?_
        refine SL.val rfl rfl (fun w9 F9 S9 s => R.ldBN (cs := ([.string (str v1.stay), .slice wa1 v1.wt.length wc1, .int .i64 v1.calls, .int .i64 v1.left, .bool v1.off, .int .i64 (fr : Int), .slice ha i hc, .slice da i dc]).toArray) rfl (s.cel (by repeat (first | exact SelB.blk | exact SelB.fz | apply SelB.there))) (by rfl)) ?_
        refine SL.val rfl rfl (fun w9 F9 S9 s => R.mv rfl) ?_
        refine SL.step0 rfl (CS.stA (vs := [.string (str v1.stay), .slice wa1 v1.wt.length wc1, .int .i64 v1.calls, .int .i64 v1.left, .bool v1.off, .int .i64 (fr : Int), .slice ha i hc, .slice da i dc]) rfl rfl (by repeat (first | exact Sel.keep | exact Sel.here | apply Sel.there)) (by rfl) (by rfl) (by intro u hu; simp only [List.mem_cons, List.not_mem_nil, or_false] at hu; rcases hu with rfl | rfl | rfl | rfl | rfl | rfl | rfl | rfl <;> rfl)) ?_
        rintro _ _ rfl
        refine SL.val rfl rfl (fun w9 F9 S9 s => R.as rfl) ?_
        refine SL.nil ?_
        refine SN.seq ?_
        exact SG.retCT rfl rfl rfl (by repeat (first | exact Sel.keep | exact Sel.here | apply Sel.there)) (by rfl) ((Imp.sels (by repeat (first | exact Sels.nil | apply Sels.cons | exact Sel.keep | exact Sel.here | apply Sel.there)))) (rsPost2 (M2 := M) (psave_err hsv h2) rfl)

end Go.Proofs.Ytmbppidafnakhaa
/-
  The walks of package pool.
-/
set_option linter.unusedVariables false
set_option linter.unusedSimpArgs false
set_option maxRecDepth 4000
namespace Go.Proofs.Ytmbppidafnakhaa
open Go Brv Brv.Image Brv.Dev
theorem f11_e (a : Option Addr) : pwsE 4 ([(⟨3, a, 64, 64, f11W⟩ : WriteV)].map wv) = 0 := by
  show pwsE 4 [((3 : Int), f11W)] = 0
  decide +kernel
theorem f11_m (a : Option Addr) : pputV [] 4 ([(⟨3, a, 64, 64, f11W⟩ : WriteV)].map wv) = f11M := by
  unfold pputV; rw [if_pos (f11_e a)]; rfl

set_option maxHeartbeats 1000000 in
theorem first11_ok  : SpecS Try.prog 6 [] [] (fun v H' => v = .bool true ∧ H' = []) := by
  refine SpecS.enter Try.func6 rfl 94 rfl (Nat.le_of_ble_eq_true rfl) (fun o => ?_)
  refine SG.seq ?_
  refine SG.region ?_
  refine SL.val rfl rfl (fun w9 F9 S9 s => R.as rfl) ?_
  refine SL.nil ?_
  refine SN.seq ?_
  refine SG.seq ?_
  refine SG.region ?_
  refine SL.step rfl rfl (CS.call rfl go7 (dnewS 8 (by decide) (by decide)) (by repeat (first | exact Sels.nil | apply Sels.cons | exact Sel.keep | exact Sel.here | apply Sel.there))) ?_
  rintro _ _ ⟨_, ⟨d, rfl, rfl⟩, rfl⟩
  refine SL.n1 ?_
  refine SL.val rfl rfl (fun w9 F9 S9 s => R.mv rfl) ?_
  refine SL.val rfl rfl (fun w9 F9 S9 s => R.ext rfl rfl) ?_
  refine SL.val rfl rfl (fun w9 F9 S9 s => R.ext rfl rfl) ?_
  refine SL.val rfl rfl (fun w9 F9 S9 s => R.as rfl) ?_
  refine SL.val rfl rfl (fun w9 F9 S9 s => R.as rfl) ?_
  refine SL.nil ?_
  refine SN.seq ?_
  refine SG.seq ?_
  refine SG.region ?_
  refine SL.val rfl rfl (fun w9 F9 S9 s => R.mv rfl) ?_
  refine SL.step rfl rfl (CS.call rfl go8 (pnewS d 8 2 4 (newV 8) (by decide) (by decide) (by decide) (by decide)) (by repeat (first | exact Sels.nil | apply Sels.cons | exact Sel.keep | exact Sel.here | apply Sel.there))) ?_
  rintro _ _ ⟨_, ⟨p, rfl, rfl⟩, rfl⟩
  refine SL.n2 ?_
  refine SL.val rfl rfl (fun w9 F9 S9 s => R.mv rfl) ?_
  refine SL.val rfl rfl (fun w9 F9 S9 s => R.ext rfl rfl) ?_
  refine SL.val rfl rfl (fun w9 F9 S9 s => R.ext rfl rfl) ?_
  refine SL.val rfl rfl (fun w9 F9 S9 s => R.as rfl) ?_
  refine SL.val rfl rfl (fun w9 F9 S9 s => R.as rfl) ?_
  refine SL.nil ?_
  refine SN.seq ?_
  refine SG.seq ?_
  refine SG.region ?_
  refine SL.step rfl rfl (CS.make rfl rfl (by decide) (by decide) (by decide) (by decide) (vbs (List.replicate 64 0)) (madeCells_bytes 64)) ?_
  rintro _ _ ⟨b22, rfl, rfl⟩
  refine SL.val rfl rfl (fun w9 F9 S9 s => R.as rfl) ?_
  refine SL.nil ?_
  refine SN.seq ?_
  refine SG.seq ?_
  refine SG.region ?_
  refine SL.val rfl rfl (fun w9 F9 S9 s => R.mv rfl) ?_
  refine SL.val rfl rfl (fun w9 F9 S9 s => R.idxO (i := 0) rfl rfl (by decide) (by decide) rfl 0 (by decide)) ?_
  refine SL.step0 rfl (CS.st (cs' := vbs f11W) rfl rfl (by repeat (first | exact Sel.keep | exact Sel.here | apply Sel.there)) SetAt.here rfl) ?_
  rintro _ _ rfl
  refine SL.nil ?_
  refine SN.imp (Imp.blkSh (p := fun w => Bs w (some ⟨b22, 0, none⟩) 64 f11W) (show Sel _ (blk b22 (vbs f11W) _) _ from (by repeat (first | exact Sel.keep | exact Sel.here | apply Sel.there))) (fun w h => ⟨Cells.of_blk h 0 _ (fun j v hj => by simpa using hj), by decide +kernel⟩)) ?_
  refine SN.seq ?_
  refine SG.seq ?_
  refine SG.region ?_
  refine SL.val rfl rfl (fun w9 F9 S9 s => R.mv rfl) ?_
  refine SL.val rfl rfl (fun w9 F9 S9 s => R.mv rfl) ?_
  refine SL.val rfl rfl (fun w9 F9 S9 s => R.build (cs := (WriteV.cells (⟨3, some ⟨b22, 0, none⟩, 64, 64, f11W⟩ : WriteV)).toArray) rfl rfl) ?_
  refine SL.step rfl rfl (CS.buildA rfl rfl rfl rfl rfl (WriteV.cells (⟨3, some ⟨b22, 0, none⟩, 64, 64, f11W⟩ : WriteV)) rfl) ?_
  rintro _ _ ⟨b28, rfl, rfl⟩
  refine SL.imp (ws_one (z := (⟨3, some ⟨b22, 0, none⟩, 64, 64, f11W⟩ : WriteV)) (show Sel _ (blk b28 (WriteV.cells (⟨3, some ⟨b22, 0, none⟩, 64, 64, f11W⟩ : WriteV)) _) _ from (by repeat (first | exact Sel.keep | exact Sel.here | apply Sel.there))) (show Sel _ (sh (fun w => Bs w (some ⟨b22, 0, none⟩) 64 f11W)) _ from (by repeat (first | exact Sel.keep | exact Sel.here | apply Sel.there)))) ?_
  refine SL.step rfl rfl (CS.call rfl go9 (pputS p d 8 2 4 (newV 8) [] (some ⟨b28, 0, none⟩) 1 1 [(⟨3, some ⟨b22, 0, none⟩, 64, 64, f11W⟩ : WriteV)] (by decide) (by decide)) (by repeat (first | exact Sels.nil | apply Sels.cons | exact Sel.keep | exact Sel.here | apply Sel.there))) ?_
  rintro _ _ ⟨_, ⟨rfl, rfl⟩, rfl⟩
  refine SL.n2 ?_
  rw [f11_e, f11_m]
  refine SL.val rfl rfl (fun w9 F9 S9 s => R.as rfl) ?_
  refine SL.nil ?_
  refine SN.seq ?_
  refine SG.seq ?_
  refine SG.region ?_
  refine SL.val rfl rfl (fun w9 F9 S9 s => R.mv rfl) ?_
  refine SL.step rfl rfl (CS.call rfl go13 (pdirtyS p d 8 2 4 (newV 8) f11M (by decide)) (by repeat (first | exact Sels.nil | apply Sels.cons | exact Sel.keep | exact Sel.here | apply Sel.there))) ?_
  rintro _ _ ⟨_, ⟨a31, c31, rfl, rfl⟩, rfl⟩
  refine SL.n3 ?_
  refine SL.val rfl rfl (fun w9 F9 S9 s => R.as rfl) ?_
  refine SL.nil ?_
  refine SN.imp (Imp.ownSh (show Sel _ (own 3 1 a31 (dirtyL f11M).length c31 ((dirtyL f11M).map (Value.int .i64))) _ from (by repeat (first | exact Sel.keep | exact Sel.here | apply Sel.there))) (p := fun w => Cells w a31 ([(3 : Int)].map (Value.int .i64))) (fun w h => h)) ?_
  refine SN.fact (fun w9 F9 S9 s => ints_pt (l := [(3 : Int)]) (i := 0) (s.sh (p := fun w => Cells w a31 ([(3 : Int)].map (Value.int .i64))) (by repeat (first | exact Sel.keep | exact Sel.here | apply Sel.there))) rfl) (fun hf9 => ?_)
  obtain ⟨q, hq⟩ := hf9
  refine SN.seq ?_
  refine SG.seq ?_
  refine SG.region ?_
  refine SL.val rfl rfl (fun w9 F9 S9 s => R.mv rfl) ?_
  refine SL.step rfl rfl (CS.call rfl go10 (psaveS p d 8 2 4 (newV 8) f11M (by decide) (by decide) (by decide) f11_K (by decide) (by decide)) (by repeat (first | exact Sels.nil | apply Sels.cons | exact Sel.keep | exact Sel.here | apply Sel.there))) ?_
  rintro _ _ ⟨_, ⟨rfl, rfl⟩, rfl⟩
  refine SL.n2 ?_
  rw [f11_s]
  refine SL.val rfl rfl (fun w9 F9 S9 s => R.as rfl) ?_
  refine SL.nil ?_
  refine SN.seq ?_
  refine SG.seq ?_
  refine SG.region ?_
  refine SL.val rfl rfl (fun w9 F9 S9 s => R.mv rfl) ?_
  refine SL.step rfl rfl (CS.call rfl go16 (pdropS p d 8 2 4 f11V f11N (by decide)) (by repeat (first | exact Sels.nil | apply Sels.cons | exact Sel.keep | exact Sel.here | apply Sel.there))) ?_
  rintro _ _ ⟨_, ⟨rfl, rfl⟩, rfl⟩
  refine SL.n2 ?_
  refine SL.nil ?_
  refine SN.seq ?_
  refine SG.seq ?_
  refine SG.region ?_
  refine SL.val rfl rfl (fun w9 F9 S9 s => R.mv rfl) ?_
  refine SL.step rfl rfl (CS.call rfl go19 (pgetS p d 8 2 4 f11V [] 3 (by decide) (by decide) (by decide) (by decide)) (by repeat (first | exact Sels.nil | apply Sels.cons | exact Sel.keep | exact Sel.here | apply Sel.there))) ?_
  rintro _ _ ⟨_, ⟨a38, c38, rfl, rfl⟩, rfl⟩
  refine SL.n3 ?_
  rw [f11_g]
  refine SL.val rfl rfl (fun w9 F9 S9 s => R.mv rfl) ?_
  refine SL.val rfl rfl (fun w9 F9 S9 s => R.ext rfl rfl) ?_
  refine SL.val rfl rfl (fun w9 F9 S9 s => R.ext rfl rfl) ?_
  refine SL.val rfl rfl (fun w9 F9 S9 s => R.as rfl) ?_
  refine SL.val rfl rfl (fun w9 F9 S9 s => R.as rfl) ?_
  refine SL.nil ?_
  refine SN.seq ?_
  refine SG.seq ?_
  refine SG.region ?_
  refine SL.val rfl rfl (fun w9 F9 S9 s => R.mv rfl) ?_
  refine SL.step rfl rfl (CS.call rfl go11 (pimageS p d 8 2 4 f11V [] (by decide) (by decide) (by decide) (by decide) (PKey.nil 4) (by decide)) (by repeat (first | exact Sels.nil | apply Sels.cons | exact Sel.keep | exact Sel.here | apply Sel.there))) ?_
  rintro _ _ ⟨_, ⟨q43, rfl, rfl⟩, rfl⟩
  refine SL.n3 ?_
  rw [f11_i]
  refine SL.val rfl rfl (fun w9 F9 S9 s => R.mv rfl) ?_
  refine SL.val rfl rfl (fun w9 F9 S9 s => R.ext rfl rfl) ?_
  refine SL.val rfl rfl (fun w9 F9 S9 s => R.ext rfl rfl) ?_
  refine SL.val rfl rfl (fun w9 F9 S9 s => R.as rfl) ?_
  refine SL.val rfl rfl (fun w9 F9 S9 s => R.as rfl) ?_
  refine SL.nil ?_
  refine SN.seq ?_
  refine SG.seq ?_
  refine SG.region ?_
  refine SL.val rfl rfl (fun w9 F9 S9 s => R.mv rfl) ?_
  refine SL.val rfl rfl (fun w9 F9 S9 s => R.eqI rfl rfl) ?_
  refine SL.val rfl rfl (fun w9 F9 S9 s => R.mv rfl) ?_
  refine SL.isT 48 rfl (rfl) ?_
  refine SL.val rfl rfl (fun w9 F9 S9 s => R.mv rfl) ?_
  refine SL.val rfl rfl (fun w9 F9 S9 s => R.eqI rfl rfl) ?_
  first | refine SL.val rfl rfl (fun w9 F9 S9 s => R.pickT rfl rfl) ?_ | refine SL.val rfl rfl (fun w9 F9 S9 s => R.pickF rfl rfl) ?_
  refine SL.val rfl rfl (fun w9 F9 S9 s => R.mv rfl) ?_
  refine SL.isT 52 rfl (rfl) ?_
  refine SL.val rfl rfl (fun w9 F9 S9 s => R.mv rfl) ?_
  refine SL.val rfl rfl (fun w9 F9 S9 s => R.lenS rfl) ?_
  refine SL.val rfl rfl (fun w9 F9 S9 s => R.eqI rfl rfl) ?_
  first | refine SL.val rfl rfl (fun w9 F9 S9 s => R.pickT rfl rfl) ?_ | refine SL.val rfl rfl (fun w9 F9 S9 s => R.pickF rfl rfl) ?_
  refine SL.val rfl rfl (fun w9 F9 S9 s => R.mv rfl) ?_
  refine SL.isT 57 rfl (rfl) ?_
  refine SL.val rfl rfl (fun w9 F9 S9 s => R.mv rfl) ?_
  refine SL.val rfl rfl (fun w9 F9 S9 s => R.idx (i := 0) rfl rfl (by decide) (by decide) q hq) ?_
  refine SL.val rfl rfl (fun w9 F9 S9 s => R.ld (v := .int .i64 3) rfl (ints_ld (l := [(3 : Int)]) (i := 0) (s.sh (p := fun w => Cells w a31 ([(3 : Int)].map (Value.int .i64))) (by repeat (first | exact Sel.keep | exact Sel.here | apply Sel.there))) hq rfl)) ?_
  refine SL.val rfl rfl (fun w9 F9 S9 s => R.eqI rfl rfl) ?_
  first | refine SL.val rfl rfl (fun w9 F9 S9 s => R.pickT rfl rfl) ?_ | refine SL.val rfl rfl (fun w9 F9 S9 s => R.pickF rfl rfl) ?_
  refine SL.val rfl rfl (fun w9 F9 S9 s => R.mv rfl) ?_
  refine SL.isT 63 rfl (rfl) ?_
  refine SL.val rfl rfl (fun w9 F9 S9 s => R.mv rfl) ?_
  refine SL.val rfl rfl (fun w9 F9 S9 s => R.eqI rfl rfl) ?_
  first | refine SL.val rfl rfl (fun w9 F9 S9 s => R.pickT rfl rfl) ?_ | refine SL.val rfl rfl (fun w9 F9 S9 s => R.pickF rfl rfl) ?_
  refine SL.val rfl rfl (fun w9 F9 S9 s => R.mv rfl) ?_
  refine SL.isT 67 rfl (rfl) ?_
  refine SL.val rfl rfl (fun w9 F9 S9 s => R.mv rfl) ?_
  refine SL.val rfl rfl (fun w9 F9 S9 s => R.eqI rfl rfl) ?_
  first | refine SL.val rfl rfl (fun w9 F9 S9 s => R.pickT rfl rfl) ?_ | refine SL.val rfl rfl (fun w9 F9 S9 s => R.pickF rfl rfl) ?_
  refine SL.val rfl rfl (fun w9 F9 S9 s => R.mv rfl) ?_
  refine SL.isT 71 rfl (rfl) ?_
  refine SL.val rfl rfl (fun w9 F9 S9 s => R.mv rfl) ?_
  refine SL.val rfl rfl (fun w9 F9 S9 s => R.strB rfl (⟨s.ownC (show Sel _ (own 5 1 a38 f11W.length c38 (vbs f11W)) _ from (by repeat (first | exact Sel.keep | exact Sel.here | apply Sel.there))), rfl⟩ : Bs _ a38 f11W.length f11W)) ?_
  refine SL.val rfl rfl (fun w9 F9 S9 s => R.mv rfl) ?_
  refine SL.val rfl rfl (fun w9 F9 S9 s => R.strB rfl (s.sh (p := fun w => Bs w (some ⟨b22, 0, none⟩) 64 f11W) (by repeat (first | exact Sel.keep | exact Sel.here | apply Sel.there)))) ?_
  refine SL.val rfl rfl (fun w9 F9 S9 s => R.eqStr rfl rfl) ?_
  first | refine SL.val rfl rfl (fun w9 F9 S9 s => R.pickT rfl rfl) ?_ | refine SL.val rfl rfl (fun w9 F9 S9 s => R.pickF rfl rfl) ?_
  refine SL.val rfl rfl (fun w9 F9 S9 s => R.mv rfl) ?_
  refine SL.isT 78 rfl (decide_eq_true rfl) ?_
  refine SL.val rfl rfl (fun w9 F9 S9 s => R.mv rfl) ?_
  refine SL.val rfl rfl (fun w9 F9 S9 s => R.eqI rfl rfl) ?_
  first | refine SL.val rfl rfl (fun w9 F9 S9 s => R.pickT rfl rfl) ?_ | refine SL.val rfl rfl (fun w9 F9 S9 s => R.pickF rfl rfl) ?_
  refine SL.val rfl rfl (fun w9 F9 S9 s => R.mv rfl) ?_
  refine SL.isT 82 rfl (rfl) ?_
  refine SL.val rfl rfl (fun w9 F9 S9 s => R.mv rfl) ?_
  refine SL.step rfl rfl (CS.call rfl go12 (ibytesS q43 (imgL [] f11V 2 4)) (by repeat (first | exact Sels.nil | apply Sels.cons | exact Sel.keep | exact Sel.here | apply Sel.there))) ?_
  rintro _ _ ⟨_, ⟨a84, c84, rfl, rfl⟩, rfl⟩
  refine SL.n2 ?_
  refine SL.val rfl rfl (fun w9 F9 S9 s => R.lenS rfl) ?_
  refine SL.val rfl rfl (fun w9 F9 S9 s => R.eqI rfl rfl) ?_
  first | refine SL.val rfl rfl (fun w9 F9 S9 s => R.pickT rfl rfl) ?_ | refine SL.val rfl rfl (fun w9 F9 S9 s => R.pickF rfl rfl) ?_
  refine SL.val rfl rfl (fun w9 F9 S9 s => R.mv rfl) ?_
  refine SL.isT 88 rfl (decide_eq_true (by rw [f11_il]; rfl)) ?_
  refine SL.val rfl rfl (fun w9 F9 S9 s => R.mv rfl) ?_
  refine SL.step rfl rfl (CS.call rfl go13 (pdirtyS p d 8 2 4 f11V [] (by decide)) (by repeat (first | exact Sels.nil | apply Sels.cons | exact Sel.keep | exact Sel.here | apply Sel.there))) ?_
  rintro _ _ ⟨_, ⟨a90, c90, rfl, rfl⟩, rfl⟩
  refine SL.n3 ?_
  refine SL.val rfl rfl (fun w9 F9 S9 s => R.lenS rfl) ?_
  refine SL.val rfl rfl (fun w9 F9 S9 s => R.eqI rfl rfl) ?_
  first | refine SL.val rfl rfl (fun w9 F9 S9 s => R.pickT rfl rfl) ?_ | refine SL.val rfl rfl (fun w9 F9 S9 s => R.pickF rfl rfl) ?_
  refine SL.val rfl rfl (fun w9 F9 S9 s => R.as rfl) ?_
  refine SL.nil ?_
  refine SN.seq ?_
  exact SG.ret1 rfl rfl (Imp.sels Sels.nil) (⟨congrArg Value.bool (decide_eq_true rfl), rfl⟩)

end Go.Proofs.Ytmbppidafnakhaa
/-
  The walks of package pool.
-/
set_option linter.unusedVariables false
set_option linter.unusedSimpArgs false
set_option maxRecDepth 4000
namespace Go.Proofs.Ytmbppidafnakhaa
open Go Brv Brv.Image Brv.Dev
structure OpV where
  mk ::
  (Kind' : Int)
  (N' : Int)
  (L'a : Option Addr) (L'n L'c : Nat) (L' : List WriteV)
  (Keep'a : Option Addr) (Keep'n Keep'c : Nat) (Keep' : List Bool)
def OpV.cells (o : OpV) : List Value := [.int .i64 o.Kind', .int .i64 o.N', .slice o.L'a o.L'n o.L'c, .slice o.Keep'a o.Keep'n o.Keep'c]
def OpV.ok (w : World) (o : OpV) : Prop := (Lit.int .i64 o.Kind').wf = true ∧ (Lit.int .i64 o.N').wf = true ∧ (o.L'n ≤ o.L'c ∧ o.L'c * 32 ≤ 140737488351232 ∧ Tab w o.L'a o.L'n 2 (o.L'.map WriteV.cells) ∧ ∀ x ∈ o.L', x.ok w) ∧ (o.Keep'n ≤ o.Keep'c ∧ o.Keep'c ≤ 140737488351232 ∧ Cells w o.Keep'a (o.Keep'.map Value.bool) ∧ o.Keep'n = o.Keep'.length)
theorem OpV.ok.ext0 {w w' : World} {o : OpV} (h : o.ok w) (he : Ext [] w w') : o.ok w' := by
  obtain ⟨h0, h1, h2, h3⟩ := h
  exact ⟨h0, h1, ⟨h2.1, h2.2.1, h2.2.2.1.ext0 he, fun x hx => (h2.2.2.2 x hx).ext0 he⟩, ⟨h3.1, h3.2.1, h3.2.2.1.ext0 he, h3.2.2.2⟩⟩
theorem OpV.cells.length (o : OpV) : o.cells.length = 4 := rfl
theorem OpV.cells.one (o : OpV) : ∀ u ∈ o.cells.toArray.toList, u.oneCell' = true := by
  intro u hu
  simp only [OpV.cells, List.mem_cons, List.not_mem_nil, or_false] at hu
  rcases hu with rfl | rfl | rfl | rfl <;> rfl
set_option maxRecDepth 100000 in
theorem opV_of {w : World} {f : Nat} {cs : List Value} (h : Rd Try.prog w f 56 cs) : ∃ o : OpV, cs = o.cells ∧ o.ok w := by
  cases f with
  | zero => exact h.elim
  | succ f =>
    unfold Rd at h
    rw [Try.underlying56] at h
    obtain ⟨hl, hf⟩ := h
    rw [show Try.prog.cellsOf 56 = 4 from by kernel_rfl] at hl
    obtain ⟨v0, v1, v2, v3, rfl⟩ : ∃ v0 v1 v2 v3, cs = [v0, v1, v2, v3] := by
      match cs, hl with
      | [v0, v1, v2, v3], _ => exact ⟨v0, v1, v2, v3, rfl⟩
    have r0 : Rd Try.prog w f 3 (List.take (Try.prog.cellsOf 3) (List.drop 0 [v0, v1, v2, v3])) := hf 0 _ rfl
    rw [show Try.prog.cellsOf 3 = 1 from by kernel_rfl] at r0
    replace r0 : Rd Try.prog w f 3 [v0] := r0
    have r1 : Rd Try.prog w f 3 (List.take (Try.prog.cellsOf 3) (List.drop 1 [v0, v1, v2, v3])) := hf 1 _ rfl
    rw [show Try.prog.cellsOf 3 = 1 from by kernel_rfl] at r1
    replace r1 : Rd Try.prog w f 3 [v1] := r1
    have r2 : Rd Try.prog w f 22 (List.take (Try.prog.cellsOf 22) (List.drop 2 [v0, v1, v2, v3])) := hf 2 _ rfl
    rw [show Try.prog.cellsOf 22 = 1 from by kernel_rfl] at r2
    replace r2 : Rd Try.prog w f 22 [v2] := r2
    have r3 : Rd Try.prog w f 47 (List.take (Try.prog.cellsOf 47) (List.drop 3 [v0, v1, v2, v3])) := hf 3 _ rfl
    rw [show Try.prog.cellsOf 47 = 1 from by kernel_rfl] at r3
    replace r3 : Rd Try.prog w f 47 [v3] := r3
    obtain ⟨x0, e0, w0⟩ := r0.int
    cases e0
    obtain ⟨x1, e1, w1⟩ := r1.int
    cases e1
    obtain ⟨a2, n2, c2, l2, e2, z2, y2, b2, q2⟩ := writeV_rows22 r2
    cases e2
    obtain ⟨a3, n3, c3, l3, e3, z3, y3, b3, q3⟩ := Rd.bools (E := 4) Try.underlying47 (by kernel_rfl) r3
    cases e3
    exact ⟨⟨x0, x1, a2, n2, c2, l2, a3, n3, c3, l3⟩, rfl, ⟨w0, w1, ⟨z2, y2, b2, q2⟩, ⟨z3, y3, b3, q3⟩⟩⟩
set_option maxRecDepth 100000 in
theorem opV_rows42 {w : World} {f : Nat} {cs : List Value} (h : Rd Try.prog w f 42 cs) : ∃ a n c, ∃ os : List OpV, cs = [.slice a n c] ∧ n ≤ c ∧ c * 64 ≤ 140737488351232 ∧ Tab w a n 4 (os.map OpV.cells) ∧ ∀ o ∈ os, o.ok w := by
  cases f with
  | zero => exact h.elim
  | succ f =>
    unfold Rd at h
    rw [Try.underlying42] at h
    obtain ⟨a, n, c, rfl, hnc, _, hb, vss, hl, hcell, hv⟩ := h
    rw [show Try.prog.bytesOf 56 = 64 from by kernel_rfl] at hb
    have hex : ∃ os : List OpV, vss = os.map OpV.cells ∧ ∀ o ∈ os, o.ok w := by
      clear hcell hl
      induction vss with
      | nil => exact ⟨[], rfl, by simp⟩
      | cons vs r ih =>
        obtain ⟨o, rfl, ho⟩ := opV_of (hv vs (by simp)).2
        obtain ⟨os, rfl, hos⟩ := ih (fun x hx => hv x (by simp [hx]))
        exact ⟨o :: os, rfl, fun x hx => (List.mem_cons.1 hx).elim (fun e => e ▸ ho) (hos x)⟩
    obtain ⟨os, rfl, hos⟩ := hex
    exact ⟨a, n, c, os, rfl, hnc, hb, ⟨hcell, hl.symm, fun vs hvs => by obtain ⟨o, _, rfl⟩ := List.mem_map.1 hvs; rfl⟩, hos⟩

structure OpsOk (w : World) (a : Option Addr) (n : Nat) (os : List OpV) : Prop where
  len : n = os.length
  tab : Tab w a n 4 (os.map OpV.cells)
  ok : ∀ o ∈ os, o.ok w
theorem OpsOk.ext0 {w w' : World} {a : Option Addr} {n : Nat} {os : List OpV} (h : OpsOk w a n os) (he : Ext [] w w') : OpsOk w' a n os := ⟨h.len, h.tab.ext0 he, fun o ho => (h.ok o ho).ext0 he⟩
theorem ops_pt {w : World} {a : Option Addr} {n : Nat} {os : List OpV} {i : Nat} {o : OpV} (h : OpsOk w a n os) (ho : os[i]? = some o) : ∃ q, a = some q := by
  obtain ⟨hi, _⟩ := List.getElem?_eq_some_iff.1 ho
  obtain ⟨q, hq, _⟩ := h.tab.at (by decide) i (by simpa using hi)
  exact ⟨q, hq⟩
theorem ops_cells {w : World} {a : Option Addr} {n : Nat} {os : List OpV} {i : Nat} {o : OpV} {p : Addr} (h : OpsOk w a n os) (hp : a = some p) (ho : os[i]? = some o) : Cells w (some (p.add ((i : Int).toNat * 4))) (OpV.cells o) := by
  obtain ⟨hi, rfl⟩ := List.getElem?_eq_some_iff.1 ho
  obtain ⟨q, hq, hc⟩ := h.tab.at (by decide) i (by simpa using hi)
  rw [hp] at hq; cases hq
  simpa [Int.toNat_natCast] using hc
theorem op_ws {w : World} {o : OpV} (h : o.ok w) : WsP w o.L'a o.L'n o.L' := ⟨h.2.2.1.2.2.1, fun z hz => (h.2.2.1.2.2.2 z hz).2.2.2⟩
theorem op_ln {w : World} {o : OpV} (h : o.ok w) : o.L'n ≤ o.L'c := h.2.2.1.1
theorem op_kp {w : World} {o : OpV} (h : o.ok w) : Cells w o.Keep'a (o.Keep'.map Value.bool) := h.2.2.2.2.2.1
theorem op_kn {w : World} {o : OpV} (h : o.ok w) : o.Keep'n = o.Keep'.length := h.2.2.2.2.2.2
structure PlS where
  i : Nat
  M : Hd
  v : DevV
  wa : Option Addr
  wc : Nat
  ha : Option Addr
  hc : Nat
  da : Option Addr
  dc : Nat
structure PlT where
  M : Hd
  v : DevV
  wa : Option Addr
  wc : Nat
  ha : Option Addr
  hc : Nat
  da : Option Addr
  dc : Nat
  e : Int
theorem dirtN_pre (M : Hd) : ∀ {j B : Nat}, j ≤ B → dirtN M j <+: dirtN M B := by
  intro j B h
  induction B with
  | zero => obtain rfl : j = 0 := by omega
            exact List.prefix_refl _
  | succ B ih =>
    by_cases e : j = B + 1
    · subst e; exact List.prefix_refl _
    · refine (ih (by omega)).trans ?_
      rw [dirtN_succ]; exact List.prefix_append _ _
theorem dirty_at {M : Hd} {B j : Nat} (h : PKey M B) (hj : j < B) (hf : flagH M (j : Int) = true) : (dirtyL M)[(dirtN M j).length]? = some (j : Int) ∧ (dirtN M j).length < (dirtyL M).length := by
  have hp := dirtN_pre M (show j + 1 ≤ B by omega)
  rw [← show dirtyL M = dirtN M B from dirtyL_range h] at hp
  obtain ⟨r, hr⟩ := hp
  rw [dirtN_succ, hf, if_pos rfl] at hr
  rw [← hr]
  constructor
  · rw [List.append_assoc, List.getElem?_append_right (Nat.le_refl _), Nat.sub_self]; rfl
  · simp only [List.length_append, List.length_cons, List.length_nil]; omega
theorem wf_bd {v v' : DevV} {i : Nat} (hc : 0 ≤ v.calls ∧ v.calls ≤ 70 * (i : Int)) (hw : v.wt.length ≤ 70 * i) (h1 : v.calls ≤ v'.calls) (h2 : v'.calls ≤ v.calls + 66) (h3 : v'.wt.length ≤ v.wt.length + 66) : (0 ≤ v'.calls ∧ v'.calls ≤ 70 * ((i + 1 : Nat) : Int)) ∧ v'.wt.length ≤ 70 * (i + 1) := ⟨⟨by omega, by omega⟩, by omega⟩

end Go.Proofs.Ytmbppidafnakhaa
/-
  The walks of package pool.
-/
set_option linter.unusedVariables false
set_option linter.unusedSimpArgs false
set_option maxRecDepth 4000
namespace Go.Proofs.Ytmbppidafnakhaa
open Go Brv Brv.Image Brv.Dev
set_option maxHeartbeats 2000000 in
theorem plays_no (x0 x1 : Int) (la : Option Addr) (ln lc : Nat) (os : List OpV) (w : World) (hE : pnewE 20 x0 x1 ≠ 0) (hO : OpsOk w la ln os) : Meets Try.prog 5 [.int .i64 x0, .int .i64 x1, .slice la ln lc] w (fun v w' => v = .bool true ∧ Ext [] w w') := by
  refine Meets.law Try.func5 rfl 261 rfl (Nat.le_of_ble_eq_true rfl) (law_cons (p := fun w => OpsOk w la ln os) (fun w9 he => hO.ext0 he) (law_nil w)) ?_
  refine SG.seq ?_
  refine SG.region ?_
  refine SL.val rfl rfl (fun w9 F9 S9 s => R.as rfl) ?_
  refine SL.nil ?_
  refine SN.seq ?_
  refine SG.seq ?_
  refine SG.seq ?_
  refine SG.region ?_
  refine SL.step rfl rfl (CS.call rfl go6 (first11_ok) (by repeat (first | exact Sels.nil | apply Sels.cons | exact Sel.keep | exact Sel.here | apply Sel.there))) ?_
  rintro _ _ ⟨_, ⟨rfl, rfl⟩, rfl⟩
  refine SL.n0 ?_
  refine SL.val rfl rfl (fun w9 F9 S9 s => R.not rfl) ?_
  refine SL.nil ?_
  refine SN.seq ?_
  refine SG.condF rfl ?_
  refine SG.skip ?_
  refine SN.seq ?_
  refine SG.seq ?_
  refine SG.region ?_
  refine SL.step rfl rfl (CS.call rfl go7 (dnewS 20 (by decide) (by decide)) (by repeat (first | exact Sels.nil | apply Sels.cons | exact Sel.keep | exact Sel.here | apply Sel.there))) ?_
  rintro _ _ ⟨_, ⟨d, rfl, rfl⟩, rfl⟩
  refine SL.n1 ?_
  refine SL.val rfl rfl (fun w9 F9 S9 s => R.mv rfl) ?_
  refine SL.val rfl rfl (fun w9 F9 S9 s => R.ext rfl rfl) ?_
  refine SL.val rfl rfl (fun w9 F9 S9 s => R.ext rfl rfl) ?_
  refine SL.val rfl rfl (fun w9 F9 S9 s => R.as rfl) ?_
  refine SL.val rfl rfl (fun w9 F9 S9 s => R.as rfl) ?_
  refine SL.nil ?_
  refine SN.seq ?_
  refine SG.seq ?_
  refine SG.region ?_
  refine SL.val rfl rfl (fun w9 F9 S9 s => R.mv rfl) ?_
  refine SL.val rfl rfl (fun w9 F9 S9 s => R.mv rfl) ?_
  refine SL.val rfl rfl (fun w9 F9 S9 s => R.mv rfl) ?_
  refine SL.step rfl rfl (CS.call rfl go8 (pnew_err d 20 (newV 20) x0 x1 hE (by decide)) (by repeat (first | exact Sels.nil | apply Sels.cons | exact Sel.keep | exact Sel.here | apply Sel.there))) ?_
  rintro _ _ ⟨_, ⟨rfl, rfl⟩, rfl⟩
  refine SL.n1 ?_
  refine SL.val rfl rfl (fun w9 F9 S9 s => R.mv rfl) ?_
  refine SL.val rfl rfl (fun w9 F9 S9 s => R.ext rfl rfl) ?_
  refine SL.val rfl rfl (fun w9 F9 S9 s => R.ext rfl rfl) ?_
  refine SL.val rfl rfl (fun w9 F9 S9 s => R.as rfl) ?_
  refine SL.val rfl rfl (fun w9 F9 S9 s => R.as rfl) ?_
  refine SL.nil ?_
  refine SN.seq ?_
  refine SG.seq ?_
  refine SG.region ?_
  refine SL.step rfl rfl (CS.callR rfl go18 (fun w9 F9 S9 s => rdnew_ok 20 w9 (by decide))) ?_
  rintro _ _ ⟨rfl, rfl⟩
  refine SL.val rfl rfl (fun w9 F9 S9 s => R.mv rfl) ?_
  refine SL.val rfl rfl (fun w9 F9 S9 s => R.mv rfl) ?_
  refine SL.imp (Imp.pure (p := fun w => RefAt w (newV 20).wt none) (fun w => RefAt.nil w)) ?_
  refine SL.step rfl rfl (CS.call rfl go17 (rpnew_err 20 x0 x1 (newV 20) none 0 (newV_wf 20) hE (by decide)) (by repeat (first | exact Sels.nil | apply Sels.cons | exact Sel.keep | exact Sel.here | apply Sel.there))) ?_
  rintro _ _ ⟨_, ⟨rfl, rfl⟩, rfl⟩
  refine SL.n0 ?_
  refine SL.val rfl rfl (fun w9 F9 S9 s => R.mv rfl) ?_
  refine SL.val rfl rfl (fun w9 F9 S9 s => R.ext rfl rfl) ?_
  refine SL.val rfl rfl (fun w9 F9 S9 s => R.ext rfl rfl) ?_
  refine SL.step rfl rfl (CS.alloc [.string ByteArray.empty, .slice none 0 0, .int .i64 0, .int .i64 0, .bool false, .int .i64 0, .slice none 0 0, .slice none 0 0] rfl) ?_
  rintro _ _ ⟨b11, rfl, rfl⟩
  refine SL.step0 rfl (CS.stA (vs := [.string (str []), .slice none 0 0, .int .i64 0, .int .i64 0, .bool false, .int .i64 0, .slice none 0 0, .slice none 0 0]) rfl rfl (by repeat (first | exact Sel.keep | exact Sel.here | apply Sel.there)) (by rfl) (by rfl) (by intro u hu; simp only [List.mem_cons, List.not_mem_nil, or_false] at hu; rcases hu with rfl | rfl | rfl | rfl | rfl | rfl | rfl | rfl <;> rfl)) ?_
  rintro _ _ rfl
  refine SL.val rfl rfl (fun w9 F9 S9 s => R.as rfl) ?_
  refine SL.nil ?_
  refine SN.seq ?_
  refine SG.seq ?_
  refine SG.region ?_
  refine SL.step rfl rfl (CS.call rfl go8 (pnew_nil (.int .i64 0) (.int .i64 1)) (by repeat (first | exact Sels.nil | apply Sels.cons | exact Sel.keep | exact Sel.here | apply Sel.there))) ?_
  rintro _ _ ⟨_, ⟨rfl, rfl⟩, rfl⟩
  refine SL.n0 ?_
  refine SL.val rfl rfl (fun w9 F9 S9 s => R.mv rfl) ?_
  refine SL.val rfl rfl (fun w9 F9 S9 s => R.ext rfl rfl) ?_
  refine SL.val rfl rfl (fun w9 F9 S9 s => R.ext rfl rfl) ?_
  refine SL.val rfl rfl (fun w9 F9 S9 s => R.as rfl) ?_
  refine SL.val rfl rfl (fun w9 F9 S9 s => R.as rfl) ?_
  refine SL.nil ?_
  refine SN.seq ?_
  refine SG.seq ?_
  refine SG.seq ?_
  refine SG.region ?_
  refine SL.val rfl rfl (fun w9 F9 S9 s => R.mv rfl) ?_
  refine SL.val rfl rfl (fun w9 F9 S9 s => R.mv rfl) ?_
  refine SL.val rfl rfl (fun w9 F9 S9 s => R.neI rfl rfl) ?_
  refine SL.val rfl rfl (fun w9 F9 S9 s => R.mv rfl) ?_
  refine SL.isF 62 rfl (decide_eq_false (fun h => h rfl)) ?_
  refine SL.val rfl rfl (fun w9 F9 S9 s => R.mv rfl) ?_
  refine SL.val rfl rfl (fun w9 F9 S9 s => R.neI rfl rfl) ?_
  first | refine SL.val rfl rfl (fun w9 F9 S9 s => R.pickT rfl rfl) ?_ | refine SL.val rfl rfl (fun w9 F9 S9 s => R.pickF rfl rfl) ?_
  refine SL.nil ?_
  refine SN.seq ?_
  refine SG.condF rfl ?_
  refine SG.skip ?_
  refine SN.seq ?_
  refine SG.seq ?_
  refine SG.seq ?_
  refine SG.region ?_
  refine SL.val rfl rfl (fun w9 F9 S9 s => R.mv rfl) ?_
  refine SL.val rfl rfl (fun w9 F9 S9 s => R.neI rfl rfl) ?_
  refine SL.nil ?_
  refine SN.seq ?_
  refine SG.condP rfl (fun h2 => ?_) (fun h2 => ?_)
  · refine SG.seq ?_
    refine SG.region ?_
    refine SL.val rfl rfl (fun w9 F9 S9 s => R.mv rfl) ?_
    refine SL.step rfl rfl (CS.call rfl go19 (pget_nil (.int .i64 0)) (by repeat (first | exact Sels.nil | apply Sels.cons | exact Sel.keep | exact Sel.here | apply Sel.there))) ?_
    rintro _ _ ⟨_, ⟨rfl, rfl⟩, rfl⟩
    refine SL.n0 ?_
    refine SL.val rfl rfl (fun w9 F9 S9 s => R.mv rfl) ?_
    refine SL.val rfl rfl (fun w9 F9 S9 s => R.ext rfl rfl) ?_
    refine SL.val rfl rfl (fun w9 F9 S9 s => R.ext rfl rfl) ?_
    refine SL.val rfl rfl (fun w9 F9 S9 s => R.as rfl) ?_
    refine SL.val rfl rfl (fun w9 F9 S9 s => R.as rfl) ?_
    refine SL.nil ?_
    refine SN.seq ?_
    refine SG.seq ?_
    refine SG.region ?_
    refine SL.val rfl rfl (fun w9 F9 S9 s => R.mv rfl) ?_
    refine SL.step rfl rfl (CS.call rfl go11 (pimage_nil) (by repeat (first | exact Sels.nil | apply Sels.cons | exact Sel.keep | exact Sel.here | apply Sel.there))) ?_
    rintro _ _ ⟨_, ⟨rfl, rfl⟩, rfl⟩
    refine SL.n0 ?_
    refine SL.val rfl rfl (fun w9 F9 S9 s => R.mv rfl) ?_
    refine SL.val rfl rfl (fun w9 F9 S9 s => R.ext rfl rfl) ?_
    refine SL.val rfl rfl (fun w9 F9 S9 s => R.ext rfl rfl) ?_
    refine SL.val rfl rfl (fun w9 F9 S9 s => R.as rfl) ?_
    refine SL.val rfl rfl (fun w9 F9 S9 s => R.as rfl) ?_
    refine SL.nil ?_
    refine SN.seq ?_
    refine SG.seq ?_
    refine SG.region ?_
    refine SL.val rfl rfl (fun w9 F9 S9 s => R.mv rfl) ?_
    refine SL.step rfl rfl (CS.call rfl go16 (pdrop_nil) (by repeat (first | exact Sels.nil | apply Sels.cons | exact Sel.keep | exact Sel.here | apply Sel.there))) ?_
    rintro _ _ ⟨_, ⟨rfl, rfl⟩, rfl⟩
    refine SL.n0 ?_
    refine SL.nil ?_
    refine SN.seq ?_
    refine SG.seq ?_
    refine SG.region ?_
    refine SL.val rfl rfl (fun w9 F9 S9 s => R.mv rfl) ?_
    refine SL.val rfl rfl (fun w9 F9 S9 s => R.eqNilP rfl rfl) ?_
    refine SL.val rfl rfl (fun w9 F9 S9 s => R.mv rfl) ?_
    refine SL.isT 82 rfl (rfl) ?_
    refine SL.val rfl rfl (fun w9 F9 S9 s => R.mv rfl) ?_
    refine SL.val rfl rfl (fun w9 F9 S9 s => R.eqI rfl rfl) ?_
    first | refine SL.val rfl rfl (fun w9 F9 S9 s => R.pickT rfl rfl) ?_ | refine SL.val rfl rfl (fun w9 F9 S9 s => R.pickF rfl rfl) ?_
    refine SL.val rfl rfl (fun w9 F9 S9 s => R.mv rfl) ?_
    refine SL.isT 86 rfl (rfl) ?_
    refine SL.val rfl rfl (fun w9 F9 S9 s => R.mv rfl) ?_
    refine SL.val rfl rfl (fun w9 F9 S9 s => R.eqI rfl rfl) ?_
    first | refine SL.val rfl rfl (fun w9 F9 S9 s => R.pickT rfl rfl) ?_ | refine SL.val rfl rfl (fun w9 F9 S9 s => R.pickF rfl rfl) ?_
    refine SL.val rfl rfl (fun w9 F9 S9 s => R.mv rfl) ?_
    refine SL.isT 90 rfl (rfl) ?_
    refine SL.val rfl rfl (fun w9 F9 S9 s => R.mv rfl) ?_
    refine SL.step rfl rfl (CS.call rfl go9 (pput_nil (.slice none 0 0)) (by repeat (first | exact Sels.nil | apply Sels.cons | exact Sel.keep | exact Sel.here | apply Sel.there))) ?_
    rintro _ _ ⟨_, ⟨rfl, rfl⟩, rfl⟩
    refine SL.n0 ?_
    refine SL.val rfl rfl (fun w9 F9 S9 s => R.eqI rfl rfl) ?_
    first | refine SL.val rfl rfl (fun w9 F9 S9 s => R.pickT rfl rfl) ?_ | refine SL.val rfl rfl (fun w9 F9 S9 s => R.pickF rfl rfl) ?_
    refine SL.val rfl rfl (fun w9 F9 S9 s => R.mv rfl) ?_
    refine SL.isT 95 rfl (rfl) ?_
    refine SL.val rfl rfl (fun w9 F9 S9 s => R.mv rfl) ?_
    refine SL.step rfl rfl (CS.call rfl go10 (psave_nil) (by repeat (first | exact Sels.nil | apply Sels.cons | exact Sel.keep | exact Sel.here | apply Sel.there))) ?_
    rintro _ _ ⟨_, ⟨rfl, rfl⟩, rfl⟩
    refine SL.n0 ?_
    refine SL.val rfl rfl (fun w9 F9 S9 s => R.eqI rfl rfl) ?_
    first | refine SL.val rfl rfl (fun w9 F9 S9 s => R.pickT rfl rfl) ?_ | refine SL.val rfl rfl (fun w9 F9 S9 s => R.pickF rfl rfl) ?_
    refine SL.val rfl rfl (fun w9 F9 S9 s => R.mv rfl) ?_
    refine SL.isT 100 rfl (rfl) ?_
    refine SL.val rfl rfl (fun w9 F9 S9 s => R.mv rfl) ?_
    refine SL.step rfl rfl (CS.call rfl go13 (pdirty_nil) (by repeat (first | exact Sels.nil | apply Sels.cons | exact Sel.keep | exact Sel.here | apply Sel.there))) ?_
    rintro _ _ ⟨_, ⟨rfl, rfl⟩, rfl⟩
    refine SL.n0 ?_
    refine SL.val rfl rfl (fun w9 F9 S9 s => R.lenS rfl) ?_
    refine SL.val rfl rfl (fun w9 F9 S9 s => R.eqI rfl rfl) ?_
    first | refine SL.val rfl rfl (fun w9 F9 S9 s => R.pickT rfl rfl) ?_ | refine SL.val rfl rfl (fun w9 F9 S9 s => R.pickF rfl rfl) ?_
    refine SL.val rfl rfl (fun w9 F9 S9 s => R.as rfl) ?_
    refine SL.nil ?_
    refine SN.seq ?_
    exact SG.ret1 rfl rfl ((Imp.sels (by repeat (first | exact Sels.nil | apply Sels.cons | exact Sel.keep | exact Sel.here | apply Sel.there)))) (congrArg Value.bool (decide_eq_true rfl))
  · exact (h2 hE).elim

end Go.Proofs.Ytmbppidafnakhaa
/-
  The walks of package pool.
-/
set_option linter.unusedVariables false
set_option linter.unusedSimpArgs false
set_option maxRecDepth 4000
namespace Go.Proofs.Ytmbppidafnakhaa
open Go Brv Brv.Image Brv.Dev
set_option maxHeartbeats 4000000 in
theorem plays_yes (fr B : Nat) (la : Option Addr) (ln lc : Nat) (os : List OpV) (w : World) (h1 : 1 ≤ B) (h2 : B ≤ 64) (h3 : fr + B ≤ 20) (hO : OpsOk w la ln os) : Meets Try.prog 5 [.int .i64 (fr : Int), .int .i64 (B : Int), .slice la ln lc] w (fun v w' => v = .bool true ∧ Ext [] w w') := by
  refine Meets.law Try.func5 rfl 261 rfl (Nat.le_of_ble_eq_true rfl) (law_cons (p := fun w => OpsOk w la ln os) (fun w9 he => hO.ext0 he) (law_nil w)) ?_
  refine SG.fact (fun w9 F9 S9 s => (s.sh (p := fun w => OpsOk w la ln os) (by repeat (first | exact Sel.keep | exact Sel.here | apply Sel.there))).len) (fun hf9 => ?_)
  have hln := hf9; clear hf9
  refine SG.seq ?_
  refine SG.region ?_
  refine SL.val rfl rfl (fun w9 F9 S9 s => R.as rfl) ?_
  refine SL.nil ?_
  refine SN.seq ?_
  refine SG.seq ?_
  refine SG.seq ?_
  refine SG.region ?_
  refine SL.step rfl rfl (CS.call rfl go6 (first11_ok) (by repeat (first | exact Sels.nil | apply Sels.cons | exact Sel.keep | exact Sel.here | apply Sel.there))) ?_
  rintro _ _ ⟨_, ⟨rfl, rfl⟩, rfl⟩
  refine SL.n0 ?_
  refine SL.val rfl rfl (fun w9 F9 S9 s => R.not rfl) ?_
  refine SL.nil ?_
  refine SN.seq ?_
  refine SG.condF rfl ?_
  refine SG.skip ?_
  refine SN.seq ?_
  refine SG.seq ?_
  refine SG.region ?_
  refine SL.step rfl rfl (CS.call rfl go7 (dnewS 20 (by decide) (by decide)) (by repeat (first | exact Sels.nil | apply Sels.cons | exact Sel.keep | exact Sel.here | apply Sel.there))) ?_
  rintro _ _ ⟨_, ⟨d, rfl, rfl⟩, rfl⟩
  refine SL.n1 ?_
  refine SL.val rfl rfl (fun w9 F9 S9 s => R.mv rfl) ?_
  refine SL.val rfl rfl (fun w9 F9 S9 s => R.ext rfl rfl) ?_
  refine SL.val rfl rfl (fun w9 F9 S9 s => R.ext rfl rfl) ?_
  refine SL.val rfl rfl (fun w9 F9 S9 s => R.as rfl) ?_
  refine SL.val rfl rfl (fun w9 F9 S9 s => R.as rfl) ?_
  refine SL.nil ?_
  refine SN.seq ?_
  refine SG.seq ?_
  refine SG.region ?_
  refine SL.val rfl rfl (fun w9 F9 S9 s => R.mv rfl) ?_
  refine SL.val rfl rfl (fun w9 F9 S9 s => R.mv rfl) ?_
  refine SL.val rfl rfl (fun w9 F9 S9 s => R.mv rfl) ?_
  refine SL.step rfl rfl (CS.call rfl go8 (pnewS d 20 fr B (newV 20) h1 h2 h3 (by decide)) (by repeat (first | exact Sels.nil | apply Sels.cons | exact Sel.keep | exact Sel.here | apply Sel.there))) ?_
  rintro _ _ ⟨_, ⟨p, rfl, rfl⟩, rfl⟩
  refine SL.n2 ?_
  refine SL.val rfl rfl (fun w9 F9 S9 s => R.mv rfl) ?_
  refine SL.val rfl rfl (fun w9 F9 S9 s => R.ext rfl rfl) ?_
  refine SL.val rfl rfl (fun w9 F9 S9 s => R.ext rfl rfl) ?_
  refine SL.val rfl rfl (fun w9 F9 S9 s => R.as rfl) ?_
  refine SL.val rfl rfl (fun w9 F9 S9 s => R.as rfl) ?_
  refine SL.nil ?_
  refine SN.seq ?_
  refine SG.seq ?_
  refine SG.region ?_
  refine SL.step rfl rfl (CS.callR rfl go18 (fun w9 F9 S9 s => rdnew_ok 20 w9 (by decide))) ?_
  rintro _ _ ⟨rfl, rfl⟩
  refine SL.val rfl rfl (fun w9 F9 S9 s => R.mv rfl) ?_
  refine SL.val rfl rfl (fun w9 F9 S9 s => R.mv rfl) ?_
  refine SL.imp (Imp.pure (p := fun w => RefAt w (newV 20).wt none) (fun w => RefAt.nil w)) ?_
  refine SL.step rfl rfl (CS.call rfl go17 (rpnew_ok fr B 20 (newV 20) none 0 (newV_wf 20) h1 h2 h3 (by decide)) (by repeat (first | exact Sels.nil | apply Sels.cons | exact Sel.keep | exact Sel.here | apply Sel.there))) ?_
  rintro _ _ ⟨_, ⟨ha0, hc0, da0, dc0, rfl, rfl⟩, rfl⟩
  refine SL.n3 ?_
  refine SL.val rfl rfl (fun w9 F9 S9 s => R.mv rfl) ?_
  refine SL.val rfl rfl (fun w9 F9 S9 s => R.ext rfl rfl) ?_
  refine SL.val rfl rfl (fun w9 F9 S9 s => R.ext rfl rfl) ?_
  refine SL.step rfl rfl (CS.alloc [.string ByteArray.empty, .slice none 0 0, .int .i64 0, .int .i64 0, .bool false, .int .i64 0, .slice none 0 0, .slice none 0 0] rfl) ?_
  rintro _ _ ⟨b11, rfl, rfl⟩
  refine SL.step0 rfl (CS.stA (vs := [.string (str (newV 20).stay), .slice none (newV 20).wt.length 0, .int .i64 (newV 20).calls, .int .i64 (newV 20).left, .bool (newV 20).off, .int .i64 (fr : Int), .slice ha0 B hc0, .slice da0 B dc0]) rfl rfl (by repeat (first | exact Sel.keep | exact Sel.here | apply Sel.there)) (by rfl) (by rfl) (by intro u hu; simp only [List.mem_cons, List.not_mem_nil, or_false] at hu; rcases hu with rfl | rfl | rfl | rfl | rfl | rfl | rfl | rfl <;> rfl)) ?_
  rintro _ _ rfl
  refine SL.val rfl rfl (fun w9 F9 S9 s => R.as rfl) ?_
  refine SL.nil ?_
  refine SN.seq ?_
  refine SG.seq ?_
  refine SG.region ?_
  refine SL.step rfl rfl (CS.call rfl go8 (pnew_nil (.int .i64 0) (.int .i64 1)) (by repeat (first | exact Sels.nil | apply Sels.cons | exact Sel.keep | exact Sel.here | apply Sel.there))) ?_
  rintro _ _ ⟨_, ⟨rfl, rfl⟩, rfl⟩
  refine SL.n0 ?_
  refine SL.val rfl rfl (fun w9 F9 S9 s => R.mv rfl) ?_
  refine SL.val rfl rfl (fun w9 F9 S9 s => R.ext rfl rfl) ?_
  refine SL.val rfl rfl (fun w9 F9 S9 s => R.ext rfl rfl) ?_
  refine SL.val rfl rfl (fun w9 F9 S9 s => R.as rfl) ?_
  refine SL.val rfl rfl (fun w9 F9 S9 s => R.as rfl) ?_
  refine SL.nil ?_
  refine SN.seq ?_
  refine SG.seq ?_
  refine SG.seq ?_
  refine SG.region ?_
  refine SL.val rfl rfl (fun w9 F9 S9 s => R.mv rfl) ?_
  refine SL.val rfl rfl (fun w9 F9 S9 s => R.mv rfl) ?_
  refine SL.val rfl rfl (fun w9 F9 S9 s => R.neI rfl rfl) ?_
  refine SL.val rfl rfl (fun w9 F9 S9 s => R.mv rfl) ?_
  refine SL.isF 62 rfl (rfl) ?_
  refine SL.val rfl rfl (fun w9 F9 S9 s => R.mv rfl) ?_
  refine SL.val rfl rfl (fun w9 F9 S9 s => R.neI rfl rfl) ?_
  first | refine SL.val rfl rfl (fun w9 F9 S9 s => R.pickT rfl rfl) ?_ | refine SL.val rfl rfl (fun w9 F9 S9 s => R.pickF rfl rfl) ?_
  refine SL.nil ?_
  refine SN.seq ?_
  refine SG.condF rfl ?_
  refine SG.skip ?_
  refine SN.seq ?_
  refine SG.seq ?_
  refine SG.seq ?_
  refine SG.region ?_
  refine SL.val rfl rfl (fun w9 F9 S9 s => R.mv rfl) ?_
  refine SL.val rfl rfl (fun w9 F9 S9 s => R.neI rfl rfl) ?_
  refine SL.nil ?_
  refine SN.seq ?_
  refine SG.condF rfl ?_
  refine SG.skip ?_
  refine SN.seq ?_
  refine SG.seq ?_
  refine SG.seq ?_
  refine SG.region ?_
  refine SL.val rfl rfl (fun w9 F9 S9 s => R.mv rfl) ?_
  refine SL.val rfl rfl (fun w9 F9 S9 s => R.lenS rfl) ?_
  refine SL.val rfl rfl (fun w9 F9 S9 s => R.mv rfl) ?_
  refine SL.nil ?_
  refine SN.seq ?_
  refine SG.block ?_
  refine SG.loop (X := PlS) (fun y => [(7, .pointer (some ⟨d, 0, none⟩)), (9, .pointer (some ⟨p, 0, none⟩)), (11, .pointer (some ⟨b11, 0, none⟩)), (106, .slice la ln lc), (107, .int .i64 (ln : Int)), (108, .int .i64 (y.i : Int))]) (fun y => [plA p d fr B y.M, dvA d y.v 20, blk b11 [.string (str y.v.stay), .slice y.wa y.v.wt.length y.wc, .int .i64 y.v.calls, .int .i64 y.v.left, .bool y.v.off, .int .i64 (fr : Int), .slice y.ha B y.hc, .slice y.da B y.dc] 49, sh (fun w => RefAt w y.v.wt y.wa), sh (fun w => Cells w y.ha (handC y.M B)), sh (fun w => Cells w y.da (dirtC y.M B)), sh (fun w => OpsOk w la ln os)]) (fun y => (y.i ≤ ln ∧ y.i ≤ 50) ∧ (PKey y.M B ∧ y.v.Wf 20) ∧ (0 ≤ y.v.calls ∧ y.v.calls ≤ 70 * ((y.i : Nat) : Int)) ∧ y.v.wt.length ≤ 70 * (y.i)) (fun y => ln - y.i) (⟨0, [], newV 20, none, 0, ha0, hc0, da0, dc0⟩) (Sub.cons rfl (Sub.cons rfl (Sub.cons rfl (Sub.cons rfl (Sub.cons rfl (Sub.cons rfl (Sub.nil _))))))) ((Imp.sels (by repeat (first | exact Sels.nil | apply Sels.cons | exact Sel.keep | exact Sel.here | apply Sel.there)))) (⟨⟨Nat.zero_le _, Nat.zero_le _⟩, ⟨PKey.nil B, newV_wf 20⟩, ⟨Int.le_refl 0, by show (0 : Int) ≤ 70 * ((0 : Nat) : Int); decide⟩, Nat.le_refl 0⟩) ?_
  rintro ⟨i, M, v1, wa, wc, ha, hc, da, dc⟩ ⟨⟨hi, hi5⟩, ⟨hK, hwf⟩, hcl, hwl⟩
  dsimp only at hi hi5 hK hwf hcl hwl
  show SG _ _ _ _ _ [(7, .pointer (some ⟨d, 0, none⟩)), (9, .pointer (some ⟨p, 0, none⟩)), (11, .pointer (some ⟨b11, 0, none⟩)), (106, .slice la ln lc), (107, .int .i64 (ln : Int)), (108, .int .i64 (i : Int))] [plA p d fr B M, dvA d v1 20, blk b11 [.string (str v1.stay), .slice wa v1.wt.length wc, .int .i64 v1.calls, .int .i64 v1.left, .bool v1.off, .int .i64 (fr : Int), .slice ha B hc, .slice da B dc] 49, sh (fun w => RefAt w v1.wt wa), sh (fun w => Cells w ha (handC M B)), sh (fun w => Cells w da (dirtC M B)), sh (fun w => OpsOk w la ln os)] _
  refine SG.seq ?_
  refine SG.region ?_
  refine SL.val rfl rfl (fun w9 F9 S9 s => R.lss rfl rfl) ?_
  refine SL.nil ?_
  refine SN.seq ?_
  refine SG.seq ?_
  refine SG.condP rfl (fun h3 => ?_) (fun h3 => ?_)
  · obtain ⟨o, ho⟩ : ∃ o, os[i]? = some o := ⟨_, List.getElem?_eq_getElem (by omega)⟩
    refine SG.fact (fun w9 F9 S9 s => ops_pt (s.sh (p := fun w => OpsOk w la ln os) (by repeat (first | exact Sel.keep | exact Sel.here | apply Sel.there))) ho) (fun hf9 => ?_)
    obtain ⟨q, hq⟩ := hf9
    refine SG.fact (fun w9 F9 S9 s => op_ln ((s.sh (p := fun w => OpsOk w la ln os) (by repeat (first | exact Sel.keep | exact Sel.here | apply Sel.there))).ok o (List.mem_of_getElem? ho))) (fun hf9 => ?_)
    have hoL := hf9; clear hf9
    refine SG.fact (fun w9 F9 S9 s => op_kn ((s.sh (p := fun w => OpsOk w la ln os) (by repeat (first | exact Sel.keep | exact Sel.here | apply Sel.there))).ok o (List.mem_of_getElem? ho))) (fun hf9 => ?_)
    have hoK := hf9; clear hf9
    refine SG.fact (fun w9 F9 S9 s => ((s.sh (p := fun w => OpsOk w la ln os) (by repeat (first | exact Sel.keep | exact Sel.here | apply Sel.there))).ok o (List.mem_of_getElem? ho)).2.1) (fun hf9 => ?_)
    have hoN := hf9; clear hf9
    have hN : o.N' ≤ 9223372036854775807 := (wf_bounds hoN).2
    have hMl := hK.few
    refine SG.skip ?_
    refine SN.seq ?_
    refine SG.seq ?_
    refine SG.block ?_
    refine SG.seq ?_
    refine SG.region ?_
    refine SL.val rfl rfl (fun w9 F9 S9 s => R.mv rfl) ?_
    refine SL.val rfl rfl (fun w9 F9 S9 s => R.idx rfl rfl (by omega) (by omega) q hq) ?_
    refine SL.val rfl rfl (fun w9 F9 S9 s => R.ldN (vs := OpV.cells o) rfl (ops_cells (s.sh (p := fun w => OpsOk w la ln os) (by repeat (first | exact Sel.keep | exact Sel.here | apply Sel.there))) hq ho) rfl) ?_
    refine SL.step rfl rfl (CS.alloc [.int .i64 0, .int .i64 0, .slice none 0 0, .slice none 0 0] rfl) ?_
    rintro _ _ ⟨b20, rfl, rfl⟩
    refine SL.val rfl rfl (fun w9 F9 S9 s => R.as rfl) ?_
    refine SL.step0 rfl (CS.stA (vs := OpV.cells o) rfl rfl (by repeat (first | exact Sel.keep | exact Sel.here | apply Sel.there)) (by rfl) (by rfl) (by intro u hu; exact OpV.cells.one _ u (by simpa using hu))) ?_
    rintro _ _ rfl
    refine SL.nil ?_
    refine SN.seq ?_
    refine SG.seq ?_
    refine SG.seq ?_
    refine SG.region ?_
    refine SL.val rfl rfl (fun w9 F9 S9 s => R.mv rfl) ?_
    refine SL.val rfl rfl (fun w9 F9 S9 s => R.geq rfl rfl) ?_
    refine SL.val rfl rfl (fun w9 F9 S9 s => R.mv rfl) ?_
    refine SL.caseP 115 rfl (fun hg17_2 => ?_) (fun hg17_2 => ?_)
    · refine SL.pass rfl rfl ?_
      refine SL.pass rfl rfl ?_
      refine SL.pass rfl rfl ?_
      refine SL.pass rfl rfl ?_
      first | refine SL.val rfl rfl (fun w9 F9 S9 s => R.pickT rfl rfl) ?_ | refine SL.val rfl rfl (fun w9 F9 S9 s => R.pickF rfl rfl) ?_
      refine SL.nil ?_
      refine SN.seq ?_
      refine SG.condT rfl ?_
      refine SG.seq ?_
      refine SG.region ?_
      refine SL.val rfl rfl (fun w9 F9 S9 s => R.as rfl) ?_
      refine SL.nil ?_
      refine SN.seq ?_
      exact SG.ret1 rfl rfl ((Imp.sels (by repeat (first | exact Sels.nil | apply Sels.cons | exact Sel.keep | exact Sel.here | apply Sel.there)))) (rfl)
    · refine SL.val rfl rfl (fun w9 F9 S9 s => R.fld rfl) ?_
      refine SL.val rfl rfl (fun w9 F9 S9 s => R.ldB (v := .slice o.L'a o.L'n o.L'c) rfl (s.cel (by repeat (first | exact SelB.blk | exact SelB.fz | apply SelB.there))) (by rfl)) ?_
      refine SL.val rfl rfl (fun w9 F9 S9 s => R.lenS rfl) ?_
      refine SL.val rfl rfl (fun w9 F9 S9 s => R.gtr rfl rfl) ?_
      first | refine SL.val rfl rfl (fun w9 F9 S9 s => R.pickT rfl rfl) ?_ | refine SL.val rfl rfl (fun w9 F9 S9 s => R.pickF rfl rfl) ?_
      refine SL.nil ?_
      refine SN.seq ?_
      refine SG.condP rfl (fun h4 => ?_) (fun h4 => ?_)
      · refine SG.seq ?_
        refine SG.region ?_
        refine SL.val rfl rfl (fun w9 F9 S9 s => R.as rfl) ?_
        refine SL.nil ?_
        refine SN.seq ?_
        exact SG.ret1 rfl rfl ((Imp.sels (by repeat (first | exact Sels.nil | apply Sels.cons | exact Sel.keep | exact Sel.here | apply Sel.there)))) (rfl)
      · refine SG.skip ?_
        refine SN.seq ?_
        refine SG.seq ?_
        refine SG.region ?_
        refine SL.val rfl rfl (fun w9 F9 S9 s => R.as rfl) ?_
        refine SL.val rfl rfl (fun w9 F9 S9 s => R.as rfl) ?_
        refine SL.nil ?_
        refine SN.seq ?_
        refine SG.seq ?_
        refine SG.seq ?_
        have hu : 0 ≤ IntKind.u64.wrap o.Kind' := by
          simp only [IntKind.wrap, IntKind.bits, IntKind.signed]
          simp
          omega
        refine SG.region ?_
        refine SL.val rfl rfl (fun w9 F9 S9 s => R.fld rfl) ?_
        refine SL.val rfl rfl (fun w9 F9 S9 s => R.ldB (v := .int .i64 o.Kind') rfl (s.cel (by repeat (first | exact SelB.blk | exact SelB.fz | apply SelB.there))) (by rfl)) ?_
        refine SL.val rfl rfl (fun w9 F9 S9 s => R.conv rfl _ rfl) ?_
        refine SL.val rfl rfl (fun w9 F9 S9 s => R.rem rfl rfl hu (by decide)) ?_
        refine SL.nil ?_
        refine SN.seq ?_
        refine SG.block ?_
        refine SG.seq ?_
        refine SG.region ?_
        refine SL.val rfl rfl (fun w9 F9 S9 s => R.eqI rfl rfl) ?_
        refine SL.val rfl rfl (fun w9 F9 S9 s => R.as rfl) ?_
        refine SL.nil ?_
        refine SN.seq ?_
        refine SG.cut (X := PlT) (fun y => [(7, .pointer (some ⟨d, 0, none⟩)), (9, .pointer (some ⟨p, 0, none⟩)), (11, .pointer (some ⟨b11, 0, none⟩)), (21, .int .i64 y.e), (22, .int .i64 y.e), (106, .slice la ln lc), (107, .int .i64 (ln : Int)), (108, .int .i64 (i : Int))]) (fun y => [plA p d fr B y.M, dvA d y.v 20, blk b11 [.string (str y.v.stay), .slice y.wa y.v.wt.length y.wc, .int .i64 y.v.calls, .int .i64 y.v.left, .bool y.v.off, .int .i64 (fr : Int), .slice y.ha B y.hc, .slice y.da B y.dc] 49, sh (fun w => RefAt w y.v.wt y.wa), sh (fun w => Cells w y.ha (handC y.M B)), sh (fun w => Cells w y.da (dirtC y.M B)), sh (fun w => OpsOk w la ln os)]) (fun y => (PKey y.M B ∧ y.v.Wf 20) ∧ (0 ≤ y.v.calls ∧ y.v.calls ≤ 70 * ((i + 1 : Nat) : Int)) ∧ y.v.wt.length ≤ 70 * (i + 1)) ?_ ?_
        · refine SG.condP rfl (fun h5 => ?_) (fun h5 => ?_)
          · refine SG.seq ?_
            refine SG.region ?_
            refine SL.val rfl rfl (fun w9 F9 S9 s => R.ldBN (cs := ([.string (str v1.stay), .slice wa v1.wt.length wc, .int .i64 v1.calls, .int .i64 v1.left, .bool v1.off, .int .i64 (fr : Int), .slice ha B hc, .slice da B dc]).toArray) rfl (s.cel (by repeat (first | exact SelB.blk | exact SelB.fz | apply SelB.there))) (by rfl)) ?_
            refine SL.val rfl rfl (fun w9 F9 S9 s => R.fld rfl) ?_
            refine SL.val rfl rfl (fun w9 F9 S9 s => R.ldB (v := .slice o.L'a o.L'n o.L'c) rfl (s.cel (by repeat (first | exact SelB.blk | exact SelB.fz | apply SelB.there))) (by rfl)) ?_
            refine SL.imp (Imp.weak (p := fun w => OpsOk w la ln os) (q := fun w => WsP w o.L'a o.L'n o.L') (by repeat (first | exact Sel.keep | exact Sel.here | apply Sel.there)) (fun w hw => op_ws (hw.ok o (List.mem_of_getElem? ho)))) ?_
            refine SL.step rfl rfl (CS.call rfl go20 (rpput_ok fr B 20 v1 M wa wc ha hc da dc o.L'a o.L'n o.L'c o.L' (by omega) hK.srt h1 h2) (by repeat (first | exact Sels.nil | apply Sels.cons | exact Sel.keep | exact Sel.here | apply Sel.there))) ?_
            rintro _ _ ⟨_, ⟨ha2, hc2, da2, dc2, rfl, rfl⟩, rfl⟩
            refine SL.n3 ?_
            refine SL.val rfl rfl (fun w9 F9 S9 s => R.mv rfl) ?_
            refine SL.val rfl rfl (fun w9 F9 S9 s => R.ext rfl rfl) ?_
            refine SL.val rfl rfl (fun w9 F9 S9 s => R.ext rfl rfl) ?_
            refine SL.step0 rfl (CS.stA (vs := [.string (str v1.stay), .slice wa v1.wt.length wc, .int .i64 v1.calls, .int .i64 v1.left, .bool v1.off, .int .i64 (fr : Int), .slice ha2 B hc2, .slice da2 B dc2]) rfl rfl (by repeat (first | exact Sel.keep | exact Sel.here | apply Sel.there)) (by rfl) (by rfl) (by intro u hu; simp only [List.mem_cons, List.not_mem_nil, or_false] at hu; rcases hu with rfl | rfl | rfl | rfl | rfl | rfl | rfl | rfl <;> rfl)) ?_
            rintro _ _ rfl
            refine SL.val rfl rfl (fun w9 F9 S9 s => R.as rfl) ?_
            refine SL.nil ?_
            refine SN.seq ?_
            refine SG.region ?_
            refine SL.val rfl rfl (fun w9 F9 S9 s => R.mv rfl) ?_
            refine SL.val rfl rfl (fun w9 F9 S9 s => R.fld rfl) ?_
            refine SL.val rfl rfl (fun w9 F9 S9 s => R.ldB (v := .slice o.L'a o.L'n o.L'c) rfl (s.cel (by repeat (first | exact SelB.blk | exact SelB.fz | apply SelB.there))) (by rfl)) ?_
            refine SL.imp (Imp.weak (p := fun w => OpsOk w la ln os) (q := fun w => WsP w o.L'a o.L'n o.L') (by repeat (first | exact Sel.keep | exact Sel.here | apply Sel.there)) (fun w hw => op_ws (hw.ok o (List.mem_of_getElem? ho)))) ?_
            refine SL.step rfl rfl (CS.call rfl go9 (pputS p d 20 fr B v1 M o.L'a o.L'n o.L'c o.L' (by omega) (by omega)) (by repeat (first | exact Sels.nil | apply Sels.cons | exact Sel.keep | exact Sel.here | apply Sel.there))) ?_
            rintro _ _ ⟨_, ⟨rfl, rfl⟩, rfl⟩
            refine SL.n2 ?_
            refine SL.val rfl rfl (fun w9 F9 S9 s => R.as rfl) ?_
            refine SL.nil ?_
            exact SN.handX (⟨(pputV M B (o.L'.map wv)), v1, wa, wc, ha2, hc2, da2, dc2, pwsE B (o.L'.map wv)⟩) (Sub.cons rfl (Sub.cons rfl (Sub.cons rfl (Sub.cons rfl (Sub.cons rfl (Sub.cons rfl (Sub.cons rfl (Sub.cons rfl (Sub.nil _))))))))) ((Imp.sels (by repeat (first | exact Sels.nil | apply Sels.cons | exact Sel.keep | exact Sel.here | apply Sel.there)))) (⟨⟨hK.pput _, hwf⟩, wf_bd (v' := v1) hcl hwl (Int.le_refl _) (by omega) (by omega)⟩)
          · refine SG.seq ?_
            refine SG.region ?_
            refine SL.val rfl rfl (fun w9 F9 S9 s => R.eqI rfl rfl) ?_
            refine SL.val rfl rfl (fun w9 F9 S9 s => R.as rfl) ?_
            refine SL.nil ?_
            refine SN.seq ?_
            refine SG.condP rfl (fun h6 => ?_) (fun h6 => ?_)
            · refine SG.seq ?_
              refine SG.region ?_
              refine SL.val rfl rfl (fun w9 F9 S9 s => R.ldBN (cs := ([.string (str v1.stay), .slice wa v1.wt.length wc, .int .i64 v1.calls, .int .i64 v1.left, .bool v1.off, .int .i64 (fr : Int), .slice ha B hc, .slice da B dc]).toArray) rfl (s.cel (by repeat (first | exact SelB.blk | exact SelB.fz | apply SelB.there))) (by rfl)) ?_
              refine SL.val rfl rfl (fun w9 F9 S9 s => R.fld rfl) ?_
              refine SL.val rfl rfl (fun w9 F9 S9 s => R.ldB (v := .int .i64 o.N') rfl (s.cel (by repeat (first | exact SelB.blk | exact SelB.fz | apply SelB.there))) (by rfl)) ?_
              refine SL.step rfl rfl (CS.call rfl go21 (rpget_ok fr B 20 v1 M wa wc ha hc da dc o.N' hK h2 (by omega) hwf (by decide) (by omega)) (by repeat (first | exact Sels.nil | apply Sels.cons | exact Sel.keep | exact Sel.here | apply Sel.there))) ?_
              rintro _ _ ⟨_, ⟨rfl, rfl⟩, rfl⟩
              refine SL.n0 ?_
              refine SL.val rfl rfl (fun w9 F9 S9 s => R.mv rfl) ?_
              refine SL.val rfl rfl (fun w9 F9 S9 s => R.ext rfl rfl) ?_
              refine SL.val rfl rfl (fun w9 F9 S9 s => R.ext rfl rfl) ?_
              refine SL.val rfl rfl (fun w9 F9 S9 s => R.as rfl) ?_
              refine SL.val rfl rfl (fun w9 F9 S9 s => R.as rfl) ?_
              refine SL.nil ?_
              refine SN.seq ?_
              refine SG.seq ?_
              refine SG.region ?_
              refine SL.val rfl rfl (fun w9 F9 S9 s => R.mv rfl) ?_
              refine SL.val rfl rfl (fun w9 F9 S9 s => R.fld rfl) ?_
              refine SL.val rfl rfl (fun w9 F9 S9 s => R.ldB (v := .int .i64 o.N') rfl (s.cel (by repeat (first | exact SelB.blk | exact SelB.fz | apply SelB.there))) (by rfl)) ?_
              refine SL.step rfl rfl (CS.call rfl go19 (pgetS p d 20 fr B v1 M o.N' (by omega) (by omega) h2 (by omega)) (by repeat (first | exact Sels.nil | apply Sels.cons | exact Sel.keep | exact Sel.here | apply Sel.there))) ?_
              rintro _ _ ⟨_, ⟨a161, c161, rfl, rfl⟩, rfl⟩
              refine SL.n3 ?_
              refine SL.val rfl rfl (fun w9 F9 S9 s => R.mv rfl) ?_
              refine SL.val rfl rfl (fun w9 F9 S9 s => R.ext rfl rfl) ?_
              refine SL.val rfl rfl (fun w9 F9 S9 s => R.ext rfl rfl) ?_
              refine SL.val rfl rfl (fun w9 F9 S9 s => R.as rfl) ?_
              refine SL.val rfl rfl (fun w9 F9 S9 s => R.as rfl) ?_
              refine SL.nil ?_
              refine SN.seq ?_
              refine SG.seq ?_
              refine SG.region ?_
              refine SL.val rfl rfl (fun w9 F9 S9 s => R.mv rfl) ?_
              refine SL.val rfl rfl (fun w9 F9 S9 s => R.mv rfl) ?_
              refine SL.val rfl rfl (fun w9 F9 S9 s => R.as rfl) ?_
              refine SL.val rfl rfl (fun w9 F9 S9 s => R.as rfl) ?_
              refine SL.nil ?_
              refine SN.seq ?_
              refine SG.seq ?_
              refine SG.region ?_
              refine SL.val rfl rfl (fun w9 F9 S9 s => R.mv rfl) ?_
              refine SL.val rfl rfl (fun w9 F9 S9 s => R.strB rfl (⟨s.ownC (show Sel _ (own 5 1 a161 (pgetV M v1 20 fr B o.N').1.length c161 (vbs (pgetV M v1 20 fr B o.N').1)) _ from (by repeat (first | exact Sel.keep | exact Sel.here | apply Sel.there))), rfl⟩ : Bs _ a161 (pgetV M v1 20 fr B o.N').1.length (pgetV M v1 20 fr B o.N').1)) ?_
              refine SL.val rfl rfl (fun w9 F9 S9 s => R.mv rfl) ?_
              refine SL.val rfl rfl (fun w9 F9 S9 s => R.neStr rfl rfl) ?_
              refine SL.nil ?_
              refine SN.seq ?_
              refine SG.condP rfl (fun h7 => ?_) (fun h7 => ?_)
              · exact absurd rfl h7
              · refine SG.skip ?_
                exact SN.handX (⟨M, v1, wa, wc, ha, hc, da, dc, (pgetV M v1 20 fr B o.N').2⟩) (Sub.cons rfl (Sub.cons rfl (Sub.cons rfl (Sub.cons rfl (Sub.cons rfl (Sub.cons rfl (Sub.cons rfl (Sub.cons rfl (Sub.nil _))))))))) ((Imp.sels (by repeat (first | exact Sels.nil | apply Sels.cons | exact Sel.keep | exact Sel.here | apply Sel.there)))) (⟨⟨hK, hwf⟩, wf_bd (v' := v1) hcl hwl (Int.le_refl _) (by omega) (by omega)⟩)
            · refine SG.seq ?_
              refine SG.region ?_
              refine SL.val rfl rfl (fun w9 F9 S9 s => R.eqI rfl rfl) ?_
              refine SL.val rfl rfl (fun w9 F9 S9 s => R.as rfl) ?_
              refine SL.nil ?_
              refine SN.seq ?_
              refine SG.condP rfl (fun h8 => ?_) (fun h8 => ?_)
              · refine SG.seq ?_
                refine SG.region ?_
                refine SL.val rfl rfl (fun w9 F9 S9 s => R.ldBN (cs := ([.string (str v1.stay), .slice wa v1.wt.length wc, .int .i64 v1.calls, .int .i64 v1.left, .bool v1.off, .int .i64 (fr : Int), .slice ha B hc, .slice da B dc]).toArray) rfl (s.cel (by repeat (first | exact SelB.blk | exact SelB.fz | apply SelB.there))) (by rfl)) ?_
                refine SL.step rfl rfl (CS.call rfl go22 (rpsave_ok fr B 20 v1 M wa wc ha hc da dc hK h2 (by omega) hwf (by decide) (by omega) (by omega)) (by repeat (first | exact Sels.nil | apply Sels.cons | exact Sel.keep | exact Sel.here | apply Sel.there))) ?_
                rintro _ _ ⟨_, ⟨wa2, wc2, da2, dc2, rfl, rfl⟩, rfl⟩
                refine SL.n3 ?_
                refine SL.val rfl rfl (fun w9 F9 S9 s => R.mv rfl) ?_
                refine SL.val rfl rfl (fun w9 F9 S9 s => R.ext rfl rfl) ?_
                refine SL.val rfl rfl (fun w9 F9 S9 s => R.ext rfl rfl) ?_
                refine SL.step0 rfl (CS.stA (vs := [.string (str (psaveV M v1 20 fr).1.2.stay), .slice wa2 (psaveV M v1 20 fr).1.2.wt.length wc2, .int .i64 (psaveV M v1 20 fr).1.2.calls, .int .i64 (psaveV M v1 20 fr).1.2.left, .bool (psaveV M v1 20 fr).1.2.off, .int .i64 (fr : Int), .slice ha B hc, .slice da2 B dc2]) rfl rfl (by repeat (first | exact Sel.keep | exact Sel.here | apply Sel.there)) (by rfl) (by rfl) (by intro u hu; simp only [List.mem_cons, List.not_mem_nil, or_false] at hu; rcases hu with rfl | rfl | rfl | rfl | rfl | rfl | rfl | rfl <;> rfl)) ?_
                rintro _ _ rfl
                refine SL.val rfl rfl (fun w9 F9 S9 s => R.as rfl) ?_
                refine SL.nil ?_
                refine SN.seq ?_
                refine SG.region ?_
                refine SL.val rfl rfl (fun w9 F9 S9 s => R.mv rfl) ?_
                refine SL.step rfl rfl (CS.call rfl go10 (psaveS p d 20 fr B v1 M (by omega) (by omega) h2 hK (by omega) (by omega)) (by repeat (first | exact Sels.nil | apply Sels.cons | exact Sel.keep | exact Sel.here | apply Sel.there))) ?_
                rintro _ _ ⟨_, ⟨rfl, rfl⟩, rfl⟩
                refine SL.n2 ?_
                refine SL.val rfl rfl (fun w9 F9 S9 s => R.as rfl) ?_
                refine SL.nil ?_
                exact SN.handX (⟨(psaveV M v1 20 fr).1.1, (psaveV M v1 20 fr).1.2, wa2, wc2, ha, hc, da2, dc2, (psaveV M v1 20 fr).2⟩) (Sub.cons rfl (Sub.cons rfl (Sub.cons rfl (Sub.cons rfl (Sub.cons rfl (Sub.cons rfl (Sub.cons rfl (Sub.cons rfl (Sub.nil _))))))))) ((Imp.sels (by repeat (first | exact Sels.nil | apply Sels.cons | exact Sel.keep | exact Sel.here | apply Sel.there)))) (⟨⟨hK.save v1 20 fr, psave_wf hwf⟩, wf_bd (v' := (psaveV M v1 20 fr).1.2) hcl hwl (psave_bd hK).1 (by have := (psave_bd (v := v1) (sz := 20) (fr := fr) hK).2.1; omega) (by have := (psave_bd (v := v1) (sz := 20) (fr := fr) hK).2.2; omega)⟩)
              · refine SG.seq ?_
                refine SG.region ?_
                refine SL.val rfl rfl (fun w9 F9 S9 s => R.eqI rfl rfl) ?_
                refine SL.val rfl rfl (fun w9 F9 S9 s => R.as rfl) ?_
                refine SL.nil ?_
                refine SN.seq ?_
                refine SG.condP rfl (fun h9 => ?_) (fun h9 => ?_)
                · refine SG.seq ?_
                  refine SG.region ?_
                  refine SL.val rfl rfl (fun w9 F9 S9 s => R.ldBN (cs := ([.string (str v1.stay), .slice wa v1.wt.length wc, .int .i64 v1.calls, .int .i64 v1.left, .bool v1.off, .int .i64 (fr : Int), .slice ha B hc, .slice da B dc]).toArray) rfl (s.cel (by repeat (first | exact SelB.blk | exact SelB.fz | apply SelB.there))) (by rfl)) ?_
                  refine SL.step rfl rfl (CS.call rfl go23 (rpdrop_ok fr B 20 v1 M wa wc ha hc da dc h2) (by repeat (first | exact Sels.nil | apply Sels.cons | exact Sel.keep | exact Sel.here | apply Sel.there))) ?_
                  rintro _ _ ⟨_, ⟨ha2, hc2, da2, dc2, rfl, rfl⟩, rfl⟩
                  refine SL.n3 ?_
                  refine SL.step0 rfl (CS.stA (vs := [.string (str v1.stay), .slice wa v1.wt.length wc, .int .i64 v1.calls, .int .i64 v1.left, .bool v1.off, .int .i64 (fr : Int), .slice ha2 B hc2, .slice da2 B dc2]) rfl rfl (by repeat (first | exact Sel.keep | exact Sel.here | apply Sel.there)) (by rfl) (by rfl) (by intro u hu; simp only [List.mem_cons, List.not_mem_nil, or_false] at hu; rcases hu with rfl | rfl | rfl | rfl | rfl | rfl | rfl | rfl <;> rfl)) ?_
                  rintro _ _ rfl
                  refine SL.nil ?_
                  refine SN.seq ?_
                  refine SG.region ?_
                  refine SL.val rfl rfl (fun w9 F9 S9 s => R.mv rfl) ?_
                  refine SL.step rfl rfl (CS.call rfl go16 (pdropS p d 20 fr B v1 M (by omega)) (by repeat (first | exact Sels.nil | apply Sels.cons | exact Sel.keep | exact Sel.here | apply Sel.there))) ?_
                  rintro _ _ ⟨_, ⟨rfl, rfl⟩, rfl⟩
                  refine SL.n2 ?_
                  refine SL.nil ?_
                  exact SN.handX (⟨[], v1, wa, wc, ha2, hc2, da2, dc2, 0⟩) (Sub.cons rfl (Sub.cons rfl (Sub.cons rfl (Sub.cons rfl (Sub.cons rfl (Sub.cons rfl (Sub.cons rfl (Sub.cons rfl (Sub.nil _))))))))) ((Imp.sels (by repeat (first | exact Sels.nil | apply Sels.cons | exact Sel.keep | exact Sel.here | apply Sel.there)))) (⟨⟨PKey.nil B, hwf⟩, wf_bd (v' := v1) hcl hwl (Int.le_refl _) (by omega) (by omega)⟩)
                · refine SG.seq ?_
                  refine SG.region ?_
                  refine SL.val rfl rfl (fun w9 F9 S9 s => R.eqI rfl rfl) ?_
                  refine SL.val rfl rfl (fun w9 F9 S9 s => R.as rfl) ?_
                  refine SL.nil ?_
                  refine SN.seq ?_
                  refine SG.condP rfl (fun h10 => ?_) (fun h10 => ?_)
                  · refine SG.seq ?_
                    refine SG.region ?_
                    refine SL.val rfl rfl (fun w9 F9 S9 s => R.ldBN (cs := ([.string (str v1.stay), .slice wa v1.wt.length wc, .int .i64 v1.calls, .int .i64 v1.left, .bool v1.off, .int .i64 (fr : Int), .slice ha B hc, .slice da B dc]).toArray) rfl (s.cel (by repeat (first | exact SelB.blk | exact SelB.fz | apply SelB.there))) (by rfl)) ?_
                    refine SL.step rfl rfl (CS.call rfl go24 (rpimage_ok fr B 20 v1 M wa wc ha hc da dc hK h2 (by omega) hwf (by decide) (by omega)) (by repeat (first | exact Sels.nil | apply Sels.cons | exact Sel.keep | exact Sel.here | apply Sel.there))) ?_
                    rintro _ _ ⟨_, ⟨rfl, rfl⟩, rfl⟩
                    refine SL.n0 ?_
                    refine SL.val rfl rfl (fun w9 F9 S9 s => R.mv rfl) ?_
                    refine SL.val rfl rfl (fun w9 F9 S9 s => R.ext rfl rfl) ?_
                    refine SL.val rfl rfl (fun w9 F9 S9 s => R.ext rfl rfl) ?_
                    refine SL.val rfl rfl (fun w9 F9 S9 s => R.as rfl) ?_
                    refine SL.val rfl rfl (fun w9 F9 S9 s => R.as rfl) ?_
                    refine SL.nil ?_
                    refine SN.seq ?_
                    refine SG.seq ?_
                    refine SG.region ?_
                    refine SL.val rfl rfl (fun w9 F9 S9 s => R.mv rfl) ?_
                    refine SL.step rfl rfl (CS.call rfl go11 (pimageS p d 20 fr B v1 M (by omega) (by omega) h1 h2 hK (by omega)) (by repeat (first | exact Sels.nil | apply Sels.cons | exact Sel.keep | exact Sel.here | apply Sel.there))) ?_
                    rintro _ _ ⟨_, ⟨q40, rfl, rfl⟩, rfl⟩
                    refine SL.n3 ?_
                    refine SL.val rfl rfl (fun w9 F9 S9 s => R.mv rfl) ?_
                    refine SL.val rfl rfl (fun w9 F9 S9 s => R.ext rfl rfl) ?_
                    refine SL.val rfl rfl (fun w9 F9 S9 s => R.ext rfl rfl) ?_
                    refine SL.val rfl rfl (fun w9 F9 S9 s => R.as rfl) ?_
                    refine SL.val rfl rfl (fun w9 F9 S9 s => R.as rfl) ?_
                    refine SL.nil ?_
                    refine SN.seq ?_
                    refine SG.seq ?_
                    refine SG.region ?_
                    refine SL.val rfl rfl (fun w9 F9 S9 s => R.mv rfl) ?_
                    refine SL.val rfl rfl (fun w9 F9 S9 s => R.mv rfl) ?_
                    refine SL.val rfl rfl (fun w9 F9 S9 s => R.as rfl) ?_
                    refine SL.val rfl rfl (fun w9 F9 S9 s => R.as rfl) ?_
                    refine SL.nil ?_
                    refine SN.seq ?_
                    refine SG.seq ?_
                    refine SG.region ?_
                    refine SL.val rfl rfl (fun w9 F9 S9 s => R.mv rfl) ?_
                    refine SL.step rfl rfl (CS.call rfl go12 (ibytesS q40 (pimV M v1 20 fr B).1) (by repeat (first | exact Sels.nil | apply Sels.cons | exact Sel.keep | exact Sel.here | apply Sel.there))) ?_
                    rintro _ _ ⟨_, ⟨a199, c199, rfl, rfl⟩, rfl⟩
                    refine SL.n2 ?_
                    refine SL.val rfl rfl (fun w9 F9 S9 s => R.strB rfl (⟨s.ownC (show Sel _ (own 5 1 a199 (pimV M v1 20 fr B).1.length c199 (vbs (pimV M v1 20 fr B).1)) _ from (by repeat (first | exact Sel.keep | exact Sel.here | apply Sel.there))), rfl⟩ : Bs _ a199 (pimV M v1 20 fr B).1.length (pimV M v1 20 fr B).1)) ?_
                    refine SL.val rfl rfl (fun w9 F9 S9 s => R.mv rfl) ?_
                    refine SL.val rfl rfl (fun w9 F9 S9 s => R.neStr rfl rfl) ?_
                    refine SL.nil ?_
                    refine SN.seq ?_
                    refine SG.condP rfl (fun h11 => ?_) (fun h11 => ?_)
                    · exact absurd rfl h11
                    · refine SG.skip ?_
                      exact SN.handX (⟨M, v1, wa, wc, ha, hc, da, dc, (pimV M v1 20 fr B).2⟩) (Sub.cons rfl (Sub.cons rfl (Sub.cons rfl (Sub.cons rfl (Sub.cons rfl (Sub.cons rfl (Sub.cons rfl (Sub.cons rfl (Sub.nil _))))))))) ((Imp.sels (by repeat (first | exact Sels.nil | apply Sels.cons | exact Sel.keep | exact Sel.here | apply Sel.there)))) (⟨⟨hK, hwf⟩, wf_bd (v' := v1) hcl hwl (Int.le_refl _) (by omega) (by omega)⟩)
                  · refine SG.seq ?_
                    refine SG.region ?_
                    refine SL.val rfl rfl (fun w9 F9 S9 s => R.eqI rfl rfl) ?_
                    refine SL.val rfl rfl (fun w9 F9 S9 s => R.as rfl) ?_
                    refine SL.nil ?_
                    refine SN.seq ?_
                    refine SG.condP rfl (fun h12 => ?_) (fun h12 => ?_)
                    · refine SG.seq ?_
                      refine SG.region ?_
                      refine SL.val rfl rfl (fun w9 F9 S9 s => R.fld rfl) ?_
                      refine SL.val rfl rfl (fun w9 F9 S9 s => R.ldN (vs := (rdC v1 wa wc).toList) rfl (s.left (show Sel _ (blk b11 _ _) _ from (by repeat (first | exact Sel.keep | exact Sel.here | apply Sel.there))) rfl) rfl) ?_
                      refine SL.val rfl rfl (fun w9 F9 S9 s => R.fld rfl) ?_
                      refine SL.val rfl rfl (fun w9 F9 S9 s => R.ldB (v := .slice o.Keep'a o.Keep'n o.Keep'c) rfl (s.cel (by repeat (first | exact SelB.blk | exact SelB.fz | apply SelB.there))) (by rfl)) ?_
                      refine SL.be 208 rfl (show _ = Value.slice o.Keep'a o.Keep'.length o.Keep'c by rw [hoK]) ?_
                      refine SL.imp (Imp.weak (p := fun w => OpsOk w la ln os) (q := fun w => Cells w o.Keep'a (o.Keep'.map Value.bool)) (by repeat (first | exact Sel.keep | exact Sel.here | apply Sel.there)) (fun w hw => op_kp (hw.ok o (List.mem_of_getElem? ho)))) ?_
                      refine SL.step rfl rfl (CS.callR rfl go25 (fun w9 F9 S9 s => rdcrash_ok v1 20 wa wc o.Keep'a o.Keep'c o.Keep' w9 hwf (by decide) (s.sh (p := fun w => RefAt w v1.wt wa) (by repeat (first | exact Sel.keep | exact Sel.here | apply Sel.there))) (by omega) (s.sh (p := fun w => Cells w o.Keep'a (o.Keep'.map Value.bool)) (by repeat (first | exact Sel.keep | exact Sel.here | apply Sel.there))))) ?_
                      rintro _ _ ⟨rfl, rfl⟩
                      refine SL.imp (Imp.pure (p := fun w => RefAt w (crashV v1 o.Keep').wt none) (fun w => RefAt.nil w)) ?_
                      refine SL.val rfl rfl (fun w9 F9 S9 s => R.fld rfl) ?_
                      refine SL.step0 rfl (CS.stN (k := 0) (vs := (rdC (crashV v1 o.Keep') none 0).toList) (cs' := [.string (str (crashV v1 o.Keep').stay), .slice none (crashV v1 o.Keep').wt.length 0, .int .i64 (crashV v1 o.Keep').calls, .int .i64 (crashV v1 o.Keep').left, .bool (crashV v1 o.Keep').off, .int .i64 (fr : Int), .slice ha B hc, .slice da B dc]) rfl rfl (show Sel _ (blk b11 _ _) _ from (by repeat (first | exact Sel.keep | exact Sel.here | apply Sel.there))) rfl (by show 0 + 5 ≤ 8; decide) (rdC_one _ _ _) rfl) ?_
                      rintro _ _ rfl
                      refine SL.nil ?_
                      refine SN.seq ?_
                      refine SG.region ?_
                      refine SL.val rfl rfl (fun w9 F9 S9 s => R.mv rfl) ?_
                      refine SL.val rfl rfl (fun w9 F9 S9 s => R.fld rfl) ?_
                      refine SL.val rfl rfl (fun w9 F9 S9 s => R.ldB (v := .slice o.Keep'a o.Keep'n o.Keep'c) rfl (s.cel (by repeat (first | exact SelB.blk | exact SelB.fz | apply SelB.there))) (by rfl)) ?_
                      refine SL.be 213 rfl (show _ = Value.slice o.Keep'a o.Keep'.length o.Keep'c by rw [hoK]) ?_
                      refine SL.step rfl rfl (CS.call rfl go15 (dcrashS d v1 20 o.Keep'a o.Keep'c o.Keep' (by omega)) (by repeat (first | exact Sels.nil | apply Sels.cons | exact Sel.keep | exact Sel.here | apply Sel.there))) ?_
                      rintro _ _ ⟨_, ⟨_, rfl⟩, rfl⟩
                      refine SL.n1 ?_
                      refine SL.nil ?_
                      exact SN.handX (⟨M, crashV v1 o.Keep', none, 0, ha, hc, da, dc, 0⟩) (Sub.cons rfl (Sub.cons rfl (Sub.cons rfl (Sub.cons rfl (Sub.cons rfl (Sub.cons rfl (Sub.cons rfl (Sub.cons rfl (Sub.nil _))))))))) ((Imp.sels (by repeat (first | exact Sels.nil | apply Sels.cons | exact Sel.keep | exact Sel.here | apply Sel.there)))) (⟨⟨hK, crashV_wf hwf⟩, wf_bd (v' := (crashV v1 o.Keep')) hcl hwl (crashV_bd v1 o.Keep').1 (by have := (crashV_bd v1 o.Keep').2.1; omega) (by have := (crashV_bd v1 o.Keep').2.2; omega)⟩)
                    · refine SG.seq ?_
                      refine SG.region ?_
                      refine SL.val rfl rfl (fun w9 F9 S9 s => R.fld rfl) ?_
                      refine SL.val rfl rfl (fun w9 F9 S9 s => R.ldB (v := .int .i64 o.N') rfl (s.cel (by repeat (first | exact SelB.blk | exact SelB.fz | apply SelB.there))) (by rfl)) ?_
                      refine SL.val rfl rfl (fun w9 F9 S9 s => R.max rfl rfl (max o.N' (-1)) (by split <;> omega)) ?_
                      refine SL.val rfl rfl (fun w9 F9 S9 s => R.fld rfl) ?_
                      refine SL.val rfl rfl (fun w9 F9 S9 s => R.fld rfl) ?_
                      refine SL.step0 rfl (CS.st (cs' := [.string (str (limitV v1 o.N').stay), .slice wa (limitV v1 o.N').wt.length wc, .int .i64 (limitV v1 o.N').calls, .int .i64 (limitV v1 o.N').left, .bool (limitV v1 o.N').off, .int .i64 (fr : Int), .slice ha B hc, .slice da B dc]) rfl rfl (show Sel _ (blk b11 _ _) _ from (by repeat (first | exact Sel.keep | exact Sel.here | apply Sel.there))) (by repeat (first | exact SetAt.here | apply SetAt.there)) rfl) ?_
                      rintro _ _ rfl
                      refine SL.nil ?_
                      refine SN.seq ?_
                      refine SG.region ?_
                      refine SL.val rfl rfl (fun w9 F9 S9 s => R.mv rfl) ?_
                      refine SL.val rfl rfl (fun w9 F9 S9 s => R.fld rfl) ?_
                      refine SL.val rfl rfl (fun w9 F9 S9 s => R.ldB (v := .int .i64 o.N') rfl (s.cel (by repeat (first | exact SelB.blk | exact SelB.fz | apply SelB.there))) (by rfl)) ?_
                      refine SL.step rfl rfl (CS.call rfl go26 (dlimitS d v1 20 o.N' hN) (by repeat (first | exact Sels.nil | apply Sels.cons | exact Sel.keep | exact Sel.here | apply Sel.there))) ?_
                      rintro _ _ ⟨_, ⟨_, rfl⟩, rfl⟩
                      refine SL.n1 ?_
                      refine SL.nil ?_
                      exact SN.handX (⟨M, limitV v1 o.N', wa, wc, ha, hc, da, dc, 0⟩) (Sub.cons rfl (Sub.cons rfl (Sub.cons rfl (Sub.cons rfl (Sub.cons rfl (Sub.cons rfl (Sub.cons rfl (Sub.cons rfl (Sub.nil _))))))))) ((Imp.sels (by repeat (first | exact Sels.nil | apply Sels.cons | exact Sel.keep | exact Sel.here | apply Sel.there)))) (⟨⟨hK, limitV_wf hwf hN⟩, wf_bd (v' := (limitV v1 o.N')) hcl hwl (Int.le_refl _) (by show v1.calls ≤ v1.calls + 66; omega) (by show v1.wt.length ≤ v1.wt.length + 66; omega)⟩)
        · rintro ⟨M2, v2, wa2, wc2, ha2, hc2, da2, dc2, e⟩ hI2
          show SN _ _ _ _ _ [(7, .pointer (some ⟨d, 0, none⟩)), (9, .pointer (some ⟨p, 0, none⟩)), (11, .pointer (some ⟨b11, 0, none⟩)), (21, .int .i64 e), (22, .int .i64 e), (106, .slice la ln lc), (107, .int .i64 (ln : Int)), (108, .int .i64 (i : Int))] [plA p d fr B M2, dvA d v2 20, blk b11 [.string (str v2.stay), .slice wa2 v2.wt.length wc2, .int .i64 v2.calls, .int .i64 v2.left, .bool v2.off, .int .i64 (fr : Int), .slice ha2 B hc2, .slice da2 B dc2] 49, sh (fun w => RefAt w v2.wt wa2), sh (fun w => Cells w ha2 (handC M2 B)), sh (fun w => Cells w da2 (dirtC M2 B)), sh (fun w => OpsOk w la ln os)]
          have hI3 := hI2
          obtain ⟨⟨hK2, hwf2⟩, hcl2, hwl2⟩ := hI3
          dsimp only at hK2 hwf2 hcl2 hwl2
          have hM2l := hK2.few
          have hst2 := hwf2.len
          refine SN.block ?_
          refine SN.seq ?_
          refine SG.seq ?_
          refine SG.region ?_
          refine SL.val rfl rfl (fun w9 F9 S9 s => R.as rfl) ?_
          refine SL.nil ?_
          refine SN.seq ?_
          refine SG.seq ?_
          refine SG.seq ?_
          refine SG.region ?_
          refine SL.val rfl rfl (fun w9 F9 S9 s => R.fld rfl) ?_
          refine SL.val rfl rfl (fun w9 F9 S9 s => R.ldB (v := .slice da2 B dc2) rfl (s.cel (by repeat (first | exact SelB.blk | exact SelB.fz | apply SelB.there))) (by rfl)) ?_
          refine SL.val rfl rfl (fun w9 F9 S9 s => R.lenS rfl) ?_
          refine SL.val rfl rfl (fun w9 F9 S9 s => R.mv rfl) ?_
          refine SL.nil ?_
          refine SN.seq ?_
          refine SG.block ?_
          refine SG.loop (X := Nat) (fun j => [(7, .pointer (some ⟨d, 0, none⟩)), (9, .pointer (some ⟨p, 0, none⟩)), (11, .pointer (some ⟨b11, 0, none⟩)), (21, .int .i64 e), (22, .int .i64 e), (31, .int .i64 ((dirtN M2 j).length : Int)), (106, .slice la ln lc), (107, .int .i64 (ln : Int)), (108, .int .i64 (i : Int)), (216, .slice da2 B dc2), (217, .int .i64 (B : Int)), (218, .int .i64 (j : Int))]) (fun j => [plA p d fr B M2, dvA d v2 20, blk b11 [.string (str v2.stay), .slice wa2 v2.wt.length wc2, .int .i64 v2.calls, .int .i64 v2.left, .bool v2.off, .int .i64 (fr : Int), .slice ha2 B hc2, .slice da2 B dc2] 49, sh (fun w => RefAt w v2.wt wa2), sh (fun w => Cells w ha2 (handC M2 B)), sh (fun w => Cells w da2 (dirtC M2 B)), sh (fun w => OpsOk w la ln os)]) (fun j => j ≤ B) (fun j => B - j) (0) (Sub.cons rfl (Sub.cons rfl (Sub.cons rfl (Sub.cons rfl (Sub.cons rfl (Sub.cons rfl (Sub.cons rfl (Sub.cons rfl (Sub.cons rfl (Sub.cons rfl (Sub.cons rfl (Sub.cons rfl (Sub.nil _))))))))))))) ((Imp.sels (by repeat (first | exact Sels.nil | apply Sels.cons | exact Sel.keep | exact Sel.here | apply Sel.there)))) (Nat.zero_le _) ?_
          intro j hj
          have hdn := dirtN_le M2 j
          show SG _ _ _ _ _ [(7, .pointer (some ⟨d, 0, none⟩)), (9, .pointer (some ⟨p, 0, none⟩)), (11, .pointer (some ⟨b11, 0, none⟩)), (21, .int .i64 e), (22, .int .i64 e), (31, .int .i64 ((dirtN M2 j).length : Int)), (106, .slice la ln lc), (107, .int .i64 (ln : Int)), (108, .int .i64 (i : Int)), (216, .slice da2 B dc2), (217, .int .i64 (B : Int)), (218, .int .i64 (j : Int))] [plA p d fr B M2, dvA d v2 20, blk b11 [.string (str v2.stay), .slice wa2 v2.wt.length wc2, .int .i64 v2.calls, .int .i64 v2.left, .bool v2.off, .int .i64 (fr : Int), .slice ha2 B hc2, .slice da2 B dc2] 49, sh (fun w => RefAt w v2.wt wa2), sh (fun w => Cells w ha2 (handC M2 B)), sh (fun w => Cells w da2 (dirtC M2 B)), sh (fun w => OpsOk w la ln os)] _
          refine SG.seq ?_
          refine SG.region ?_
          refine SL.val rfl rfl (fun w9 F9 S9 s => R.lss rfl rfl) ?_
          refine SL.nil ?_
          refine SN.seq ?_
          refine SG.seq ?_
          refine SG.condP rfl (fun h13 => ?_) (fun h13 => ?_)
          · refine SG.fact (fun w9 F9 S9 s => dirt_pt (s.sh (p := fun w => Cells w da2 (dirtC M2 B)) (by repeat (first | exact Sel.keep | exact Sel.here | apply Sel.there))) (show j < B by omega)) (fun hf9 => ?_)
            obtain ⟨q5, hq5⟩ := hf9
            refine SG.skip ?_
            refine SN.seq ?_
            refine SG.seq ?_
            refine SG.block ?_
            refine SG.seq ?_
            refine SG.region ?_
            refine SL.val rfl rfl (fun w9 F9 S9 s => R.mv rfl) ?_
            refine SL.val rfl rfl (fun w9 F9 S9 s => R.idx (i := (j : Int)) rfl rfl (by omega) (by omega) q5 hq5) ?_
            refine SL.val rfl rfl (fun w9 F9 S9 s => R.ld (v := .bool (flagH M2 (j : Int))) rfl (dirt_ld (s.sh (p := fun w => Cells w da2 (dirtC M2 B)) (by repeat (first | exact Sel.keep | exact Sel.here | apply Sel.there))) hq5 (by omega))) ?_
            refine SL.val rfl rfl (fun w9 F9 S9 s => R.as rfl) ?_
            refine SL.val rfl rfl (fun w9 F9 S9 s => R.as rfl) ?_
            refine SL.nil ?_
            refine SN.seq ?_
            refine SG.seq ?_
            refine SG.region ?_
            refine SL.val rfl rfl (fun w9 F9 S9 s => R.mv rfl) ?_
            refine SL.nil ?_
            refine SN.seq ?_
            refine SG.condB rfl (fun h14 => ?_) (fun h14 => ?_)
            · obtain ⟨hat, hlt⟩ := dirty_at hK2 (show j < B by omega) (by simpa using h14)
              refine SG.seq ?_
              refine SG.region ?_
              refine SL.val rfl rfl (fun w9 F9 S9 s => R.mv rfl) ?_
              refine SL.step rfl rfl (CS.call rfl go13 (pdirtyS p d 20 fr B v2 M2 (by omega)) (by repeat (first | exact Sels.nil | apply Sels.cons | exact Sel.keep | exact Sel.here | apply Sel.there))) ?_
              rintro _ _ ⟨_, ⟨a34, c34, rfl, rfl⟩, rfl⟩
              refine SL.n3 ?_
              refine SL.val rfl rfl (fun w9 F9 S9 s => R.as rfl) ?_
              refine SL.nil ?_
              refine SN.imp (Imp.ownSh (show Sel _ (own 3 1 a34 (dirtyL M2).length c34 ((dirtyL M2).map (Value.int .i64))) _ from (by repeat (first | exact Sel.keep | exact Sel.here | apply Sel.there))) (p := fun w => Cells w a34 ((dirtyL M2).map (Value.int .i64))) (fun w h => h)) ?_
              refine SN.fact (fun w9 F9 S9 s => ints_pt (s.sh (p := fun w => Cells w a34 ((dirtyL M2).map (Value.int .i64))) (by repeat (first | exact Sel.keep | exact Sel.here | apply Sel.there))) hat) (fun hf9 => ?_)
              obtain ⟨q6, hq6⟩ := hf9
              refine SN.seq ?_
              refine SG.seq ?_
              refine SG.seq ?_
              refine SG.region ?_
              refine SL.val rfl rfl (fun w9 F9 S9 s => R.mv rfl) ?_
              refine SL.val rfl rfl (fun w9 F9 S9 s => R.mv rfl) ?_
              refine SL.val rfl rfl (fun w9 F9 S9 s => R.lenS rfl) ?_
              refine SL.val rfl rfl (fun w9 F9 S9 s => R.geq rfl rfl) ?_
              refine SL.val rfl rfl (fun w9 F9 S9 s => R.mv rfl) ?_
              refine SL.caseP 230 rfl (fun hg53_4 => ?_) (fun hg53_4 => ?_)
              · exfalso; omega
              · refine SL.val rfl rfl (fun w9 F9 S9 s => R.mv rfl) ?_
                refine SL.val rfl rfl (fun w9 F9 S9 s => R.mv rfl) ?_
                refine SL.val rfl rfl (fun w9 F9 S9 s => R.idx (i := ((dirtN M2 j).length : Int)) rfl rfl (by omega) (by omega) q6 hq6) ?_
                refine SL.val rfl rfl (fun w9 F9 S9 s => R.ld (v := .int .i64 (j : Int)) rfl (ints_ld (s.sh (p := fun w => Cells w a34 ((dirtyL M2).map (Value.int .i64))) (by repeat (first | exact Sel.keep | exact Sel.here | apply Sel.there))) hq6 hat)) ?_
                refine SL.val rfl rfl (fun w9 F9 S9 s => R.mv rfl) ?_
                refine SL.val rfl rfl (fun w9 F9 S9 s => R.neI rfl rfl) ?_
                first | refine SL.val rfl rfl (fun w9 F9 S9 s => R.pickT rfl rfl) ?_ | refine SL.val rfl rfl (fun w9 F9 S9 s => R.pickF rfl rfl) ?_
                refine SL.nil ?_
                refine SN.seq ?_
                refine SG.condP rfl (fun h15 => ?_) (fun h15 => ?_)
                · exact absurd rfl h15
                · refine SG.skip ?_
                  refine SN.seq ?_
                  refine SG.region ?_
                  refine SL.val rfl rfl (fun w9 F9 S9 s => R.mv rfl) ?_
                  refine SL.val rfl rfl (fun w9 F9 S9 s => R.add rfl rfl (by omega)) ?_
                  refine SL.val rfl rfl (fun w9 F9 S9 s => R.as rfl) ?_
                  refine SL.nil ?_
                  refine SN.be 31 rfl (show _ = Value.int .i64 ((dirtN M2 (j + 1)).length : Int) by rw [dirtN_succ, if_pos (by simpa using h14), List.length_append]; rfl) ?_
                  refine SN.block ?_
                  refine SN.seq ?_
                  refine SG.region ?_
                  refine SL.val rfl rfl (fun w9 F9 S9 s => R.add rfl rfl (by omega)) ?_
                  refine SL.val rfl rfl (fun w9 F9 S9 s => R.mv rfl) ?_
                  refine SL.nil ?_
                  exact SN.again (j + 1) (by show B - (j + 1) < B - j; omega) (Sub.cons rfl (Sub.cons rfl (Sub.cons rfl (Sub.cons rfl (Sub.cons rfl (Sub.cons rfl (Sub.cons rfl (Sub.cons rfl (Sub.cons rfl (Sub.cons rfl (Sub.cons rfl (Sub.cons rfl (Sub.nil _))))))))))))) ((Imp.sels (by repeat (first | exact Sels.nil | apply Sels.cons | exact Sel.keep | exact Sel.here | apply Sel.there)))) (by show j + 1 ≤ B; omega)
            · refine SG.be 31 rfl (show _ = Value.int .i64 ((dirtN M2 (j + 1)).length : Int) by rw [dirtN_succ, if_neg (by simpa using h14), List.append_nil]) ?_
              refine SG.skip ?_
              refine SN.block ?_
              refine SN.seq ?_
              refine SG.region ?_
              refine SL.val rfl rfl (fun w9 F9 S9 s => R.add rfl rfl (by omega)) ?_
              refine SL.val rfl rfl (fun w9 F9 S9 s => R.mv rfl) ?_
              refine SL.nil ?_
              exact SN.again (j + 1) (by show B - (j + 1) < B - j; omega) (Sub.cons rfl (Sub.cons rfl (Sub.cons rfl (Sub.cons rfl (Sub.cons rfl (Sub.cons rfl (Sub.cons rfl (Sub.cons rfl (Sub.cons rfl (Sub.cons rfl (Sub.cons rfl (Sub.cons rfl (Sub.nil _))))))))))))) ((Imp.sels (by repeat (first | exact Sels.nil | apply Sels.cons | exact Sel.keep | exact Sel.here | apply Sel.there)))) (by show j + 1 ≤ B; omega)
          · obtain rfl : j = B := by omega
            rw [show dirtN M2 j = dirtyL M2 from (dirtyL_range hK2).symm]
            refine SG.exit _ rfl ?_
            refine SN.seq ?_
            refine SG.seq ?_
            refine SG.draw [5, 12] [0, 1, 2, 3, 4, 7, 5, 6, 8, 9, 10, 11, 14, 15, 16, 12, 13, 17, 18] (by decide +kernel) rfl ?_
            refine SW.pure rfl rfl rfl rfl (fun w9 => R.mv rfl) ?_
            refine SW.pure rfl rfl rfl rfl (fun w9 => R.mv rfl) ?_
            refine SW.pure rfl rfl rfl rfl (fun w9 => R.neI rfl rfl) ?_
            refine SW.pure rfl rfl rfl rfl (fun w9 => R.mv rfl) ?_
            refine SW.isF 244 rfl (decide_eq_false (fun h => h rfl)) ?_
            refine SW.pure rfl rfl rfl rfl (fun w9 => R.mv rfl) ?_
            refine SW.pure rfl rfl rfl rfl (fun w9 => R.mv rfl) ?_
            refine SW.step rfl rfl rfl rfl (CS.call rfl go13 (pdirtyS p d 20 fr j v2 M2 (by omega)) (by repeat (first | exact Sels.nil | apply Sels.cons | exact Sel.keep | exact Sel.here | apply Sel.there))) ?_
            rintro _ _ ⟨_, ⟨a246, c246, rfl, rfl⟩, rfl⟩
            refine ⟨trivial, ?_⟩
            refine SW.n3 ?_
            refine SW.pure rfl rfl rfl rfl (fun w9 => R.lenS rfl) ?_
            refine SW.pure rfl rfl rfl rfl (fun w9 => R.neI rfl rfl) ?_
            first | refine SW.pure rfl rfl rfl rfl (fun w9 => R.pickT rfl rfl) ?_ | refine SW.pure rfl rfl rfl rfl (fun w9 => R.pickF rfl rfl) ?_
            refine SW.pure rfl rfl rfl rfl (fun w9 => R.mv rfl) ?_
            refine SW.isF 251 rfl (decide_eq_false (fun h => h rfl)) ?_
            refine SW.pure rfl rfl rfl rfl (fun w9 => R.mv rfl) ?_
            refine SW.pure rfl rfl rfl rfl (fun w9 => R.fld rfl) ?_
            refine SW.pure rfl rfl rfl rfl (fun w9 => R.fld rfl) ?_
            refine SW.read rfl rfl rfl rfl (fun w9 F9 S9 s => R.ldB (v := .string (str v2.stay)) rfl (s.cel (by repeat (first | exact SelB.blk | exact SelB.fz | apply SelB.there))) (by rfl)) ?_
            refine SW.step rfl rfl rfl rfl (CS.call rfl go14 (dimageS d v2 20) (by repeat (first | exact Sels.nil | apply Sels.cons | exact Sel.keep | exact Sel.here | apply Sel.there))) ?_
            rintro _ _ ⟨_, ⟨a253, c253, rfl, hc253, rfl⟩, rfl⟩
            refine ⟨⟨.inr (fun w9 F9 S9 s => R.ldB (v := .string (str v2.stay)) rfl (s.cel (by repeat (first | exact SelB.blk | exact SelB.fz | apply SelB.there))) (by rfl)), trivial⟩, ?_⟩
            refine SW.n2 ?_
            refine SW.read rfl rfl rfl rfl (fun w9 F9 S9 s => R.strB rfl (⟨s.ownC (show Sel _ (own 5 1 a253 v2.stay.length c253 (vbs v2.stay)) _ from (by repeat (first | exact Sel.keep | exact Sel.here | apply Sel.there))), rfl⟩ : Bs _ a253 v2.stay.length v2.stay)) ?_
            refine SW.pure rfl rfl rfl rfl (fun w9 => R.neStr rfl rfl) ?_
            first | refine SW.pure rfl rfl rfl rfl (fun w9 => R.pickT rfl rfl) ?_ | refine SW.pure rfl rfl rfl rfl (fun w9 => R.pickF rfl rfl) ?_
            refine SW.nil ?_
            refine SN.seq ?_
            refine SG.condP rfl (fun h16 => ?_) (fun h16 => ?_)
            · exact absurd rfl h16
            · refine SG.skip ?_
              refine SN.block ?_
              refine SN.seq ?_
              refine SG.region ?_
              refine SL.val rfl rfl (fun w9 F9 S9 s => R.add rfl rfl (by omega)) ?_
              refine SL.val rfl rfl (fun w9 F9 S9 s => R.mv rfl) ?_
              refine SL.nil ?_
              exact SN.again (⟨i + 1, M2, v2, wa2, wc2, ha2, hc2, da2, dc2⟩) (by show ln - (i + 1) < ln - i; omega) (Sub.cons rfl (Sub.cons rfl (Sub.cons rfl (Sub.cons rfl (Sub.cons rfl (Sub.cons rfl (Sub.nil _))))))) ((Imp.sels (by repeat (first | exact Sels.nil | apply Sels.cons | exact Sel.keep | exact Sel.here | apply Sel.there)))) (⟨⟨by show i + 1 ≤ ln; omega, by show i + 1 ≤ 50; omega⟩, hI2⟩)
  · refine SG.exit _ rfl ?_
    refine SN.seq ?_
    refine SG.seq ?_
    refine SG.region ?_
    refine SL.val rfl rfl (fun w9 F9 S9 s => R.as rfl) ?_
    refine SL.nil ?_
    refine SN.seq ?_
    exact SG.ret1 rfl rfl ((Imp.sels (by repeat (first | exact Sels.nil | apply Sels.cons | exact Sel.keep | exact Sel.here | apply Sel.there)))) (rfl)

end Go.Proofs.Ytmbppidafnakhaa
