/-
  Texts of this claim, put together.
-/
import Derived.ChangeKeysEq
import Derived.Test.YthdaelmjiaegfaaModPLz3
/-
  The walks of package model.
-/
set_option linter.unusedVariables false
set_option linter.unusedSimpArgs false
set_option maxRecDepth 4000
namespace Go.Proofs.Ythdaelmjiaegfaa
open Go Brv Brv.Image Brv.Model
set_option maxHeartbeats 2000000 in
theorem rbranch_ok (la : Option Addr) (ln lc : Nat) (l : List WasV) (fa : Option Addr) (fn fc : Nat) (f : List LeftV) (tt nn bl : Int) (tx nx ux : Int) (r : Option (List UInt8)) (hll0 : ln ≤ 100000) (hfl0 : fn ≤ 100000) (hr : AtR (exR l) (parR f) nx tx r) : SpecS Try.prog 19 [.agg #[.slice la ln lc, .slice fa fn fc, .int .i64 tt, .int .i64 nn, .int .i64 bl], .int .i64 tx, .int .i64 nx, .int .i64 ux] [sh (fun w => RefW w la ln l fa fn f)] (fun v H' => ∃ la' ln' lc' fa' fn' fc', v = .tuple #[.agg #[.slice la' ln' lc', .slice fa' fn' fc', .int .i64 (braL l f tt nn r tx nx ux).2.2.1, .int .i64 (braL l f tt nn r tx nx ux).2.2.2.1, .int .i64 bl], .int .i64 (braL l f tt nn r tx nx ux).2.2.2.2] ∧ H' = [sh (fun w => RefW w la' ln' (braL l f tt nn r tx nx ux).1 fa' fn' (braL l f tt nn r tx nx ux).2.1)]) := by
  refine SpecS.enter Try.func19 rfl 67 rfl (Nat.le_of_ble_eq_true rfl) (fun o => ?_)
  refine SG.fact (fun w9 F9 S9 s => tab_ln (s.sh (p := fun w => RefW w la ln l fa fn f) (by repeat (first | exact Sel.keep | exact Sel.here | apply Sel.there))).1) (fun hf9 => ?_)
  have hll := hf9; clear hf9
  refine SG.fact (fun w9 F9 S9 s => tab_ln (s.sh (p := fun w => RefW w la ln l fa fn f) (by repeat (first | exact Sel.keep | exact Sel.here | apply Sel.there))).2) (fun hf9 => ?_)
  have hfl := hf9; clear hf9
  refine SG.seq ?_
  refine SG.region ?_
  refine SL.step rfl rfl (CS.boxA rfl) ?_
  rintro _ _ ⟨b4, rfl, rfl⟩
  refine SL.step rfl rfl (CS.alloc [.slice none 0 0, .slice none 0 0, .int .i64 0, .int .i64 0, .int .i64 0] rfl) ?_
  rintro _ _ ⟨b8, rfl, rfl⟩
  refine SL.val rfl rfl (fun w9 F9 S9 s => R.as rfl) ?_
  refine SL.nil ?_
  refine SN.seq ?_
  refine SG.seq ?_
  rcases r with _ | d
  · refine SG.region ?_
    refine SL.val rfl rfl (fun w9 F9 S9 s => R.ldBN (cs := #[.slice la ln lc, .slice fa fn fc, .int .i64 tt, .int .i64 nn, .int .i64 bl]) rfl (s.cel (by repeat (first | exact SelB.blk | exact SelB.fz | apply SelB.there))) (by rfl)) ?_
    refine SL.val rfl rfl (fun w9 F9 S9 s => R.mv rfl) ?_
    refine SL.val rfl rfl (fun w9 F9 S9 s => R.mv rfl) ?_
    refine SL.step rfl rfl (CS.call rfl go21 (ratE la ln lc l fa fn fc f tt nn bl tx nx none (by omega) (by omega) hr) (by repeat (first | exact Sels.nil | apply Sels.cons | exact Sel.keep | exact Sel.here | apply Sel.there))) ?_
    rintro _ _ ⟨_, ⟨rfl, rfl⟩, rfl⟩
    refine SL.n0 ?_
    refine SL.val rfl rfl (fun w9 F9 S9 s => R.mv rfl) ?_
    refine SL.val rfl rfl (fun w9 F9 S9 s => R.ext rfl rfl) ?_
    refine SL.val rfl rfl (fun w9 F9 S9 s => R.ext rfl rfl) ?_
    refine SL.val rfl rfl (fun w9 F9 S9 s => R.as rfl) ?_
    refine SL.val rfl rfl (fun w9 F9 S9 s => R.as rfl) ?_
    refine SL.nil ?_
    refine SN.seq ?_
    refine SG.seq ?_
    refine SG.seq ?_
    refine SG.region ?_
    refine SL.val rfl rfl (fun w9 F9 S9 s => R.mv rfl) ?_
    refine SL.val rfl rfl (fun w9 F9 S9 s => R.not rfl) ?_
    refine SL.nil ?_
    refine SN.seq ?_
    refine SG.condT rfl ?_
    refine SG.seq ?_
    refine SG.region ?_
    refine SL.val rfl rfl (fun w9 F9 S9 s => R.ldBN (cs := #[.slice la ln lc, .slice fa fn fc, .int .i64 tt, .int .i64 nn, .int .i64 bl]) rfl (s.cel (by repeat (first | exact SelB.blk | exact SelB.fz | apply SelB.there))) (by rfl)) ?_
    refine SL.step0 rfl (CS.stA (vs := [.slice la ln lc, .slice fa fn fc, .int .i64 tt, .int .i64 nn, .int .i64 bl]) rfl rfl (by repeat (first | exact Sel.keep | exact Sel.here | apply Sel.there)) (by rfl) (by rfl) (by intro u hu; simp only [List.mem_cons, List.not_mem_nil, or_false] at hu; rcases hu with rfl | rfl | rfl | rfl | rfl <;> rfl)) ?_
    rintro _ _ rfl
    refine SL.val rfl rfl (fun w9 F9 S9 s => R.as rfl) ?_
    refine SL.nil ?_
    refine SN.seq ?_
    exact SG.retCT rfl rfl rfl (by repeat (first | exact Sel.keep | exact Sel.here | apply Sel.there)) (by rfl) ((Imp.sels (by repeat (first | exact Sels.nil | apply Sels.cons | exact Sel.keep | exact Sel.here | apply Sel.there)))) (pBra rfl rfl)
  · refine SG.region ?_
    refine SL.val rfl rfl (fun w9 F9 S9 s => R.ldBN (cs := #[.slice la ln lc, .slice fa fn fc, .int .i64 tt, .int .i64 nn, .int .i64 bl]) rfl (s.cel (by repeat (first | exact SelB.blk | exact SelB.fz | apply SelB.there))) (by rfl)) ?_
    refine SL.val rfl rfl (fun w9 F9 S9 s => R.mv rfl) ?_
    refine SL.val rfl rfl (fun w9 F9 S9 s => R.mv rfl) ?_
    refine SL.step rfl rfl (CS.call rfl go21 (ratE la ln lc l fa fn fc f tt nn bl tx nx (some d) (by omega) (by omega) hr) (by repeat (first | exact Sels.nil | apply Sels.cons | exact Sel.keep | exact Sel.here | apply Sel.there))) ?_
    rintro _ _ ⟨_, ⟨rfl, rfl⟩, rfl⟩
    refine SL.n0 ?_
    refine SL.val rfl rfl (fun w9 F9 S9 s => R.mv rfl) ?_
    refine SL.val rfl rfl (fun w9 F9 S9 s => R.ext rfl rfl) ?_
    refine SL.val rfl rfl (fun w9 F9 S9 s => R.ext rfl rfl) ?_
    refine SL.val rfl rfl (fun w9 F9 S9 s => R.as rfl) ?_
    refine SL.val rfl rfl (fun w9 F9 S9 s => R.as rfl) ?_
    refine SL.nil ?_
    refine SN.seq ?_
    refine SG.seq ?_
    refine SG.seq ?_
    refine SG.region ?_
    refine SL.val rfl rfl (fun w9 F9 S9 s => R.mv rfl) ?_
    refine SL.val rfl rfl (fun w9 F9 S9 s => R.not rfl) ?_
    refine SL.nil ?_
    refine SN.seq ?_
    refine SG.condF rfl ?_
    refine SG.skip ?_
    refine SN.seq ?_
    refine SG.seq ?_
    refine SG.seq ?_
    refine SG.region ?_
    refine SL.val rfl rfl (fun w9 F9 S9 s => R.fld rfl) ?_
    refine SL.val rfl rfl (fun w9 F9 S9 s => R.ldB (v := .slice la ln lc) rfl (s.cel (by repeat (first | exact SelB.blk | exact SelB.fz | apply SelB.there))) (by rfl)) ?_
    refine SL.val rfl rfl (fun w9 F9 S9 s => R.lenS rfl) ?_
    refine SL.val rfl rfl (fun w9 F9 S9 s => R.mv rfl) ?_
    refine SL.nil ?_
    refine SN.seq ?_
    refine SG.block ?_
    refine SG.loop (X := Nat) (fun i => [(1, .int .i64 tx), (2, .int .i64 nx), (3, .int .i64 ux), (4, .pointer (some ⟨b4, 0, none⟩)), (8, .pointer (some ⟨b8, 0, none⟩)), (10, .string (str d)), (25, .slice la ln lc), (26, .int .i64 (ln : Int)), (27, .int .i64 (i : Int))]) (fun i => [blk b4 [.slice la ln lc, .slice fa fn fc, .int .i64 tt, .int .i64 nn, .int .i64 bl] 55, blk b8 [.slice none 0 0, .slice none 0 0, .int .i64 0, .int .i64 0, .int .i64 0] 55, sh (fun w => RefW w la ln l fa fn f)]) (fun i => i ≤ ln ∧ ∀ j y, j < i → l[j]? = some y → isT ux y = false) (fun i => ln - i) (0) (Sub.cons rfl (Sub.cons rfl (Sub.cons rfl (Sub.cons rfl (Sub.cons rfl (Sub.cons rfl (Sub.cons rfl (Sub.cons rfl (Sub.cons rfl (Sub.nil _)))))))))) ((Imp.sels (by repeat (first | exact Sels.nil | apply Sels.cons | exact Sel.keep | exact Sel.here | apply Sel.there)))) (⟨Nat.zero_le _, fun j y hj => by omega⟩) ?_
    rintro i ⟨hi, hall⟩
    show SG _ _ _ _ _ [(1, .int .i64 tx), (2, .int .i64 nx), (3, .int .i64 ux), (4, .pointer (some ⟨b4, 0, none⟩)), (8, .pointer (some ⟨b8, 0, none⟩)), (10, .string (str d)), (25, .slice la ln lc), (26, .int .i64 (ln : Int)), (27, .int .i64 (i : Int))] [blk b4 [.slice la ln lc, .slice fa fn fc, .int .i64 tt, .int .i64 nn, .int .i64 bl] 55, blk b8 [.slice none 0 0, .slice none 0 0, .int .i64 0, .int .i64 0, .int .i64 0] 55, sh (fun w => RefW w la ln l fa fn f)] _
    refine SG.seq ?_
    refine SG.region ?_
    refine SL.val rfl rfl (fun w9 F9 S9 s => R.lss rfl rfl) ?_
    refine SL.nil ?_
    refine SN.seq ?_
    refine SG.seq ?_
    refine SG.condP rfl (fun h1 => ?_) (fun h1 => ?_)
    · obtain ⟨x, hx⟩ : ∃ x, l[i]? = some x := ⟨_, List.getElem?_eq_getElem (by omega)⟩
      refine SG.fact (fun w9 F9 S9 s => tab_pt (s.sh (p := fun w => RefW w la ln l fa fn f) (by repeat (first | exact Sel.keep | exact Sel.here | apply Sel.there))).1 hx) (fun hf9 => ?_)
      obtain ⟨q, hq⟩ := hf9
      refine SG.skip ?_
      refine SN.seq ?_
      refine SG.seq ?_
      refine SG.block ?_
      refine SG.seq ?_
      refine SG.region ?_
      refine SL.val rfl rfl (fun w9 F9 S9 s => R.idx rfl rfl (by omega) (by omega) q hq) ?_
      refine SL.val rfl rfl (fun w9 F9 S9 s => R.ldN (vs := WasV.cells x) rfl (tab_ld (s.sh (p := fun w => RefW w la ln l fa fn f) (by repeat (first | exact Sel.keep | exact Sel.here | apply Sel.there))).1 hq hx) rfl) ?_
      refine SL.step rfl rfl (CS.alloc [.int .i64 0, .int .i64 0, .string ByteArray.empty] rfl) ?_
      rintro _ _ ⟨b13, rfl, rfl⟩
      refine SL.step0 rfl (CS.stA (vs := WasV.cells x) rfl rfl (by repeat (first | exact Sel.keep | exact Sel.here | apply Sel.there)) (by rfl) (by rfl) (WasV.one x)) ?_
      rintro _ _ rfl
      refine SL.nil ?_
      refine SN.seq ?_
      refine SG.seq ?_
      refine SG.region ?_
      refine SL.val rfl rfl (fun w9 F9 S9 s => R.fld rfl) ?_
      refine SL.val rfl rfl (fun w9 F9 S9 s => R.ldB (v := .int .i64 x.t) rfl (s.cel (by repeat (first | exact SelB.blk | exact SelB.fz | apply SelB.there))) (by rfl)) ?_
      refine SL.val rfl rfl (fun w9 F9 S9 s => R.mv rfl) ?_
      refine SL.val rfl rfl (fun w9 F9 S9 s => R.eqI rfl rfl) ?_
      refine SL.nil ?_
      refine SN.seq ?_
      refine SG.condP rfl (fun h2 => ?_) (fun h2 => ?_)
      · refine SG.seq ?_
        refine SG.region ?_
        refine SL.val rfl rfl (fun w9 F9 S9 s => R.ldBN (cs := #[.slice la ln lc, .slice fa fn fc, .int .i64 tt, .int .i64 nn, .int .i64 bl]) rfl (s.cel (by repeat (first | exact SelB.blk | exact SelB.fz | apply SelB.there))) (by rfl)) ?_
        refine SL.step0 rfl (CS.stA (vs := [.slice la ln lc, .slice fa fn fc, .int .i64 tt, .int .i64 nn, .int .i64 bl]) rfl rfl (by repeat (first | exact Sel.keep | exact Sel.here | apply Sel.there)) (by rfl) (by rfl) (by intro u hu; simp only [List.mem_cons, List.not_mem_nil, or_false] at hu; rcases hu with rfl | rfl | rfl | rfl | rfl <;> rfl)) ?_
        rintro _ _ rfl
        refine SL.val rfl rfl (fun w9 F9 S9 s => R.as rfl) ?_
        refine SL.nil ?_
        refine SN.seq ?_
        exact SG.retCT rfl rfl rfl (by repeat (first | exact Sel.keep | exact Sel.here | apply Sel.there)) (by rfl) ((Imp.sels (by repeat (first | exact Sels.nil | apply Sels.cons | exact Sel.keep | exact Sel.here | apply Sel.there)))) (pBra (by unfold braL; exact if_pos (.inl (hasR_at hx h2 hall))) rfl)
      · refine SG.skip ?_
        refine SN.block ?_
        refine SN.seq ?_
        refine SG.region ?_
        refine SL.val rfl rfl (fun w9 F9 S9 s => R.add rfl rfl (by omega)) ?_
        refine SL.val rfl rfl (fun w9 F9 S9 s => R.mv rfl) ?_
        refine SL.nil ?_
        exact SN.again (i + 1) (by show ln - (i + 1) < ln - i; omega) (Sub.cons rfl (Sub.cons rfl (Sub.cons rfl (Sub.cons rfl (Sub.cons rfl (Sub.cons rfl (Sub.cons rfl (Sub.cons rfl (Sub.cons rfl (Sub.nil _)))))))))) ((Imp.sels (by repeat (first | exact Sels.nil | apply Sels.cons | exact Sel.keep | exact Sel.here | apply Sel.there)))) (⟨by show i + 1 ≤ ln; omega, no_succ hall hx (by simp [isT]; omega)⟩)
    · obtain rfl : ln = i := by omega
      have hhr : hasR l ux = false := hasR_no (by rw [← hll]; exact hall)
      refine SG.exit _ rfl ?_
      refine SN.seq ?_
      refine SG.seq ?_
      refine SG.seq ?_
      refine SG.region ?_
      refine SL.val rfl rfl (fun w9 F9 S9 s => R.mv rfl) ?_
      refine SL.val rfl rfl (fun w9 F9 S9 s => R.lss rfl rfl) ?_
      refine SL.nil ?_
      refine SN.seq ?_
      refine SG.condP rfl (fun h3 => ?_) (fun h3 => ?_)
      · refine SG.seq ?_
        refine SG.region ?_
        refine SL.val rfl rfl (fun w9 F9 S9 s => R.ldBN (cs := #[.slice la ln lc, .slice fa fn fc, .int .i64 tt, .int .i64 nn, .int .i64 bl]) rfl (s.cel (by repeat (first | exact SelB.blk | exact SelB.fz | apply SelB.there))) (by rfl)) ?_
        refine SL.step0 rfl (CS.stA (vs := [.slice la ln lc, .slice fa fn fc, .int .i64 tt, .int .i64 nn, .int .i64 bl]) rfl rfl (by repeat (first | exact Sel.keep | exact Sel.here | apply Sel.there)) (by rfl) (by rfl) (by intro u hu; simp only [List.mem_cons, List.not_mem_nil, or_false] at hu; rcases hu with rfl | rfl | rfl | rfl | rfl <;> rfl)) ?_
        rintro _ _ rfl
        refine SL.val rfl rfl (fun w9 F9 S9 s => R.as rfl) ?_
        refine SL.nil ?_
        refine SN.seq ?_
        exact SG.retCT rfl rfl rfl (by repeat (first | exact Sel.keep | exact Sel.here | apply Sel.there)) (by rfl) ((Imp.sels (by repeat (first | exact Sels.nil | apply Sels.cons | exact Sel.keep | exact Sel.here | apply Sel.there)))) (pBra (by unfold braL; exact if_pos (.inr h3)) rfl)
      · refine SG.skip ?_
        refine SN.seq ?_
        refine SG.seq ?_
        refine SG.fact (fun w9 F9 S9 s => flat_len (s.sh (p := fun w => RefW w la ln l fa fn f) (by repeat (first | exact Sel.keep | exact Sel.here | apply Sel.there))).1) (fun hf9 => ?_)
        have hfw := hf9; clear hf9
        refine SG.fact (fun w9 F9 S9 s => flat_len (s.sh (p := fun w => RefW w la ln l fa fn f) (by repeat (first | exact Sel.keep | exact Sel.here | apply Sel.there))).2) (fun hf9 => ?_)
        have hff := hf9; clear hf9
        refine SG.region ?_
        refine SL.step rfl rfl (CS.buildA rfl rfl rfl rfl rfl [] rfl) ?_
        rintro _ _ ⟨b40, rfl, rfl⟩
        refine SL.val rfl rfl (fun w9 F9 S9 s => R.fld rfl) ?_
        refine SL.val rfl rfl (fun w9 F9 S9 s => R.ldB (v := .slice la ln lc) rfl (s.cel (by repeat (first | exact SelB.blk | exact SelB.fz | apply SelB.there))) (by rfl)) ?_
        refine SL.step rfl rfl (CS.imp (Imp.ownBlk (size := 3) (k := 0) (show Sel _ (blk b40 [] 109) _ from (by repeat (first | exact Sel.keep | exact Sel.here | apply Sel.there))) rfl (Nat.zero_le _)) (CS.app rfl rfl (by repeat (first | exact Sel.keep | exact Sel.here | apply Sel.there)) (fun w9 F9 S9 s => (s.sh (p := fun w => RefW w la ln l fa fn f) (by repeat (first | exact Sel.keep | exact Sel.here | apply Sel.there))).1.cells) hfw (flat_one WasV.one l) (by simp [maxLen]; omega) (by omega))) ?_
        rintro _ _ ⟨a43, c43, rfl, rfl⟩
        refine SL.val rfl rfl (fun w9 F9 S9 s => R.mv rfl) ?_
        refine SL.val rfl rfl (fun w9 F9 S9 s => R.mv rfl) ?_
        refine SL.val rfl rfl (fun w9 F9 S9 s => R.mv rfl) ?_
        refine SL.val rfl rfl (fun w9 F9 S9 s => R.buildN (l := WasV.cells (⟨ux, nx, d⟩ : WasV)) rfl rfl) ?_
        refine SL.step rfl rfl (CS.buildA rfl rfl rfl rfl rfl (WasV.cells (⟨ux, nx, d⟩ : WasV)) rfl) ?_
        rintro _ _ ⟨b48, rfl, rfl⟩
        refine SL.step rfl rfl (CS.app rfl rfl (show Sel _ (own 109 3 a43 (0 + ln) c43 ([] ++ (l.map WasV.cells).flatten)) _ from (by repeat (first | exact Sel.keep | exact Sel.here | apply Sel.there))) (fun w9 F9 S9 s => s.blkC (show Sel _ (blk b48 (WasV.cells (⟨ux, nx, d⟩ : WasV)) _) _ from (by repeat (first | exact Sel.keep | exact Sel.here | apply Sel.there)))) rfl (WasV.one (⟨ux, nx, d⟩ : WasV)) (by simp [maxLen]; omega) (by omega)) ?_
        rintro _ _ ⟨a49, c49, rfl, rfl⟩
        refine SL.val rfl rfl (fun w9 F9 S9 s => R.fld rfl) ?_
        refine SL.step0 rfl (CS.st rfl rfl (show Sel _ (blk b4 _ _) _ from (by repeat (first | exact Sel.keep | exact Sel.here | apply Sel.there))) (by repeat (first | exact SetAt.here | apply SetAt.there)) rfl) ?_
        rintro _ _ rfl
        refine SL.nil ?_
        refine SN.seq ?_
        refine SG.seq ?_
        refine SG.region ?_
        refine SL.step rfl rfl (CS.buildA rfl rfl rfl rfl rfl [] rfl) ?_
        rintro _ _ ⟨b51, rfl, rfl⟩
        refine SL.val rfl rfl (fun w9 F9 S9 s => R.fld rfl) ?_
        refine SL.val rfl rfl (fun w9 F9 S9 s => R.ldB (v := .slice fa fn fc) rfl (s.cel (by repeat (first | exact SelB.blk | exact SelB.fz | apply SelB.there))) (by rfl)) ?_
        refine SL.step rfl rfl (CS.imp (Imp.ownBlk (size := 3) (k := 0) (show Sel _ (blk b51 [] 113) _ from (by repeat (first | exact Sel.keep | exact Sel.here | apply Sel.there))) rfl (Nat.zero_le _)) (CS.app rfl rfl (by repeat (first | exact Sel.keep | exact Sel.here | apply Sel.there)) (fun w9 F9 S9 s => (s.sh (p := fun w => RefW w la ln l fa fn f) (by repeat (first | exact Sel.keep | exact Sel.here | apply Sel.there))).2.cells) hff (flat_one LeftV.one f) (by simp [maxLen]; omega) (by omega))) ?_
        rintro _ _ ⟨a54, c54, rfl, rfl⟩
        refine SL.val rfl rfl (fun w9 F9 S9 s => R.mv rfl) ?_
        refine SL.val rfl rfl (fun w9 F9 S9 s => R.mv rfl) ?_
        refine SL.val rfl rfl (fun w9 F9 S9 s => R.mv rfl) ?_
        refine SL.val rfl rfl (fun w9 F9 S9 s => R.buildN (l := LeftV.cells (⟨ux, tx, nx⟩ : LeftV)) rfl rfl) ?_
        refine SL.step rfl rfl (CS.buildA rfl rfl rfl rfl rfl (LeftV.cells (⟨ux, tx, nx⟩ : LeftV)) rfl) ?_
        rintro _ _ ⟨b59, rfl, rfl⟩
        refine SL.step rfl rfl (CS.app rfl rfl (show Sel _ (own 113 3 a54 (0 + fn) c54 ([] ++ (f.map LeftV.cells).flatten)) _ from (by repeat (first | exact Sel.keep | exact Sel.here | apply Sel.there))) (fun w9 F9 S9 s => s.blkC (show Sel _ (blk b59 (LeftV.cells (⟨ux, tx, nx⟩ : LeftV)) _) _ from (by repeat (first | exact Sel.keep | exact Sel.here | apply Sel.there)))) rfl (LeftV.one (⟨ux, tx, nx⟩ : LeftV)) (by simp [maxLen]; omega) (by omega)) ?_
        rintro _ _ ⟨a60, c60, rfl, rfl⟩
        refine SL.val rfl rfl (fun w9 F9 S9 s => R.fld rfl) ?_
        refine SL.step0 rfl (CS.st rfl rfl (show Sel _ (blk b4 _ _) _ from (by repeat (first | exact Sel.keep | exact Sel.here | apply Sel.there))) (by repeat (first | exact SetAt.here | apply SetAt.there)) rfl) ?_
        rintro _ _ rfl
        refine SL.nil ?_
        refine SN.seq ?_
        refine SG.seq ?_
        refine SG.region ?_
        refine SL.val rfl rfl (fun w9 F9 S9 s => R.mv rfl) ?_
        refine SL.val rfl rfl (fun w9 F9 S9 s => R.fld rfl) ?_
        refine SL.step0 rfl (CS.st rfl rfl (show Sel _ (blk b4 _ _) _ from (by repeat (first | exact Sel.keep | exact Sel.here | apply Sel.there))) (by repeat (first | exact SetAt.here | apply SetAt.there)) rfl) ?_
        rintro _ _ rfl
        refine SL.nil ?_
        refine SN.seq ?_
        refine SG.seq ?_
        refine SG.region ?_
        refine SL.val rfl rfl (fun w9 F9 S9 s => R.mv rfl) ?_
        refine SL.val rfl rfl (fun w9 F9 S9 s => R.fld rfl) ?_
        refine SL.step0 rfl (CS.st rfl rfl (show Sel _ (blk b4 _ _) _ from (by repeat (first | exact Sel.keep | exact Sel.here | apply Sel.there))) (by repeat (first | exact SetAt.here | apply SetAt.there)) rfl) ?_
        rintro _ _ rfl
        refine SL.nil ?_
        refine SN.seq ?_
        refine SG.seq ?_
        refine SG.region ?_
        refine SL.val rfl rfl (fun w9 F9 S9 s => R.ldBN (cs := #[.slice a49 (0 + ln + 1) c49, .slice a60 (0 + fn + 1) c60, .int .i64 ux, .int .i64 nx, .int .i64 bl]) rfl (s.cel (by repeat (first | exact SelB.blk | exact SelB.fz | apply SelB.there))) (by rfl)) ?_
        refine SL.step0 rfl (CS.stA (vs := [.slice a49 (0 + ln + 1) c49, .slice a60 (0 + fn + 1) c60, .int .i64 ux, .int .i64 nx, .int .i64 bl]) rfl rfl (by repeat (first | exact Sel.keep | exact Sel.here | apply Sel.there)) (by rfl) (by rfl) (by intro u hu; simp only [List.mem_cons, List.not_mem_nil, or_false] at hu; rcases hu with rfl | rfl | rfl | rfl | rfl <;> rfl)) ?_
        rintro _ _ rfl
        refine SL.val rfl rfl (fun w9 F9 S9 s => R.as rfl) ?_
        refine SL.nil ?_
        refine SN.imp (Imp.ownSh (show Sel _ (own 109 3 a49 (0 + ln + 1) c49 ([] ++ (l.map WasV.cells).flatten ++ WasV.cells (⟨ux, nx, d⟩ : WasV))) _ from (by repeat (first | exact Sel.keep | exact Sel.here | apply Sel.there))) (p := fun w => Cells w a49 ([] ++ (l.map WasV.cells).flatten ++ WasV.cells (⟨ux, nx, d⟩ : WasV))) (fun w h => h)) ?_
        refine SN.imp (Imp.ownSh (show Sel _ (own 113 3 a60 (0 + fn + 1) c60 ([] ++ (f.map LeftV.cells).flatten ++ LeftV.cells (⟨ux, tx, nx⟩ : LeftV))) _ from (by repeat (first | exact Sel.keep | exact Sel.here | apply Sel.there))) (p := fun w => Cells w a60 ([] ++ (f.map LeftV.cells).flatten ++ LeftV.cells (⟨ux, tx, nx⟩ : LeftV))) (fun w h => h)) ?_
        refine SN.imp (Imp.both (p := fun w => Cells w a49 ([] ++ (l.map WasV.cells).flatten ++ WasV.cells (⟨ux, nx, d⟩ : WasV))) (q := fun w => Cells w a60 ([] ++ (f.map LeftV.cells).flatten ++ LeftV.cells (⟨ux, tx, nx⟩ : LeftV))) (by repeat (first | exact Sel.keep | exact Sel.here | apply Sel.there)) (by repeat (first | exact Sel.keep | exact Sel.here | apply Sel.there))) ?_
        refine SN.imp (Imp.both (p := fun w => RefW w la ln l fa fn f) (q := fun w => Cells w a49 ([] ++ (l.map WasV.cells).flatten ++ WasV.cells (⟨ux, nx, d⟩ : WasV)) ∧ Cells w a60 ([] ++ (f.map LeftV.cells).flatten ++ LeftV.cells (⟨ux, tx, nx⟩ : LeftV))) (by repeat (first | exact Sel.keep | exact Sel.here | apply Sel.there)) (by repeat (first | exact Sel.keep | exact Sel.here | apply Sel.there))) ?_
        refine SN.imp (Imp.weak (p := fun w => RefW w la ln l fa fn f ∧ Cells w a49 ([] ++ (l.map WasV.cells).flatten ++ WasV.cells (⟨ux, nx, d⟩ : WasV)) ∧ Cells w a60 ([] ++ (f.map LeftV.cells).flatten ++ LeftV.cells (⟨ux, tx, nx⟩ : LeftV))) (q := fun w => RefW w a49 (0 + ln + 1) (l ++ [(⟨ux, nx, d⟩ : WasV)]) a60 (0 + fn + 1) (f ++ [(⟨ux, tx, nx⟩ : LeftV)])) (by repeat (first | exact Sel.keep | exact Sel.here | apply Sel.there)) (fun w hw => ⟨tab_snoc hw.1.1 rfl hw.2.1 (by omega), tab_snoc hw.1.2 rfl hw.2.2 (by omega)⟩)) ?_
        refine SN.seq ?_
        exact SG.retCT rfl rfl rfl (by repeat (first | exact Sel.keep | exact Sel.here | apply Sel.there)) (by rfl) ((Imp.sels (by repeat (first | exact Sels.nil | apply Sels.cons | exact Sel.keep | exact Sel.here | apply Sel.there)))) (pBra (by unfold braL; exact if_neg (fun h => h.elim (fun h => by rw [hhr] at h; cases h) h3)) rfl)

theorem rjump_ok (la : Option Addr) (ln lc : Nat) (l : List WasV) (fa : Option Addr) (fn fc : Nat) (f : List LeftV) (tt nn bl : Int) (tx nx : Int) (hll0 : ln ≤ 100000) : SpecS Try.prog 20 [.agg #[.slice la ln lc, .slice fa fn fc, .int .i64 tt, .int .i64 nn, .int .i64 bl], .int .i64 tx, .int .i64 nx] [sh (fun w => RefW w la ln l fa fn f)] (fun v H' => v = .tuple #[.agg #[.slice la ln lc, .slice fa fn fc, .int .i64 (jumL l tt nn tx nx).1, .int .i64 (jumL l tt nn tx nx).2.1, .int .i64 bl], .int .i64 (jumL l tt nn tx nx).2.2] ∧ H' = []) := by
  refine SpecS.enter Try.func20 rfl 25 rfl (Nat.le_of_ble_eq_true rfl) (fun o => ?_)
  refine SG.fact (fun w9 F9 S9 s => tab_ln (s.sh (p := fun w => RefW w la ln l fa fn f) (by repeat (first | exact Sel.keep | exact Sel.here | apply Sel.there))).1) (fun hf9 => ?_)
  have hll := hf9; clear hf9
  refine SG.fact (fun w9 F9 S9 s => tab_ln (s.sh (p := fun w => RefW w la ln l fa fn f) (by repeat (first | exact Sel.keep | exact Sel.here | apply Sel.there))).2) (fun hf9 => ?_)
  have hfl := hf9; clear hf9
  refine SG.seq ?_
  refine SG.region ?_
  refine SL.step rfl rfl (CS.boxA rfl) ?_
  rintro _ _ ⟨b3, rfl, rfl⟩
  refine SL.step rfl rfl (CS.alloc [.slice none 0 0, .slice none 0 0, .int .i64 0, .int .i64 0, .int .i64 0] rfl) ?_
  rintro _ _ ⟨b6, rfl, rfl⟩
  refine SL.val rfl rfl (fun w9 F9 S9 s => R.as rfl) ?_
  refine SL.nil ?_
  refine SN.seq ?_
  refine SG.seq ?_
  refine SG.seq ?_
  refine SG.region ?_
  refine SL.val rfl rfl (fun w9 F9 S9 s => R.ldBN (cs := #[.slice la ln lc, .slice fa fn fc, .int .i64 tt, .int .i64 nn, .int .i64 bl]) rfl (s.cel (by repeat (first | exact SelB.blk | exact SelB.fz | apply SelB.there))) (by rfl)) ?_
  refine SL.val rfl rfl (fun w9 F9 S9 s => R.mv rfl) ?_
  refine SL.val rfl rfl (fun w9 F9 S9 s => R.mv rfl) ?_
  refine SL.step rfl rfl (CS.call rfl go24 (rexact_ok la ln lc l fa fn fc f tt nn bl tx nx (by omega)) (by repeat (first | exact Sels.nil | apply Sels.cons | exact Sel.keep | exact Sel.here | apply Sel.there))) ?_
  rintro _ _ ⟨_, ⟨rfl, rfl⟩, rfl⟩
  refine SL.n0 ?_
  refine SL.val rfl rfl (fun w9 F9 S9 s => R.mv rfl) ?_
  refine SL.val rfl rfl (fun w9 F9 S9 s => R.ext rfl rfl) ?_
  refine SL.val rfl rfl (fun w9 F9 S9 s => R.ext rfl rfl) ?_
  refine SL.val rfl rfl (fun w9 F9 S9 s => R.as rfl) ?_
  refine SL.val rfl rfl (fun w9 F9 S9 s => R.as rfl) ?_
  refine SL.nil ?_
  refine SN.seq ?_
  refine SG.seq ?_
  refine SG.region ?_
  refine SL.val rfl rfl (fun w9 F9 S9 s => R.mv rfl) ?_
  refine SL.val rfl rfl (fun w9 F9 S9 s => R.not rfl) ?_
  refine SL.nil ?_
  refine SN.seq ?_
  refine SG.condB rfl (fun h0 => ?_) (fun h0 => ?_)
  · refine SG.seq ?_
    refine SG.region ?_
    refine SL.val rfl rfl (fun w9 F9 S9 s => R.ldBN (cs := #[.slice la ln lc, .slice fa fn fc, .int .i64 tt, .int .i64 nn, .int .i64 bl]) rfl (s.cel (by repeat (first | exact SelB.blk | exact SelB.fz | apply SelB.there))) (by rfl)) ?_
    refine SL.step0 rfl (CS.stA (vs := [.slice la ln lc, .slice fa fn fc, .int .i64 tt, .int .i64 nn, .int .i64 bl]) rfl rfl (by repeat (first | exact Sel.keep | exact Sel.here | apply Sel.there)) (by rfl) (by rfl) (by intro u hu; simp only [List.mem_cons, List.not_mem_nil, or_false] at hu; rcases hu with rfl | rfl | rfl | rfl | rfl <;> rfl)) ?_
    rintro _ _ rfl
    refine SL.val rfl rfl (fun w9 F9 S9 s => R.as rfl) ?_
    refine SL.nil ?_
    refine SN.seq ?_
    exact SG.retCT rfl rfl rfl (by repeat (first | exact Sel.keep | exact Sel.here | apply Sel.there)) (by rfl) (Imp.sels Sels.nil) (pJum (by unfold jumL; rw [if_neg (by simpa using h0)]) rfl)
  · refine SG.skip ?_
    refine SN.seq ?_
    refine SG.seq ?_
    refine SG.region ?_
    refine SL.val rfl rfl (fun w9 F9 S9 s => R.mv rfl) ?_
    refine SL.val rfl rfl (fun w9 F9 S9 s => R.fld rfl) ?_
    refine SL.step0 rfl (CS.st rfl rfl (show Sel _ (blk b3 _ _) _ from (by repeat (first | exact Sel.keep | exact Sel.here | apply Sel.there))) (by repeat (first | exact SetAt.here | apply SetAt.there)) rfl) ?_
    rintro _ _ rfl
    refine SL.nil ?_
    refine SN.seq ?_
    refine SG.seq ?_
    refine SG.region ?_
    refine SL.val rfl rfl (fun w9 F9 S9 s => R.mv rfl) ?_
    refine SL.val rfl rfl (fun w9 F9 S9 s => R.fld rfl) ?_
    refine SL.step0 rfl (CS.st rfl rfl (show Sel _ (blk b3 _ _) _ from (by repeat (first | exact Sel.keep | exact Sel.here | apply Sel.there))) (by repeat (first | exact SetAt.here | apply SetAt.there)) rfl) ?_
    rintro _ _ rfl
    refine SL.nil ?_
    refine SN.seq ?_
    refine SG.seq ?_
    refine SG.region ?_
    refine SL.val rfl rfl (fun w9 F9 S9 s => R.ldBN (cs := #[.slice la ln lc, .slice fa fn fc, .int .i64 tx, .int .i64 nx, .int .i64 bl]) rfl (s.cel (by repeat (first | exact SelB.blk | exact SelB.fz | apply SelB.there))) (by rfl)) ?_
    refine SL.step0 rfl (CS.stA (vs := [.slice la ln lc, .slice fa fn fc, .int .i64 tx, .int .i64 nx, .int .i64 bl]) rfl rfl (by repeat (first | exact Sel.keep | exact Sel.here | apply Sel.there)) (by rfl) (by rfl) (by intro u hu; simp only [List.mem_cons, List.not_mem_nil, or_false] at hu; rcases hu with rfl | rfl | rfl | rfl | rfl <;> rfl)) ?_
    rintro _ _ rfl
    refine SL.val rfl rfl (fun w9 F9 S9 s => R.as rfl) ?_
    refine SL.nil ?_
    refine SN.seq ?_
    exact SG.retCT rfl rfl rfl (by repeat (first | exact Sel.keep | exact Sel.here | apply Sel.there)) (by rfl) (Imp.sels Sels.nil) (pJum (by unfold jumL; rw [if_pos (by simpa using h0)]) rfl)

end Go.Proofs.Ythdaelmjiaegfaa
/-
  The walks of package model.
-/
set_option linter.unusedVariables false
set_option linter.unusedSimpArgs false
set_option maxRecDepth 4000
namespace Go.Proofs.Ythdaelmjiaegfaa
open Go Brv Brv.Image Brv.Model
def prC (p : Int × Int) : List Value := [.int .i64 p.1, .int .i64 p.2]
def prCs (l : List (Int × Int)) : List Value := (l.map prC).flatten
theorem prC_one (p : Int × Int) : ∀ u ∈ prC p, u.oneCell' = true := by
  intro u hu
  simp only [prC, List.mem_cons, List.not_mem_nil, or_false] at hu
  rcases hu with rfl | rfl <;> rfl
theorem prCs_succ {l : List (Int × Int)} {i : Nat} {q : Int × Int} (h : l[i]? = some q) : prCs (l.take (i + 1)) = prCs (l.take i) ++ prC q := by
  unfold prCs
  rw [List.take_add_one, h]; simp
theorem prCs_at {l : List (Int × Int)} {i j : Nat} {q : Int × Int} (h : l[i]? = some q) (hj : j < i) {p : Int × Int} (hp : l[j]? = some p) : (prCs (l.take i))[j * 2]? = some (.int .i64 p.1) ∧ (prCs (l.take i))[j * 2 + 1]? = some (.int .i64 p.2) := by
  have hl : (l.take i)[j]? = some p := by rw [List.getElem?_take, if_pos hj]; exact hp
  generalize l.take i = m at hl
  clear h hj hp
  unfold prCs
  induction m generalizing j with
  | nil => cases hl
  | cons x m ih =>
    cases j with
    | zero => cases hl; exact ⟨rfl, rfl⟩
    | succ j =>
      have := ih (j := j) hl
      rw [List.map_cons, List.flatten_cons]
      rw [show (j + 1) * 2 = (prC x).length + j * 2 by simp [prC]; omega, List.getElem?_append_right (by omega), show (prC x).length + j * 2 - (prC x).length = j * 2 by omega, show (prC x).length + j * 2 + 1 = (prC x).length + (j * 2 + 1) by omega, List.getElem?_append_right (by omega), show (prC x).length + (j * 2 + 1) - (prC x).length = j * 2 + 1 by omega]
      exact this
theorem own_pr {w : World} {g i : Nat} {P : List (Int × Int)} {q p : Int × Int} (h : Cells w (some ⟨g, 0, none⟩) (prCs (P.take i))) (hi : 0 < i) (hq : P[i - 1]? = some q) : w.cell? ⟨g, (i - 1) * 2, none⟩ = some (.int .i64 q.1) ∧ w.cell? ⟨g, (i - 1) * 2 + 1, none⟩ = some (.int .i64 q.2) := by
  have hat : (prCs (P.take i))[(i - 1) * 2]? = some (.int .i64 q.1) ∧ (prCs (P.take i))[(i - 1) * 2 + 1]? = some (.int .i64 q.2) := by
    have hl : (P.take i)[i - 1]? = some q := by rw [List.getElem?_take, if_pos (by omega)]; exact hq
    have := prCs_at (l := P.take i ++ [q]) (i := (P.take i).length) (j := i - 1) (q := q) (by simp) (List.getElem?_eq_some_iff.1 hl).1 (p := q) (by rw [List.getElem?_append_left (List.getElem?_eq_some_iff.1 hl).1]; exact hl)
    rwa [List.take_append_of_le_length (Nat.le_refl _), List.take_length] at this
  have h1 := h.load hat.1
  have h2 := h.load hat.2
  simp only [Go.Addr.add_lit, Nat.zero_add] at h1 h2
  exact ⟨h1, h2⟩
structure PrS where
  i : Nat
  a : Option Addr
  c : Nat
structure PbS where
  j : Nat
  s : Option (Int × Int)
theorem mpr_at {l : List WasV} {j : Nat} {x : WasV} (h : l[j]? = some x) : (l.map WasV.pr).take (j + 1) = (l.map WasV.pr).take j ++ [(x.t, x.n)] := by
  rw [List.take_add_one, List.getElem?_map, h]; rfl
theorem bh_none {i : Nat} {P : List (Int × Int)} {p : Int × Int} (h : i = 0) : behind (lastP P i) p := by
  unfold lastP; rw [if_pos h]; trivial
theorem bh_some {i : Nat} {P : List (Int × Int)} {p q : Int × Int} (h : i ≠ 0) (hq : P[i - 1]? = some q) : behind (lastP P i) p ↔ prLt q p := by
  unfold lastP; rw [if_neg h, hq]; exact Iff.rfl

set_option maxHeartbeats 2000000 in
theorem rpairs_ok (la : Option Addr) (ln lc : Nat) (l : List WasV) (fa : Option Addr) (fn fc : Nat) (f : List LeftV) (tt nn bl : Int) (P : List (Int × Int)) (hsP : P.Pairwise prLt) (hmP : ∀ p, p ∈ P ↔ p ∈ l.map WasV.pr) (hlen : ln = P.length) (hll0 : ln ≤ 100000) : SpecS Try.prog 26 [.agg #[.slice la ln lc, .slice fa fn fc, .int .i64 tt, .int .i64 nn, .int .i64 bl]] [sh (fun w => RefW w la ln l fa fn f)] (fun v H' => ∃ a c, v = .slice a ln c ∧ H' = [own 73 2 a ln c (prCs P)]) := by
  refine SpecS.enter Try.func26 rfl 101 rfl (Nat.le_of_ble_eq_true rfl) (fun o => ?_)
  refine SG.fact (fun w9 F9 S9 s => tab_ln (s.sh (p := fun w => RefW w la ln l fa fn f) (by repeat (first | exact Sel.keep | exact Sel.here | apply Sel.there))).1) (fun hf9 => ?_)
  have hll := hf9; clear hf9
  refine SG.fact (fun w9 F9 S9 s => tab_ln (s.sh (p := fun w => RefW w la ln l fa fn f) (by repeat (first | exact Sel.keep | exact Sel.here | apply Sel.there))).2) (fun hf9 => ?_)
  have hfl := hf9; clear hf9
  have hPl := hlen
  refine SG.seq ?_
  refine SG.region ?_
  refine SL.step rfl rfl (CS.boxA rfl) ?_
  rintro _ _ ⟨b1, rfl, rfl⟩
  refine SL.val rfl rfl (fun w9 F9 S9 s => R.as rfl) ?_
  refine SL.nil ?_
  refine SN.seq ?_
  refine SG.seq ?_
  refine SG.region ?_
  refine SL.val rfl rfl (fun w9 F9 S9 s => R.as rfl) ?_
  refine SL.nil ?_
  refine SN.seq ?_
  refine SG.seq ?_
  refine SG.seq ?_
  refine SG.region ?_
  refine SL.val rfl rfl (fun w9 F9 S9 s => R.fld rfl) ?_
  refine SL.val rfl rfl (fun w9 F9 S9 s => R.ldB (v := .slice la ln lc) rfl (s.cel (by repeat (first | exact SelB.blk | exact SelB.fz | apply SelB.there))) (by rfl)) ?_
  refine SL.val rfl rfl (fun w9 F9 S9 s => R.lenS rfl) ?_
  refine SL.val rfl rfl (fun w9 F9 S9 s => R.mv rfl) ?_
  refine SL.nil ?_
  refine SN.seq ?_
  refine SG.block ?_
  refine SG.imp (Imp.ownNil 73 2) ?_
  refine SG.loop (X := PrS) (fun y => [(1, .pointer (some ⟨b1, 0, none⟩)), (3, .slice y.a y.i y.c), (13, .int .i64 (ln : Int)), (14, .int .i64 (y.i : Int))]) (fun y => [own 73 2 y.a y.i y.c (prCs (P.take y.i)), blk b1 [.slice la ln lc, .slice fa fn fc, .int .i64 tt, .int .i64 nn, .int .i64 bl] 55, sh (fun w => RefW w la ln l fa fn f)]) (fun y => y.i ≤ ln) (fun y => ln - y.i) (⟨0, none, 0⟩) (Sub.cons rfl (Sub.cons rfl (Sub.cons rfl (Sub.cons rfl (Sub.nil _))))) ((Imp.sels (by repeat (first | exact Sels.nil | apply Sels.cons | exact Sel.keep | exact Sel.here | apply Sel.there)))) (Nat.zero_le _) ?_
  rintro ⟨i, a, c⟩ hi
  dsimp only at hi
  show SG _ _ _ _ _ [(1, .pointer (some ⟨b1, 0, none⟩)), (3, .slice a i c), (13, .int .i64 (ln : Int)), (14, .int .i64 (i : Int))] [own 73 2 a i c (prCs (P.take i)), blk b1 [.slice la ln lc, .slice fa fn fc, .int .i64 tt, .int .i64 nn, .int .i64 bl] 55, sh (fun w => RefW w la ln l fa fn f)] _
  refine SG.seq ?_
  refine SG.region ?_
  refine SL.val rfl rfl (fun w9 F9 S9 s => R.lss rfl rfl) ?_
  refine SL.nil ?_
  refine SN.seq ?_
  refine SG.seq ?_
  refine SG.condP rfl (fun h0 => ?_) (fun h0 => ?_)
  · obtain ⟨q, hq⟩ : ∃ q, P[i]? = some q := ⟨_, List.getElem?_eq_getElem (by omega)⟩
    refine SG.skip ?_
    refine SN.seq ?_
    refine SG.seq ?_
    refine SG.block ?_
    refine SG.seq ?_
    refine SG.region ?_
    refine SL.val rfl rfl (fun w9 F9 S9 s => R.buildN (l := prC (0, 0)) rfl rfl) ?_
    refine SL.step rfl rfl (CS.alloc [.int .i64 0, .int .i64 0] rfl) ?_
    rintro _ _ ⟨b4, rfl, rfl⟩
    refine SL.step0 rfl (CS.stA (vs := prC (0, 0)) rfl rfl (by repeat (first | exact Sel.keep | exact Sel.here | apply Sel.there)) (by rfl) (by rfl) (prC_one _)) ?_
    rintro _ _ rfl
    refine SL.nil ?_
    refine SN.seq ?_
    refine SG.seq ?_
    refine SG.region ?_
    refine SL.val rfl rfl (fun w9 F9 S9 s => R.as rfl) ?_
    refine SL.nil ?_
    refine SN.seq ?_
    refine SG.seq ?_
    refine SG.seq ?_
    refine SG.region ?_
    refine SL.val rfl rfl (fun w9 F9 S9 s => R.fld rfl) ?_
    refine SL.val rfl rfl (fun w9 F9 S9 s => R.ldB (v := .slice la ln lc) rfl (s.cel (by repeat (first | exact SelB.blk | exact SelB.fz | apply SelB.there))) (by rfl)) ?_
    refine SL.val rfl rfl (fun w9 F9 S9 s => R.lenS rfl) ?_
    refine SL.val rfl rfl (fun w9 F9 S9 s => R.mv rfl) ?_
    refine SL.nil ?_
    refine SN.seq ?_
    refine SG.block ?_
    refine SG.loop (X := PbS) (fun y => [(1, .pointer (some ⟨b1, 0, none⟩)), (3, .slice a i c), (13, .int .i64 (ln : Int)), (14, .int .i64 (i : Int)), (4, .pointer (some ⟨b4, 0, none⟩)), (5, .bool y.s.isSome), (18, .slice la ln lc), (19, .int .i64 (ln : Int)), (20, .int .i64 (y.j : Int))]) (fun y => [blk b4 (prC (y.s.getD (0, 0))) 73, own 73 2 a i c (prCs (P.take i)), blk b1 [.slice la ln lc, .slice fa fn fc, .int .i64 tt, .int .i64 nn, .int .i64 bl] 55, sh (fun w => RefW w la ln l fa fn f)]) (fun y => y.j ≤ ln ∧ y.s = foldB (lastP P i) ((l.map WasV.pr).take y.j)) (fun y => ln - y.j) (⟨0, none⟩) (Sub.cons rfl (Sub.cons rfl (Sub.cons rfl (Sub.cons rfl (Sub.cons rfl (Sub.cons rfl (Sub.cons rfl (Sub.cons rfl (Sub.cons rfl (Sub.nil _)))))))))) ((Imp.sels (by repeat (first | exact Sels.nil | apply Sels.cons | exact Sel.keep | exact Sel.here | apply Sel.there)))) (⟨Nat.zero_le _, rfl⟩) ?_
    rintro ⟨j, s⟩ ⟨hj, hs9⟩
    dsimp only at hj hs9
    show SG _ _ _ _ _ [(1, .pointer (some ⟨b1, 0, none⟩)), (3, .slice a i c), (13, .int .i64 (ln : Int)), (14, .int .i64 (i : Int)), (4, .pointer (some ⟨b4, 0, none⟩)), (5, .bool s.isSome), (18, .slice la ln lc), (19, .int .i64 (ln : Int)), (20, .int .i64 (j : Int))] [blk b4 (prC (s.getD (0, 0))) 73, own 73 2 a i c (prCs (P.take i)), blk b1 [.slice la ln lc, .slice fa fn fc, .int .i64 tt, .int .i64 nn, .int .i64 bl] 55, sh (fun w => RefW w la ln l fa fn f)] _
    refine SG.seq ?_
    refine SG.region ?_
    refine SL.val rfl rfl (fun w9 F9 S9 s => R.lss rfl rfl) ?_
    refine SL.nil ?_
    refine SN.seq ?_
    refine SG.seq ?_
    refine SG.condP rfl (fun h1 => ?_) (fun h1 => ?_)
    · obtain ⟨x, hx⟩ : ∃ x, l[j]? = some x := ⟨_, List.getElem?_eq_getElem (by omega)⟩
      refine SG.fact (fun w9 F9 S9 s => tab_pt (s.sh (p := fun w => RefW w la ln l fa fn f) (by repeat (first | exact Sel.keep | exact Sel.here | apply Sel.there))).1 hx) (fun hf9 => ?_)
      obtain ⟨q2, hq2⟩ := hf9
      refine SG.skip ?_
      refine SN.seq ?_
      refine SG.seq ?_
      refine SG.block ?_
      refine SG.seq ?_
      refine SG.region ?_
      refine SL.val rfl rfl (fun w9 F9 S9 s => R.idx rfl rfl (by omega) (by omega) q2 hq2) ?_
      refine SL.val rfl rfl (fun w9 F9 S9 s => R.ldN (vs := WasV.cells x) rfl (tab_ld (s.sh (p := fun w => RefW w la ln l fa fn f) (by repeat (first | exact Sel.keep | exact Sel.here | apply Sel.there))).1 hq2 hx) rfl) ?_
      refine SL.step rfl rfl (CS.alloc [.int .i64 0, .int .i64 0, .string ByteArray.empty] rfl) ?_
      rintro _ _ ⟨b7, rfl, rfl⟩
      refine SL.step0 rfl (CS.stA (vs := WasV.cells x) rfl rfl (by repeat (first | exact Sel.keep | exact Sel.here | apply Sel.there)) (by rfl) (by rfl) (WasV.one x)) ?_
      rintro _ _ rfl
      refine SL.nil ?_
      refine SN.seq ?_
      refine SG.seq ?_
      refine SG.region ?_
      refine SL.val rfl rfl (fun w9 F9 S9 s => R.fld rfl) ?_
      refine SL.val rfl rfl (fun w9 F9 S9 s => R.ldB (v := .int .i64 x.t) rfl (s.cel (by repeat (first | exact SelB.blk | exact SelB.fz | apply SelB.there))) (by rfl)) ?_
      refine SL.val rfl rfl (fun w9 F9 S9 s => R.fld rfl) ?_
      refine SL.val rfl rfl (fun w9 F9 S9 s => R.ldB (v := .int .i64 x.n) rfl (s.cel (by repeat (first | exact SelB.blk | exact SelB.fz | apply SelB.there))) (by rfl)) ?_
      refine SL.val rfl rfl (fun w9 F9 S9 s => R.buildN (l := prC (x.t, x.n)) rfl rfl) ?_
      refine SL.step rfl rfl (CS.alloc [.int .i64 0, .int .i64 0] rfl) ?_
      rintro _ _ ⟨b8, rfl, rfl⟩
      refine SL.step0 rfl (CS.stA (vs := prC (x.t, x.n)) rfl rfl (by repeat (first | exact Sel.keep | exact Sel.here | apply Sel.there)) (by rfl) (by rfl) (prC_one _)) ?_
      rintro _ _ rfl
      refine SL.nil ?_
      refine SN.seq ?_
      refine SG.seq ?_
      refine SG.region ?_
      refine SL.val rfl rfl (fun w9 F9 S9 s => R.mv rfl) ?_
      refine SL.val rfl rfl (fun w9 F9 S9 s => R.lenS rfl) ?_
      refine SL.val rfl rfl (fun w9 F9 S9 s => R.as rfl) ?_
      refine SL.nil ?_
      refine SN.seq ?_
      refine SG.seq ?_
      refine SG.cut (X := Bool) (fun yb => [(1, .pointer (some ⟨b1, 0, none⟩)), (3, .slice a i c), (13, .int .i64 (ln : Int)), (14, .int .i64 (i : Int)), (4, .pointer (some ⟨b4, 0, none⟩)), (5, .bool s.isSome), (18, .slice la ln lc), (19, .int .i64 (ln : Int)), (20, .int .i64 (j : Int)), (8, .pointer (some ⟨b8, 0, none⟩)), (10, .bool yb)]) (fun yb => [blk b8 (prC (x.t, x.n)) 73, blk b4 (prC (s.getD (0, 0))) 73, own 73 2 a i c (prCs (P.take i)), blk b1 [.slice la ln lc, .slice fa fn fc, .int .i64 tt, .int .i64 nn, .int .i64 bl] 55, sh (fun w => RefW w la ln l fa fn f)]) (fun yb => yb = decide (behind (lastP P i) (x.t, x.n))) ?_ ?_
      · refine SG.fact (fun w9 F9 S9 s => (Nat.eq_zero_or_pos i).imp id (fun h => s.ownG (show Sel _ (own 73 2 a i c (prCs (P.take i))) _ from (by repeat (first | exact Sel.keep | exact Sel.here | apply Sel.there))) h)) (fun hf9 => ?_)
        have hg := hf9; clear hf9
        refine SG.draw [] [0, 1, 2, 3, 4, 5, 6, 7, 8, 9, 10, 11, 12, 13, 14, 15, 16, 17, 18, 19, 20, 21, 22, 23, 24, 25, 26, 27, 28, 29, 30, 31, 32, 33, 34, 35] (by decide +kernel) rfl ?_
        refine SW.pure rfl rfl rfl rfl (fun w9 => R.mv rfl) ?_
        refine SW.pure rfl rfl rfl rfl (fun w9 => R.eqI rfl rfl) ?_
        refine SW.pure rfl rfl rfl rfl (fun w9 => R.mv rfl) ?_
        refine SW.caseP 33 rfl (fun hg11_2 => ?_) (fun hg11_2 => ?_)
        · refine SW.pass (hd := rfl) rfl rfl rfl ?_
          refine SW.pass (hd := rfl) rfl rfl rfl ?_
          refine SW.pass (hd := rfl) rfl rfl rfl ?_
          refine SW.pass (hd := rfl) rfl rfl rfl ?_
          refine SW.pass (hd := rfl) rfl rfl rfl ?_
          refine SW.pass (hd := rfl) rfl rfl rfl ?_
          refine SW.pass (hd := rfl) rfl rfl rfl ?_
          refine SW.pass (hd := rfl) rfl rfl rfl ?_
          refine SW.pass (hd := rfl) rfl rfl rfl ?_
          first | refine SW.pure rfl rfl rfl rfl (fun w9 => R.pickT rfl rfl) ?_ | refine SW.pure rfl rfl rfl rfl (fun w9 => R.pickF rfl rfl) ?_
          refine SW.pure rfl rfl rfl rfl (fun w9 => R.mv rfl) ?_
          refine SW.isT 44 rfl (rfl) ?_
          refine SW.pass (hd := rfl) rfl rfl rfl ?_
          refine SW.pass (hd := rfl) rfl rfl rfl ?_
          refine SW.pass (hd := rfl) rfl rfl rfl ?_
          refine SW.pass (hd := rfl) rfl rfl rfl ?_
          refine SW.pass (hd := rfl) rfl rfl rfl ?_
          refine SW.pass (hd := rfl) rfl rfl rfl ?_
          refine SW.pass (hd := rfl) rfl rfl rfl ?_
          refine SW.pass (hd := rfl) rfl rfl rfl ?_
          refine SW.pass (hd := rfl) rfl rfl rfl ?_
          refine SW.pass (hd := rfl) rfl rfl rfl ?_
          refine SW.pass (hd := rfl) rfl rfl rfl ?_
          refine SW.pass (hd := rfl) rfl rfl rfl ?_
          refine SW.pass (hd := rfl) rfl rfl rfl ?_
          refine SW.pass (hd := rfl) rfl rfl rfl ?_
          refine SW.pass (hd := rfl) rfl rfl rfl ?_
          refine SW.pass (hd := rfl) rfl rfl rfl ?_
          refine SW.pass (hd := rfl) rfl rfl rfl ?_
          refine SW.pass (hd := rfl) rfl rfl rfl ?_
          refine SW.pass (hd := rfl) rfl rfl rfl ?_
          refine SW.pass (hd := rfl) rfl rfl rfl ?_
          first | refine SW.pure rfl rfl rfl rfl (fun w9 => R.pickT rfl rfl) ?_ | refine SW.pure rfl rfl rfl rfl (fun w9 => R.pickF rfl rfl) ?_
          refine SW.pure rfl rfl rfl rfl (fun w9 => R.as rfl) ?_
          refine SW.nil ?_
          exact SN.handX (_) (Sub.cons rfl (Sub.cons rfl (Sub.cons rfl (Sub.cons rfl (Sub.cons rfl (Sub.cons rfl (Sub.cons rfl (Sub.cons rfl (Sub.cons rfl (Sub.cons rfl (Sub.cons rfl (Sub.nil _)))))))))))) ((Imp.sels (by repeat (first | exact Sels.nil | apply Sels.cons | exact Sel.keep | exact Sel.here | apply Sel.there)))) ((decide_eq_true (bh_none (by omega))).symm)
        · have hi0 : i ≠ 0 := by omega
          obtain ⟨g, rfl⟩ := hg.resolve_left hi0
          obtain ⟨p9, hp9⟩ : ∃ p9, P[i - 1]? = some p9 := ⟨_, List.getElem?_eq_getElem (by omega)⟩
          have hbs := bh_some (p := (x.t, x.n)) hi0 hp9
          unfold prLt at hbs
          dsimp only at hbs
          refine SW.pure rfl rfl rfl rfl (fun w9 => R.idxA rfl rfl (by decide) (by decide) _ rfl) ?_
          refine SW.read rfl rfl rfl rfl (fun w9 F9 S9 s => R.ldB (v := .int .i64 x.t) rfl (s.cel (by repeat (first | exact SelB.blk | exact SelB.fz | apply SelB.there))) (by rfl)) ?_
          refine SW.pure rfl rfl rfl rfl (fun w9 => R.mv rfl) ?_
          refine SW.pure rfl rfl rfl rfl (fun w9 => R.mv rfl) ?_
          refine SW.pure rfl rfl rfl rfl (fun w9 => R.sub' rfl rfl (by omega)) ?_
          refine SW.pure rfl rfl rfl rfl (fun w9 => R.idxO rfl rfl (by omega) (by omega) rfl ((i - 1) * 2) (by omega)) ?_
          refine SW.pure rfl rfl rfl rfl (fun w9 => R.idxA rfl rfl (by decide) (by decide) _ rfl) ?_
          refine SW.read rfl rfl rfl rfl (fun w9 F9 S9 s => R.ld (v := .int .i64 p9.1) rfl (own_pr (p := p9) (s.ownC (show Sel _ (own 73 2 (some ⟨g, 0, none⟩) i c (prCs (P.take i))) _ from (by repeat (first | exact Sel.keep | exact Sel.here | apply Sel.there)))) (by omega) hp9).1) ?_
          refine SW.pure rfl rfl rfl rfl (fun w9 => R.gtr rfl rfl) ?_
          first | refine SW.pure rfl rfl rfl rfl (fun w9 => R.pickT rfl rfl) ?_ | refine SW.pure rfl rfl rfl rfl (fun w9 => R.pickF rfl rfl) ?_
          refine SW.pure rfl rfl rfl rfl (fun w9 => R.mv rfl) ?_
          refine SW.caseP 44 rfl (fun hg11_13 => ?_) (fun hg11_13 => ?_)
          · refine SW.pass (hd := rfl) rfl rfl rfl ?_
            refine SW.pass (hd := rfl) rfl rfl rfl ?_
            refine SW.pass (hd := rfl) rfl rfl rfl ?_
            refine SW.pass (hd := rfl) rfl rfl rfl ?_
            refine SW.pass (hd := rfl) rfl rfl rfl ?_
            refine SW.pass (hd := rfl) rfl rfl rfl ?_
            refine SW.pass (hd := rfl) rfl rfl rfl ?_
            refine SW.pass (hd := rfl) rfl rfl rfl ?_
            refine SW.pass (hd := rfl) rfl rfl rfl ?_
            refine SW.pass (hd := rfl) rfl rfl rfl ?_
            refine SW.pass (hd := rfl) rfl rfl rfl ?_
            refine SW.pass (hd := rfl) rfl rfl rfl ?_
            refine SW.pass (hd := rfl) rfl rfl rfl ?_
            refine SW.pass (hd := rfl) rfl rfl rfl ?_
            refine SW.pass (hd := rfl) rfl rfl rfl ?_
            refine SW.pass (hd := rfl) rfl rfl rfl ?_
            refine SW.pass (hd := rfl) rfl rfl rfl ?_
            refine SW.pass (hd := rfl) rfl rfl rfl ?_
            refine SW.pass (hd := rfl) rfl rfl rfl ?_
            refine SW.pass (hd := rfl) rfl rfl rfl ?_
            first | refine SW.pure rfl rfl rfl rfl (fun w9 => R.pickT rfl rfl) ?_ | refine SW.pure rfl rfl rfl rfl (fun w9 => R.pickF rfl rfl) ?_
            refine SW.pure rfl rfl rfl rfl (fun w9 => R.as rfl) ?_
            refine SW.nil ?_
            exact SN.handX (_) (Sub.cons rfl (Sub.cons rfl (Sub.cons rfl (Sub.cons rfl (Sub.cons rfl (Sub.cons rfl (Sub.cons rfl (Sub.cons rfl (Sub.cons rfl (Sub.cons rfl (Sub.cons rfl (Sub.nil _)))))))))))) ((Imp.sels (by repeat (first | exact Sels.nil | apply Sels.cons | exact Sel.keep | exact Sel.here | apply Sel.there)))) ((decide_eq_true (hbs.2 (.inl (by omega)))).symm)
          · refine SW.pure rfl rfl rfl rfl (fun w9 => R.idxA rfl rfl (by decide) (by decide) _ rfl) ?_
            refine SW.read rfl rfl rfl rfl (fun w9 F9 S9 s => R.ldB (v := .int .i64 x.t) rfl (s.cel (by repeat (first | exact SelB.blk | exact SelB.fz | apply SelB.there))) (by rfl)) ?_
            refine SW.pure rfl rfl rfl rfl (fun w9 => R.mv rfl) ?_
            refine SW.pure rfl rfl rfl rfl (fun w9 => R.mv rfl) ?_
            refine SW.pure rfl rfl rfl rfl (fun w9 => R.sub' rfl rfl (by omega)) ?_
            refine SW.pure rfl rfl rfl rfl (fun w9 => R.idxO rfl rfl (by omega) (by omega) rfl ((i - 1) * 2) (by omega)) ?_
            refine SW.pure rfl rfl rfl rfl (fun w9 => R.idxA rfl rfl (by decide) (by decide) _ rfl) ?_
            refine SW.read rfl rfl rfl rfl (fun w9 F9 S9 s => R.ld (v := .int .i64 p9.1) rfl (own_pr (p := p9) (s.ownC (show Sel _ (own 73 2 (some ⟨g, 0, none⟩) i c (prCs (P.take i))) _ from (by repeat (first | exact Sel.keep | exact Sel.here | apply Sel.there)))) (by omega) hp9).1) ?_
            refine SW.pure rfl rfl rfl rfl (fun w9 => R.eqI rfl rfl) ?_
            refine SW.pure rfl rfl rfl rfl (fun w9 => R.mv rfl) ?_
            refine SW.caseP 54 rfl (fun hg11_23 => ?_) (fun hg11_23 => ?_)
            · refine SW.pure rfl rfl rfl rfl (fun w9 => R.idxA rfl rfl (by decide) (by decide) _ rfl) ?_
              refine SW.read rfl rfl rfl rfl (fun w9 F9 S9 s => R.ldB (v := .int .i64 x.n) rfl (s.cel (by repeat (first | exact SelB.blk | exact SelB.fz | apply SelB.there))) (by rfl)) ?_
              refine SW.pure rfl rfl rfl rfl (fun w9 => R.mv rfl) ?_
              refine SW.pure rfl rfl rfl rfl (fun w9 => R.mv rfl) ?_
              refine SW.pure rfl rfl rfl rfl (fun w9 => R.sub' rfl rfl (by omega)) ?_
              refine SW.pure rfl rfl rfl rfl (fun w9 => R.idxO rfl rfl (by omega) (by omega) rfl ((i - 1) * 2) (by omega)) ?_
              refine SW.pure rfl rfl rfl rfl (fun w9 => R.idxA rfl rfl (by decide) (by decide) _ rfl) ?_
              refine SW.read rfl rfl rfl rfl (fun w9 F9 S9 s => R.ld (v := .int .i64 p9.2) rfl (own_pr (p := p9) (s.ownC (show Sel _ (own 73 2 (some ⟨g, 0, none⟩) i c (prCs (P.take i))) _ from (by repeat (first | exact Sel.keep | exact Sel.here | apply Sel.there)))) (by omega) hp9).2) ?_
              refine SW.pure rfl rfl rfl rfl (fun w9 => R.gtr rfl rfl) ?_
              first | refine SW.pure rfl rfl rfl rfl (fun w9 => R.pickT rfl rfl) ?_ | refine SW.pure rfl rfl rfl rfl (fun w9 => R.pickF rfl rfl) ?_
              first | refine SW.pure rfl rfl rfl rfl (fun w9 => R.pickT rfl rfl) ?_ | refine SW.pure rfl rfl rfl rfl (fun w9 => R.pickF rfl rfl) ?_
              refine SW.pure rfl rfl rfl rfl (fun w9 => R.as rfl) ?_
              refine SW.nil ?_
              exact SN.handX (_) (Sub.cons rfl (Sub.cons rfl (Sub.cons rfl (Sub.cons rfl (Sub.cons rfl (Sub.cons rfl (Sub.cons rfl (Sub.cons rfl (Sub.cons rfl (Sub.cons rfl (Sub.cons rfl (Sub.nil _)))))))))))) ((Imp.sels (by repeat (first | exact Sels.nil | apply Sels.cons | exact Sel.keep | exact Sel.here | apply Sel.there)))) (decide_eq_decide.2 ⟨fun h => hbs.2 (.inr ⟨by omega, by omega⟩), fun h => by have := hbs.1 h; omega⟩)
            · refine SW.pass (hd := rfl) rfl rfl rfl ?_
              refine SW.pass (hd := rfl) rfl rfl rfl ?_
              refine SW.pass (hd := rfl) rfl rfl rfl ?_
              refine SW.pass (hd := rfl) rfl rfl rfl ?_
              refine SW.pass (hd := rfl) rfl rfl rfl ?_
              refine SW.pass (hd := rfl) rfl rfl rfl ?_
              refine SW.pass (hd := rfl) rfl rfl rfl ?_
              refine SW.pass (hd := rfl) rfl rfl rfl ?_
              refine SW.pass (hd := rfl) rfl rfl rfl ?_
              first | refine SW.pure rfl rfl rfl rfl (fun w9 => R.pickT rfl rfl) ?_ | refine SW.pure rfl rfl rfl rfl (fun w9 => R.pickF rfl rfl) ?_
              first | refine SW.pure rfl rfl rfl rfl (fun w9 => R.pickT rfl rfl) ?_ | refine SW.pure rfl rfl rfl rfl (fun w9 => R.pickF rfl rfl) ?_
              refine SW.pure rfl rfl rfl rfl (fun w9 => R.as rfl) ?_
              refine SW.nil ?_
              exact SN.handX (_) (Sub.cons rfl (Sub.cons rfl (Sub.cons rfl (Sub.cons rfl (Sub.cons rfl (Sub.cons rfl (Sub.cons rfl (Sub.cons rfl (Sub.cons rfl (Sub.cons rfl (Sub.cons rfl (Sub.nil _)))))))))))) ((Imp.sels (by repeat (first | exact Sels.nil | apply Sels.cons | exact Sel.keep | exact Sel.here | apply Sel.there)))) ((decide_eq_false (fun h => by have := hbs.1 h; omega)).symm)
      · intro yb hyb
        show SN _ _ _ _ _ [(1, .pointer (some ⟨b1, 0, none⟩)), (3, .slice a i c), (13, .int .i64 (ln : Int)), (14, .int .i64 (i : Int)), (4, .pointer (some ⟨b4, 0, none⟩)), (5, .bool s.isSome), (18, .slice la ln lc), (19, .int .i64 (ln : Int)), (20, .int .i64 (j : Int)), (8, .pointer (some ⟨b8, 0, none⟩)), (10, .bool yb)] [blk b8 (prC (x.t, x.n)) 73, blk b4 (prC (s.getD (0, 0))) 73, own 73 2 a i c (prCs (P.take i)), blk b1 [.slice la ln lc, .slice fa fn fc, .int .i64 tt, .int .i64 nn, .int .i64 bl] 55, sh (fun w => RefW w la ln l fa fn f)]
        refine SN.seq ?_
        refine SG.seq ?_
        refine SG.cut (X := Bool) (fun y => [(1, .pointer (some ⟨b1, 0, none⟩)), (3, .slice a i c), (13, .int .i64 (ln : Int)), (14, .int .i64 (i : Int)), (4, .pointer (some ⟨b4, 0, none⟩)), (5, .bool s.isSome), (18, .slice la ln lc), (19, .int .i64 (ln : Int)), (20, .int .i64 (j : Int)), (8, .pointer (some ⟨b8, 0, none⟩)), (91, .bool y)]) (fun y => [blk b8 (prC (x.t, x.n)) 73, blk b4 (prC (s.getD (0, 0))) 73, own 73 2 a i c (prCs (P.take i)), blk b1 [.slice la ln lc, .slice fa fn fc, .int .i64 tt, .int .i64 nn, .int .i64 bl] 55, sh (fun w => RefW w la ln l fa fn f)]) (fun y => y = decide (takeB (lastP P i) s (x.t, x.n))) ?_ ?_
        · refine SG.region ?_
          refine SL.val rfl rfl (fun w9 F9 S9 s => R.mv rfl) ?_
          refine SL.val rfl rfl (fun w9 F9 S9 s => R.mv rfl) ?_
          refine SL.caseB 67 rfl (fun hg12_1 => ?_) (fun hg12_1 => ?_)
          · have hB : behind (lastP P i) (x.t, x.n) := of_decide_eq_true (hyb.symm.trans hg12_1)
            refine SL.val rfl rfl (fun w9 F9 S9 s => R.mv rfl) ?_
            refine SL.val rfl rfl (fun w9 F9 S9 s => R.not rfl) ?_
            refine SL.val rfl rfl (fun w9 F9 S9 s => R.mv rfl) ?_
            refine SL.caseB 70 rfl (fun hg12_4 => ?_) (fun hg12_4 => ?_)
            · obtain rfl : s = none := by simpa using hg12_4
              refine SL.pass rfl rfl ?_
              refine SL.pass rfl rfl ?_
              refine SL.pass rfl rfl ?_
              refine SL.pass rfl rfl ?_
              refine SL.pass rfl rfl ?_
              first | refine SL.val rfl rfl (fun w9 F9 S9 s => R.pickT rfl rfl) ?_ | refine SL.val rfl rfl (fun w9 F9 S9 s => R.pickF rfl rfl) ?_
              refine SL.val rfl rfl (fun w9 F9 S9 s => R.mv rfl) ?_
              refine SL.isT 77 rfl (rfl) ?_
              refine SL.pass rfl rfl ?_
              refine SL.pass rfl rfl ?_
              refine SL.pass rfl rfl ?_
              refine SL.pass rfl rfl ?_
              refine SL.pass rfl rfl ?_
              refine SL.pass rfl rfl ?_
              refine SL.pass rfl rfl ?_
              refine SL.pass rfl rfl ?_
              refine SL.pass rfl rfl ?_
              refine SL.pass rfl rfl ?_
              refine SL.pass rfl rfl ?_
              refine SL.pass rfl rfl ?_
              first | refine SL.val rfl rfl (fun w9 F9 S9 s => R.pickT rfl rfl) ?_ | refine SL.val rfl rfl (fun w9 F9 S9 s => R.pickF rfl rfl) ?_
              first | refine SL.val rfl rfl (fun w9 F9 S9 s => R.pickT rfl rfl) ?_ | refine SL.val rfl rfl (fun w9 F9 S9 s => R.pickF rfl rfl) ?_
              refine SL.nil ?_
              exact SN.handX (_) (Sub.cons rfl (Sub.cons rfl (Sub.cons rfl (Sub.cons rfl (Sub.cons rfl (Sub.cons rfl (Sub.cons rfl (Sub.cons rfl (Sub.cons rfl (Sub.cons rfl (Sub.cons rfl (Sub.nil _)))))))))))) ((Imp.sels (by repeat (first | exact Sels.nil | apply Sels.cons | exact Sel.keep | exact Sel.here | apply Sel.there)))) ((decide_eq_true ⟨hB, trivial⟩).symm)
            · obtain ⟨sb, rfl⟩ : ∃ sb, s = some sb := Option.isSome_iff_exists.1 (by simpa using hg12_4)
              refine SL.val rfl rfl (fun w9 F9 S9 s => R.idxA rfl rfl (by decide) (by decide) _ rfl) ?_
              refine SL.val rfl rfl (fun w9 F9 S9 s => R.ldB (v := .int .i64 x.t) rfl (s.cel (by repeat (first | exact SelB.blk | exact SelB.fz | apply SelB.there))) (by rfl)) ?_
              refine SL.val rfl rfl (fun w9 F9 S9 s => R.idxA rfl rfl (by decide) (by decide) _ rfl) ?_
              refine SL.val rfl rfl (fun w9 F9 S9 s => R.ldB (v := .int .i64 sb.1) rfl (s.cel (by repeat (first | exact SelB.blk | exact SelB.fz | apply SelB.there))) (by rfl)) ?_
              refine SL.val rfl rfl (fun w9 F9 S9 s => R.lss rfl rfl) ?_
              first | refine SL.val rfl rfl (fun w9 F9 S9 s => R.pickT rfl rfl) ?_ | refine SL.val rfl rfl (fun w9 F9 S9 s => R.pickF rfl rfl) ?_
              refine SL.val rfl rfl (fun w9 F9 S9 s => R.mv rfl) ?_
              refine SL.caseP 77 rfl (fun hg12_11 => ?_) (fun hg12_11 => ?_)
              · refine SL.pass rfl rfl ?_
                refine SL.pass rfl rfl ?_
                refine SL.pass rfl rfl ?_
                refine SL.pass rfl rfl ?_
                refine SL.pass rfl rfl ?_
                refine SL.pass rfl rfl ?_
                refine SL.pass rfl rfl ?_
                refine SL.pass rfl rfl ?_
                refine SL.pass rfl rfl ?_
                refine SL.pass rfl rfl ?_
                refine SL.pass rfl rfl ?_
                refine SL.pass rfl rfl ?_
                first | refine SL.val rfl rfl (fun w9 F9 S9 s => R.pickT rfl rfl) ?_ | refine SL.val rfl rfl (fun w9 F9 S9 s => R.pickF rfl rfl) ?_
                first | refine SL.val rfl rfl (fun w9 F9 S9 s => R.pickT rfl rfl) ?_ | refine SL.val rfl rfl (fun w9 F9 S9 s => R.pickF rfl rfl) ?_
                refine SL.nil ?_
                exact SN.handX (_) (Sub.cons rfl (Sub.cons rfl (Sub.cons rfl (Sub.cons rfl (Sub.cons rfl (Sub.cons rfl (Sub.cons rfl (Sub.cons rfl (Sub.cons rfl (Sub.cons rfl (Sub.cons rfl (Sub.nil _)))))))))))) ((Imp.sels (by repeat (first | exact Sels.nil | apply Sels.cons | exact Sel.keep | exact Sel.here | apply Sel.there)))) ((decide_eq_true ⟨hB, show prLt (x.t, x.n) sb from .inl (by omega)⟩).symm)
              · refine SL.val rfl rfl (fun w9 F9 S9 s => R.idxA rfl rfl (by decide) (by decide) _ rfl) ?_
                refine SL.val rfl rfl (fun w9 F9 S9 s => R.ldB (v := .int .i64 x.t) rfl (s.cel (by repeat (first | exact SelB.blk | exact SelB.fz | apply SelB.there))) (by rfl)) ?_
                refine SL.val rfl rfl (fun w9 F9 S9 s => R.idxA rfl rfl (by decide) (by decide) _ rfl) ?_
                refine SL.val rfl rfl (fun w9 F9 S9 s => R.ldB (v := .int .i64 sb.1) rfl (s.cel (by repeat (first | exact SelB.blk | exact SelB.fz | apply SelB.there))) (by rfl)) ?_
                refine SL.val rfl rfl (fun w9 F9 S9 s => R.eqI rfl rfl) ?_
                refine SL.val rfl rfl (fun w9 F9 S9 s => R.mv rfl) ?_
                refine SL.caseP 83 rfl (fun hg12_17 => ?_) (fun hg12_17 => ?_)
                · refine SL.val rfl rfl (fun w9 F9 S9 s => R.idxA rfl rfl (by decide) (by decide) _ rfl) ?_
                  refine SL.val rfl rfl (fun w9 F9 S9 s => R.ldB (v := .int .i64 x.n) rfl (s.cel (by repeat (first | exact SelB.blk | exact SelB.fz | apply SelB.there))) (by rfl)) ?_
                  refine SL.val rfl rfl (fun w9 F9 S9 s => R.idxA rfl rfl (by decide) (by decide) _ rfl) ?_
                  refine SL.val rfl rfl (fun w9 F9 S9 s => R.ldB (v := .int .i64 sb.2) rfl (s.cel (by repeat (first | exact SelB.blk | exact SelB.fz | apply SelB.there))) (by rfl)) ?_
                  refine SL.val rfl rfl (fun w9 F9 S9 s => R.lss rfl rfl) ?_
                  first | refine SL.val rfl rfl (fun w9 F9 S9 s => R.pickT rfl rfl) ?_ | refine SL.val rfl rfl (fun w9 F9 S9 s => R.pickF rfl rfl) ?_
                  first | refine SL.val rfl rfl (fun w9 F9 S9 s => R.pickT rfl rfl) ?_ | refine SL.val rfl rfl (fun w9 F9 S9 s => R.pickF rfl rfl) ?_
                  first | refine SL.val rfl rfl (fun w9 F9 S9 s => R.pickT rfl rfl) ?_ | refine SL.val rfl rfl (fun w9 F9 S9 s => R.pickF rfl rfl) ?_
                  refine SL.nil ?_
                  exact SN.handX (_) (Sub.cons rfl (Sub.cons rfl (Sub.cons rfl (Sub.cons rfl (Sub.cons rfl (Sub.cons rfl (Sub.cons rfl (Sub.cons rfl (Sub.cons rfl (Sub.cons rfl (Sub.cons rfl (Sub.nil _)))))))))))) ((Imp.sels (by repeat (first | exact Sels.nil | apply Sels.cons | exact Sel.keep | exact Sel.here | apply Sel.there)))) (decide_eq_decide.2 ⟨fun h => ⟨hB, show prLt (x.t, x.n) sb from .inr ⟨by omega, by omega⟩⟩, fun h => by have h2 : prLt (x.t, x.n) sb := h.2; unfold prLt at h2; dsimp only at h2; omega⟩)
                · refine SL.pass rfl rfl ?_
                  refine SL.pass rfl rfl ?_
                  refine SL.pass rfl rfl ?_
                  refine SL.pass rfl rfl ?_
                  refine SL.pass rfl rfl ?_
                  first | refine SL.val rfl rfl (fun w9 F9 S9 s => R.pickT rfl rfl) ?_ | refine SL.val rfl rfl (fun w9 F9 S9 s => R.pickF rfl rfl) ?_
                  first | refine SL.val rfl rfl (fun w9 F9 S9 s => R.pickT rfl rfl) ?_ | refine SL.val rfl rfl (fun w9 F9 S9 s => R.pickF rfl rfl) ?_
                  first | refine SL.val rfl rfl (fun w9 F9 S9 s => R.pickT rfl rfl) ?_ | refine SL.val rfl rfl (fun w9 F9 S9 s => R.pickF rfl rfl) ?_
                  refine SL.nil ?_
                  exact SN.handX (_) (Sub.cons rfl (Sub.cons rfl (Sub.cons rfl (Sub.cons rfl (Sub.cons rfl (Sub.cons rfl (Sub.cons rfl (Sub.cons rfl (Sub.cons rfl (Sub.cons rfl (Sub.cons rfl (Sub.nil _)))))))))))) ((Imp.sels (by repeat (first | exact Sels.nil | apply Sels.cons | exact Sel.keep | exact Sel.here | apply Sel.there)))) ((decide_eq_false (fun h => by have h2 : prLt (x.t, x.n) sb := h.2; unfold prLt at h2; dsimp only at h2; omega)).symm)
          · refine SL.pass rfl rfl ?_
            refine SL.pass rfl rfl ?_
            refine SL.pass rfl rfl ?_
            refine SL.pass rfl rfl ?_
            refine SL.pass rfl rfl ?_
            refine SL.pass rfl rfl ?_
            refine SL.pass rfl rfl ?_
            refine SL.pass rfl rfl ?_
            refine SL.pass rfl rfl ?_
            refine SL.pass rfl rfl ?_
            refine SL.pass rfl rfl ?_
            refine SL.pass rfl rfl ?_
            refine SL.pass rfl rfl ?_
            refine SL.pass rfl rfl ?_
            refine SL.pass rfl rfl ?_
            refine SL.pass rfl rfl ?_
            refine SL.pass rfl rfl ?_
            refine SL.pass rfl rfl ?_
            refine SL.pass rfl rfl ?_
            refine SL.pass rfl rfl ?_
            refine SL.pass rfl rfl ?_
            refine SL.pass rfl rfl ?_
            refine SL.pass rfl rfl ?_
            first | refine SL.val rfl rfl (fun w9 F9 S9 s => R.pickT rfl rfl) ?_ | refine SL.val rfl rfl (fun w9 F9 S9 s => R.pickF rfl rfl) ?_
            refine SL.nil ?_
            exact SN.handX (_) (Sub.cons rfl (Sub.cons rfl (Sub.cons rfl (Sub.cons rfl (Sub.cons rfl (Sub.cons rfl (Sub.cons rfl (Sub.cons rfl (Sub.cons rfl (Sub.cons rfl (Sub.cons rfl (Sub.nil _)))))))))))) ((Imp.sels (by repeat (first | exact Sels.nil | apply Sels.cons | exact Sel.keep | exact Sel.here | apply Sel.there)))) ((decide_eq_false (fun h => (of_decide_eq_false (hyb.symm.trans hg12_1)) h.1)).symm)
        · intro y hty
          show SN _ _ _ _ _ [(1, .pointer (some ⟨b1, 0, none⟩)), (3, .slice a i c), (13, .int .i64 (ln : Int)), (14, .int .i64 (i : Int)), (4, .pointer (some ⟨b4, 0, none⟩)), (5, .bool s.isSome), (18, .slice la ln lc), (19, .int .i64 (ln : Int)), (20, .int .i64 (j : Int)), (8, .pointer (some ⟨b8, 0, none⟩)), (91, .bool y)] [blk b8 (prC (x.t, x.n)) 73, blk b4 (prC (s.getD (0, 0))) 73, own 73 2 a i c (prCs (P.take i)), blk b1 [.slice la ln lc, .slice fa fn fc, .int .i64 tt, .int .i64 nn, .int .i64 bl] 55, sh (fun w => RefW w la ln l fa fn f)]
          refine SN.seq ?_
          refine SG.condB rfl (fun h2 => ?_) (fun h2 => ?_)
          · have hyT := h2
            refine SG.seq ?_
            refine SG.region ?_
            refine SL.val rfl rfl (fun w9 F9 S9 s => R.ldBN (cs := (prC (x.t, x.n)).toArray) rfl (s.cel (by repeat (first | exact SelB.blk | exact SelB.fz | apply SelB.there))) (by rfl)) ?_
            refine SL.step0 rfl (CS.stA (vs := prC (x.t, x.n)) rfl rfl (show Sel _ (blk b4 _ _) _ from (by repeat (first | exact Sel.keep | exact Sel.here | apply Sel.there))) (by rfl) (by rfl) (prC_one _)) ?_
            rintro _ _ rfl
            refine SL.nil ?_
            refine SN.seq ?_
            refine SG.region ?_
            refine SL.val rfl rfl (fun w9 F9 S9 s => R.as rfl) ?_
            refine SL.nil ?_
            refine SN.block ?_
            refine SN.seq ?_
            refine SG.region ?_
            refine SL.val rfl rfl (fun w9 F9 S9 s => R.add rfl rfl (by omega)) ?_
            refine SL.val rfl rfl (fun w9 F9 S9 s => R.mv rfl) ?_
            refine SL.nil ?_
            exact SN.again (⟨j + 1, some (x.t, x.n)⟩) (by show ln - (j + 1) < ln - j; omega) (Sub.cons rfl (Sub.cons rfl (Sub.cons rfl (Sub.cons rfl (Sub.cons rfl (Sub.cons rfl (Sub.cons rfl (Sub.cons rfl (Sub.cons rfl (Sub.nil _)))))))))) ((Imp.sels (by repeat (first | exact Sels.nil | apply Sels.cons | exact Sel.keep | exact Sel.here | apply Sel.there)))) (⟨by show j + 1 ≤ ln; omega, by show some (x.t, x.n) = _; rw [mpr_at hx, foldB_snoc, ← hs9]; unfold stepB; rw [if_pos (of_decide_eq_true (hty.symm.trans hyT))]⟩)
          · have hyF := h2
            refine SG.skip ?_
            refine SN.block ?_
            refine SN.seq ?_
            refine SG.region ?_
            refine SL.val rfl rfl (fun w9 F9 S9 s => R.add rfl rfl (by omega)) ?_
            refine SL.val rfl rfl (fun w9 F9 S9 s => R.mv rfl) ?_
            refine SL.nil ?_
            exact SN.again (⟨j + 1, s⟩) (by show ln - (j + 1) < ln - j; omega) (Sub.cons rfl (Sub.cons rfl (Sub.cons rfl (Sub.cons rfl (Sub.cons rfl (Sub.cons rfl (Sub.cons rfl (Sub.cons rfl (Sub.cons rfl (Sub.nil _)))))))))) ((Imp.sels (by repeat (first | exact Sels.nil | apply Sels.cons | exact Sel.keep | exact Sel.here | apply Sel.there)))) (⟨by show j + 1 ≤ ln; omega, by show s = _; rw [mpr_at hx, foldB_snoc, ← hs9]; unfold stepB; rw [if_neg (of_decide_eq_false (hty.symm.trans hyF))]⟩)
    · obtain rfl : ln = j := by omega
      rw [List.take_of_length_le (by rw [List.length_map]; omega), foldB_next hsP hmP hq] at hs9
      subst hs9
      refine SG.exit _ rfl ?_
      refine SN.seq ?_
      refine SG.seq ?_
      refine SG.region ?_
      refine SL.val rfl rfl (fun w9 F9 S9 s => R.mv rfl) ?_
      refine SL.nil ?_
      refine SN.seq ?_
      refine SG.condT rfl ?_
      refine SG.region ?_
      refine SL.val rfl rfl (fun w9 F9 S9 s => R.mv rfl) ?_
      refine SL.val rfl rfl (fun w9 F9 S9 s => R.ldBN (cs := (prC q).toArray) rfl (s.cel (by repeat (first | exact SelB.blk | exact SelB.fz | apply SelB.there))) (by rfl)) ?_
      refine SL.step rfl rfl (CS.buildA rfl rfl rfl rfl rfl (prC q) rfl) ?_
      rintro _ _ ⟨b97, rfl, rfl⟩
      refine SL.step rfl rfl (CS.app rfl rfl (show Sel _ (own 73 2 a i c (prCs (P.take i))) _ from (by repeat (first | exact Sel.keep | exact Sel.here | apply Sel.there))) (fun w9 F9 S9 s => s.blkC (show Sel _ (blk b97 (prC q) _) _ from (by repeat (first | exact Sel.keep | exact Sel.here | apply Sel.there)))) rfl (prC_one q) (by simp [maxLen]; omega) (by omega)) ?_
      rintro _ _ ⟨a98, c98, rfl, rfl⟩
      refine SL.val rfl rfl (fun w9 F9 S9 s => R.as rfl) ?_
      refine SL.nil ?_
      refine SN.block ?_
      refine SN.seq ?_
      refine SG.region ?_
      refine SL.val rfl rfl (fun w9 F9 S9 s => R.add rfl rfl (by omega)) ?_
      refine SL.val rfl rfl (fun w9 F9 S9 s => R.mv rfl) ?_
      refine SL.nil ?_
      exact SN.again (⟨i + 1, a98, c98⟩) (by show ln - (i + 1) < ln - i; omega) (Sub.cons rfl (Sub.cons rfl (Sub.cons rfl (Sub.cons rfl (Sub.nil _))))) ((show Imp _ _ by dsimp only; rw [prCs_succ hq]; exact (Imp.sels (by repeat (first | exact Sels.nil | apply Sels.cons | exact Sel.keep | exact Sel.here | apply Sel.there))))) (by show i + 1 ≤ ln; omega)
  · obtain rfl : ln = i := by omega
    rw [List.take_of_length_le (show P.length ≤ ln by omega)]
    refine SG.exit _ rfl ?_
    refine SN.seq ?_
    refine SG.seq ?_
    refine SG.region ?_
    refine SL.val rfl rfl (fun w9 F9 S9 s => R.mv rfl) ?_
    refine SL.val rfl rfl (fun w9 F9 S9 s => R.as rfl) ?_
    refine SL.nil ?_
    refine SN.seq ?_
    exact SG.ret1 rfl rfl ((Imp.sels (by repeat (first | exact Sels.nil | apply Sels.cons | exact Sel.keep | exact Sel.here | apply Sel.there)))) (⟨a, c, rfl, rfl⟩)

end Go.Proofs.Ythdaelmjiaegfaa
/-
  Arrays of two numbers, compared.
-/
set_option linter.unusedVariables false
set_option linter.unusedSimpArgs false
namespace Brv
open Go
theorem run_eqA2 {P : Program} {T E : TypeId} (hT : P.underlying T = some (.array 2 E)) (hE : P.underlying E = some (.int .i64)) (hp : P.plainKey E = true) (hs : ∀ w, (Go.sizeOf E).run P w = .ok 1 w) (a b c d : Int) (w : World) :
    (Op.equalIn 10000 T (.agg #[.int .i64 a, .int .i64 b]) (.agg #[.int .i64 c, .int .i64 d])).run P w = .ok (decide (a = c ∧ b = d)) w := by
  show (Op.equalIn (9999 + 1) T _ _).run P w = _
  have e1 : ∀ (x y : Int) (w : World), (Op.equalIn 9999 E (.int .i64 x) (.int .i64 y)).run P w = .ok (x == y) w := fun x y w => run_equalIn_int w 9998 E _ _ _ _ hE
  have p1 : ∀ (x y : Value) (w : World), (part E #[x, y] 0).run P w = .ok x w := fun x y w => run_part_plain w hp rfl
  have p2 : ∀ (x y : Value) (w : World), (part E #[x, y] 1).run P w = .ok y w := fun x y w => run_part_plain w hp rfl
  unfold Op.equalIn
  simp only [Sem.run_bind, run_underlying hT, Result.andThen_ok, hs]
  have hr : List.range' 0 2 = [0, 1] := rfl
  simp [Std.Legacy.Range.forIn_eq_forIn_range', Std.Legacy.Range.size, hr, p1, p2, e1, Result.andThen]
  by_cases h1 : a = c <;> by_cases h2 : b = d <;> simp [h1, h2, p1, p2, e1, Result.andThen]
section
variable {P : Program} {n : Fm} {ρ : Env} {w : World} {d : Nat} {ty : TypeId} {pos : String} {af : Array Edge} {gd : Option (Nat × Bool)}
theorem size_run {E : TypeId} {s : Nat} (h : P.cellsOf E = s + 1) (w : World) : (Go.sizeOf E).run P w = .ok (s + 1) w := by
  unfold Program.cellsOf at h
  cases hq : P.info? E with
  | none => simp [hq] at h
  | some i => simp [hq] at h; simp [Go.sizeOf, typeInfo, hq, h]
class TyA2 (P : Program) (T : TypeId) (E : outParam TypeId) : Prop where
  hT : P.underlying T = some (.array 2 E)
  hE : P.underlying E = some (.int .i64)
  hp : P.plainKey E = true
  hs : ∀ w, (Go.sizeOf E).run P w = .ok 1 w
  hg : P.eqGuardType P.depth T = false
theorem R.eqA2 {T T' E : TypeId} [t : TyA2 P T E] {x y : Operand} {a b a' b' : Int} (hx : ev ρ x = some (.agg #[.int .i64 a, .int .i64 b])) (hy : ev ρ y = some (.agg #[.int .i64 a', .int .i64 b'])) :
    Runs P n ρ w ⟨some d, .binOp .eql T x y T', ty, pos, af, gd⟩ (.bool (decide (a = a' ∧ b = b'))) w := R.bin hx hy (fun w => by
    simp only [Sem.run_bind, run_eqGuard_agg (w := w) .eql T x y _ _ t.hg, Result.andThen_ok, run_eql_struct, run_eqA2 t.hT t.hE t.hp t.hs])
end
/-- A function on many assertions as one. -/
theorem SpecS.sp {P : Program} {f : FuncId} {vs : List Value} {l l' : List Asn} {φ : Value → Prop} (h : SpecS P f vs l (fun v H' => φ v ∧ H' = l')) : SpecS P f vs [Brv.sp l] (fun v H' => φ v ∧ H' = [Brv.sp l']) := fun w F S st => by
  obtain ⟨F1, S1, _, _, ⟨a, _, c, _⟩, _, hA, _⟩ := st.sep
  refine (h w F1 S1 ⟨hA, fun x hx => st.ltF x (a hx), fun x hx => st.ltS x (c hx)⟩).mono ?_
  rintro v w' ⟨_, F', S', ⟨hφ, rfl⟩, st', fr⟩
  exact ⟨_, F', S', ⟨hφ, rfl⟩, ⟨⟨F', S', [], [], ⟨subR _, by simp, subR _, by simp⟩, ⟨Apart.nilR _, Apart.nilR _, Apart.nilR _⟩, st'.sep, trivial⟩, st'.ltF, st'.ltS⟩, fr.lift a c⟩
end Brv
/-
  The walks of package model.
-/
set_option linter.unusedVariables false
set_option linter.unusedSimpArgs false
set_option maxRecDepth 4000
namespace Go.Proofs.Ythdaelmjiaegfaa
open Go Brv Brv.Image Brv.Model
theorem lputG (m : Nat) (ps : List (Pr Int)) (k : Int) (u : List Value) (hu : u.length = 3 ∧ ∀ y ∈ u, y.oneCell' = true) (hl : ps.length ≤ 99999) : SpecS Try.prog 32 [.pointer (some ⟨m, 0, none⟩), .int .i64 k, .agg u.toArray] [mp (κ := Int) 124 128 3 m ps] (fun v H' => v = .bool (!hasK ps k) ∧ H' = [mp (κ := Int) 124 128 3 m (putK ps k u)]) :=
  SpecS.ofMap (φ := fun v => v = .bool (!hasK ps k)) (fun w S hm => putModelline_ok m ps S k u w hm hl hu)
theorem two_at {w : World} {b : Nat} {x y z : Value} {T : TypeId} (h : Blk w b [x, y, z].toArray T (0, 0)) : Cells w (some ⟨b, 1, none⟩) [y, z] :=
  Cells.of_blk h 1 _ (fun j v hj => by match j, hj with | 0, hj => exact hj | 1, hj => exact hj)

theorem wclo_ok (p m : Nat) (L : Lns) (tt nn : Int) (kk : Nat) (hw : Wf L kk) (hk : kk ≤ 9000) : SpecS Try.prog 16 [.pointer (some ⟨p, 0, none⟩)] [blk p [.pointer (some ⟨m, 0, none⟩), .int .i64 tt, .int .i64 nn] 85, mp (κ := Int) 124 128 3 m (psL L), lnA L, dkS L] (fun v H' => ∃ c m2, v = .pointer (some ⟨c, 0, none⟩) ∧ H' = [blk c [.pointer (some ⟨m2, 0, none⟩), .int .i64 tt, .int .i64 nn] 85, blk p [.pointer (some ⟨m, 0, none⟩), .int .i64 tt, .int .i64 nn] 85, mp (κ := Int) 124 128 3 m (psL L), lnA L, dkS L]) := by
  refine SpecS.enter Try.func16 rfl 35 rfl (Nat.le_of_ble_eq_true rfl) (fun o => ?_)
  have hLl := hw.len
  refine SG.seq ?_
  refine SG.region ?_
  refine SL.val rfl rfl (fun w9 F9 S9 s => R.as rfl) ?_
  refine SL.nil ?_
  refine SN.seq ?_
  refine SG.seq ?_
  refine SG.seq ?_
  refine SG.region ?_
  refine SL.val rfl rfl (fun w9 F9 S9 s => R.mv rfl) ?_
  refine SL.val rfl rfl (fun w9 F9 S9 s => R.eqNilP rfl rfl) ?_
  refine SL.nil ?_
  refine SN.seq ?_
  refine SG.condF rfl ?_
  refine SG.skip ?_
  refine SN.seq ?_
  refine SG.seq ?_
  refine SG.drawT (.flo 1 (.flo 2 (.flo 3 (.flo 4 (.alt 0 (.flo 5 (.alt 6 (.alt 7 (.alt 8 .nil .stop) .stop) (.alt 7 (.alt 6 (.alt 8 .nil .stop) .stop) .stop))) (.alt 7 (.alt 0 (.flo 5 (.alt 6 (.alt 8 .nil .stop) .stop)) .stop) .stop)))))) (by decide +kernel) rfl ?_
  refine TW.pure rfl rfl rfl rfl (fun w9 => R.mv rfl) ?_
  refine TW.pure rfl rfl rfl rfl (fun w9 => R.nilChk rfl) ?_
  refine TW.pure rfl rfl rfl rfl (fun w9 => R.fld rfl) ?_
  refine TW.read rfl rfl rfl rfl (fun w9 F9 S9 s => R.ldN (vs := [.int .i64 tt, .int .i64 nn]) rfl (two_at (s.cel (by repeat (first | exact SelB.blk | exact SelB.fz | apply SelB.there)))) rfl) ?_
  refine TW.or ?_ ?_
  · refine TW.step rfl rfl rfl rfl (CS.call rfl go31 (SpecS.ofNew (fun w => onewModelline_ok w)) (by repeat (first | exact Sels.nil | apply Sels.cons | exact Sel.keep | exact Sel.here | apply Sel.there))) ?_
    rintro _ _ ⟨_, ⟨m2, rfl, rfl⟩, rfl⟩
    refine ⟨⟨.inr (fun w9 F9 S9 s => R.ldN (vs := [.int .i64 tt, .int .i64 nn]) rfl (two_at (s.cel (by repeat (first | exact SelB.blk | exact SelB.fz | apply SelB.there)))) rfl), trivial⟩, ?_⟩
    refine TW.n1 ?_
    refine TW.pure rfl rfl rfl rfl (fun w9 => R.buildN (l := [.pointer (some ⟨m2, 0, none⟩), .int .i64 tt, .int .i64 nn]) rfl rfl) ?_
    refine TW.or ?_ ?_
    · refine TW.step rfl rfl rfl rfl (CS.boxA rfl) ?_
      rintro _ _ ⟨c0, rfl, rfl⟩
      refine ⟨⟨.inl (by decide +kernel), trivial⟩, ?_⟩
      refine TW.step rfl rfl rfl rfl (CS.alloc [.pointer none] rfl) ?_
      rintro _ _ ⟨b3, rfl, rfl⟩
      refine ⟨⟨.inr (fun w9 F9 S9 s => R.ldN (vs := [.int .i64 tt, .int .i64 nn]) rfl (two_at (s.cel (by repeat (first | exact SelB.blk | exact SelB.fz | apply SelB.there)))) rfl), trivial⟩, ?_⟩
      refine TW.step0 rfl rfl rfl (CS.st rfl rfl (show Sel _ (blk b3 _ _) _ from (by repeat (first | exact Sel.keep | exact Sel.here | apply Sel.there))) (by repeat (first | exact SetAt.here | apply SetAt.there)) rfl) ?_
      rintro _ _ rfl
      refine ⟨⟨.inl (by decide +kernel), trivial⟩, ?_⟩
      refine TW.nil ?_
      refine SN.seq ?_
      refine SG.seq ?_
      refine SG.seq ?_
      refine SG.region ?_
      refine SL.val rfl rfl (fun w9 F9 S9 s => R.mv rfl) ?_
      refine SL.val rfl rfl (fun w9 F9 S9 s => R.nilChk rfl) ?_
      refine SL.val rfl rfl (fun w9 F9 S9 s => R.fld rfl) ?_
      refine SL.val rfl rfl (fun w9 F9 S9 s => R.ldB (v := .pointer (some ⟨m, 0, none⟩)) rfl (s.cel (by repeat (first | exact SelB.blk | exact SelB.fz | apply SelB.there))) (by rfl)) ?_
      refine SL.step rfl rfl (CS.call rfl go39 (oallModellineS m (psL L) (by rw [psL_len]; omega)) (by repeat (first | exact Sels.nil | apply Sels.cons | exact Sel.keep | exact Sel.here | apply Sel.there))) ?_
      rintro _ _ ⟨_, ⟨lb, rfl, rfl⟩, rfl⟩
      refine SL.n2 ?_
      refine SL.nil ?_
      refine SN.seq ?_
      refine SG.block ?_
      refine SG.range rfl rfl go74 (itModelline_run lb (psL L)) (X := List (Pr Int)) (Y := Unit) (fun k x => [mp (κ := Int) 124 128 3 m2 x, blk c0 [.pointer (some ⟨m2, 0, none⟩), .int .i64 tt, .int .i64 nn] 85, blk b3 [.pointer (some ⟨c0, 0, none⟩)] 24, blk p [.pointer (some ⟨m, 0, none⟩), .int .i64 tt, .int .i64 nn] 85, mp (κ := Int) 124 128 3 m (psL L), lnA L, dkS L]) (fun k x => x.length ≤ k) (fun c k _ => []) (fun c k _ => False) ([]) ((Imp.sels (by repeat (first | exact Sels.nil | apply Sels.cons | exact Sel.keep | exact Sel.here | apply Sel.there)))) (Nat.le_refl 0) ?_ ?_ ?_
      · rintro l k x vs p hk hI ⟨⟨q, hq, rfl⟩, rfl⟩
        obtain ⟨e, he, rfl⟩ := psL_at hq
        have hel := (List.getElem?_eq_some_iff.1 he).1
        have hge := getT_at hw.srt he
        have hdl := ds_len hw hge
        refine ⟨rfl, ?_⟩
        intro o8
        refine SG.seq ?_
        refine SG.region ?_
        refine SL.val rfl rfl (fun w9 F9 S9 s => R.as rfl) ?_
        refine SL.nil ?_
        refine SN.seq ?_
        refine SG.region ?_
        refine SL.step rfl rfl (CS.alloc [.pointer none, .int .i64 0, .int .i64 0] rfl) ?_
        rintro _ _ ⟨b5, rfl, rfl⟩
        refine SL.step0 rfl (CS.stA (vs := lnC e.2) rfl rfl (by repeat (first | exact Sel.keep | exact Sel.here | apply Sel.there)) (by rfl) (by rfl) (lnC_one e.2)) ?_
        rintro _ _ rfl
        refine SL.nil ?_
        refine SN.roundA (fun o9 => ?_)
        refine SG.block ?_
        refine SG.draw [7, 11] [0, 1, 2, 3, 4, 5, 6, 8, 9, 7, 10, 11] (by decide +kernel) rfl ?_
        refine SW.read rfl rfl rfl rfl (fun w9 F9 S9 s => R.ldB (v := .pointer (some ⟨c0, 0, none⟩)) rfl (s.cel (by repeat (first | exact SelB.blk | exact SelB.fz | apply SelB.there))) (by rfl)) ?_
        refine SW.pure rfl rfl rfl rfl (fun w9 => R.nilChk rfl) ?_
        refine SW.pure rfl rfl rfl rfl (fun w9 => R.fld rfl) ?_
        refine SW.read rfl rfl rfl rfl (fun w9 F9 S9 s => R.ldB (v := .pointer (some ⟨m2, 0, none⟩)) rfl (s.cel (by repeat (first | exact SelB.blk | exact SelB.fz | apply SelB.there))) (by rfl)) ?_
        refine SW.pure rfl rfl rfl rfl (fun w9 => R.mv rfl) ?_
        refine SW.pure rfl rfl rfl rfl (fun w9 => R.fld rfl) ?_
        refine SW.read rfl rfl rfl rfl (fun w9 F9 S9 s => R.ldB (v := .pointer (some ⟨e.2.m, 0, none⟩)) rfl (s.cel (by repeat (first | exact SelB.blk | exact SelB.fz | apply SelB.there))) (by rfl)) ?_
        refine SW.pure rfl rfl rfl rfl (fun w9 => R.fld rfl) ?_
        refine SW.read rfl rfl rfl rfl (fun w9 F9 S9 s => R.ldN (vs := [.int .i64 e.2.pt, .int .i64 e.2.pn]) rfl (two_at (s.cel (by repeat (first | exact SelB.blk | exact SelB.fz | apply SelB.there)))) rfl) ?_
        refine SW.step rfl rfl rfl rfl (CS.callR (φ := fun v => ∃ b9, v = .pointer (some ⟨b9, 0, none⟩)) rfl go40 (fun w9 F9 S9 s => (s.lnAt (show Sel _ (lnA L) _ from (by repeat (first | exact Sel.keep | exact Sel.here | apply Sel.there))) hge).elim fun S9 h9 => (ocloneImageDisk_ok e.2.m (dsP e.2.ds) S9 w9 h9 (by rw [dsP_len]; omega)).mono fun v w1 ⟨b9, S1, h1, h2, _⟩ => ⟨⟨b9, h1⟩, h2⟩)) ?_
        rintro _ _ ⟨⟨b29, rfl⟩, rfl⟩
        refine ⟨⟨.inr (fun w9 F9 S9 s => R.ldN (vs := [.int .i64 e.2.pt, .int .i64 e.2.pn]) rfl (two_at (s.cel (by repeat (first | exact SelB.blk | exact SelB.fz | apply SelB.there)))) rfl), ⟨.inl (by decide +kernel), ⟨.inr (fun w9 F9 S9 s => R.ldB (v := .pointer (some ⟨m2, 0, none⟩)) rfl (s.cel (by repeat (first | exact SelB.blk | exact SelB.fz | apply SelB.there))) (by rfl)), ⟨.inr (fun w9 F9 S9 s => R.ldB (v := .pointer (some ⟨c0, 0, none⟩)) rfl (s.cel (by repeat (first | exact SelB.blk | exact SelB.fz | apply SelB.there))) (by rfl)), trivial⟩⟩⟩⟩, ?_⟩
        refine SW.pure rfl rfl rfl rfl (fun w9 => R.buildN (l := lnC ⟨b29, e.2.pt, e.2.pn, []⟩) rfl rfl) ?_
        refine SW.step rfl rfl rfl rfl (CS.call rfl go32 (lputG m2 x e.1 (lnC ⟨b29, e.2.pt, e.2.pn, []⟩) ⟨rfl, lnC_one _⟩ (by rw [psL_len] at hk; omega)) (by repeat (first | exact Sels.nil | apply Sels.cons | exact Sel.keep | exact Sel.here | apply Sel.there))) ?_
        rintro _ _ ⟨_, ⟨rfl, rfl⟩, rfl⟩
        refine ⟨⟨.inl (by decide +kernel), ⟨.inl (by decide +kernel), ⟨.inl (by decide +kernel), ⟨.inl (by decide +kernel), trivial⟩⟩⟩⟩, ?_⟩
        refine SW.n1 ?_
        refine SW.nil ?_
        refine SN.block ?_
        exact SN.next (_) (Imp.sels (by repeat (first | exact Sels.nil | apply Sels.cons | exact Sel.keep | exact Sel.here | apply Sel.there))) (show (putK x e.1 _).length ≤ k + 1 by rw [put_len]; split <;> omega)
      · rintro d2 x hI
        refine SN.block ?_
        refine SN.seq ?_
        refine SG.seq ?_
        refine SG.region ?_
        refine SL.val rfl rfl (fun w9 F9 S9 s => R.ldB (v := .pointer (some ⟨c0, 0, none⟩)) rfl (s.cel (by repeat (first | exact SelB.blk | exact SelB.fz | apply SelB.there))) (by rfl)) ?_
        refine SL.val rfl rfl (fun w9 F9 S9 s => R.as rfl) ?_
        refine SL.nil ?_
        refine SN.seq ?_
        exact SG.ret1M rfl rfl (by repeat (first | exact Dfrs.nil | apply Dfrs.cons | exact Sel.here | apply Sel.there)) ((Imp.sels (by repeat (first | exact Sels.nil | apply Sels.cons | exact Sel.keep | exact Sel.here | apply Sel.there)))) (⟨c0, m2, rfl, rfl⟩)
      · rintro d k c _ hk ⟨⟩
    refine TW.step rfl rfl rfl rfl (CS.alloc [.pointer none] rfl) ?_
    rintro _ _ ⟨b3, rfl, rfl⟩
    refine ⟨⟨.inr (fun w9 F9 S9 s => R.ldN (vs := [.int .i64 tt, .int .i64 nn]) rfl (two_at (s.cel (by repeat (first | exact SelB.blk | exact SelB.fz | apply SelB.there)))) rfl), trivial⟩, ?_⟩
    refine TW.step rfl rfl rfl rfl (CS.boxA rfl) ?_
    rintro _ _ ⟨c0, rfl, rfl⟩
    refine ⟨⟨.inr (fun w9 F9 S9 s => R.ldN (vs := [.int .i64 tt, .int .i64 nn]) rfl (two_at (s.cel (by repeat (first | exact SelB.blk | exact SelB.fz | apply SelB.there)))) rfl), trivial⟩, ?_⟩
    refine TW.step0 rfl rfl rfl (CS.st rfl rfl (show Sel _ (blk b3 _ _) _ from (by repeat (first | exact Sel.keep | exact Sel.here | apply Sel.there))) (by repeat (first | exact SetAt.here | apply SetAt.there)) rfl) ?_
    rintro _ _ rfl
    refine ⟨⟨.inr (fun w9 F9 S9 s => R.ldN (vs := [.int .i64 tt, .int .i64 nn]) rfl (two_at (s.cel (by repeat (first | exact SelB.blk | exact SelB.fz | apply SelB.there)))) rfl), trivial⟩, ?_⟩
    refine TW.nil ?_
    refine SN.seq ?_
    refine SG.seq ?_
    refine SG.seq ?_
    refine SG.region ?_
    refine SL.val rfl rfl (fun w9 F9 S9 s => R.mv rfl) ?_
    refine SL.val rfl rfl (fun w9 F9 S9 s => R.nilChk rfl) ?_
    refine SL.val rfl rfl (fun w9 F9 S9 s => R.fld rfl) ?_
    refine SL.val rfl rfl (fun w9 F9 S9 s => R.ldB (v := .pointer (some ⟨m, 0, none⟩)) rfl (s.cel (by repeat (first | exact SelB.blk | exact SelB.fz | apply SelB.there))) (by rfl)) ?_
    refine SL.step rfl rfl (CS.call rfl go39 (oallModellineS m (psL L) (by rw [psL_len]; omega)) (by repeat (first | exact Sels.nil | apply Sels.cons | exact Sel.keep | exact Sel.here | apply Sel.there))) ?_
    rintro _ _ ⟨_, ⟨lb, rfl, rfl⟩, rfl⟩
    refine SL.n2 ?_
    refine SL.nil ?_
    refine SN.seq ?_
    refine SG.block ?_
    refine SG.range rfl rfl go74 (itModelline_run lb (psL L)) (X := List (Pr Int)) (Y := Unit) (fun k x => [mp (κ := Int) 124 128 3 m2 x, blk c0 [.pointer (some ⟨m2, 0, none⟩), .int .i64 tt, .int .i64 nn] 85, blk b3 [.pointer (some ⟨c0, 0, none⟩)] 24, blk p [.pointer (some ⟨m, 0, none⟩), .int .i64 tt, .int .i64 nn] 85, mp (κ := Int) 124 128 3 m (psL L), lnA L, dkS L]) (fun k x => x.length ≤ k) (fun c k _ => []) (fun c k _ => False) ([]) ((Imp.sels (by repeat (first | exact Sels.nil | apply Sels.cons | exact Sel.keep | exact Sel.here | apply Sel.there)))) (Nat.le_refl 0) ?_ ?_ ?_
    · rintro l k x vs p hk hI ⟨⟨q, hq, rfl⟩, rfl⟩
      obtain ⟨e, he, rfl⟩ := psL_at hq
      have hel := (List.getElem?_eq_some_iff.1 he).1
      have hge := getT_at hw.srt he
      have hdl := ds_len hw hge
      refine ⟨rfl, ?_⟩
      intro o8
      refine SG.seq ?_
      refine SG.region ?_
      refine SL.val rfl rfl (fun w9 F9 S9 s => R.as rfl) ?_
      refine SL.nil ?_
      refine SN.seq ?_
      refine SG.region ?_
      refine SL.step rfl rfl (CS.alloc [.pointer none, .int .i64 0, .int .i64 0] rfl) ?_
      rintro _ _ ⟨b5, rfl, rfl⟩
      refine SL.step0 rfl (CS.stA (vs := lnC e.2) rfl rfl (by repeat (first | exact Sel.keep | exact Sel.here | apply Sel.there)) (by rfl) (by rfl) (lnC_one e.2)) ?_
      rintro _ _ rfl
      refine SL.nil ?_
      refine SN.roundA (fun o9 => ?_)
      refine SG.block ?_
      refine SG.draw [7, 11] [0, 1, 2, 3, 4, 5, 6, 8, 9, 7, 10, 11] (by decide +kernel) rfl ?_
      refine SW.read rfl rfl rfl rfl (fun w9 F9 S9 s => R.ldB (v := .pointer (some ⟨c0, 0, none⟩)) rfl (s.cel (by repeat (first | exact SelB.blk | exact SelB.fz | apply SelB.there))) (by rfl)) ?_
      refine SW.pure rfl rfl rfl rfl (fun w9 => R.nilChk rfl) ?_
      refine SW.pure rfl rfl rfl rfl (fun w9 => R.fld rfl) ?_
      refine SW.read rfl rfl rfl rfl (fun w9 F9 S9 s => R.ldB (v := .pointer (some ⟨m2, 0, none⟩)) rfl (s.cel (by repeat (first | exact SelB.blk | exact SelB.fz | apply SelB.there))) (by rfl)) ?_
      refine SW.pure rfl rfl rfl rfl (fun w9 => R.mv rfl) ?_
      refine SW.pure rfl rfl rfl rfl (fun w9 => R.fld rfl) ?_
      refine SW.read rfl rfl rfl rfl (fun w9 F9 S9 s => R.ldB (v := .pointer (some ⟨e.2.m, 0, none⟩)) rfl (s.cel (by repeat (first | exact SelB.blk | exact SelB.fz | apply SelB.there))) (by rfl)) ?_
      refine SW.pure rfl rfl rfl rfl (fun w9 => R.fld rfl) ?_
      refine SW.read rfl rfl rfl rfl (fun w9 F9 S9 s => R.ldN (vs := [.int .i64 e.2.pt, .int .i64 e.2.pn]) rfl (two_at (s.cel (by repeat (first | exact SelB.blk | exact SelB.fz | apply SelB.there)))) rfl) ?_
      refine SW.step rfl rfl rfl rfl (CS.callR (φ := fun v => ∃ b9, v = .pointer (some ⟨b9, 0, none⟩)) rfl go40 (fun w9 F9 S9 s => (s.lnAt (show Sel _ (lnA L) _ from (by repeat (first | exact Sel.keep | exact Sel.here | apply Sel.there))) hge).elim fun S9 h9 => (ocloneImageDisk_ok e.2.m (dsP e.2.ds) S9 w9 h9 (by rw [dsP_len]; omega)).mono fun v w1 ⟨b9, S1, h1, h2, _⟩ => ⟨⟨b9, h1⟩, h2⟩)) ?_
      rintro _ _ ⟨⟨b29, rfl⟩, rfl⟩
      refine ⟨⟨.inr (fun w9 F9 S9 s => R.ldN (vs := [.int .i64 e.2.pt, .int .i64 e.2.pn]) rfl (two_at (s.cel (by repeat (first | exact SelB.blk | exact SelB.fz | apply SelB.there)))) rfl), ⟨.inl (by decide +kernel), ⟨.inr (fun w9 F9 S9 s => R.ldB (v := .pointer (some ⟨m2, 0, none⟩)) rfl (s.cel (by repeat (first | exact SelB.blk | exact SelB.fz | apply SelB.there))) (by rfl)), ⟨.inr (fun w9 F9 S9 s => R.ldB (v := .pointer (some ⟨c0, 0, none⟩)) rfl (s.cel (by repeat (first | exact SelB.blk | exact SelB.fz | apply SelB.there))) (by rfl)), trivial⟩⟩⟩⟩, ?_⟩
      refine SW.pure rfl rfl rfl rfl (fun w9 => R.buildN (l := lnC ⟨b29, e.2.pt, e.2.pn, []⟩) rfl rfl) ?_
      refine SW.step rfl rfl rfl rfl (CS.call rfl go32 (lputG m2 x e.1 (lnC ⟨b29, e.2.pt, e.2.pn, []⟩) ⟨rfl, lnC_one _⟩ (by rw [psL_len] at hk; omega)) (by repeat (first | exact Sels.nil | apply Sels.cons | exact Sel.keep | exact Sel.here | apply Sel.there))) ?_
      rintro _ _ ⟨_, ⟨rfl, rfl⟩, rfl⟩
      refine ⟨⟨.inl (by decide +kernel), ⟨.inl (by decide +kernel), ⟨.inl (by decide +kernel), ⟨.inl (by decide +kernel), trivial⟩⟩⟩⟩, ?_⟩
      refine SW.n1 ?_
      refine SW.nil ?_
      refine SN.block ?_
      exact SN.next (_) (Imp.sels (by repeat (first | exact Sels.nil | apply Sels.cons | exact Sel.keep | exact Sel.here | apply Sel.there))) (show (putK x e.1 _).length ≤ k + 1 by rw [put_len]; split <;> omega)
    · rintro d2 x hI
      refine SN.block ?_
      refine SN.seq ?_
      refine SG.seq ?_
      refine SG.region ?_
      refine SL.val rfl rfl (fun w9 F9 S9 s => R.ldB (v := .pointer (some ⟨c0, 0, none⟩)) rfl (s.cel (by repeat (first | exact SelB.blk | exact SelB.fz | apply SelB.there))) (by rfl)) ?_
      refine SL.val rfl rfl (fun w9 F9 S9 s => R.as rfl) ?_
      refine SL.nil ?_
      refine SN.seq ?_
      exact SG.ret1M rfl rfl (by repeat (first | exact Dfrs.nil | apply Dfrs.cons | exact Sel.here | apply Sel.there)) ((Imp.sels (by repeat (first | exact Sels.nil | apply Sels.cons | exact Sel.keep | exact Sel.here | apply Sel.there)))) (⟨c0, m2, rfl, rfl⟩)
    · rintro d k c _ hk ⟨⟩
  refine TW.step rfl rfl rfl rfl (CS.alloc [.pointer none] rfl) ?_
  rintro _ _ ⟨b3, rfl, rfl⟩
  refine ⟨⟨.inr (fun w9 F9 S9 s => R.ldN (vs := [.int .i64 tt, .int .i64 nn]) rfl (two_at (s.cel (by repeat (first | exact SelB.blk | exact SelB.fz | apply SelB.there)))) rfl), trivial⟩, ?_⟩
  refine TW.step rfl rfl rfl rfl (CS.call rfl go31 (SpecS.ofNew (fun w => onewModelline_ok w)) (by repeat (first | exact Sels.nil | apply Sels.cons | exact Sel.keep | exact Sel.here | apply Sel.there))) ?_
  rintro _ _ ⟨_, ⟨m2, rfl, rfl⟩, rfl⟩
  refine ⟨⟨.inr (fun w9 F9 S9 s => R.ldN (vs := [.int .i64 tt, .int .i64 nn]) rfl (two_at (s.cel (by repeat (first | exact SelB.blk | exact SelB.fz | apply SelB.there)))) rfl), trivial⟩, ?_⟩
  refine TW.n1 ?_
  refine TW.pure rfl rfl rfl rfl (fun w9 => R.buildN (l := [.pointer (some ⟨m2, 0, none⟩), .int .i64 tt, .int .i64 nn]) rfl rfl) ?_
  refine TW.step rfl rfl rfl rfl (CS.boxA rfl) ?_
  rintro _ _ ⟨c0, rfl, rfl⟩
  refine ⟨⟨.inr (fun w9 F9 S9 s => R.ldN (vs := [.int .i64 tt, .int .i64 nn]) rfl (two_at (s.cel (by repeat (first | exact SelB.blk | exact SelB.fz | apply SelB.there)))) rfl), trivial⟩, ?_⟩
  refine TW.step0 rfl rfl rfl (CS.st rfl rfl (show Sel _ (blk b3 _ _) _ from (by repeat (first | exact Sel.keep | exact Sel.here | apply Sel.there))) (by repeat (first | exact SetAt.here | apply SetAt.there)) rfl) ?_
  rintro _ _ rfl
  refine ⟨⟨.inr (fun w9 F9 S9 s => R.ldN (vs := [.int .i64 tt, .int .i64 nn]) rfl (two_at (s.cel (by repeat (first | exact SelB.blk | exact SelB.fz | apply SelB.there)))) rfl), trivial⟩, ?_⟩
  refine TW.nil ?_
  refine SN.seq ?_
  refine SG.seq ?_
  refine SG.seq ?_
  refine SG.region ?_
  refine SL.val rfl rfl (fun w9 F9 S9 s => R.mv rfl) ?_
  refine SL.val rfl rfl (fun w9 F9 S9 s => R.nilChk rfl) ?_
  refine SL.val rfl rfl (fun w9 F9 S9 s => R.fld rfl) ?_
  refine SL.val rfl rfl (fun w9 F9 S9 s => R.ldB (v := .pointer (some ⟨m, 0, none⟩)) rfl (s.cel (by repeat (first | exact SelB.blk | exact SelB.fz | apply SelB.there))) (by rfl)) ?_
  refine SL.step rfl rfl (CS.call rfl go39 (oallModellineS m (psL L) (by rw [psL_len]; omega)) (by repeat (first | exact Sels.nil | apply Sels.cons | exact Sel.keep | exact Sel.here | apply Sel.there))) ?_
  rintro _ _ ⟨_, ⟨lb, rfl, rfl⟩, rfl⟩
  refine SL.n2 ?_
  refine SL.nil ?_
  refine SN.seq ?_
  refine SG.block ?_
  refine SG.range rfl rfl go74 (itModelline_run lb (psL L)) (X := List (Pr Int)) (Y := Unit) (fun k x => [mp (κ := Int) 124 128 3 m2 x, blk c0 [.pointer (some ⟨m2, 0, none⟩), .int .i64 tt, .int .i64 nn] 85, blk b3 [.pointer (some ⟨c0, 0, none⟩)] 24, blk p [.pointer (some ⟨m, 0, none⟩), .int .i64 tt, .int .i64 nn] 85, mp (κ := Int) 124 128 3 m (psL L), lnA L, dkS L]) (fun k x => x.length ≤ k) (fun c k _ => []) (fun c k _ => False) ([]) ((Imp.sels (by repeat (first | exact Sels.nil | apply Sels.cons | exact Sel.keep | exact Sel.here | apply Sel.there)))) (Nat.le_refl 0) ?_ ?_ ?_
  · rintro l k x vs p hk hI ⟨⟨q, hq, rfl⟩, rfl⟩
    obtain ⟨e, he, rfl⟩ := psL_at hq
    have hel := (List.getElem?_eq_some_iff.1 he).1
    have hge := getT_at hw.srt he
    have hdl := ds_len hw hge
    refine ⟨rfl, ?_⟩
    intro o8
    refine SG.seq ?_
    refine SG.region ?_
    refine SL.val rfl rfl (fun w9 F9 S9 s => R.as rfl) ?_
    refine SL.nil ?_
    refine SN.seq ?_
    refine SG.region ?_
    refine SL.step rfl rfl (CS.alloc [.pointer none, .int .i64 0, .int .i64 0] rfl) ?_
    rintro _ _ ⟨b5, rfl, rfl⟩
    refine SL.step0 rfl (CS.stA (vs := lnC e.2) rfl rfl (by repeat (first | exact Sel.keep | exact Sel.here | apply Sel.there)) (by rfl) (by rfl) (lnC_one e.2)) ?_
    rintro _ _ rfl
    refine SL.nil ?_
    refine SN.roundA (fun o9 => ?_)
    refine SG.block ?_
    refine SG.draw [7, 11] [0, 1, 2, 3, 4, 5, 6, 8, 9, 7, 10, 11] (by decide +kernel) rfl ?_
    refine SW.read rfl rfl rfl rfl (fun w9 F9 S9 s => R.ldB (v := .pointer (some ⟨c0, 0, none⟩)) rfl (s.cel (by repeat (first | exact SelB.blk | exact SelB.fz | apply SelB.there))) (by rfl)) ?_
    refine SW.pure rfl rfl rfl rfl (fun w9 => R.nilChk rfl) ?_
    refine SW.pure rfl rfl rfl rfl (fun w9 => R.fld rfl) ?_
    refine SW.read rfl rfl rfl rfl (fun w9 F9 S9 s => R.ldB (v := .pointer (some ⟨m2, 0, none⟩)) rfl (s.cel (by repeat (first | exact SelB.blk | exact SelB.fz | apply SelB.there))) (by rfl)) ?_
    refine SW.pure rfl rfl rfl rfl (fun w9 => R.mv rfl) ?_
    refine SW.pure rfl rfl rfl rfl (fun w9 => R.fld rfl) ?_
    refine SW.read rfl rfl rfl rfl (fun w9 F9 S9 s => R.ldB (v := .pointer (some ⟨e.2.m, 0, none⟩)) rfl (s.cel (by repeat (first | exact SelB.blk | exact SelB.fz | apply SelB.there))) (by rfl)) ?_
    refine SW.pure rfl rfl rfl rfl (fun w9 => R.fld rfl) ?_
    refine SW.read rfl rfl rfl rfl (fun w9 F9 S9 s => R.ldN (vs := [.int .i64 e.2.pt, .int .i64 e.2.pn]) rfl (two_at (s.cel (by repeat (first | exact SelB.blk | exact SelB.fz | apply SelB.there)))) rfl) ?_
    refine SW.step rfl rfl rfl rfl (CS.callR (φ := fun v => ∃ b9, v = .pointer (some ⟨b9, 0, none⟩)) rfl go40 (fun w9 F9 S9 s => (s.lnAt (show Sel _ (lnA L) _ from (by repeat (first | exact Sel.keep | exact Sel.here | apply Sel.there))) hge).elim fun S9 h9 => (ocloneImageDisk_ok e.2.m (dsP e.2.ds) S9 w9 h9 (by rw [dsP_len]; omega)).mono fun v w1 ⟨b9, S1, h1, h2, _⟩ => ⟨⟨b9, h1⟩, h2⟩)) ?_
    rintro _ _ ⟨⟨b29, rfl⟩, rfl⟩
    refine ⟨⟨.inr (fun w9 F9 S9 s => R.ldN (vs := [.int .i64 e.2.pt, .int .i64 e.2.pn]) rfl (two_at (s.cel (by repeat (first | exact SelB.blk | exact SelB.fz | apply SelB.there)))) rfl), ⟨.inl (by decide +kernel), ⟨.inr (fun w9 F9 S9 s => R.ldB (v := .pointer (some ⟨m2, 0, none⟩)) rfl (s.cel (by repeat (first | exact SelB.blk | exact SelB.fz | apply SelB.there))) (by rfl)), ⟨.inr (fun w9 F9 S9 s => R.ldB (v := .pointer (some ⟨c0, 0, none⟩)) rfl (s.cel (by repeat (first | exact SelB.blk | exact SelB.fz | apply SelB.there))) (by rfl)), trivial⟩⟩⟩⟩, ?_⟩
    refine SW.pure rfl rfl rfl rfl (fun w9 => R.buildN (l := lnC ⟨b29, e.2.pt, e.2.pn, []⟩) rfl rfl) ?_
    refine SW.step rfl rfl rfl rfl (CS.call rfl go32 (lputG m2 x e.1 (lnC ⟨b29, e.2.pt, e.2.pn, []⟩) ⟨rfl, lnC_one _⟩ (by rw [psL_len] at hk; omega)) (by repeat (first | exact Sels.nil | apply Sels.cons | exact Sel.keep | exact Sel.here | apply Sel.there))) ?_
    rintro _ _ ⟨_, ⟨rfl, rfl⟩, rfl⟩
    refine ⟨⟨.inl (by decide +kernel), ⟨.inl (by decide +kernel), ⟨.inl (by decide +kernel), ⟨.inl (by decide +kernel), trivial⟩⟩⟩⟩, ?_⟩
    refine SW.n1 ?_
    refine SW.nil ?_
    refine SN.block ?_
    exact SN.next (_) (Imp.sels (by repeat (first | exact Sels.nil | apply Sels.cons | exact Sel.keep | exact Sel.here | apply Sel.there))) (show (putK x e.1 _).length ≤ k + 1 by rw [put_len]; split <;> omega)
  · rintro d2 x hI
    refine SN.block ?_
    refine SN.seq ?_
    refine SG.seq ?_
    refine SG.region ?_
    refine SL.val rfl rfl (fun w9 F9 S9 s => R.ldB (v := .pointer (some ⟨c0, 0, none⟩)) rfl (s.cel (by repeat (first | exact SelB.blk | exact SelB.fz | apply SelB.there))) (by rfl)) ?_
    refine SL.val rfl rfl (fun w9 F9 S9 s => R.as rfl) ?_
    refine SL.nil ?_
    refine SN.seq ?_
    exact SG.ret1M rfl rfl (by repeat (first | exact Dfrs.nil | apply Dfrs.cons | exact Sel.here | apply Sel.there)) ((Imp.sels (by repeat (first | exact Sels.nil | apply Sels.cons | exact Sel.keep | exact Sel.here | apply Sel.there)))) (⟨c0, m2, rfl, rfl⟩)
  · rintro d k c _ hk ⟨⟩

instance : TyA2 Try.prog 73 3 := ⟨Try.underlying73, Try.underlying3, by kernel_rfl, size_run (by kernel_rfl), by kernel_rfl⟩

theorem prs_pt {w : World} {a : Option Addr} {P : List (Int × Int)} {k : Nat} {x : Int × Int} (h : Cells w a (prCs P)) (hx : P[k]? = some x) : ∃ q, a = some q := by
  have := (prCs_at (l := P ++ [x]) (i := P.length) (j := k) (q := x) (by simp) (List.getElem?_eq_some_iff.1 hx).1 (p := x) (by rw [List.getElem?_append_left (List.getElem?_eq_some_iff.1 hx).1]; exact hx)).1
  rw [List.take_append_of_le_length (Nat.le_refl _), List.take_length] at this
  obtain ⟨q, hq, _⟩ := h _ _ this
  exact ⟨q, hq⟩
theorem prs_ld {w : World} {a : Option Addr} {P : List (Int × Int)} {k : Nat} {x : Int × Int} {q : Addr} (h : Cells w a (prCs P)) (hq : a = some q) (hx : P[k]? = some x) : Cells w (some (q.add ((k : Int).toNat * 2))) (prC x) := by
  have := prCs_at (l := P ++ [x]) (i := P.length) (j := k) (q := x) (by simp) (List.getElem?_eq_some_iff.1 hx).1 (p := x) (by rw [List.getElem?_append_left (List.getElem?_eq_some_iff.1 hx).1]; exact hx)
  rw [List.take_append_of_le_length (Nat.le_refl _), List.take_length] at this
  intro j v hj
  subst hq
  rw [Int.toNat_natCast]
  match j, hj with
  | 0, hj => obtain ⟨p, hp, hc⟩ := h _ _ this.1; cases hp; cases hj; exact ⟨_, rfl, by rw [Go.Addr.add_add]; exact hc⟩
  | 1, hj => obtain ⟨p, hp, hc⟩ := h _ _ this.2; cases hp; cases hj; exact ⟨_, rfl, by rw [Go.Addr.add_add]; exact hc⟩

theorem cl27_ok (b40 b39 b38 : Nat) (wa : Option Addr) (wn wc : Nat) (P : List (Int × Int)) (k : Nat) (tx nx : Int) (hp : P[k]? = some (tx, nx)) (hn : wn = P.length) (hb : wn ≤ 100000) : SpecS Try.prog 28 [.int .i64 tx, .int .i64 nx, .pointer (some ⟨b40, 0, none⟩), .pointer (some ⟨b39, 0, none⟩), .pointer (some ⟨b38, 0, none⟩)] [blk b40 [.bool true] 4, blk b39 [.int .i64 ((k : Nat) : Int)] 3, blk b38 [.slice wa wn wc] 68, sh (fun w => Cells w wa (prCs P))] (fun v H' => (∃ b, v = .bool b ∧ b = true) ∧ H' = [blk b40 [.bool true] 4, blk b39 [.int .i64 (((k + 1) : Nat) : Int)] 3, blk b38 [.slice wa wn wc] 68, sh (fun w => Cells w wa (prCs P))]) := by
  refine SpecS.enter Try.func28 rfl 27 rfl (Nat.le_of_ble_eq_true rfl) (fun o => ?_)
  have hk9 := (List.getElem?_eq_some_iff.1 hp).1
  refine SG.fact (fun w9 F9 S9 s => prs_pt (s.sh (p := fun w => Cells w wa (prCs P)) (by repeat (first | exact Sel.keep | exact Sel.here | apply Sel.there))) hp) (fun hf9 => ?_)
  obtain ⟨q, hq⟩ := hf9
  refine SG.seq ?_
  refine SG.region ?_
  refine SL.val rfl rfl (fun w9 F9 S9 s => R.as rfl) ?_
  refine SL.nil ?_
  refine SN.seq ?_
  refine SG.seq ?_
  refine SG.region ?_
  refine SL.val rfl rfl (fun w9 F9 S9 s => R.ldB (v := .bool true) rfl (s.cel (by repeat (first | exact SelB.blk | exact SelB.fz | apply SelB.there))) (by rfl)) ?_
  refine SL.val rfl rfl (fun w9 F9 S9 s => R.mv rfl) ?_
  refine SL.isT 9 rfl (rfl) ?_
  refine SL.val rfl rfl (fun w9 F9 S9 s => R.ldB (v := .int .i64 (k : Int)) rfl (s.cel (by repeat (first | exact SelB.blk | exact SelB.fz | apply SelB.there))) (by rfl)) ?_
  refine SL.val rfl rfl (fun w9 F9 S9 s => R.ldB (v := .slice wa wn wc) rfl (s.cel (by repeat (first | exact SelB.blk | exact SelB.fz | apply SelB.there))) (by rfl)) ?_
  refine SL.val rfl rfl (fun w9 F9 S9 s => R.lenS rfl) ?_
  refine SL.val rfl rfl (fun w9 F9 S9 s => R.lss rfl rfl) ?_
  first | refine SL.val rfl rfl (fun w9 F9 S9 s => R.pickT rfl rfl) ?_ | refine SL.val rfl rfl (fun w9 F9 S9 s => R.pickF rfl rfl) ?_
  refine SL.val rfl rfl (fun w9 F9 S9 s => R.mv rfl) ?_
  refine SL.isT 15 rfl (decide_eq_true (by omega)) ?_
  refine SL.val rfl rfl (fun w9 F9 S9 s => R.ldB (v := .slice wa wn wc) rfl (s.cel (by repeat (first | exact SelB.blk | exact SelB.fz | apply SelB.there))) (by rfl)) ?_
  refine SL.val rfl rfl (fun w9 F9 S9 s => R.ldB (v := .int .i64 (k : Int)) rfl (s.cel (by repeat (first | exact SelB.blk | exact SelB.fz | apply SelB.there))) (by rfl)) ?_
  refine SL.val rfl rfl (fun w9 F9 S9 s => R.idx (i := (k : Int)) rfl rfl (by omega) (by omega) q hq) ?_
  refine SL.val rfl rfl (fun w9 F9 S9 s => R.ldN (vs := prC (tx, nx)) rfl (prs_ld (s.sh (p := fun w => Cells w wa (prCs P)) (by repeat (first | exact Sel.keep | exact Sel.here | apply Sel.there))) hq hp) rfl) ?_
  refine SL.val rfl rfl (fun w9 F9 S9 s => R.mv rfl) ?_
  refine SL.val rfl rfl (fun w9 F9 S9 s => R.mv rfl) ?_
  refine SL.val rfl rfl (fun w9 F9 S9 s => R.buildN (l := prC (tx, nx)) rfl rfl) ?_
  refine SL.val rfl rfl (fun w9 F9 S9 s => R.eqA2 rfl rfl) ?_
  refine SL.be 23 rfl (show _ = Value.bool true from congrArg Value.bool (decide_eq_true ⟨rfl, rfl⟩)) ?_
  first | refine SL.val rfl rfl (fun w9 F9 S9 s => R.pickT rfl rfl) ?_ | refine SL.val rfl rfl (fun w9 F9 S9 s => R.pickF rfl rfl) ?_
  refine SL.step0 rfl (CS.st rfl rfl (show Sel _ (blk b40 _ _) _ from (by repeat (first | exact Sel.keep | exact Sel.here | apply Sel.there))) (by repeat (first | exact SetAt.here | apply SetAt.there)) rfl) ?_
  rintro _ _ rfl
  refine SL.nil ?_
  refine SN.seq ?_
  refine SG.seq ?_
  refine SG.region ?_
  refine SL.val rfl rfl (fun w9 F9 S9 s => R.ldB (v := .int .i64 (k : Int)) rfl (s.cel (by repeat (first | exact SelB.blk | exact SelB.fz | apply SelB.there))) (by rfl)) ?_
  refine SL.val rfl rfl (fun w9 F9 S9 s => R.add rfl rfl (by omega)) ?_
  refine SL.step0 rfl (CS.st rfl rfl (show Sel _ (blk b39 _ _) _ from (by repeat (first | exact Sel.keep | exact Sel.here | apply Sel.there))) (by repeat (first | exact SetAt.here | apply SetAt.there)) rfl) ?_
  rintro _ _ rfl
  refine SL.nil ?_
  refine SN.seq ?_
  refine SG.seq ?_
  refine SG.region ?_
  refine SL.val rfl rfl (fun w9 F9 S9 s => R.as rfl) ?_
  refine SL.nil ?_
  refine SN.seq ?_
  exact SG.ret1 rfl rfl ((Imp.sels (by repeat (first | exact Sels.nil | apply Sels.cons | exact Sel.keep | exact Sel.here | apply Sel.there)))) (⟨⟨true, rfl, rfl⟩, rfl⟩)

end Go.Proofs.Ythdaelmjiaegfaa
/-
  The walks of package model.
-/
set_option linter.unusedVariables false
set_option linter.unusedSimpArgs false
set_option maxRecDepth 4000
namespace Go.Proofs.Ythdaelmjiaegfaa
open Go Brv Brv.Image Brv.Model
theorem rel_com {L L' : Lns} {l l2 : List WasV} {f : List LeftV} {k : Nat} {tt nn n' a e n9 a9 e9 : Int} {d : Dk} {ws : List (Int × List UInt8)} (hR : Rel L l f) (hw : Wf L k) (hd : wasV L tt nn = some d) (h : ComR L tt nn d ws L' n' a e) (hc : comL l tt nn ws = (l2, n9, a9, e9)) : n9 = n' ∧ a9 = a ∧ e9 = e ∧ Rel L' l2 f ∧ l2.length ≤ l.length + 1 := by
  have hx : exR l tt nn = some d.l := by rw [hR.ex, hd]; rfl
  have hx1 : exR l tt (nn + 1) = (wasV L tt (nn + 1)).map Dk.l := hR.ex _ _
  unfold comL at hc
  rw [hx, hx1] at hc
  simp only [Option.getD_some] at hc
  rcases h with ⟨h0, rfl, rfl, rfl, rfl⟩ | ⟨h0, ⟨q, hq⟩, rfl, rfl, rfl, rfl⟩ | ⟨h0, hq, rfl, rfl, rfl, x, b, hxx, rfl⟩
  · rw [if_pos h0] at hc
    cases hc
    exact ⟨rfl, rfl, rfl, hR, by omega⟩
  · rw [if_neg (by simp [h0]), hq, if_pos (by rfl)] at hc
    cases hc
    exact ⟨rfl, rfl, rfl, hR, by omega⟩
  · rw [if_neg (by simp [h0]), hq, if_neg (by simp)] at hc
    cases hc
    exact ⟨rfl, rfl, rfl, rel_add hR hw hxx hq _, by simp⟩
theorem rel_bra {L L' : Lns} {l l2 : List WasV} {f f2 : List LeftV} {k : Nat} {tt nn tx nx ux t' n' e t9 n9 e9 : Int} {r : Option Dk} (hR : Rel L l f) (hw : Wf L k) (h : BraR L tt nn tx nx ux L' t' n' e) (hr : AtR (wasV L) (parV L) nx tx r) (hb : braL l f tt nn (r.map Dk.l) tx nx ux = (l2, f2, t9, n9, e9)) : t9 = t' ∧ n9 = n' ∧ e9 = e ∧ Rel L' l2 f2 ∧ l2.length ≤ l.length + 1 ∧ f2.length ≤ f.length + 1 := by
  rcases h with ⟨hq, rfl, rfl, rfl, rfl⟩ | ⟨d, hq, hu, rfl, rfl, rfl, rfl⟩ | ⟨d, hq, hu, h1, rfl, rfl, rfl, m', rfl⟩
  · cases hr.one hq
    cases hb
    exact ⟨rfl, rfl, rfl, hR, by omega, by omega⟩
  · cases hr.one hq
    simp only [braL, Option.map_some] at hb
    rw [if_pos (by rw [hR.has]; exact hu.imp (fun ⟨x, hx⟩ => by rw [hx]; rfl) id)] at hb
    cases hb
    exact ⟨rfl, rfl, rfl, hR, by omega, by omega⟩
  · cases hr.one hq
    simp only [braL, Option.map_some] at hb
    rw [if_neg (by rw [hR.has, hu]; simp; omega)] at hb
    cases hb
    obtain ⟨x, hx⟩ := at_has hq
    have ht := (hw.ln _ (getT_some hx)).1
    exact ⟨rfl, rfl, rfl, rel_new hR hw hu (by have ht : 1 ≤ tx := ht; omega) m' d, by simp, by simp⟩
theorem rel_jmp {L : Lns} {l : List WasV} {f : List LeftV} (hR : Rel L l f) (tt nn tx nx : Int) : jumL l tt nn tx nx = ((jmpN L tt nn tx nx).1, (jmpN L tt nn tx nx).2, jmpE L tx nx) := by
  unfold jumL jmpN jmpE
  rw [hR.ex]
  cases wasV L tx nx <;> rfl
theorem rel_new0 (m1 d k : Nat) : Rel (newW m1 d k) [⟨1, 0, List.replicate (64 * k) 0⟩] [] := by
  refine ⟨fun t n => ?_, fun t => ?_, fun t => ?_, fun p => ?_, rfl⟩
  · unfold exR wasV newW
    rw [getT_single]
    by_cases h : t = 1
    · subst h
      rw [if_pos rfl]
      simp only [Option.bind_some]
      rw [getT_single]
      by_cases h2 : n = 0
      · subst h2; simp [isW]
      · rw [if_neg h2]; simp [isW, Ne.symm h2]
    · rw [if_neg h]; simp [isW, Ne.symm h]
  · unfold parR parV newW
    rw [getT_single]
    split <;> rfl
  · unfold hasR newW
    rw [getT_single]
    by_cases h : t = 1
    · subst h; simp [isT]
    · rw [if_neg h]; simp [isT, Ne.symm h]
  · simp [prsL, prsD, newW, WasV.pr]
theorem rcommitE (la : Option Addr) (ln lc : Nat) (l : List WasV) (fa : Option Addr) (fn fc : Nat) (f : List LeftV) (tt nn bl : Int) (a : Option Addr) (n c : Nat) (ws : List WriteV) (hll0 : ln ≤ 100000) (hn : n ≤ 1000000) (hnn : 0 ≤ nn ∧ nn ≤ 100000) (hx : ((exR l tt nn).getD []).length ≤ 4096) {l2 : List WasV} {n9 a9 e9 : Int} (hc : comL l tt nn (ws.map wv) = (l2, n9, a9, e9)) :
    SpecS Try.prog 18 [.agg #[.slice la ln lc, .slice fa fn fc, .int .i64 tt, .int .i64 nn, .int .i64 bl], .slice a n c] [sh (fun w => RefW w la ln l fa fn f), sh (fun w => WsP w a n ws)] (fun v H' => ∃ la' ln' lc', v = .tuple #[.agg #[.slice la' ln' lc', .slice fa fn fc, .int .i64 tt, .int .i64 n9, .int .i64 bl], .int .i64 a9, .int .i64 e9] ∧ H' = [sh (fun w => RefW w la' ln' l2 fa fn f)]) := by
  have := rcommit_ok la ln lc l fa fn fc f tt nn bl a n c ws hll0 hn hnn hx
  rw [hc] at this
  exact this
theorem rbranchE (la : Option Addr) (ln lc : Nat) (l : List WasV) (fa : Option Addr) (fn fc : Nat) (f : List LeftV) (tt nn bl : Int) (tx nx ux : Int) (r : Option (List UInt8)) (hll0 : ln ≤ 100000) (hfl0 : fn ≤ 100000) (hr : AtR (exR l) (parR f) nx tx r) {l2 : List WasV} {f2 : List LeftV} {t9 n9 e9 : Int} (hb : braL l f tt nn r tx nx ux = (l2, f2, t9, n9, e9)) :
    SpecS Try.prog 19 [.agg #[.slice la ln lc, .slice fa fn fc, .int .i64 tt, .int .i64 nn, .int .i64 bl], .int .i64 tx, .int .i64 nx, .int .i64 ux] [sh (fun w => RefW w la ln l fa fn f)] (fun v H' => ∃ la' ln' lc' fa' fn' fc', v = .tuple #[.agg #[.slice la' ln' lc', .slice fa' fn' fc', .int .i64 t9, .int .i64 n9, .int .i64 bl], .int .i64 e9] ∧ H' = [sh (fun w => RefW w la' ln' l2 fa' fn' f2)]) := by
  have := rbranch_ok la ln lc l fa fn fc f tt nn bl tx nx ux r hll0 hfl0 hr
  rw [hb] at this
  exact this
theorem rjumpE (la : Option Addr) (ln lc : Nat) (l : List WasV) (fa : Option Addr) (fn fc : Nat) (f : List LeftV) (tt nn bl : Int) (tx nx : Int) (hll0 : ln ≤ 100000) {t9 n9 e9 : Int} (hj : jumL l tt nn tx nx = (t9, n9, e9)) :
    SpecS Try.prog 20 [.agg #[.slice la ln lc, .slice fa fn fc, .int .i64 tt, .int .i64 nn, .int .i64 bl], .int .i64 tx, .int .i64 nx] [sh (fun w => RefW w la ln l fa fn f)] (fun v H' => v = .tuple #[.agg #[.slice la ln lc, .slice fa fn fc, .int .i64 t9, .int .i64 n9, .int .i64 bl], .int .i64 e9] ∧ H' = []) := by
  have := rjump_ok la ln lc l fa fn fc f tt nn bl tx nx hll0
  rw [hj] at this
  exact this
def parT (q : Option (Int × Int)) : Int := (q.map Prod.fst).getD 0
def parN (q : Option (Int × Int)) : Int := (q.map Prod.snd).getD 0
theorem parC_eq (q : Option (Int × Int)) : parC q = .tuple #[.int .i64 (parT q), .int .i64 (parN q), .bool q.isSome] := by cases q <;> rfl
def dkP (r : Option Dk) : Option Addr := r.map fun d => ⟨d.b, 0, none⟩
def dkB (r : Option Dk) : List UInt8 := (r.map Dk.l).getD []
theorem dkO_eq (r : Option Dk) : dkO r = .pointer (dkP r) := by cases r <;> rfl
theorem dkO_ok {L : Lns} {n t : Int} {r : Option Dk} {w : World} (h : DkP L w) (hr : AtR (wasV L) (parV L) n t r) : DiskO w (dkP r) (dkB r) := by
  cases r with
  | none => exact DiskO.no
  | some d => obtain ⟨t9, h9⟩ := at_was hr d rfl; exact (dkS_one h h9).o
structure PlS where
  i : Nat
  L : Lns
  tt : Int
  nn : Int
  d : Dk
  la : Option Addr
  ln : Nat
  lc : Nat
  l : List WasV
  fa : Option Addr
  fn : Nat
  fc : Nat
  f : List LeftV
structure PlT where
  L : Lns
  tt : Int
  nn : Int
  d : Dk
  la : Option Addr
  ln : Nat
  lc : Nat
  l : List WasV
  fa : Option Addr
  fn : Nat
  fc : Nat
  f : List LeftV
  e : Int

end Go.Proofs.Ythdaelmjiaegfaa
/-
  The walks of package model.
-/
set_option linter.unusedVariables false
set_option linter.unusedSimpArgs false
set_option maxRecDepth 4000
namespace Go.Proofs.Ythdaelmjiaegfaa
open Go Brv Brv.Image Brv.Model
set_option maxHeartbeats 2000000 in
theorem plays_no (k : Int) (oa : Option Addr) (oN oc : Nat) (os : List OpV) (w : World) (hE : ¬ (1 ≤ k ∧ k ≤ 64)) (hO : OpsOk w oa oN os) : Meets Try.prog 5 [.int .i64 k, .slice oa oN oc] w (fun v w' => v = .bool true ∧ Ext [] w w') := by
  refine Meets.law Try.func5 rfl 320 rfl (Nat.le_of_ble_eq_true rfl) (law_cons (p := fun w => OpsOk w oa oN os) (fun w9 he => hO.ext0 he) (law_nil w)) ?_
  refine SG.seq ?_
  refine SG.region ?_
  refine SL.val rfl rfl (fun w9 F9 S9 s => R.as rfl) ?_
  refine SL.nil ?_
  refine SN.seq ?_
  refine SG.seq ?_
  refine SG.seq ?_
  refine SG.region ?_
  refine SL.step rfl rfl (CS.call rfl go6 (first27_ok) (by repeat (first | exact Sels.nil | apply Sels.cons | exact Sel.keep | exact Sel.here | apply Sel.there))) ?_
  rintro _ _ ⟨_, ⟨rfl, rfl⟩, rfl⟩
  refine SL.n0 ?_
  refine SL.val rfl rfl (fun w9 F9 S9 s => R.not rfl) ?_
  refine SL.nil ?_
  refine SN.seq ?_
  refine SG.condF rfl ?_
  refine SG.skip ?_
  refine SN.seq ?_
  refine SG.seq ?_
  refine SG.region ?_
  refine SL.val rfl rfl (fun w9 F9 S9 s => R.mv rfl) ?_
  refine SL.step rfl rfl (CS.call rfl go7 (wnew_err k hE) (by repeat (first | exact Sels.nil | apply Sels.cons | exact Sel.keep | exact Sel.here | apply Sel.there))) ?_
  rintro _ _ ⟨_, ⟨rfl, rfl⟩, rfl⟩
  refine SL.n0 ?_
  refine SL.val rfl rfl (fun w9 F9 S9 s => R.mv rfl) ?_
  refine SL.val rfl rfl (fun w9 F9 S9 s => R.ext rfl rfl) ?_
  refine SL.val rfl rfl (fun w9 F9 S9 s => R.ext rfl rfl) ?_
  refine SL.val rfl rfl (fun w9 F9 S9 s => R.as rfl) ?_
  refine SL.val rfl rfl (fun w9 F9 S9 s => R.as rfl) ?_
  refine SL.nil ?_
  refine SN.seq ?_
  refine SG.seq ?_
  refine SG.seq ?_
  refine SG.region ?_
  refine SL.val rfl rfl (fun w9 F9 S9 s => R.mv rfl) ?_
  refine SL.val rfl rfl (fun w9 F9 S9 s => R.lss rfl rfl) ?_
  refine SL.val rfl rfl (fun w9 F9 S9 s => R.mv rfl) ?_
  refine SL.caseP 52 rfl (fun hg4_2 => ?_) (fun hg4_2 => ?_)
  · refine SL.pass rfl rfl ?_
    refine SL.pass rfl rfl ?_
    first | refine SL.val rfl rfl (fun w9 F9 S9 s => R.pickT rfl rfl) ?_ | refine SL.val rfl rfl (fun w9 F9 S9 s => R.pickF rfl rfl) ?_
    refine SL.nil ?_
    refine SN.seq ?_
    refine SG.condT rfl ?_
    refine SG.seq ?_
    refine SG.region ?_
    refine SL.val rfl rfl (fun w9 F9 S9 s => R.mv rfl) ?_
    refine SL.step rfl rfl (CS.call rfl go8 (wcom_nil 0 0 0) (by repeat (first | exact Sels.nil | apply Sels.cons | exact Sel.keep | exact Sel.here | apply Sel.there))) ?_
    rintro _ _ ⟨_, ⟨rfl, rfl⟩, rfl⟩
    refine SL.n0 ?_
    refine SL.val rfl rfl (fun w9 F9 S9 s => R.mv rfl) ?_
    refine SL.val rfl rfl (fun w9 F9 S9 s => R.ext rfl rfl) ?_
    refine SL.val rfl rfl (fun w9 F9 S9 s => R.ext rfl rfl) ?_
    refine SL.val rfl rfl (fun w9 F9 S9 s => R.as rfl) ?_
    refine SL.val rfl rfl (fun w9 F9 S9 s => R.as rfl) ?_
    refine SL.nil ?_
    refine SN.seq ?_
    refine SG.seq ?_
    refine SG.region ?_
    refine SL.val rfl rfl (fun w9 F9 S9 s => R.mv rfl) ?_
    refine SL.step rfl rfl (CS.call rfl go14 (wat_nil 1 0) (by repeat (first | exact Sels.nil | apply Sels.cons | exact Sel.keep | exact Sel.here | apply Sel.there))) ?_
    rintro _ _ ⟨_, ⟨rfl, rfl⟩, rfl⟩
    refine SL.n0 ?_
    refine SL.val rfl rfl (fun w9 F9 S9 s => R.mv rfl) ?_
    refine SL.val rfl rfl (fun w9 F9 S9 s => R.ext rfl rfl) ?_
    refine SL.val rfl rfl (fun w9 F9 S9 s => R.ext rfl rfl) ?_
    refine SL.val rfl rfl (fun w9 F9 S9 s => R.as rfl) ?_
    refine SL.val rfl rfl (fun w9 F9 S9 s => R.as rfl) ?_
    refine SL.nil ?_
    refine SN.seq ?_
    refine SG.seq ?_
    refine SG.region ?_
    refine SL.val rfl rfl (fun w9 F9 S9 s => R.mv rfl) ?_
    refine SL.step rfl rfl (CS.call rfl go11 (wnow_nil 0 0 0) (by repeat (first | exact Sels.nil | apply Sels.cons | exact Sel.keep | exact Sel.here | apply Sel.there))) ?_
    rintro _ _ ⟨_, ⟨rfl, rfl⟩, rfl⟩
    refine SL.n0 ?_
    refine SL.val rfl rfl (fun w9 F9 S9 s => R.mv rfl) ?_
    refine SL.val rfl rfl (fun w9 F9 S9 s => R.ext rfl rfl) ?_
    refine SL.val rfl rfl (fun w9 F9 S9 s => R.ext rfl rfl) ?_
    refine SL.val rfl rfl (fun w9 F9 S9 s => R.as rfl) ?_
    refine SL.val rfl rfl (fun w9 F9 S9 s => R.as rfl) ?_
    refine SL.nil ?_
    refine SN.seq ?_
    refine SG.seq ?_
    refine SG.region ?_
    refine SL.val rfl rfl (fun w9 F9 S9 s => R.mv rfl) ?_
    refine SL.val rfl rfl (fun w9 F9 S9 s => R.eqNilP rfl rfl) ?_
    refine SL.val rfl rfl (fun w9 F9 S9 s => R.mv rfl) ?_
    refine SL.isT 73 rfl (rfl) ?_
    refine SL.val rfl rfl (fun w9 F9 S9 s => R.mv rfl) ?_
    refine SL.val rfl rfl (fun w9 F9 S9 s => R.eqI rfl rfl) ?_
    first | refine SL.val rfl rfl (fun w9 F9 S9 s => R.pickT rfl rfl) ?_ | refine SL.val rfl rfl (fun w9 F9 S9 s => R.pickF rfl rfl) ?_
    refine SL.val rfl rfl (fun w9 F9 S9 s => R.mv rfl) ?_
    refine SL.isT 77 rfl (rfl) ?_
    refine SL.val rfl rfl (fun w9 F9 S9 s => R.mv rfl) ?_
    refine SL.val rfl rfl (fun w9 F9 S9 s => R.eqI rfl rfl) ?_
    first | refine SL.val rfl rfl (fun w9 F9 S9 s => R.pickT rfl rfl) ?_ | refine SL.val rfl rfl (fun w9 F9 S9 s => R.pickF rfl rfl) ?_
    refine SL.val rfl rfl (fun w9 F9 S9 s => R.mv rfl) ?_
    refine SL.isT 81 rfl (rfl) ?_
    refine SL.val rfl rfl (fun w9 F9 S9 s => R.mv rfl) ?_
    refine SL.val rfl rfl (fun w9 F9 S9 s => R.not rfl) ?_
    first | refine SL.val rfl rfl (fun w9 F9 S9 s => R.pickT rfl rfl) ?_ | refine SL.val rfl rfl (fun w9 F9 S9 s => R.pickF rfl rfl) ?_
    refine SL.val rfl rfl (fun w9 F9 S9 s => R.mv rfl) ?_
    refine SL.isT 85 rfl (rfl) ?_
    refine SL.val rfl rfl (fun w9 F9 S9 s => R.mv rfl) ?_
    refine SL.val rfl rfl (fun w9 F9 S9 s => R.mv rfl) ?_
    refine SL.val rfl rfl (fun w9 F9 S9 s => R.add rfl rfl (by omega)) ?_
    refine SL.val rfl rfl (fun w9 F9 S9 s => R.eqI rfl rfl) ?_
    first | refine SL.val rfl rfl (fun w9 F9 S9 s => R.pickT rfl rfl) ?_ | refine SL.val rfl rfl (fun w9 F9 S9 s => R.pickF rfl rfl) ?_
    refine SL.val rfl rfl (fun w9 F9 S9 s => R.mv rfl) ?_
    refine SL.isT 91 rfl (rfl) ?_
    refine SL.val rfl rfl (fun w9 F9 S9 s => R.mv rfl) ?_
    refine SL.step rfl rfl (CS.call rfl go13 (wdis_nil) (by repeat (first | exact Sels.nil | apply Sels.cons | exact Sel.keep | exact Sel.here | apply Sel.there))) ?_
    rintro _ _ ⟨_, ⟨rfl, rfl⟩, rfl⟩
    refine SL.n0 ?_
    refine SL.val rfl rfl (fun w9 F9 S9 s => R.eqNilP rfl rfl) ?_
    first | refine SL.val rfl rfl (fun w9 F9 S9 s => R.pickT rfl rfl) ?_ | refine SL.val rfl rfl (fun w9 F9 S9 s => R.pickF rfl rfl) ?_
    refine SL.val rfl rfl (fun w9 F9 S9 s => R.mv rfl) ?_
    refine SL.isT 96 rfl (rfl) ?_
    refine SL.val rfl rfl (fun w9 F9 S9 s => R.mv rfl) ?_
    refine SL.step rfl rfl (CS.call rfl go9 (wbra_nil 1 0 2) (by repeat (first | exact Sels.nil | apply Sels.cons | exact Sel.keep | exact Sel.here | apply Sel.there))) ?_
    rintro _ _ ⟨_, ⟨rfl, rfl⟩, rfl⟩
    refine SL.n0 ?_
    refine SL.val rfl rfl (fun w9 F9 S9 s => R.eqI rfl rfl) ?_
    first | refine SL.val rfl rfl (fun w9 F9 S9 s => R.pickT rfl rfl) ?_ | refine SL.val rfl rfl (fun w9 F9 S9 s => R.pickF rfl rfl) ?_
    refine SL.val rfl rfl (fun w9 F9 S9 s => R.mv rfl) ?_
    refine SL.isT 101 rfl (rfl) ?_
    refine SL.val rfl rfl (fun w9 F9 S9 s => R.mv rfl) ?_
    refine SL.step rfl rfl (CS.call rfl go10 (wjmp_nil 1 0 0) (by repeat (first | exact Sels.nil | apply Sels.cons | exact Sel.keep | exact Sel.here | apply Sel.there))) ?_
    rintro _ _ ⟨_, ⟨rfl, rfl⟩, rfl⟩
    refine SL.n0 ?_
    refine SL.val rfl rfl (fun w9 F9 S9 s => R.eqI rfl rfl) ?_
    first | refine SL.val rfl rfl (fun w9 F9 S9 s => R.pickT rfl rfl) ?_ | refine SL.val rfl rfl (fun w9 F9 S9 s => R.pickF rfl rfl) ?_
    refine SL.val rfl rfl (fun w9 F9 S9 s => R.mv rfl) ?_
    refine SL.isT 106 rfl (rfl) ?_
    refine SL.val rfl rfl (fun w9 F9 S9 s => R.mv rfl) ?_
    refine SL.step rfl rfl (CS.call rfl go16 (wclo_nil 0 0 0) (by repeat (first | exact Sels.nil | apply Sels.cons | exact Sel.keep | exact Sel.here | apply Sel.there))) ?_
    rintro _ _ ⟨_, ⟨rfl, rfl⟩, rfl⟩
    refine SL.n0 ?_
    refine SL.val rfl rfl (fun w9 F9 S9 s => R.eqNilP rfl rfl) ?_
    first | refine SL.val rfl rfl (fun w9 F9 S9 s => R.pickT rfl rfl) ?_ | refine SL.val rfl rfl (fun w9 F9 S9 s => R.pickF rfl rfl) ?_
    refine SL.val rfl rfl (fun w9 F9 S9 s => R.as rfl) ?_
    refine SL.nil ?_
    refine SN.seq ?_
    exact SG.ret1 rfl rfl ((Imp.sels (by repeat (first | exact Sels.nil | apply Sels.cons | exact Sel.keep | exact Sel.here | apply Sel.there)))) (rfl)
  · refine SL.val rfl rfl (fun w9 F9 S9 s => R.mv rfl) ?_
    refine SL.val rfl rfl (fun w9 F9 S9 s => R.gtr rfl rfl) ?_
    first | refine SL.val rfl rfl (fun w9 F9 S9 s => R.pickT rfl rfl) ?_ | refine SL.val rfl rfl (fun w9 F9 S9 s => R.pickF rfl rfl) ?_
    refine SL.nil ?_
    refine SN.seq ?_
    refine SG.condP rfl (fun h1 => ?_) (fun h1 => ?_)
    · refine SG.seq ?_
      refine SG.region ?_
      refine SL.val rfl rfl (fun w9 F9 S9 s => R.mv rfl) ?_
      refine SL.step rfl rfl (CS.call rfl go8 (wcom_nil 0 0 0) (by repeat (first | exact Sels.nil | apply Sels.cons | exact Sel.keep | exact Sel.here | apply Sel.there))) ?_
      rintro _ _ ⟨_, ⟨rfl, rfl⟩, rfl⟩
      refine SL.n0 ?_
      refine SL.val rfl rfl (fun w9 F9 S9 s => R.mv rfl) ?_
      refine SL.val rfl rfl (fun w9 F9 S9 s => R.ext rfl rfl) ?_
      refine SL.val rfl rfl (fun w9 F9 S9 s => R.ext rfl rfl) ?_
      refine SL.val rfl rfl (fun w9 F9 S9 s => R.as rfl) ?_
      refine SL.val rfl rfl (fun w9 F9 S9 s => R.as rfl) ?_
      refine SL.nil ?_
      refine SN.seq ?_
      refine SG.seq ?_
      refine SG.region ?_
      refine SL.val rfl rfl (fun w9 F9 S9 s => R.mv rfl) ?_
      refine SL.step rfl rfl (CS.call rfl go14 (wat_nil 1 0) (by repeat (first | exact Sels.nil | apply Sels.cons | exact Sel.keep | exact Sel.here | apply Sel.there))) ?_
      rintro _ _ ⟨_, ⟨rfl, rfl⟩, rfl⟩
      refine SL.n0 ?_
      refine SL.val rfl rfl (fun w9 F9 S9 s => R.mv rfl) ?_
      refine SL.val rfl rfl (fun w9 F9 S9 s => R.ext rfl rfl) ?_
      refine SL.val rfl rfl (fun w9 F9 S9 s => R.ext rfl rfl) ?_
      refine SL.val rfl rfl (fun w9 F9 S9 s => R.as rfl) ?_
      refine SL.val rfl rfl (fun w9 F9 S9 s => R.as rfl) ?_
      refine SL.nil ?_
      refine SN.seq ?_
      refine SG.seq ?_
      refine SG.region ?_
      refine SL.val rfl rfl (fun w9 F9 S9 s => R.mv rfl) ?_
      refine SL.step rfl rfl (CS.call rfl go11 (wnow_nil 0 0 0) (by repeat (first | exact Sels.nil | apply Sels.cons | exact Sel.keep | exact Sel.here | apply Sel.there))) ?_
      rintro _ _ ⟨_, ⟨rfl, rfl⟩, rfl⟩
      refine SL.n0 ?_
      refine SL.val rfl rfl (fun w9 F9 S9 s => R.mv rfl) ?_
      refine SL.val rfl rfl (fun w9 F9 S9 s => R.ext rfl rfl) ?_
      refine SL.val rfl rfl (fun w9 F9 S9 s => R.ext rfl rfl) ?_
      refine SL.val rfl rfl (fun w9 F9 S9 s => R.as rfl) ?_
      refine SL.val rfl rfl (fun w9 F9 S9 s => R.as rfl) ?_
      refine SL.nil ?_
      refine SN.seq ?_
      refine SG.seq ?_
      refine SG.region ?_
      refine SL.val rfl rfl (fun w9 F9 S9 s => R.mv rfl) ?_
      refine SL.val rfl rfl (fun w9 F9 S9 s => R.eqNilP rfl rfl) ?_
      refine SL.val rfl rfl (fun w9 F9 S9 s => R.mv rfl) ?_
      refine SL.isT 73 rfl (rfl) ?_
      refine SL.val rfl rfl (fun w9 F9 S9 s => R.mv rfl) ?_
      refine SL.val rfl rfl (fun w9 F9 S9 s => R.eqI rfl rfl) ?_
      first | refine SL.val rfl rfl (fun w9 F9 S9 s => R.pickT rfl rfl) ?_ | refine SL.val rfl rfl (fun w9 F9 S9 s => R.pickF rfl rfl) ?_
      refine SL.val rfl rfl (fun w9 F9 S9 s => R.mv rfl) ?_
      refine SL.isT 77 rfl (rfl) ?_
      refine SL.val rfl rfl (fun w9 F9 S9 s => R.mv rfl) ?_
      refine SL.val rfl rfl (fun w9 F9 S9 s => R.eqI rfl rfl) ?_
      first | refine SL.val rfl rfl (fun w9 F9 S9 s => R.pickT rfl rfl) ?_ | refine SL.val rfl rfl (fun w9 F9 S9 s => R.pickF rfl rfl) ?_
      refine SL.val rfl rfl (fun w9 F9 S9 s => R.mv rfl) ?_
      refine SL.isT 81 rfl (rfl) ?_
      refine SL.val rfl rfl (fun w9 F9 S9 s => R.mv rfl) ?_
      refine SL.val rfl rfl (fun w9 F9 S9 s => R.not rfl) ?_
      first | refine SL.val rfl rfl (fun w9 F9 S9 s => R.pickT rfl rfl) ?_ | refine SL.val rfl rfl (fun w9 F9 S9 s => R.pickF rfl rfl) ?_
      refine SL.val rfl rfl (fun w9 F9 S9 s => R.mv rfl) ?_
      refine SL.isT 85 rfl (rfl) ?_
      refine SL.val rfl rfl (fun w9 F9 S9 s => R.mv rfl) ?_
      refine SL.val rfl rfl (fun w9 F9 S9 s => R.mv rfl) ?_
      refine SL.val rfl rfl (fun w9 F9 S9 s => R.add rfl rfl (by omega)) ?_
      refine SL.val rfl rfl (fun w9 F9 S9 s => R.eqI rfl rfl) ?_
      first | refine SL.val rfl rfl (fun w9 F9 S9 s => R.pickT rfl rfl) ?_ | refine SL.val rfl rfl (fun w9 F9 S9 s => R.pickF rfl rfl) ?_
      refine SL.val rfl rfl (fun w9 F9 S9 s => R.mv rfl) ?_
      refine SL.isT 91 rfl (rfl) ?_
      refine SL.val rfl rfl (fun w9 F9 S9 s => R.mv rfl) ?_
      refine SL.step rfl rfl (CS.call rfl go13 (wdis_nil) (by repeat (first | exact Sels.nil | apply Sels.cons | exact Sel.keep | exact Sel.here | apply Sel.there))) ?_
      rintro _ _ ⟨_, ⟨rfl, rfl⟩, rfl⟩
      refine SL.n0 ?_
      refine SL.val rfl rfl (fun w9 F9 S9 s => R.eqNilP rfl rfl) ?_
      first | refine SL.val rfl rfl (fun w9 F9 S9 s => R.pickT rfl rfl) ?_ | refine SL.val rfl rfl (fun w9 F9 S9 s => R.pickF rfl rfl) ?_
      refine SL.val rfl rfl (fun w9 F9 S9 s => R.mv rfl) ?_
      refine SL.isT 96 rfl (rfl) ?_
      refine SL.val rfl rfl (fun w9 F9 S9 s => R.mv rfl) ?_
      refine SL.step rfl rfl (CS.call rfl go9 (wbra_nil 1 0 2) (by repeat (first | exact Sels.nil | apply Sels.cons | exact Sel.keep | exact Sel.here | apply Sel.there))) ?_
      rintro _ _ ⟨_, ⟨rfl, rfl⟩, rfl⟩
      refine SL.n0 ?_
      refine SL.val rfl rfl (fun w9 F9 S9 s => R.eqI rfl rfl) ?_
      first | refine SL.val rfl rfl (fun w9 F9 S9 s => R.pickT rfl rfl) ?_ | refine SL.val rfl rfl (fun w9 F9 S9 s => R.pickF rfl rfl) ?_
      refine SL.val rfl rfl (fun w9 F9 S9 s => R.mv rfl) ?_
      refine SL.isT 101 rfl (rfl) ?_
      refine SL.val rfl rfl (fun w9 F9 S9 s => R.mv rfl) ?_
      refine SL.step rfl rfl (CS.call rfl go10 (wjmp_nil 1 0 0) (by repeat (first | exact Sels.nil | apply Sels.cons | exact Sel.keep | exact Sel.here | apply Sel.there))) ?_
      rintro _ _ ⟨_, ⟨rfl, rfl⟩, rfl⟩
      refine SL.n0 ?_
      refine SL.val rfl rfl (fun w9 F9 S9 s => R.eqI rfl rfl) ?_
      first | refine SL.val rfl rfl (fun w9 F9 S9 s => R.pickT rfl rfl) ?_ | refine SL.val rfl rfl (fun w9 F9 S9 s => R.pickF rfl rfl) ?_
      refine SL.val rfl rfl (fun w9 F9 S9 s => R.mv rfl) ?_
      refine SL.isT 106 rfl (rfl) ?_
      refine SL.val rfl rfl (fun w9 F9 S9 s => R.mv rfl) ?_
      refine SL.step rfl rfl (CS.call rfl go16 (wclo_nil 0 0 0) (by repeat (first | exact Sels.nil | apply Sels.cons | exact Sel.keep | exact Sel.here | apply Sel.there))) ?_
      rintro _ _ ⟨_, ⟨rfl, rfl⟩, rfl⟩
      refine SL.n0 ?_
      refine SL.val rfl rfl (fun w9 F9 S9 s => R.eqNilP rfl rfl) ?_
      first | refine SL.val rfl rfl (fun w9 F9 S9 s => R.pickT rfl rfl) ?_ | refine SL.val rfl rfl (fun w9 F9 S9 s => R.pickF rfl rfl) ?_
      refine SL.val rfl rfl (fun w9 F9 S9 s => R.as rfl) ?_
      refine SL.nil ?_
      refine SN.seq ?_
      exact SG.ret1 rfl rfl ((Imp.sels (by repeat (first | exact Sels.nil | apply Sels.cons | exact Sel.keep | exact Sel.here | apply Sel.there)))) (rfl)
    · exact absurd ⟨by omega, by omega⟩ hE

set_option maxHeartbeats 8000000 in
theorem plays_yes (k : Nat) (oa : Option Addr) (oN oc : Nat) (os : List OpV) (w : World) (h1 : 1 ≤ k) (h2 : k ≤ 64) (hO : OpsOk w oa oN os) (hoc : oN ≤ 140737488351232) : Meets Try.prog 5 [.int .i64 (k : Int), .slice oa oN oc] w (fun v w' => v = .bool true ∧ Ext [] w w') := by
  refine Meets.law Try.func5 rfl 320 rfl (Nat.le_of_ble_eq_true rfl) (law_cons (p := fun w => OpsOk w oa oN os) (fun w9 he => hO.ext0 he) (law_nil w)) ?_
  refine SG.fact (fun w9 F9 S9 s => (s.sh (p := fun w => OpsOk w oa oN os) (by repeat (first | exact Sel.keep | exact Sel.here | apply Sel.there))).len) (fun hf9 => ?_)
  have hlen := hf9; clear hf9
  refine SG.seq ?_
  refine SG.region ?_
  refine SL.val rfl rfl (fun w9 F9 S9 s => R.as rfl) ?_
  refine SL.nil ?_
  refine SN.seq ?_
  refine SG.seq ?_
  refine SG.seq ?_
  refine SG.region ?_
  refine SL.step rfl rfl (CS.call rfl go6 (first27_ok) (by repeat (first | exact Sels.nil | apply Sels.cons | exact Sel.keep | exact Sel.here | apply Sel.there))) ?_
  rintro _ _ ⟨_, ⟨rfl, rfl⟩, rfl⟩
  refine SL.n0 ?_
  refine SL.val rfl rfl (fun w9 F9 S9 s => R.not rfl) ?_
  refine SL.nil ?_
  refine SN.seq ?_
  refine SG.condF rfl ?_
  refine SG.skip ?_
  refine SN.seq ?_
  refine SG.seq ?_
  refine SG.region ?_
  refine SL.val rfl rfl (fun w9 F9 S9 s => R.mv rfl) ?_
  refine SL.step rfl rfl (CS.call rfl go7 (wnew_ok k h1 h2) (by repeat (first | exact Sels.nil | apply Sels.cons | exact Sel.keep | exact Sel.here | apply Sel.there))) ?_
  rintro _ _ ⟨_, ⟨p, m, m1, d0, rfl, rfl⟩, rfl⟩
  refine SL.n4 ?_
  refine SL.val rfl rfl (fun w9 F9 S9 s => R.mv rfl) ?_
  refine SL.val rfl rfl (fun w9 F9 S9 s => R.ext rfl rfl) ?_
  refine SL.val rfl rfl (fun w9 F9 S9 s => R.ext rfl rfl) ?_
  refine SL.val rfl rfl (fun w9 F9 S9 s => R.as rfl) ?_
  refine SL.val rfl rfl (fun w9 F9 S9 s => R.as rfl) ?_
  refine SL.nil ?_
  refine SN.seq ?_
  refine SG.seq ?_
  refine SG.seq ?_
  refine SG.region ?_
  refine SL.val rfl rfl (fun w9 F9 S9 s => R.mv rfl) ?_
  refine SL.val rfl rfl (fun w9 F9 S9 s => R.lss rfl rfl) ?_
  refine SL.val rfl rfl (fun w9 F9 S9 s => R.mv rfl) ?_
  refine SL.caseP 52 rfl (fun hg4_2 => ?_) (fun hg4_2 => ?_)
  · exfalso; omega
  · refine SL.val rfl rfl (fun w9 F9 S9 s => R.mv rfl) ?_
    refine SL.val rfl rfl (fun w9 F9 S9 s => R.gtr rfl rfl) ?_
    first | refine SL.val rfl rfl (fun w9 F9 S9 s => R.pickT rfl rfl) ?_ | refine SL.val rfl rfl (fun w9 F9 S9 s => R.pickF rfl rfl) ?_
    refine SL.nil ?_
    refine SN.seq ?_
    refine SG.condP rfl (fun h1 => ?_) (fun h1 => ?_)
    · exfalso; omega
    · refine SG.skip ?_
      refine SN.seq ?_
      refine SG.seq ?_
      refine SG.region ?_
      refine SL.val rfl rfl (fun w9 F9 S9 s => R.mv rfl) ?_
      refine SL.step rfl rfl (CS.call rfl go17 (rwnew_ok k (by omega)) (by repeat (first | exact Sels.nil | apply Sels.cons | exact Sel.keep | exact Sel.here | apply Sel.there))) ?_
      rintro _ _ ⟨_, ⟨la0, rfl, rfl⟩, rfl⟩
      refine SL.n1 ?_
      refine SL.step rfl rfl (CS.alloc [.slice none 0 0, .slice none 0 0, .int .i64 0, .int .i64 0, .int .i64 0] rfl) ?_
      rintro _ _ ⟨b13, rfl, rfl⟩
      refine SL.step0 rfl (CS.stA (vs := [.slice la0 1 1, .slice none 0 0, .int .i64 1, .int .i64 0, .int .i64 (k : Int)]) rfl rfl (by repeat (first | exact Sel.keep | exact Sel.here | apply Sel.there)) (by rfl) (by rfl) (by intro u hu; simp only [List.mem_cons, List.not_mem_nil, or_false] at hu; rcases hu with rfl | rfl | rfl | rfl | rfl <;> rfl)) ?_
      rintro _ _ rfl
      refine SL.nil ?_
      refine SN.seq ?_
      refine SG.seq ?_
      refine SG.region ?_
      refine SL.val rfl rfl (fun w9 F9 S9 s => R.mv rfl) ?_
      refine SL.step rfl rfl (CS.call rfl go16 (wclo_ok p m (newW m1 d0 k) 1 0 0 (newW_wf m1 d0 k) (by decide)) (by repeat (first | exact Sels.nil | apply Sels.cons | exact Sel.keep | exact Sel.here | apply Sel.there))) ?_
      rintro _ _ ⟨_, ⟨bc, m2, rfl, rfl⟩, rfl⟩
      refine SL.n5 ?_
      refine SL.val rfl rfl (fun w9 F9 S9 s => R.as rfl) ?_
      refine SL.nil ?_
      refine SN.seq ?_
      refine SG.seq ?_
      refine SG.seq ?_
      refine SG.region ?_
      refine SL.val rfl rfl (fun w9 F9 S9 s => R.mv rfl) ?_
      refine SL.val rfl rfl (fun w9 F9 S9 s => R.lenS rfl) ?_
      refine SL.val rfl rfl (fun w9 F9 S9 s => R.mv rfl) ?_
      refine SL.nil ?_
      refine SN.seq ?_
      refine SG.block ?_
      refine SG.loop (X := PlS) (fun y => [(5, .pointer (some ⟨p, 0, none⟩)), (13, .pointer (some ⟨b13, 0, none⟩)), (14, .pointer (some ⟨bc, 0, none⟩)), (115, .slice oa oN oc), (116, .int .i64 (oN : Int)), (117, .int .i64 (y.i : Int))]) (fun y => [blk p [.pointer (some ⟨m, 0, none⟩), .int .i64 y.tt, .int .i64 y.nn] 85, mp (κ := Int) 124 128 3 m (psL y.L), lnA y.L, dkS y.L, blk b13 [.slice y.la y.ln y.lc, .slice y.fa y.fn y.fc, .int .i64 y.tt, .int .i64 y.nn, .int .i64 (k : Int)] 55, sh (fun w => RefW w y.la y.ln y.l y.fa y.fn y.f), blk bc [.pointer (some ⟨m2, 0, none⟩), .int .i64 1, .int .i64 0] 85, sh (fun w => OpsOk w oa oN os)]) (fun y => (y.i ≤ oN ∧ y.i ≤ 40) ∧ Wf y.L (y.i) ∧ wasV y.L y.tt y.nn = some y.d ∧ Rel y.L y.l y.f ∧ y.l.length ≤ y.i + 1 ∧ y.f.length ≤ y.i) (fun y => oN - y.i) (⟨0, newW m1 d0 k, 1, 0, ⟨d0, (List.replicate (64 * k) 0)⟩, la0, 1, 1, [⟨1, 0, (List.replicate (64 * k) 0)⟩], none, 0, 0, []⟩) (Sub.cons rfl (Sub.cons rfl (Sub.cons rfl (Sub.cons rfl (Sub.cons rfl (Sub.cons rfl (Sub.nil _))))))) ((Imp.sels (by repeat (first | exact Sels.nil | apply Sels.cons | exact Sel.keep | exact Sel.here | apply Sel.there)))) (⟨⟨Nat.zero_le _, Nat.zero_le _⟩, newW_wf m1 d0 k, newW_was m1 d0 k, rel_new0 m1 d0 k, Nat.le_refl 1, Nat.le_refl 0⟩) ?_
      rintro ⟨i, L, tt, nn, d, la, ln, lc, l, fa, fn, fc, f⟩ ⟨⟨hi, hi4⟩, hw, hd, hR, hl1, hf1⟩
      dsimp only at hi hi4 hw hd hR hl1 hf1
      show SG _ _ _ _ _ [(5, .pointer (some ⟨p, 0, none⟩)), (13, .pointer (some ⟨b13, 0, none⟩)), (14, .pointer (some ⟨bc, 0, none⟩)), (115, .slice oa oN oc), (116, .int .i64 (oN : Int)), (117, .int .i64 (i : Int))] [blk p [.pointer (some ⟨m, 0, none⟩), .int .i64 tt, .int .i64 nn] 85, mp (κ := Int) 124 128 3 m (psL L), lnA L, dkS L, blk b13 [.slice la ln lc, .slice fa fn fc, .int .i64 tt, .int .i64 nn, .int .i64 (k : Int)] 55, sh (fun w => RefW w la ln l fa fn f), blk bc [.pointer (some ⟨m2, 0, none⟩), .int .i64 1, .int .i64 0] 85, sh (fun w => OpsOk w oa oN os)] _
      refine SG.seq ?_
      refine SG.region ?_
      refine SL.val rfl rfl (fun w9 F9 S9 s => R.lss rfl rfl) ?_
      refine SL.nil ?_
      refine SN.seq ?_
      refine SG.seq ?_
      refine SG.condP rfl (fun h2 => ?_) (fun h2 => ?_)
      · obtain ⟨o, ho⟩ : ∃ o, os[i]? = some o := ⟨_, List.getElem?_eq_getElem (by omega)⟩
        refine SG.fact (fun w9 F9 S9 s => ops_pt (s.sh (p := fun w => OpsOk w oa oN os) (by repeat (first | exact Sel.keep | exact Sel.here | apply Sel.there))) ho) (fun hf9 => ?_)
        obtain ⟨q0, hq0⟩ := hf9
        refine SG.fact (fun w9 F9 S9 s => op_ln ((s.sh (p := fun w => OpsOk w oa oN os) (by repeat (first | exact Sel.keep | exact Sel.here | apply Sel.there))).ok o (List.mem_of_getElem? ho))) (fun hf9 => ?_)
        have hoL := hf9; clear hf9
        refine SG.fact (fun w9 F9 S9 s => tab_ln (s.sh (p := fun w => RefW w la ln l fa fn f) (by repeat (first | exact Sel.keep | exact Sel.here | apply Sel.there))).1) (fun hf9 => ?_)
        have hll := hf9; clear hf9
        refine SG.fact (fun w9 F9 S9 s => tab_ln (s.sh (p := fun w => RefW w la ln l fa fn f) (by repeat (first | exact Sel.keep | exact Sel.here | apply Sel.there))).2) (fun hf9 => ?_)
        have hfl := hf9; clear hf9
        refine SG.fact (fun w9 F9 S9 s => (St.dk s (show Sel _ (dkS L) _ from (by repeat (first | exact Sel.keep | exact Sel.here | apply Sel.there))) hd).len) (fun hf9 => ?_)
        have hdl := hf9; clear hf9
        obtain ⟨x9, hx9, hxd9⟩ := was_has hd
        have hnb := (hw.ln _ (getT_some hx9)).2.2.2 _ (getT_some hxd9)
        have hn0 : 0 ≤ nn := hnb.1
        have hn1 : nn ≤ (i : Int) := hnb.2
        have hex : exR l tt nn = some d.l := by rw [hR.ex, hd]; rfl
        refine SG.skip ?_
        refine SN.seq ?_
        refine SG.seq ?_
        refine SG.block ?_
        refine SG.seq ?_
        refine SG.region ?_
        refine SL.val rfl rfl (fun w9 F9 S9 s => R.mv rfl) ?_
        refine SL.val rfl rfl (fun w9 F9 S9 s => R.idx rfl rfl (by omega) (by omega) q0 hq0) ?_
        refine SL.val rfl rfl (fun w9 F9 S9 s => R.ldN (vs := OpV.cells o) rfl (ops_cells (s.sh (p := fun w => OpsOk w oa oN os) (by repeat (first | exact Sel.keep | exact Sel.here | apply Sel.there))) hq0 ho) rfl) ?_
        refine SL.step rfl rfl (CS.alloc [.int .i64 0, .int .i64 0, .int .i64 0, .int .i64 0, .slice none 0 0] rfl) ?_
        rintro _ _ ⟨b16, rfl, rfl⟩
        refine SL.val rfl rfl (fun w9 F9 S9 s => R.as rfl) ?_
        refine SL.step0 rfl (CS.stA (vs := OpV.cells o) rfl rfl (by repeat (first | exact Sel.keep | exact Sel.here | apply Sel.there)) (by rfl) (by rfl) (by intro u hu; exact OpV.cells.one _ u (by simpa using hu))) ?_
        rintro _ _ rfl
        refine SL.nil ?_
        refine SN.seq ?_
        refine SG.seq ?_
        refine SG.seq ?_
        refine SG.region ?_
        refine SL.val rfl rfl (fun w9 F9 S9 s => R.mv rfl) ?_
        refine SL.val rfl rfl (fun w9 F9 S9 s => R.geq rfl rfl) ?_
        refine SL.val rfl rfl (fun w9 F9 S9 s => R.mv rfl) ?_
        refine SL.caseP 124 rfl (fun hg14_2 => ?_) (fun hg14_2 => ?_)
        · refine SL.pass rfl rfl ?_
          refine SL.pass rfl rfl ?_
          refine SL.pass rfl rfl ?_
          refine SL.pass rfl rfl ?_
          first | refine SL.val rfl rfl (fun w9 F9 S9 s => R.pickT rfl rfl) ?_ | refine SL.val rfl rfl (fun w9 F9 S9 s => R.pickF rfl rfl) ?_
          refine SL.nil ?_
          refine SN.seq ?_
          refine SG.condT rfl ?_
          refine SG.seq ?_
          refine SG.region ?_
          refine SL.val rfl rfl (fun w9 F9 S9 s => R.as rfl) ?_
          refine SL.nil ?_
          refine SN.seq ?_
          exact SG.ret1 rfl rfl ((Imp.sels (by repeat (first | exact Sels.nil | apply Sels.cons | exact Sel.keep | exact Sel.here | apply Sel.there)))) (rfl)
        · refine SL.val rfl rfl (fun w9 F9 S9 s => R.fld rfl) ?_
          refine SL.val rfl rfl (fun w9 F9 S9 s => R.ldB (v := .slice o.L'a o.L'n o.L'c) rfl (s.cel (by repeat (first | exact SelB.blk | exact SelB.fz | apply SelB.there))) (by rfl)) ?_
          refine SL.val rfl rfl (fun w9 F9 S9 s => R.lenS rfl) ?_
          refine SL.val rfl rfl (fun w9 F9 S9 s => R.gtr rfl rfl) ?_
          first | refine SL.val rfl rfl (fun w9 F9 S9 s => R.pickT rfl rfl) ?_ | refine SL.val rfl rfl (fun w9 F9 S9 s => R.pickF rfl rfl) ?_
          refine SL.nil ?_
          refine SN.seq ?_
          refine SG.condP rfl (fun h3 => ?_) (fun h3 => ?_)
          · refine SG.seq ?_
            refine SG.region ?_
            refine SL.val rfl rfl (fun w9 F9 S9 s => R.as rfl) ?_
            refine SL.nil ?_
            refine SN.seq ?_
            exact SG.ret1 rfl rfl ((Imp.sels (by repeat (first | exact Sels.nil | apply Sels.cons | exact Sel.keep | exact Sel.here | apply Sel.there)))) (rfl)
          · refine SG.skip ?_
            refine SN.seq ?_
            refine SG.seq ?_
            refine SG.region ?_
            refine SL.val rfl rfl (fun w9 F9 S9 s => R.as rfl) ?_
            refine SL.val rfl rfl (fun w9 F9 S9 s => R.as rfl) ?_
            refine SL.nil ?_
            refine SN.seq ?_
            refine SG.seq ?_
            refine SG.seq ?_
            have hu : 0 ≤ IntKind.u64.wrap o.Kind' := by
              simp only [IntKind.wrap, IntKind.bits, IntKind.signed]
              simp
              omega
            refine SG.region ?_
            refine SL.val rfl rfl (fun w9 F9 S9 s => R.fld rfl) ?_
            refine SL.val rfl rfl (fun w9 F9 S9 s => R.ldB (v := .int .i64 o.Kind') rfl (s.cel (by repeat (first | exact SelB.blk | exact SelB.fz | apply SelB.there))) (by rfl)) ?_
            refine SL.val rfl rfl (fun w9 F9 S9 s => R.conv rfl _ rfl) ?_
            refine SL.val rfl rfl (fun w9 F9 S9 s => R.rem rfl rfl hu (by decide)) ?_
            refine SL.nil ?_
            refine SN.seq ?_
            refine SG.block ?_
            refine SG.seq ?_
            refine SG.region ?_
            refine SL.val rfl rfl (fun w9 F9 S9 s => R.eqI rfl rfl) ?_
            refine SL.val rfl rfl (fun w9 F9 S9 s => R.as rfl) ?_
            refine SL.nil ?_
            refine SN.seq ?_
            refine SG.cut (X := PlT) (fun y => [(5, .pointer (some ⟨p, 0, none⟩)), (13, .pointer (some ⟨b13, 0, none⟩)), (14, .pointer (some ⟨bc, 0, none⟩)), (115, .slice oa oN oc), (116, .int .i64 (oN : Int)), (16, .pointer (some ⟨b16, 0, none⟩)), (17, .int .i64 y.e), (18, .int .i64 y.e), (117, .int .i64 (i : Int))]) (fun y => [blk p [.pointer (some ⟨m, 0, none⟩), .int .i64 y.tt, .int .i64 y.nn] 85, mp (κ := Int) 124 128 3 m (psL y.L), lnA y.L, dkS y.L, blk b13 [.slice y.la y.ln y.lc, .slice y.fa y.fn y.fc, .int .i64 y.tt, .int .i64 y.nn, .int .i64 (k : Int)] 55, sh (fun w => RefW w y.la y.ln y.l y.fa y.fn y.f), blk bc [.pointer (some ⟨m2, 0, none⟩), .int .i64 1, .int .i64 0] 85, sh (fun w => OpsOk w oa oN os), blk b16 (OpV.cells o) 31]) (fun y => Wf y.L ((i + 1)) ∧ wasV y.L y.tt y.nn = some y.d ∧ Rel y.L y.l y.f ∧ y.l.length ≤ (i + 1) + 1 ∧ y.f.length ≤ (i + 1)) ?_ ?_
            · refine SG.condP rfl (fun h4 => ?_) (fun h4 => ?_)
              · refine SG.seq ?_
                refine SG.region ?_
                refine SL.val rfl rfl (fun w9 F9 S9 s => R.ldBN (cs := #[.slice la ln lc, .slice fa fn fc, .int .i64 tt, .int .i64 nn, .int .i64 (k : Int)]) rfl (s.cel (by repeat (first | exact SelB.blk | exact SelB.fz | apply SelB.there))) (by rfl)) ?_
                refine SL.val rfl rfl (fun w9 F9 S9 s => R.fld rfl) ?_
                refine SL.val rfl rfl (fun w9 F9 S9 s => R.ldB (v := .slice o.L'a o.L'n o.L'c) rfl (s.cel (by repeat (first | exact SelB.blk | exact SelB.fz | apply SelB.there))) (by rfl)) ?_
                obtain ⟨⟨l2, n9, a9, e9⟩, hcm⟩ : ∃ q, comL l tt nn (o.L'.map wv) = q := ⟨_, rfl⟩
                refine SL.imp (Imp.weak (p := fun w => OpsOk w oa oN os) (q := fun w => WsP w o.L'a o.L'n o.L') (by repeat (first | exact Sel.keep | exact Sel.here | apply Sel.there)) (fun w hw => op_ws (hw.ok o (List.mem_of_getElem? ho)))) ?_
                refine SL.step rfl rfl (CS.call rfl go18 (rcommitE la ln lc l fa fn fc f tt nn (k : Int) o.L'a o.L'n o.L'c o.L' (by omega) (by omega) (by omega) (by rw [hex]; show d.l.length ≤ 4096; omega) hcm) (by repeat (first | exact Sels.nil | apply Sels.cons | exact Sel.keep | exact Sel.here | apply Sel.there))) ?_
                rintro _ _ ⟨_, ⟨la2, ln2, lc2, rfl, rfl⟩, rfl⟩
                refine SL.n1 ?_
                refine SL.val rfl rfl (fun w9 F9 S9 s => R.mv rfl) ?_
                refine SL.val rfl rfl (fun w9 F9 S9 s => R.ext rfl rfl) ?_
                refine SL.val rfl rfl (fun w9 F9 S9 s => R.ext rfl rfl) ?_
                refine SL.val rfl rfl (fun w9 F9 S9 s => R.ext rfl rfl) ?_
                refine SL.step rfl rfl (CS.alloc [.slice none 0 0, .slice none 0 0, .int .i64 0, .int .i64 0, .int .i64 0] rfl) ?_
                rintro _ _ ⟨b19, rfl, rfl⟩
                refine SL.step0 rfl (CS.stA (vs := [.slice la2 ln2 lc2, .slice fa fn fc, .int .i64 tt, .int .i64 n9, .int .i64 (k : Int)]) rfl rfl (by repeat (first | exact Sel.keep | exact Sel.here | apply Sel.there)) (by rfl) (by rfl) (by intro u hu; simp only [List.mem_cons, List.not_mem_nil, or_false] at hu; rcases hu with rfl | rfl | rfl | rfl | rfl <;> rfl)) ?_
                rintro _ _ rfl
                refine SL.val rfl rfl (fun w9 F9 S9 s => R.as rfl) ?_
                refine SL.val rfl rfl (fun w9 F9 S9 s => R.as rfl) ?_
                refine SL.nil ?_
                refine SN.seq ?_
                refine SG.seq ?_
                refine SG.region ?_
                refine SL.val rfl rfl (fun w9 F9 S9 s => R.ldBN (cs := #[.slice la2 ln2 lc2, .slice fa fn fc, .int .i64 tt, .int .i64 n9, .int .i64 (k : Int)]) rfl (s.cel (by repeat (first | exact SelB.blk | exact SelB.fz | apply SelB.there))) (by rfl)) ?_
                refine SL.val rfl rfl (fun w9 F9 S9 s => R.mv rfl) ?_
                refine SL.step0 rfl (CS.stA (vs := [.slice la2 ln2 lc2, .slice fa fn fc, .int .i64 tt, .int .i64 n9, .int .i64 (k : Int)]) rfl rfl (show Sel _ (blk b13 _ _) _ from (by repeat (first | exact Sel.keep | exact Sel.here | apply Sel.there))) (by rfl) (by rfl) (by intro u hu; simp only [List.mem_cons, List.not_mem_nil, or_false] at hu; rcases hu with rfl | rfl | rfl | rfl | rfl <;> rfl)) ?_
                rintro _ _ rfl
                refine SL.val rfl rfl (fun w9 F9 S9 s => R.as rfl) ?_
                refine SL.nil ?_
                refine SN.seq ?_
                refine SG.seq ?_
                refine SG.region ?_
                refine SL.val rfl rfl (fun w9 F9 S9 s => R.mv rfl) ?_
                refine SL.val rfl rfl (fun w9 F9 S9 s => R.fld rfl) ?_
                refine SL.val rfl rfl (fun w9 F9 S9 s => R.ldB (v := .slice o.L'a o.L'n o.L'c) rfl (s.cel (by repeat (first | exact SelB.blk | exact SelB.fz | apply SelB.there))) (by rfl)) ?_
                refine SL.step rfl rfl (CS.call rfl go8 (wcom_ok p m L tt nn i d o.L'a o.L'n o.L'c o.L' hw (by omega) hd (by omega)) (by repeat (first | exact Sels.nil | apply Sels.cons | exact Sel.keep | exact Sel.here | apply Sel.there))) ?_
                rintro _ _ ⟨_, ⟨L2, n2, a2, e2, rfl, hC, rfl, rfl⟩, rfl⟩
                refine SL.n4 ?_
                obtain ⟨d2, hw2, hd2, hst⟩ := com_stays hC hw hd
                obtain ⟨rfl, rfl, rfl, hR2, hl2⟩ := rel_com hR hw hd hC hcm
                refine SL.val rfl rfl (fun w9 F9 S9 s => R.mv rfl) ?_
                refine SL.val rfl rfl (fun w9 F9 S9 s => R.ext rfl rfl) ?_
                refine SL.val rfl rfl (fun w9 F9 S9 s => R.ext rfl rfl) ?_
                refine SL.val rfl rfl (fun w9 F9 S9 s => R.as rfl) ?_
                refine SL.val rfl rfl (fun w9 F9 S9 s => R.as rfl) ?_
                refine SL.nil ?_
                refine SN.seq ?_
                refine SG.seq ?_
                refine SG.region ?_
                refine SL.val rfl rfl (fun w9 F9 S9 s => R.mv rfl) ?_
                refine SL.val rfl rfl (fun w9 F9 S9 s => R.as rfl) ?_
                refine SL.nil ?_
                refine SN.seq ?_
                refine SG.seq ?_
                refine SG.region ?_
                refine SL.val rfl rfl (fun w9 F9 S9 s => R.mv rfl) ?_
                refine SL.val rfl rfl (fun w9 F9 S9 s => R.mv rfl) ?_
                refine SL.val rfl rfl (fun w9 F9 S9 s => R.neI rfl rfl) ?_
                refine SL.nil ?_
                refine SN.seq ?_
                refine SG.condP rfl (fun h5 => ?_) (fun h5 => ?_)
                · exact absurd rfl h5
                · refine SG.skip ?_
                  exact SN.handX (⟨L2, tt, n9, d2, la2, ln2, lc2, l2, fa, fn, fc, f, e9⟩) (Sub.cons rfl (Sub.cons rfl (Sub.cons rfl (Sub.cons rfl (Sub.cons rfl (Sub.cons rfl (Sub.cons rfl (Sub.cons rfl (Sub.cons rfl (Sub.nil _)))))))))) ((Imp.sels (by repeat (first | exact Sels.nil | apply Sels.cons | exact Sel.keep | exact Sel.here | apply Sel.there)))) (⟨hw2, hd2, hR2, by show l2.length ≤ i + 1 + 1; omega, by show f.length ≤ i + 1; omega⟩)
              · refine SG.seq ?_
                refine SG.region ?_
                refine SL.val rfl rfl (fun w9 F9 S9 s => R.eqI rfl rfl) ?_
                refine SL.val rfl rfl (fun w9 F9 S9 s => R.as rfl) ?_
                refine SL.nil ?_
                refine SN.seq ?_
                refine SG.condP rfl (fun h6 => ?_) (fun h6 => ?_)
                · refine SG.seq ?_
                  refine SG.region ?_
                  refine SL.val rfl rfl (fun w9 F9 S9 s => R.ldBN (cs := #[.slice la ln lc, .slice fa fn fc, .int .i64 tt, .int .i64 nn, .int .i64 (k : Int)]) rfl (s.cel (by repeat (first | exact SelB.blk | exact SelB.fz | apply SelB.there))) (by rfl)) ?_
                  refine SL.val rfl rfl (fun w9 F9 S9 s => R.fld rfl) ?_
                  refine SL.val rfl rfl (fun w9 F9 S9 s => R.ldB (v := .int .i64 o.T') rfl (s.cel (by repeat (first | exact SelB.blk | exact SelB.fz | apply SelB.there))) (by rfl)) ?_
                  refine SL.val rfl rfl (fun w9 F9 S9 s => R.fld rfl) ?_
                  refine SL.val rfl rfl (fun w9 F9 S9 s => R.ldB (v := .int .i64 o.N') rfl (s.cel (by repeat (first | exact SelB.blk | exact SelB.fz | apply SelB.there))) (by rfl)) ?_
                  refine SL.val rfl rfl (fun w9 F9 S9 s => R.fld rfl) ?_
                  refine SL.val rfl rfl (fun w9 F9 S9 s => R.ldB (v := .int .i64 o.U') rfl (s.cel (by repeat (first | exact SelB.blk | exact SelB.fz | apply SelB.there))) (by rfl)) ?_
                  obtain ⟨rk, hrk⟩ := hw.rk
                  obtain ⟨r, hr⟩ := at_ex hrk o.N' (rk o.T') o.T' (Nat.le_refl _)
                  obtain ⟨⟨l2, f2, t9, n9, e9⟩, hbr⟩ : ∃ q, braL l f tt nn (r.map Dk.l) o.T' o.N' o.U' = q := ⟨_, rfl⟩
                  refine SL.step rfl rfl (CS.call rfl go19 (rbranchE la ln lc l fa fn fc f tt nn (k : Int) o.T' o.N' o.U' (r.map Dk.l) (by omega) (by omega) (rel_at hR hr) hbr) (by repeat (first | exact Sels.nil | apply Sels.cons | exact Sel.keep | exact Sel.here | apply Sel.there))) ?_
                  rintro _ _ ⟨_, ⟨la2, ln2, lc2, fa2, fn2, fc2, rfl, rfl⟩, rfl⟩
                  refine SL.n1 ?_
                  refine SL.val rfl rfl (fun w9 F9 S9 s => R.mv rfl) ?_
                  refine SL.val rfl rfl (fun w9 F9 S9 s => R.ext rfl rfl) ?_
                  refine SL.val rfl rfl (fun w9 F9 S9 s => R.ext rfl rfl) ?_
                  refine SL.step0 rfl (CS.stA (vs := [.slice la2 ln2 lc2, .slice fa2 fn2 fc2, .int .i64 t9, .int .i64 n9, .int .i64 (k : Int)]) rfl rfl (show Sel _ (blk b13 _ _) _ from (by repeat (first | exact Sel.keep | exact Sel.here | apply Sel.there))) (by rfl) (by rfl) (by intro u hu; simp only [List.mem_cons, List.not_mem_nil, or_false] at hu; rcases hu with rfl | rfl | rfl | rfl | rfl <;> rfl)) ?_
                  rintro _ _ rfl
                  refine SL.val rfl rfl (fun w9 F9 S9 s => R.as rfl) ?_
                  refine SL.nil ?_
                  refine SN.seq ?_
                  refine SG.region ?_
                  refine SL.val rfl rfl (fun w9 F9 S9 s => R.mv rfl) ?_
                  refine SL.val rfl rfl (fun w9 F9 S9 s => R.fld rfl) ?_
                  refine SL.val rfl rfl (fun w9 F9 S9 s => R.ldB (v := .int .i64 o.T') rfl (s.cel (by repeat (first | exact SelB.blk | exact SelB.fz | apply SelB.there))) (by rfl)) ?_
                  refine SL.val rfl rfl (fun w9 F9 S9 s => R.fld rfl) ?_
                  refine SL.val rfl rfl (fun w9 F9 S9 s => R.ldB (v := .int .i64 o.N') rfl (s.cel (by repeat (first | exact SelB.blk | exact SelB.fz | apply SelB.there))) (by rfl)) ?_
                  refine SL.val rfl rfl (fun w9 F9 S9 s => R.fld rfl) ?_
                  refine SL.val rfl rfl (fun w9 F9 S9 s => R.ldB (v := .int .i64 o.U') rfl (s.cel (by repeat (first | exact SelB.blk | exact SelB.fz | apply SelB.there))) (by rfl)) ?_
                  refine SL.step rfl rfl (CS.call rfl go9 (wbra_ok p m L tt nn i o.T' o.N' o.U' hw (by omega)) (by repeat (first | exact Sels.nil | apply Sels.cons | exact Sel.keep | exact Sel.here | apply Sel.there))) ?_
                  rintro _ _ ⟨_, ⟨L2, t2, n2, e2, rfl, hB, rfl, rfl⟩, rfl⟩
                  refine SL.n4 ?_
                  obtain ⟨d2, hw2, hd2, hst⟩ := bra_stays hB hw hd
                  obtain ⟨rfl, rfl, rfl, hR2, hl2, hf2⟩ := rel_bra hR hw hB hr hbr
                  refine SL.val rfl rfl (fun w9 F9 S9 s => R.as rfl) ?_
                  refine SL.nil ?_
                  exact SN.handX (⟨L2, t9, n9, d2, la2, ln2, lc2, l2, fa2, fn2, fc2, f2, e9⟩) (Sub.cons rfl (Sub.cons rfl (Sub.cons rfl (Sub.cons rfl (Sub.cons rfl (Sub.cons rfl (Sub.cons rfl (Sub.cons rfl (Sub.cons rfl (Sub.nil _)))))))))) ((Imp.sels (by repeat (first | exact Sels.nil | apply Sels.cons | exact Sel.keep | exact Sel.here | apply Sel.there)))) (⟨hw2, hd2, hR2, by show l2.length ≤ i + 1 + 1; omega, by show f2.length ≤ i + 1; omega⟩)
                · refine SG.seq ?_
                  refine SG.region ?_
                  refine SL.val rfl rfl (fun w9 F9 S9 s => R.eqI rfl rfl) ?_
                  refine SL.val rfl rfl (fun w9 F9 S9 s => R.as rfl) ?_
                  refine SL.nil ?_
                  refine SN.seq ?_
                  refine SG.condP rfl (fun h7 => ?_) (fun h7 => ?_)
                  · refine SG.seq ?_
                    refine SG.region ?_
                    refine SL.val rfl rfl (fun w9 F9 S9 s => R.ldBN (cs := #[.slice la ln lc, .slice fa fn fc, .int .i64 tt, .int .i64 nn, .int .i64 (k : Int)]) rfl (s.cel (by repeat (first | exact SelB.blk | exact SelB.fz | apply SelB.there))) (by rfl)) ?_
                    refine SL.val rfl rfl (fun w9 F9 S9 s => R.fld rfl) ?_
                    refine SL.val rfl rfl (fun w9 F9 S9 s => R.ldB (v := .int .i64 o.T') rfl (s.cel (by repeat (first | exact SelB.blk | exact SelB.fz | apply SelB.there))) (by rfl)) ?_
                    refine SL.val rfl rfl (fun w9 F9 S9 s => R.fld rfl) ?_
                    refine SL.val rfl rfl (fun w9 F9 S9 s => R.ldB (v := .int .i64 o.N') rfl (s.cel (by repeat (first | exact SelB.blk | exact SelB.fz | apply SelB.there))) (by rfl)) ?_
                    refine SL.step rfl rfl (CS.call rfl go20 (rjumpE la ln lc l fa fn fc f tt nn (k : Int) o.T' o.N' (by omega) (rel_jmp hR tt nn o.T' o.N')) (by repeat (first | exact Sels.nil | apply Sels.cons | exact Sel.keep | exact Sel.here | apply Sel.there))) ?_
                    rintro _ _ ⟨_, ⟨rfl, rfl⟩, rfl⟩
                    refine SL.n0 ?_
                    refine SL.val rfl rfl (fun w9 F9 S9 s => R.mv rfl) ?_
                    refine SL.val rfl rfl (fun w9 F9 S9 s => R.ext rfl rfl) ?_
                    refine SL.val rfl rfl (fun w9 F9 S9 s => R.ext rfl rfl) ?_
                    refine SL.step0 rfl (CS.stA (vs := [.slice la ln lc, .slice fa fn fc, .int .i64 (jmpN L tt nn o.T' o.N').1, .int .i64 (jmpN L tt nn o.T' o.N').2, .int .i64 (k : Int)]) rfl rfl (show Sel _ (blk b13 _ _) _ from (by repeat (first | exact Sel.keep | exact Sel.here | apply Sel.there))) (by rfl) (by rfl) (by intro u hu; simp only [List.mem_cons, List.not_mem_nil, or_false] at hu; rcases hu with rfl | rfl | rfl | rfl | rfl <;> rfl)) ?_
                    rintro _ _ rfl
                    refine SL.val rfl rfl (fun w9 F9 S9 s => R.as rfl) ?_
                    refine SL.nil ?_
                    refine SN.seq ?_
                    refine SG.region ?_
                    refine SL.val rfl rfl (fun w9 F9 S9 s => R.mv rfl) ?_
                    refine SL.val rfl rfl (fun w9 F9 S9 s => R.fld rfl) ?_
                    refine SL.val rfl rfl (fun w9 F9 S9 s => R.ldB (v := .int .i64 o.T') rfl (s.cel (by repeat (first | exact SelB.blk | exact SelB.fz | apply SelB.there))) (by rfl)) ?_
                    refine SL.val rfl rfl (fun w9 F9 S9 s => R.fld rfl) ?_
                    refine SL.val rfl rfl (fun w9 F9 S9 s => R.ldB (v := .int .i64 o.N') rfl (s.cel (by repeat (first | exact SelB.blk | exact SelB.fz | apply SelB.there))) (by rfl)) ?_
                    refine SL.step rfl rfl (CS.call rfl go10 (wjmp_ok p m L tt nn i o.T' o.N' hw (by omega)) (by repeat (first | exact Sels.nil | apply Sels.cons | exact Sel.keep | exact Sel.here | apply Sel.there))) ?_
                    rintro _ _ ⟨_, ⟨rfl, rfl⟩, rfl⟩
                    refine SL.n4 ?_
                    obtain ⟨d2, hd2⟩ := jmp_stays (tx := o.T') (nx := o.N') hd
                    refine SL.val rfl rfl (fun w9 F9 S9 s => R.as rfl) ?_
                    refine SL.nil ?_
                    exact SN.handX (⟨L, (jmpN L tt nn o.T' o.N').1, (jmpN L tt nn o.T' o.N').2, d2, la, ln, lc, l, fa, fn, fc, f, jmpE L o.T' o.N'⟩) (Sub.cons rfl (Sub.cons rfl (Sub.cons rfl (Sub.cons rfl (Sub.cons rfl (Sub.cons rfl (Sub.cons rfl (Sub.cons rfl (Sub.cons rfl (Sub.nil _)))))))))) ((Imp.sels (by repeat (first | exact Sels.nil | apply Sels.cons | exact Sel.keep | exact Sel.here | apply Sel.there)))) (⟨hw.more, hd2, hR, by show l.length ≤ i + 1 + 1; omega, by show f.length ≤ i + 1; omega⟩)
                  · refine SG.skip ?_
                    exact SN.handX (⟨L, tt, nn, d, la, ln, lc, l, fa, fn, fc, f, 0⟩) (Sub.cons rfl (Sub.cons rfl (Sub.cons rfl (Sub.cons rfl (Sub.cons rfl (Sub.cons rfl (Sub.cons rfl (Sub.cons rfl (Sub.cons rfl (Sub.nil _)))))))))) ((Imp.sels (by repeat (first | exact Sels.nil | apply Sels.cons | exact Sel.keep | exact Sel.here | apply Sel.there)))) (⟨hw.more, hd, hR, by show l.length ≤ i + 1 + 1; omega, by show f.length ≤ i + 1; omega⟩)
            · rintro ⟨L2, tt2, nn2, d2, la2, ln2, lc2, l2, fa2, fn2, fc2, f2, e⟩ ⟨hw2, hd2, hR2, hl2, hf2⟩
              show SN _ _ _ _ _ [(5, .pointer (some ⟨p, 0, none⟩)), (13, .pointer (some ⟨b13, 0, none⟩)), (14, .pointer (some ⟨bc, 0, none⟩)), (115, .slice oa oN oc), (116, .int .i64 (oN : Int)), (16, .pointer (some ⟨b16, 0, none⟩)), (17, .int .i64 e), (18, .int .i64 e), (117, .int .i64 (i : Int))] [blk p [.pointer (some ⟨m, 0, none⟩), .int .i64 tt2, .int .i64 nn2] 85, mp (κ := Int) 124 128 3 m (psL L2), lnA L2, dkS L2, blk b13 [.slice la2 ln2 lc2, .slice fa2 fn2 fc2, .int .i64 tt2, .int .i64 nn2, .int .i64 (k : Int)] 55, sh (fun w => RefW w la2 ln2 l2 fa2 fn2 f2), blk bc [.pointer (some ⟨m2, 0, none⟩), .int .i64 1, .int .i64 0] 85, sh (fun w => OpsOk w oa oN os), blk b16 (OpV.cells o) 31]
              dsimp only at hw2 hd2 hR2 hl2 hf2
              refine SN.fact (fun w9 F9 S9 s => tab_ln (s.sh (p := fun w => RefW w la2 ln2 l2 fa2 fn2 f2) (by repeat (first | exact Sel.keep | exact Sel.here | apply Sel.there))).1) (fun hf9 => ?_)
              have hll2 := hf9; clear hf9
              refine SN.fact (fun w9 F9 S9 s => tab_ln (s.sh (p := fun w => RefW w la2 ln2 l2 fa2 fn2 f2) (by repeat (first | exact Sel.keep | exact Sel.here | apply Sel.there))).2) (fun hf9 => ?_)
              have hfl2 := hf9; clear hf9
              obtain ⟨rk, hrk⟩ := hw2.rk
              obtain ⟨r, hr⟩ := at_ex hrk o.N' (rk o.T') o.T' (Nat.le_refl _)
              have hex2 : exR l2 tt2 nn2 = some d2.l := by rw [hR2.ex, hd2]; rfl
              refine SN.block ?_
              refine SN.seq ?_
              refine SG.seq ?_
              refine SG.region ?_
              refine SL.val rfl rfl (fun w9 F9 S9 s => R.mv rfl) ?_
              refine SL.val rfl rfl (fun w9 F9 S9 s => R.fld rfl) ?_
              refine SL.val rfl rfl (fun w9 F9 S9 s => R.ldB (v := .int .i64 o.T') rfl (s.cel (by repeat (first | exact SelB.blk | exact SelB.fz | apply SelB.there))) (by rfl)) ?_
              refine SL.val rfl rfl (fun w9 F9 S9 s => R.fld rfl) ?_
              refine SL.val rfl rfl (fun w9 F9 S9 s => R.ldB (v := .int .i64 o.N') rfl (s.cel (by repeat (first | exact SelB.blk | exact SelB.fz | apply SelB.there))) (by rfl)) ?_
              refine SL.step rfl rfl (CS.call rfl go14 (watE p m L2 tt2 nn2 (i + 1) o.T' o.N' hw2 (by omega) r hr) (by repeat (first | exact Sels.nil | apply Sels.cons | exact Sel.keep | exact Sel.here | apply Sel.there))) ?_
              rintro _ _ ⟨_, ⟨rfl, rfl⟩, rfl⟩
              refine SL.n4 ?_
              refine SL.val rfl rfl (fun w9 F9 S9 s => R.mv rfl) ?_
              refine SL.val rfl rfl (fun w9 F9 S9 s => R.ext rfl rfl) ?_
              refine SL.val rfl rfl (fun w9 F9 S9 s => R.ext rfl rfl) ?_
              refine SL.val rfl rfl (fun w9 F9 S9 s => R.as rfl) ?_
              refine SL.val rfl rfl (fun w9 F9 S9 s => R.as rfl) ?_
              refine SL.nil ?_
              refine SN.seq ?_
              refine SG.seq ?_
              refine SG.region ?_
              refine SL.val rfl rfl (fun w9 F9 S9 s => R.ldBN (cs := #[.slice la2 ln2 lc2, .slice fa2 fn2 fc2, .int .i64 tt2, .int .i64 nn2, .int .i64 (k : Int)]) rfl (s.cel (by repeat (first | exact SelB.blk | exact SelB.fz | apply SelB.there))) (by rfl)) ?_
              refine SL.val rfl rfl (fun w9 F9 S9 s => R.fld rfl) ?_
              refine SL.val rfl rfl (fun w9 F9 S9 s => R.ldB (v := .int .i64 o.T') rfl (s.cel (by repeat (first | exact SelB.blk | exact SelB.fz | apply SelB.there))) (by rfl)) ?_
              refine SL.val rfl rfl (fun w9 F9 S9 s => R.fld rfl) ?_
              refine SL.val rfl rfl (fun w9 F9 S9 s => R.ldB (v := .int .i64 o.N') rfl (s.cel (by repeat (first | exact SelB.blk | exact SelB.fz | apply SelB.there))) (by rfl)) ?_
              refine SL.step rfl rfl (CS.call rfl go21 (ratE la2 ln2 lc2 l2 fa2 fn2 fc2 f2 tt2 nn2 (k : Int) o.T' o.N' (r.map Dk.l) (by omega) (by omega) (rel_at hR2 hr)) (by repeat (first | exact Sels.nil | apply Sels.cons | exact Sel.keep | exact Sel.here | apply Sel.there))) ?_
              rintro _ _ ⟨_, ⟨rfl, rfl⟩, rfl⟩
              refine SL.n0 ?_
              refine SL.val rfl rfl (fun w9 F9 S9 s => R.mv rfl) ?_
              refine SL.val rfl rfl (fun w9 F9 S9 s => R.ext rfl rfl) ?_
              refine SL.val rfl rfl (fun w9 F9 S9 s => R.ext rfl rfl) ?_
              refine SL.val rfl rfl (fun w9 F9 S9 s => R.as rfl) ?_
              refine SL.val rfl rfl (fun w9 F9 S9 s => R.as rfl) ?_
              refine SL.nil ?_
              refine SN.seq ?_
              refine SG.seq ?_
              refine SG.region ?_
              refine SL.val rfl rfl (fun w9 F9 S9 s => R.mv rfl) ?_
              refine SL.val rfl rfl (fun w9 F9 S9 s => R.fld rfl) ?_
              refine SL.val rfl rfl (fun w9 F9 S9 s => R.ldB (v := .int .i64 o.U') rfl (s.cel (by repeat (first | exact SelB.blk | exact SelB.fz | apply SelB.there))) (by rfl)) ?_
              refine SL.step rfl rfl (CS.call rfl go22 (wpar_ok p m L2 tt2 nn2 (i + 1) o.U' hw2 (by omega)) (by repeat (first | exact Sels.nil | apply Sels.cons | exact Sel.keep | exact Sel.here | apply Sel.there))) ?_
              rintro _ _ ⟨_, ⟨rfl, rfl⟩, rfl⟩
              refine SL.n4 ?_
              refine SL.be 217 rfl (parC_eq (parV L2 o.U')) ?_
              refine SL.val rfl rfl (fun w9 F9 S9 s => R.mv rfl) ?_
              refine SL.val rfl rfl (fun w9 F9 S9 s => R.ext rfl rfl) ?_
              refine SL.val rfl rfl (fun w9 F9 S9 s => R.ext rfl rfl) ?_
              refine SL.val rfl rfl (fun w9 F9 S9 s => R.ext rfl rfl) ?_
              refine SL.val rfl rfl (fun w9 F9 S9 s => R.as rfl) ?_
              refine SL.val rfl rfl (fun w9 F9 S9 s => R.as rfl) ?_
              refine SL.val rfl rfl (fun w9 F9 S9 s => R.as rfl) ?_
              refine SL.nil ?_
              refine SN.seq ?_
              refine SG.seq ?_
              refine SG.region ?_
              refine SL.val rfl rfl (fun w9 F9 S9 s => R.ldBN (cs := #[.slice la2 ln2 lc2, .slice fa2 fn2 fc2, .int .i64 tt2, .int .i64 nn2, .int .i64 (k : Int)]) rfl (s.cel (by repeat (first | exact SelB.blk | exact SelB.fz | apply SelB.there))) (by rfl)) ?_
              refine SL.val rfl rfl (fun w9 F9 S9 s => R.fld rfl) ?_
              refine SL.val rfl rfl (fun w9 F9 S9 s => R.ldB (v := .int .i64 o.U') rfl (s.cel (by repeat (first | exact SelB.blk | exact SelB.fz | apply SelB.there))) (by rfl)) ?_
              refine SL.step rfl rfl (CS.call rfl go23 (rparentE la2 ln2 lc2 l2 fa2 fn2 fc2 f2 tt2 nn2 (k : Int) o.U' (by omega) (parV L2 o.U') (hR2.pr o.U')) (by repeat (first | exact Sels.nil | apply Sels.cons | exact Sel.keep | exact Sel.here | apply Sel.there))) ?_
              rintro _ _ ⟨_, ⟨rfl, rfl⟩, rfl⟩
              refine SL.n0 ?_
              refine SL.be 225 rfl (parC_eq (parV L2 o.U')) ?_
              refine SL.val rfl rfl (fun w9 F9 S9 s => R.mv rfl) ?_
              refine SL.val rfl rfl (fun w9 F9 S9 s => R.ext rfl rfl) ?_
              refine SL.val rfl rfl (fun w9 F9 S9 s => R.ext rfl rfl) ?_
              refine SL.val rfl rfl (fun w9 F9 S9 s => R.ext rfl rfl) ?_
              refine SL.val rfl rfl (fun w9 F9 S9 s => R.as rfl) ?_
              refine SL.val rfl rfl (fun w9 F9 S9 s => R.as rfl) ?_
              refine SL.val rfl rfl (fun w9 F9 S9 s => R.as rfl) ?_
              refine SL.nil ?_
              refine SN.seq ?_
              refine SG.seq ?_
              refine SG.region ?_
              refine SL.val rfl rfl (fun w9 F9 S9 s => R.mv rfl) ?_
              refine SL.step rfl rfl (CS.call rfl go11 (wnow_ok p m L2 tt2 nn2 (i + 1)) (by repeat (first | exact Sels.nil | apply Sels.cons | exact Sel.keep | exact Sel.here | apply Sel.there))) ?_
              rintro _ _ ⟨_, ⟨rfl, rfl⟩, rfl⟩
              refine SL.n1 ?_
              refine SL.val rfl rfl (fun w9 F9 S9 s => R.mv rfl) ?_
              refine SL.val rfl rfl (fun w9 F9 S9 s => R.ext rfl rfl) ?_
              refine SL.val rfl rfl (fun w9 F9 S9 s => R.ext rfl rfl) ?_
              refine SL.val rfl rfl (fun w9 F9 S9 s => R.as rfl) ?_
              refine SL.val rfl rfl (fun w9 F9 S9 s => R.as rfl) ?_
              refine SL.nil ?_
              refine SN.seq ?_
              refine SG.seq ?_
              refine SG.region ?_
              refine SL.val rfl rfl (fun w9 F9 S9 s => R.ldBN (cs := #[.slice la2 ln2 lc2, .slice fa2 fn2 fc2, .int .i64 tt2, .int .i64 nn2, .int .i64 (k : Int)]) rfl (s.cel (by repeat (first | exact SelB.blk | exact SelB.fz | apply SelB.there))) (by rfl)) ?_
              refine SL.val rfl rfl (fun w9 F9 S9 s => R.fld rfl) ?_
              refine SL.val rfl rfl (fun w9 F9 S9 s => R.ldB (v := .int .i64 tt2) rfl (s.cel (by repeat (first | exact SelB.blk | exact SelB.fz | apply SelB.there))) (by rfl)) ?_
              refine SL.val rfl rfl (fun w9 F9 S9 s => R.fld rfl) ?_
              refine SL.val rfl rfl (fun w9 F9 S9 s => R.ldB (v := .int .i64 nn2) rfl (s.cel (by repeat (first | exact SelB.blk | exact SelB.fz | apply SelB.there))) (by rfl)) ?_
              refine SL.step rfl rfl (CS.call rfl go24 (rexactE la2 ln2 lc2 l2 fa2 fn2 fc2 f2 tt2 nn2 (k : Int) tt2 nn2 (by omega) (some d2.l) hex2) (by repeat (first | exact Sels.nil | apply Sels.cons | exact Sel.keep | exact Sel.here | apply Sel.there))) ?_
              rintro _ _ ⟨_, ⟨rfl, rfl⟩, rfl⟩
              refine SL.n0 ?_
              refine SL.val rfl rfl (fun w9 F9 S9 s => R.mv rfl) ?_
              refine SL.val rfl rfl (fun w9 F9 S9 s => R.ext rfl rfl) ?_
              refine SL.val rfl rfl (fun w9 F9 S9 s => R.ext rfl rfl) ?_
              refine SL.val rfl rfl (fun w9 F9 S9 s => R.as rfl) ?_
              refine SL.val rfl rfl (fun w9 F9 S9 s => R.as rfl) ?_
              refine SL.nil ?_
              refine SN.seq ?_
              refine SG.seq ?_
              refine SG.region ?_
              refine SL.val rfl rfl (fun w9 F9 S9 s => R.mv rfl) ?_
              refine SL.val rfl rfl (fun w9 F9 S9 s => R.mv rfl) ?_
              refine SL.val rfl rfl (fun w9 F9 S9 s => R.neI rfl rfl) ?_
              refine SL.val rfl rfl (fun w9 F9 S9 s => R.mv rfl) ?_
              refine SL.isF 246 rfl (decide_eq_false (fun h => h rfl)) ?_
              refine SL.val rfl rfl (fun w9 F9 S9 s => R.mv rfl) ?_
              refine SL.val rfl rfl (fun w9 F9 S9 s => R.mv rfl) ?_
              refine SL.val rfl rfl (fun w9 F9 S9 s => R.neB rfl rfl) ?_
              first | refine SL.val rfl rfl (fun w9 F9 S9 s => R.pickT rfl rfl) ?_ | refine SL.val rfl rfl (fun w9 F9 S9 s => R.pickF rfl rfl) ?_
              refine SL.val rfl rfl (fun w9 F9 S9 s => R.mv rfl) ?_
              refine SL.isF 251 rfl (by cases r <;> rfl) ?_
              refine SL.val rfl rfl (fun w9 F9 S9 s => R.mv rfl) ?_
              refine SL.be 252 rfl (dkO_eq r) ?_
              refine SL.imp (Imp.weak (p := DkP L2) (q := fun w => DiskO w (dkP r) (dkB r)) (show Sel _ (dkS L2) _ from (by repeat (first | exact Sel.keep | exact Sel.here | apply Sel.there))) (fun w h => dkO_ok h hr)) ?_
              refine SL.step rfl rfl (CS.call rfl go25 (ibytesS (dkP r) (dkB r)) (by repeat (first | exact Sels.nil | apply Sels.cons | exact Sel.keep | exact Sel.here | apply Sel.there))) ?_
              rintro _ _ ⟨_, ⟨a253, c253, rfl, rfl⟩, rfl⟩
              refine SL.n2 ?_
              refine SL.val rfl rfl (fun w9 F9 S9 s => R.strB rfl (⟨s.ownC (show Sel _ (own 5 1 a253 (dkB r).length c253 (vbs (dkB r))) _ from (by repeat (first | exact Sel.keep | exact Sel.here | apply Sel.there))), rfl⟩ : Bs _ a253 (dkB r).length (dkB r))) ?_
              refine SL.val rfl rfl (fun w9 F9 S9 s => R.mv rfl) ?_
              refine SL.val rfl rfl (fun w9 F9 S9 s => R.neStr rfl rfl) ?_
              first | refine SL.val rfl rfl (fun w9 F9 S9 s => R.pickT rfl rfl) ?_ | refine SL.val rfl rfl (fun w9 F9 S9 s => R.pickF rfl rfl) ?_
              refine SL.val rfl rfl (fun w9 F9 S9 s => R.mv rfl) ?_
              refine SL.isF 258 rfl (decide_eq_false (fun h => h rfl)) ?_
              refine SL.val rfl rfl (fun w9 F9 S9 s => R.mv rfl) ?_
              refine SL.val rfl rfl (fun w9 F9 S9 s => R.mv rfl) ?_
              refine SL.val rfl rfl (fun w9 F9 S9 s => R.neI rfl rfl) ?_
              first | refine SL.val rfl rfl (fun w9 F9 S9 s => R.pickT rfl rfl) ?_ | refine SL.val rfl rfl (fun w9 F9 S9 s => R.pickF rfl rfl) ?_
              refine SL.val rfl rfl (fun w9 F9 S9 s => R.mv rfl) ?_
              refine SL.isF 263 rfl (decide_eq_false (fun h => h rfl)) ?_
              refine SL.val rfl rfl (fun w9 F9 S9 s => R.mv rfl) ?_
              refine SL.val rfl rfl (fun w9 F9 S9 s => R.mv rfl) ?_
              refine SL.val rfl rfl (fun w9 F9 S9 s => R.neI rfl rfl) ?_
              first | refine SL.val rfl rfl (fun w9 F9 S9 s => R.pickT rfl rfl) ?_ | refine SL.val rfl rfl (fun w9 F9 S9 s => R.pickF rfl rfl) ?_
              refine SL.val rfl rfl (fun w9 F9 S9 s => R.mv rfl) ?_
              refine SL.isF 268 rfl (decide_eq_false (fun h => h rfl)) ?_
              refine SL.val rfl rfl (fun w9 F9 S9 s => R.mv rfl) ?_
              refine SL.val rfl rfl (fun w9 F9 S9 s => R.mv rfl) ?_
              refine SL.val rfl rfl (fun w9 F9 S9 s => R.neB rfl rfl) ?_
              first | refine SL.val rfl rfl (fun w9 F9 S9 s => R.pickT rfl rfl) ?_ | refine SL.val rfl rfl (fun w9 F9 S9 s => R.pickF rfl rfl) ?_
              refine SL.val rfl rfl (fun w9 F9 S9 s => R.mv rfl) ?_
              refine SL.isF 273 rfl (by simp) ?_
              refine SL.val rfl rfl (fun w9 F9 S9 s => R.mv rfl) ?_
              refine SL.val rfl rfl (fun w9 F9 S9 s => R.fld rfl) ?_
              refine SL.val rfl rfl (fun w9 F9 S9 s => R.ldB (v := .int .i64 tt2) rfl (s.cel (by repeat (first | exact SelB.blk | exact SelB.fz | apply SelB.there))) (by rfl)) ?_
              refine SL.val rfl rfl (fun w9 F9 S9 s => R.neI rfl rfl) ?_
              first | refine SL.val rfl rfl (fun w9 F9 S9 s => R.pickT rfl rfl) ?_ | refine SL.val rfl rfl (fun w9 F9 S9 s => R.pickF rfl rfl) ?_
              refine SL.val rfl rfl (fun w9 F9 S9 s => R.mv rfl) ?_
              refine SL.isF 279 rfl (decide_eq_false (fun h => h rfl)) ?_
              refine SL.val rfl rfl (fun w9 F9 S9 s => R.mv rfl) ?_
              refine SL.val rfl rfl (fun w9 F9 S9 s => R.fld rfl) ?_
              refine SL.val rfl rfl (fun w9 F9 S9 s => R.ldB (v := .int .i64 nn2) rfl (s.cel (by repeat (first | exact SelB.blk | exact SelB.fz | apply SelB.there))) (by rfl)) ?_
              refine SL.val rfl rfl (fun w9 F9 S9 s => R.neI rfl rfl) ?_
              first | refine SL.val rfl rfl (fun w9 F9 S9 s => R.pickT rfl rfl) ?_ | refine SL.val rfl rfl (fun w9 F9 S9 s => R.pickF rfl rfl) ?_
              refine SL.val rfl rfl (fun w9 F9 S9 s => R.mv rfl) ?_
              refine SL.isF 285 rfl (decide_eq_false (fun h => h rfl)) ?_
              refine SL.val rfl rfl (fun w9 F9 S9 s => R.mv rfl) ?_
              refine SL.step rfl rfl (CS.call rfl go13 (wdisk_ok p m L2 tt2 nn2 (i + 1) d2 hw2 (by omega) hd2) (by repeat (first | exact Sels.nil | apply Sels.cons | exact Sel.keep | exact Sel.here | apply Sel.there))) ?_
              rintro _ _ ⟨_, ⟨rfl, rfl⟩, rfl⟩
              refine SL.n4 ?_
              refine SL.imp (Imp.weak (p := DkP L2) (q := fun w => DiskO w (some ⟨d2.b, 0, none⟩) d2.l) (show Sel _ (dkS L2) _ from (by repeat (first | exact Sel.keep | exact Sel.here | apply Sel.there))) (fun w h => (dkS_one h hd2).o)) ?_
              refine SL.step rfl rfl (CS.call rfl go25 (ibytesS (some ⟨d2.b, 0, none⟩) d2.l) (by repeat (first | exact Sels.nil | apply Sels.cons | exact Sel.keep | exact Sel.here | apply Sel.there))) ?_
              rintro _ _ ⟨_, ⟨a288, c288, rfl, rfl⟩, rfl⟩
              refine SL.n2 ?_
              refine SL.val rfl rfl (fun w9 F9 S9 s => R.strB rfl (⟨s.ownC (show Sel _ (own 5 1 a288 d2.l.length c288 (vbs d2.l)) _ from (by repeat (first | exact Sel.keep | exact Sel.here | apply Sel.there))), rfl⟩ : Bs _ a288 d2.l.length d2.l)) ?_
              refine SL.val rfl rfl (fun w9 F9 S9 s => R.mv rfl) ?_
              refine SL.val rfl rfl (fun w9 F9 S9 s => R.neStr rfl rfl) ?_
              first | refine SL.val rfl rfl (fun w9 F9 S9 s => R.pickT rfl rfl) ?_ | refine SL.val rfl rfl (fun w9 F9 S9 s => R.pickF rfl rfl) ?_
              refine SL.nil ?_
              refine SN.seq ?_
              refine SG.condP rfl (fun h8 => ?_) (fun h8 => ?_)
              · exact absurd rfl h8
              · refine SG.skip ?_
                refine SN.block ?_
                refine SN.seq ?_
                refine SG.region ?_
                refine SL.val rfl rfl (fun w9 F9 S9 s => R.add rfl rfl (by omega)) ?_
                refine SL.val rfl rfl (fun w9 F9 S9 s => R.mv rfl) ?_
                refine SL.nil ?_
                exact SN.again (⟨i + 1, L2, tt2, nn2, d2, la2, ln2, lc2, l2, fa2, fn2, fc2, f2⟩) (by show oN - (i + 1) < oN - i; omega) (Sub.cons rfl (Sub.cons rfl (Sub.cons rfl (Sub.cons rfl (Sub.cons rfl (Sub.cons rfl (Sub.nil _))))))) ((Imp.sels (by repeat (first | exact Sels.nil | apply Sels.cons | exact Sel.keep | exact Sel.here | apply Sel.there)))) (⟨⟨by show i + 1 ≤ oN; omega, by show i + 1 ≤ 40; omega⟩, hw2, hd2, hR2, hl2, hf2⟩)
      · refine SG.fact (fun w9 F9 S9 s => tab_ln (s.sh (p := fun w => RefW w la ln l fa fn f) (by repeat (first | exact Sel.keep | exact Sel.here | apply Sel.there))).1) (fun hf9 => ?_)
        have hll := hf9; clear hf9
        have hPL : ln = (prsL L).length := by rw [hll]; exact hR.len
        refine SG.exit _ rfl ?_
        refine SN.seq ?_
        refine SG.seq ?_
        refine SG.region ?_
        refine SL.val rfl rfl (fun w9 F9 S9 s => R.ldBN (cs := #[.slice la ln lc, .slice fa fn fc, .int .i64 tt, .int .i64 nn, .int .i64 (k : Int)]) rfl (s.cel (by repeat (first | exact SelB.blk | exact SelB.fz | apply SelB.there))) (by rfl)) ?_
        refine SL.step rfl rfl (CS.call rfl go26 (rpairs_ok la ln lc l fa fn fc f tt nn (k : Int) (prsL L) (prs_sorted hw.srt (wf_ds hw)) hR.prs hPL (by omega)) (by repeat (first | exact Sels.nil | apply Sels.cons | exact Sel.keep | exact Sel.here | apply Sel.there))) ?_
        rintro _ _ ⟨_, ⟨wa, wc, rfl, rfl⟩, rfl⟩
        refine SL.n1 ?_
        refine SL.step rfl rfl (CS.alloc [.slice none 0 0] rfl) ?_
        rintro _ _ ⟨b38, rfl, rfl⟩
        refine SL.step0 rfl (CS.st rfl rfl (show Sel _ (blk b38 _ _) _ from (by repeat (first | exact Sel.keep | exact Sel.here | apply Sel.there))) (by repeat (first | exact SetAt.here | apply SetAt.there)) rfl) ?_
        rintro _ _ rfl
        refine SL.nil ?_
        refine SN.seq ?_
        refine SG.seq ?_
        refine SG.region ?_
        refine SL.step rfl rfl (CS.alloc [.int .i64 0] rfl) ?_
        rintro _ _ ⟨b39, rfl, rfl⟩
        refine SL.step rfl rfl (CS.alloc [.bool false] rfl) ?_
        rintro _ _ ⟨b40, rfl, rfl⟩
        refine SL.step0 rfl (CS.st rfl rfl (show Sel _ (blk b39 _ _) _ from (by repeat (first | exact Sel.keep | exact Sel.here | apply Sel.there))) (by repeat (first | exact SetAt.here | apply SetAt.there)) rfl) ?_
        rintro _ _ rfl
        refine SL.step0 rfl (CS.st rfl rfl (show Sel _ (blk b40 _ _) _ from (by repeat (first | exact Sel.keep | exact Sel.here | apply Sel.there))) (by repeat (first | exact SetAt.here | apply SetAt.there)) rfl) ?_
        rintro _ _ rfl
        refine SL.nil ?_
        refine SN.imp (Imp.ownSh (show Sel _ (own 73 2 wa ln wc (prCs (prsL L))) _ from (by repeat (first | exact Sel.keep | exact Sel.here | apply Sel.there))) (p := fun w => Cells w wa (prCs (prsL L))) (fun w h => h)) ?_
        refine SN.imp (Imp.spNil) ?_
        refine SN.imp (Imp.spClose (show Sel _ (sh (fun w => Cells w wa (prCs (prsL L)))) _ from (by repeat (first | exact Sel.keep | exact Sel.here | apply Sel.there))) (by repeat (first | exact Sel.keep | exact Sel.here | apply Sel.there))) ?_
        refine SN.imp (Imp.spClose (show Sel _ (blk b38 [.slice wa ln wc] 68) _ from (by repeat (first | exact Sel.keep | exact Sel.here | apply Sel.there))) (by repeat (first | exact Sel.keep | exact Sel.here | apply Sel.there))) ?_
        refine SN.imp (Imp.spClose (show Sel _ (blk b39 [.int .i64 ((0 : Nat) : Int)] 3) _ from (by repeat (first | exact Sel.keep | exact Sel.here | apply Sel.there))) (by repeat (first | exact Sel.keep | exact Sel.here | apply Sel.there))) ?_
        refine SN.imp (Imp.spClose (show Sel _ (blk b40 [.bool true] 4) _ from (by repeat (first | exact Sel.keep | exact Sel.here | apply Sel.there))) (by repeat (first | exact Sel.keep | exact Sel.here | apply Sel.there))) ?_
        refine SN.seq ?_
        refine SG.seq ?_
        refine SG.region ?_
        refine SL.val rfl rfl (fun w9 F9 S9 s => R.mv rfl) ?_
        refine SL.step rfl rfl (CS.call rfl go27 (wprs_ok p) (by repeat (first | exact Sels.nil | apply Sels.cons | exact Sel.keep | exact Sel.here | apply Sel.there))) ?_
        rintro _ _ ⟨_, ⟨b1, rfl, rfl⟩, rfl⟩
        refine SL.n1 ?_
        refine SL.val rfl rfl (fun w9 F9 S9 s => R.mkFunc rfl rfl) ?_
        refine SL.step rfl rfl (CS.callV rfl rfl rfl go44 (prs1_ok p m L tt nn i (.func (.func 28) #[] #[.pointer (some ⟨b40, 0, none⟩), .pointer (some ⟨b39, 0, none⟩), .pointer (some ⟨b38, 0, none⟩)]) b1 (fun j => sp [blk b40 [.bool true] 4, blk b39 [.int .i64 ((j : Nat) : Int)] 3, blk b38 [.slice wa ln wc] 68, sh (fun w => Cells w wa (prCs (prsL L)))]) hw (by omega) rfl (fun j t9 n9 hj => YSpec.ofFn (vs' := [.int .i64 t9, .int .i64 n9, .pointer (some ⟨b40, 0, none⟩), .pointer (some ⟨b39, 0, none⟩), .pointer (some ⟨b38, 0, none⟩)]) go28 rfl ((SpecS.sp (cl27_ok b40 b39 b38 wa ln wc (prsL L) j t9 n9 hj hPL (by omega))).mono fun v H' hv => ⟨hv.1.choose, hv.1.choose_spec.1, hv.1.choose_spec.2, hv.2⟩))) (by repeat (first | exact Sels.nil | apply Sels.cons | exact Sel.keep | exact Sel.here | apply Sel.there))) ?_
        rintro _ _ ⟨_, ⟨rfl, rfl, rfl⟩, rfl⟩
        refine SL.n6 ?_
        refine SL.nil ?_
        refine SN.imp (Imp.spOpen (show Sel _ (sp [blk b40 [.bool true] 4, blk b39 [.int .i64 (((prsL L).length : Nat) : Int)] 3, blk b38 [.slice wa ln wc] 68, sh (fun w => Cells w wa (prCs (prsL L)))]) _ from (by repeat (first | exact Sel.keep | exact Sel.here | apply Sel.there)))) ?_
        refine SN.imp (Imp.spOpen (show Sel _ (sp [blk b39 [.int .i64 (((prsL L).length : Nat) : Int)] 3, blk b38 [.slice wa ln wc] 68, sh (fun w => Cells w wa (prCs (prsL L)))]) _ from (by repeat (first | exact Sel.keep | exact Sel.here | apply Sel.there)))) ?_
        refine SN.imp (Imp.spOpen (show Sel _ (sp [blk b38 [.slice wa ln wc] 68, sh (fun w => Cells w wa (prCs (prsL L)))]) _ from (by repeat (first | exact Sel.keep | exact Sel.here | apply Sel.there)))) ?_
        refine SN.seq ?_
        refine SG.seq ?_
        refine SG.region ?_
        refine SL.val rfl rfl (fun w9 F9 S9 s => R.mv rfl) ?_
        refine SL.step rfl rfl (CS.call rfl go11 (wnow_ok bc m2 ([] : Lns) 1 0 0) (by repeat (first | exact Sels.nil | apply Sels.cons | exact Sel.keep | exact Sel.here | apply Sel.there))) ?_
        rintro _ _ ⟨_, ⟨rfl, rfl⟩, rfl⟩
        refine SL.n1 ?_
        refine SL.val rfl rfl (fun w9 F9 S9 s => R.mv rfl) ?_
        refine SL.val rfl rfl (fun w9 F9 S9 s => R.ext rfl rfl) ?_
        refine SL.val rfl rfl (fun w9 F9 S9 s => R.ext rfl rfl) ?_
        refine SL.val rfl rfl (fun w9 F9 S9 s => R.as rfl) ?_
        refine SL.val rfl rfl (fun w9 F9 S9 s => R.as rfl) ?_
        refine SL.nil ?_
        refine SN.seq ?_
        refine SG.seq ?_
        refine SG.region ?_
        refine SL.val rfl rfl (fun w9 F9 S9 s => R.ldB (v := .bool true) rfl (s.cel (by repeat (first | exact SelB.blk | exact SelB.fz | apply SelB.there))) (by rfl)) ?_
        refine SL.val rfl rfl (fun w9 F9 S9 s => R.mv rfl) ?_
        refine SL.isT 306 rfl (rfl) ?_
        refine SL.val rfl rfl (fun w9 F9 S9 s => R.ldB (v := .int .i64 ((prsL L).length : Int)) rfl (s.cel (by repeat (first | exact SelB.blk | exact SelB.fz | apply SelB.there))) (by rfl)) ?_
        refine SL.val rfl rfl (fun w9 F9 S9 s => R.ldB (v := .slice wa ln wc) rfl (s.cel (by repeat (first | exact SelB.blk | exact SelB.fz | apply SelB.there))) (by rfl)) ?_
        refine SL.val rfl rfl (fun w9 F9 S9 s => R.lenS rfl) ?_
        refine SL.val rfl rfl (fun w9 F9 S9 s => R.eqI rfl rfl) ?_
        first | refine SL.val rfl rfl (fun w9 F9 S9 s => R.pickT rfl rfl) ?_ | refine SL.val rfl rfl (fun w9 F9 S9 s => R.pickF rfl rfl) ?_
        refine SL.val rfl rfl (fun w9 F9 S9 s => R.mv rfl) ?_
        refine SL.isT 312 rfl (decide_eq_true (by omega)) ?_
        refine SL.val rfl rfl (fun w9 F9 S9 s => R.mv rfl) ?_
        refine SL.val rfl rfl (fun w9 F9 S9 s => R.eqI rfl rfl) ?_
        first | refine SL.val rfl rfl (fun w9 F9 S9 s => R.pickT rfl rfl) ?_ | refine SL.val rfl rfl (fun w9 F9 S9 s => R.pickF rfl rfl) ?_
        refine SL.val rfl rfl (fun w9 F9 S9 s => R.mv rfl) ?_
        refine SL.isT 316 rfl (decide_eq_true rfl) ?_
        refine SL.val rfl rfl (fun w9 F9 S9 s => R.mv rfl) ?_
        refine SL.val rfl rfl (fun w9 F9 S9 s => R.eqI rfl rfl) ?_
        first | refine SL.val rfl rfl (fun w9 F9 S9 s => R.pickT rfl rfl) ?_ | refine SL.val rfl rfl (fun w9 F9 S9 s => R.pickF rfl rfl) ?_
        refine SL.val rfl rfl (fun w9 F9 S9 s => R.as rfl) ?_
        refine SL.nil ?_
        refine SN.seq ?_
        exact SG.ret1 rfl rfl ((Imp.sels (by repeat (first | exact Sels.nil | apply Sels.cons | exact Sel.keep | exact Sel.here | apply Sel.there)))) (rfl)

end Go.Proofs.Ythdaelmjiaegfaa
