/-
  Texts of this claim, put together.
-/
import Derived.Test.YtlhkpakbenghgaaRows
import Derived.JoinedOf
import Derived.Test.YtlhkpakbenghgaaStaCLz3
/-
  The walks of package stats.
-/
set_option linter.unusedVariables false
set_option linter.unusedSimpArgs false
set_option maxRecDepth 4000
namespace Go.Proofs.Ytlhkpakbenghgaa
open Go Brv Brv.Stats
set_option maxHeartbeats 1000000 in
theorem stab_ok (a : Option Addr) (n c : Nat) (l0 : List E3) (hn : n ≤ 1152921504606846976) : SpecS Try.prog 49 [.slice a n c, .int .i64 ((n : Nat) : Int), .func (.func 24) #[] #[]] [own 32 3 a n c (List.map cellB l0).flatten] (fun v H' => ∃ ys, v = .tuple #[] ∧ Part l0 ys 0 n ∧ H' = [own 32 3 a n c (List.map cellB ys).flatten]) := by
  refine SpecS.enter Try.func49 rfl 63 rfl (Nat.le_of_ble_eq_true rfl) (fun o => ?_)
  refine SG.fact (fun w9 F9 S9 s => s.ownL (show Sel _ (own 32 3 a n c (List.map cellB l0).flatten) _ from (by repeat (first | exact Sel.keep | exact Sel.here | apply Sel.there)))) (fun hf9 => ?_)
  obtain ⟨hll0, hnc⟩ := hf9
  rw [flat_len cellB_len] at hll0
  have hll : l0.length = n := by omega
  refine SG.seq ?_
  refine SG.region ?_
  refine SL.val rfl rfl (fun w9 F9 S9 s => R.as rfl) ?_
  refine SL.nil ?_
  refine SN.seq ?_
  refine SG.seq ?_
  refine SG.region ?_
  refine SL.val rfl rfl (fun w9 F9 S9 s => R.mv rfl) ?_
  refine SL.val rfl rfl (fun w9 F9 S9 s => R.as rfl) ?_
  refine SL.val rfl rfl (fun w9 F9 S9 s => R.as rfl) ?_
  refine SL.nil ?_
  refine SN.seq ?_
  refine SG.seq ?_
  refine SG.block ?_
  refine SG.loop (X := Nat × List E3) (fun y => [(0, .slice a n c), (1, .int .i64 ((n : Nat) : Int)), (2, .func (.func 24) #[] #[]), (6, .int .i64 20), (7, .int .i64 ((y.1 : Nat) : Int)), (8, .int .i64 ((y.1 + 20 : Nat) : Int))]) (fun y => [own 32 3 a n c (List.map cellB y.2).flatten]) (fun y => y.2.length = n ∧ y.1 ≤ n ∧ Stb l0 y.2 ∧ Full y.2 20 y.1) (fun y => n - y.1) ((0, l0)) (Sub.cons rfl (Sub.cons rfl (Sub.cons rfl (Sub.cons rfl (Sub.cons rfl (Sub.cons rfl (Sub.nil _))))))) ((Imp.sels (by repeat (first | exact Sels.nil | apply Sels.cons | exact Sel.keep | exact Sel.here | apply Sel.there)))) (⟨hll, Nat.zero_le _, Stb.refl _, .zero⟩) ?_
  rintro ⟨p, l⟩ ⟨k1, k2, k3, k4⟩
  dsimp only at k1 k2 k3 k4
  show SG _ _ _ _ _ [(0, .slice a n c), (1, .int .i64 ((n : Nat) : Int)), (2, .func (.func 24) #[] #[]), (6, .int .i64 20), (7, .int .i64 ((p : Nat) : Int)), (8, .int .i64 ((p + 20 : Nat) : Int))] [own 32 3 a n c (List.map cellB l).flatten] _
  refine SG.seq ?_
  refine SG.seq ?_
  refine SG.region ?_
  refine SL.val rfl rfl (fun w9 F9 S9 s => R.mv rfl) ?_
  refine SL.val rfl rfl (fun w9 F9 S9 s => R.mv rfl) ?_
  refine SL.val rfl rfl (fun w9 F9 S9 s => R.leq rfl rfl) ?_
  refine SL.nil ?_
  refine SN.seq ?_
  refine SG.condP rfl (fun h0 => ?_) (fun h0 => ?_)
  · have hip := insM_part (l := l) (a := p) (b := p + 20) (by omega) (by omega)
    refine SG.skip ?_
    refine SN.seq ?_
    refine SG.block ?_
    refine SG.seq ?_
    refine SG.region ?_
    refine SL.val rfl rfl (fun w9 F9 S9 s => R.mv rfl) ?_
    refine SL.val rfl rfl (fun w9 F9 S9 s => R.mv rfl) ?_
    refine SL.val rfl rfl (fun w9 F9 S9 s => R.mv rfl) ?_
    refine SL.val rfl rfl (fun w9 F9 S9 s => R.mv rfl) ?_
    refine SL.step rfl rfl (CS.call rfl go80 (ins_ok a n c l p (p + 20) (by omega) (by omega) (by omega)) (by repeat (first | exact Sels.nil | apply Sels.cons | exact Sel.keep | exact Sel.here | apply Sel.there))) ?_
    rintro _ _ ⟨_, ⟨rfl, rfl⟩, rfl⟩
    refine SL.n1 ?_
    refine SL.nil ?_
    refine SN.seq ?_
    refine SG.seq ?_
    refine SG.region ?_
    refine SL.val rfl rfl (fun w9 F9 S9 s => R.mv rfl) ?_
    refine SL.val rfl rfl (fun w9 F9 S9 s => R.as rfl) ?_
    refine SL.nil ?_
    refine SN.seq ?_
    refine SG.region ?_
    refine SL.val rfl rfl (fun w9 F9 S9 s => R.mv rfl) ?_
    refine SL.val rfl rfl (fun w9 F9 S9 s => R.mv rfl) ?_
    refine SL.val rfl rfl (fun w9 F9 S9 s => R.addW rfl rfl ((p + 20 + 20 : Nat) : Int) (by rw [wrap_i64 (by omega)]; omega)) ?_
    refine SL.val rfl rfl (fun w9 F9 S9 s => R.as rfl) ?_
    refine SL.nil ?_
    refine SN.block ?_
    exact SN.again ((p + 20, insM l p (p + 20))) (by show n - (p + 20) < n - p; omega) (Sub.cons rfl (Sub.cons rfl (Sub.cons rfl (Sub.cons rfl (Sub.cons rfl (Sub.cons rfl (Sub.nil _))))))) ((Imp.sels (by repeat (first | exact Sels.nil | apply Sels.cons | exact Sel.keep | exact Sel.here | apply Sel.there)))) (⟨by show (insM l p (p + 20)).length = n; rw [insM_len]; exact k1, by show p + 20 ≤ n; omega, k3.trans hip.stb, (k4.part hip (Nat.le_refl _)).snoc hip.mid⟩)
  · have hip := insM_part (l := l) (a := p) (b := n) (by omega) (by omega)
    refine SG.exit _ rfl ?_
    refine SN.seq ?_
    refine SG.seq ?_
    refine SG.region ?_
    refine SL.val rfl rfl (fun w9 F9 S9 s => R.mv rfl) ?_
    refine SL.val rfl rfl (fun w9 F9 S9 s => R.mv rfl) ?_
    refine SL.val rfl rfl (fun w9 F9 S9 s => R.mv rfl) ?_
    refine SL.val rfl rfl (fun w9 F9 S9 s => R.mv rfl) ?_
    refine SL.step rfl rfl (CS.call rfl go80 (ins_ok a n c l p n (by omega) (by omega) (by omega)) (by repeat (first | exact Sels.nil | apply Sels.cons | exact Sel.keep | exact Sel.here | apply Sel.there))) ?_
    rintro _ _ ⟨_, ⟨rfl, rfl⟩, rfl⟩
    refine SL.n1 ?_
    refine SL.nil ?_
    refine SN.seq ?_
    refine SG.block ?_
    refine SG.loop (X := Nat × List E3) (fun y => [(0, .slice a n c), (1, .int .i64 ((n : Nat) : Int)), (2, .func (.func 24) #[] #[]), (6, .int .i64 ((y.1 : Nat) : Int))]) (fun y => [own 32 3 a n c (List.map cellB y.2).flatten]) (fun y => 0 < y.1 ∧ y.1 ≤ 2305843009213693952 ∧ y.2.length = n ∧ Stb l0 y.2 ∧ Blks y.2 y.1 0 n) (fun y => n - y.1) ((20, insM l p n)) (Sub.cons rfl (Sub.cons rfl (Sub.cons rfl (Sub.cons rfl (Sub.nil _))))) ((Imp.sels (by repeat (first | exact Sels.nil | apply Sels.cons | exact Sel.keep | exact Sel.here | apply Sel.there)))) (⟨by show 0 < 20; omega, by show 20 ≤ _; omega, by show (insM l p n).length = n; rw [insM_len]; exact k1, k3.trans hip.stb, (k4.part hip (Nat.le_refl _)).blks (.last k2 (by omega) hip.mid) k2⟩) ?_
    rintro ⟨s9, l9⟩ ⟨g1, g2, g3, g4, g5⟩
    dsimp only at g1 g2 g3 g4 g5
    show SG _ _ _ _ _ [(0, .slice a n c), (1, .int .i64 ((n : Nat) : Int)), (2, .func (.func 24) #[] #[]), (6, .int .i64 ((s9 : Nat) : Int))] [own 32 3 a n c (List.map cellB l9).flatten] _
    refine SG.seq ?_
    refine SG.seq ?_
    refine SG.region ?_
    refine SL.val rfl rfl (fun w9 F9 S9 s => R.mv rfl) ?_
    refine SL.val rfl rfl (fun w9 F9 S9 s => R.mv rfl) ?_
    refine SL.val rfl rfl (fun w9 F9 S9 s => R.lss rfl rfl) ?_
    refine SL.nil ?_
    refine SN.seq ?_
    refine SG.condP rfl (fun h1 => ?_) (fun h1 => ?_)
    · refine SG.skip ?_
      refine SN.seq ?_
      refine SG.block ?_
      refine SG.seq ?_
      refine SG.region ?_
      refine SL.val rfl rfl (fun w9 F9 S9 s => R.mv rfl) ?_
      refine SL.val rfl rfl (fun w9 F9 S9 s => R.mulW rfl rfl ((0 + 2 * s9 : Nat) : Int) (by rw [wrap_i64 (by omega)]; omega)) ?_
      refine SL.val rfl rfl (fun w9 F9 S9 s => R.as rfl) ?_
      refine SL.val rfl rfl (fun w9 F9 S9 s => R.as rfl) ?_
      refine SL.nil ?_
      refine SN.seq ?_
      refine SG.seq ?_
      refine SG.block ?_
      refine SG.loop (X := Nat × List E3) (fun y => [(0, .slice a n c), (1, .int .i64 ((n : Nat) : Int)), (2, .func (.func 24) #[] #[]), (6, .int .i64 ((s9 : Nat) : Int)), (7, .int .i64 ((y.1 : Nat) : Int)), (8, .int .i64 ((y.1 + 2 * s9 : Nat) : Int))]) (fun y => [own 32 3 a n c (List.map cellB y.2).flatten]) (fun y => y.2.length = n ∧ y.1 ≤ n ∧ Stb l0 y.2 ∧ Full y.2 (2 * s9) y.1 ∧ Blks y.2 s9 y.1 n) (fun y => n - y.1) ((0, l9)) (Sub.cons rfl (Sub.cons rfl (Sub.cons rfl (Sub.cons rfl (Sub.cons rfl (Sub.cons rfl (Sub.nil _))))))) ((Imp.sels (by repeat (first | exact Sels.nil | apply Sels.cons | exact Sel.keep | exact Sel.here | apply Sel.there)))) (⟨g3, Nat.zero_le _, g4, .zero, g5⟩) ?_
      rintro ⟨p9, m9⟩ ⟨u1, u2, u3, u4, u5⟩
      dsimp only at u1 u2 u3 u4 u5
      show SG _ _ _ _ _ [(0, .slice a n c), (1, .int .i64 ((n : Nat) : Int)), (2, .func (.func 24) #[] #[]), (6, .int .i64 ((s9 : Nat) : Int)), (7, .int .i64 ((p9 : Nat) : Int)), (8, .int .i64 ((p9 + 2 * s9 : Nat) : Int))] [own 32 3 a n c (List.map cellB m9).flatten] _
      refine SG.seq ?_
      refine SG.seq ?_
      refine SG.region ?_
      refine SL.val rfl rfl (fun w9 F9 S9 s => R.mv rfl) ?_
      refine SL.val rfl rfl (fun w9 F9 S9 s => R.mv rfl) ?_
      refine SL.val rfl rfl (fun w9 F9 S9 s => R.leq rfl rfl) ?_
      refine SL.nil ?_
      refine SN.seq ?_
      refine SG.condP rfl (fun h2 => ?_) (fun h2 => ?_)
      · obtain ⟨hb1, hb2⟩ := u5.two g1 (by omega) (by omega)
        refine SG.skip ?_
        refine SN.seq ?_
        refine SG.block ?_
        refine SG.seq ?_
        refine SG.region ?_
        refine SL.val rfl rfl (fun w9 F9 S9 s => R.mv rfl) ?_
        refine SL.val rfl rfl (fun w9 F9 S9 s => R.mv rfl) ?_
        refine SL.val rfl rfl (fun w9 F9 S9 s => R.mv rfl) ?_
        refine SL.val rfl rfl (fun w9 F9 S9 s => R.mv rfl) ?_
        refine SL.val rfl rfl (fun w9 F9 S9 s => R.addW rfl rfl ((p9 + s9 : Nat) : Int) (by rw [wrap_i64 (by omega)]; omega)) ?_
        refine SL.val rfl rfl (fun w9 F9 S9 s => R.mv rfl) ?_
        refine SL.val rfl rfl (fun w9 F9 S9 s => R.mv rfl) ?_
        refine SL.step rfl rfl (CS.call rfl go81 (sym_ok a n c hn _ m9 p9 (p9 + s9) (p9 + 2 * s9) (Nat.le_refl _) hb1 (by omega) (by omega) (by omega)) (by repeat (first | exact Sels.nil | apply Sels.cons | exact Sel.keep | exact Sel.here | apply Sel.there))) ?_
        rintro _ _ ⟨_, ⟨ys, rfl, hp, rfl, rfl⟩, rfl⟩
        refine SL.n1 ?_
        refine SL.nil ?_
        refine SN.seq ?_
        refine SG.seq ?_
        refine SG.region ?_
        refine SL.val rfl rfl (fun w9 F9 S9 s => R.mv rfl) ?_
        refine SL.val rfl rfl (fun w9 F9 S9 s => R.as rfl) ?_
        refine SL.nil ?_
        refine SN.seq ?_
        refine SG.region ?_
        refine SL.val rfl rfl (fun w9 F9 S9 s => R.mv rfl) ?_
        refine SL.val rfl rfl (fun w9 F9 S9 s => R.mv rfl) ?_
        refine SL.val rfl rfl (fun w9 F9 S9 s => R.mulW rfl rfl ((2 * s9 : Nat) : Int) (by rw [wrap_i64 (by omega)]; omega)) ?_
        refine SL.val rfl rfl (fun w9 F9 S9 s => R.addW rfl rfl ((p9 + 2 * s9 + 2 * s9 : Nat) : Int) (by rw [wrap_i64 (by omega)]; omega)) ?_
        refine SL.val rfl rfl (fun w9 F9 S9 s => R.as rfl) ?_
        refine SL.nil ?_
        refine SN.block ?_
        exact SN.again ((p9 + 2 * s9, ys)) (by show n - (p9 + 2 * s9) < n - p9; omega) (Sub.cons rfl (Sub.cons rfl (Sub.cons rfl (Sub.cons rfl (Sub.cons rfl (Sub.cons rfl (Sub.nil _))))))) ((Imp.sels (by repeat (first | exact Sels.nil | apply Sels.cons | exact Sel.keep | exact Sel.here | apply Sel.there)))) (⟨by show ys.length = n; have := hp.len; omega, by show p9 + 2 * s9 ≤ n; omega, u3.trans hp.stb, (u4.part hp (Nat.le_refl _)).snoc hp.mid, hb2.part hp (Nat.le_refl _)⟩)
      · refine SG.exit _ rfl ?_
        refine SN.seq ?_
        refine SG.seq ?_
        refine SG.seq ?_
        refine SG.region ?_
        refine SL.val rfl rfl (fun w9 F9 S9 s => R.mv rfl) ?_
        refine SL.val rfl rfl (fun w9 F9 S9 s => R.mv rfl) ?_
        refine SL.val rfl rfl (fun w9 F9 S9 s => R.addW rfl rfl ((p9 + s9 : Nat) : Int) (by rw [wrap_i64 (by omega)]; omega)) ?_
        refine SL.val rfl rfl (fun w9 F9 S9 s => R.as rfl) ?_
        refine SL.nil ?_
        refine SN.seq ?_
        refine SG.seq ?_
        refine SG.region ?_
        refine SL.val rfl rfl (fun w9 F9 S9 s => R.mv rfl) ?_
        refine SL.val rfl rfl (fun w9 F9 S9 s => R.mv rfl) ?_
        refine SL.val rfl rfl (fun w9 F9 S9 s => R.lss rfl rfl) ?_
        refine SL.nil ?_
        refine SN.seq ?_
        refine SG.condP rfl (fun h3 => ?_) (fun h3 => ?_)
        · refine SG.region ?_
          refine SL.val rfl rfl (fun w9 F9 S9 s => R.mv rfl) ?_
          refine SL.val rfl rfl (fun w9 F9 S9 s => R.mv rfl) ?_
          refine SL.val rfl rfl (fun w9 F9 S9 s => R.mv rfl) ?_
          refine SL.val rfl rfl (fun w9 F9 S9 s => R.mv rfl) ?_
          refine SL.val rfl rfl (fun w9 F9 S9 s => R.mv rfl) ?_
          refine SL.step rfl rfl (CS.call rfl go81 (sym_ok a n c hn _ m9 p9 (p9 + s9) n (Nat.le_refl _) (u5.rest (by omega) (by omega) (by omega)) (by omega) (by omega) (Nat.le_refl _)) (by repeat (first | exact Sels.nil | apply Sels.cons | exact Sel.keep | exact Sel.here | apply Sel.there))) ?_
          rintro _ _ ⟨_, ⟨ys, rfl, hp, rfl, rfl⟩, rfl⟩
          refine SL.n1 ?_
          refine SL.nil ?_
          refine SN.seq ?_
          refine SG.region ?_
          refine SL.val rfl rfl (fun w9 F9 S9 s => R.mv rfl) ?_
          refine SL.val rfl rfl (fun w9 F9 S9 s => R.mulW rfl rfl ((2 * s9 : Nat) : Int) (by rw [wrap_i64 (by omega)]; omega)) ?_
          refine SL.val rfl rfl (fun w9 F9 S9 s => R.as rfl) ?_
          refine SL.nil ?_
          refine SN.block ?_
          exact SN.again ((2 * s9, ys)) (by show n - 2 * s9 < n - s9; omega) (Sub.cons rfl (Sub.cons rfl (Sub.cons rfl (Sub.cons rfl (Sub.nil _))))) ((Imp.sels (by repeat (first | exact Sels.nil | apply Sels.cons | exact Sel.keep | exact Sel.here | apply Sel.there)))) (⟨by show 0 < 2 * s9; omega, by show 2 * s9 ≤ _; omega, by show ys.length = n; have := hp.len; omega, u3.trans hp.stb, (u4.part hp (Nat.le_refl _)).blks (.last u2 (by omega) hp.mid) u2⟩)
        · refine SG.skip ?_
          refine SN.seq ?_
          refine SG.region ?_
          refine SL.val rfl rfl (fun w9 F9 S9 s => R.mv rfl) ?_
          refine SL.val rfl rfl (fun w9 F9 S9 s => R.mulW rfl rfl ((2 * s9 : Nat) : Int) (by rw [wrap_i64 (by omega)]; omega)) ?_
          refine SL.val rfl rfl (fun w9 F9 S9 s => R.as rfl) ?_
          refine SL.nil ?_
          refine SN.block ?_
          exact SN.again ((2 * s9, m9)) (by show n - 2 * s9 < n - s9; omega) (Sub.cons rfl (Sub.cons rfl (Sub.cons rfl (Sub.cons rfl (Sub.nil _))))) ((Imp.sels (by repeat (first | exact Sels.nil | apply Sels.cons | exact Sel.keep | exact Sel.here | apply Sel.there)))) (⟨by show 0 < 2 * s9; omega, by show 2 * s9 ≤ _; omega, u1, u3, u4.blks (.last u2 (by omega) (u5.one (by omega))) u2⟩)
    · have hdn := g5.all (by omega) g3.symm
      refine SG.exit _ rfl ?_
      exact SN.end0 rfl ((Imp.sels (by repeat (first | exact Sels.nil | apply Sels.cons | exact Sel.keep | exact Sel.here | apply Sel.there)))) (⟨l9, rfl, part_all g4 hdn hll.symm g3.symm, rfl⟩)

theorem sort_ok (a : Option Addr) (n c : Nat) (l0 : List E3) (hn : n ≤ 1152921504606846976) : SpecS Try.prog 23 [.slice a n c, .func (.func 24) #[] #[]] [own 32 3 a n c (List.map cellB l0).flatten] (fun v H' => ∃ ys, v = .tuple #[] ∧ Part l0 ys 0 n ∧ H' = [own 32 3 a n c (List.map cellB ys).flatten]) := by
  refine SpecS.enter Try.func23 rfl 9 rfl (Nat.le_of_ble_eq_true rfl) (fun o => ?_)
  refine SG.region ?_
  refine SL.val rfl rfl (fun w9 F9 S9 s => R.mv rfl) ?_
  refine SL.val rfl rfl (fun w9 F9 S9 s => R.mv rfl) ?_
  refine SL.val rfl rfl (fun w9 F9 S9 s => R.lenS rfl) ?_
  refine SL.val rfl rfl (fun w9 F9 S9 s => R.mv rfl) ?_
  refine SL.step rfl rfl (CS.call rfl go49 (stab_ok a n c l0 hn) (by repeat (first | exact Sels.nil | apply Sels.cons | exact Sel.keep | exact Sel.here | apply Sel.there))) ?_
  rintro _ _ ⟨_, ⟨ys, rfl, hys, rfl, rfl⟩, rfl⟩
  refine SL.n1 ?_
  refine SL.nil ?_
  exact SN.end0 rfl ((Imp.sels (by repeat (first | exact Sels.nil | apply Sels.cons | exact Sel.keep | exact Sel.here | apply Sel.there)))) (⟨ys, rfl, hys, rfl⟩)

end Go.Proofs.Ytlhkpakbenghgaa
/-
  The walks of package stats.
-/
set_option linter.unusedVariables false
set_option linter.unusedSimpArgs false
set_option maxRecDepth 4000
namespace Go.Proofs.Ytlhkpakbenghgaa
open Go Brv Brv.Stats
theorem hot_ok (a : Option Addr) (n c : Nat) (its : List RecV) (kk : Int) (hb : n * 48 ≤ 140737488355328) (hw : wsL its ≤ 900000) (hkk : kk ≤ 9223372036854775807) : SpecS Try.prog 8 [.slice a n c, .int .i64 kk] [sh (fun w => RecsOk w a n its)] (fun v H' => ∃ ys a' c', v = .slice a' (manyB (bzT its).length kk) c' ∧ Part (bzT its) ys 0 (bzT its).length ∧ H' = [own 3 1 a' (manyB (bzT its).length kk) c' (intsB (ys.take (manyB (bzT its).length kk)))]) := by
  refine SpecS.enter Try.func8 rfl 16 rfl (Nat.le_of_ble_eq_true rfl) (fun o => ?_)
  have hbl : (bzT its).length ≤ wsL its := Nat.le_trans (bzL_len _) (wsK_le its _)
  refine SG.seq ?_
  refine SG.region ?_
  refine SL.val rfl rfl (fun w9 F9 S9 s => R.as rfl) ?_
  refine SL.nil ?_
  refine SN.seq ?_
  refine SG.seq ?_
  refine SG.region ?_
  refine SL.val rfl rfl (fun w9 F9 S9 s => R.mv rfl) ?_
  refine SL.step rfl rfl (CS.call rfl go7 (Blocks_ok a n c its (by omega) hw) (by repeat (first | exact Sels.nil | apply Sels.cons | exact Sel.keep | exact Sel.here | apply Sel.there))) ?_
  rintro _ _ ⟨_, ⟨a7, c7, rfl, rfl⟩, rfl⟩
  refine SL.n1 ?_
  refine SL.val rfl rfl (fun w9 F9 S9 s => R.as rfl) ?_
  refine SL.nil ?_
  refine SN.seq ?_
  refine SG.seq ?_
  refine SG.region ?_
  refine SL.val rfl rfl (fun w9 F9 S9 s => R.mv rfl) ?_
  refine SL.step rfl rfl (CS.call rfl go23 (sort_ok a7 (bzT its).length c7 (bzT its) (by omega)) (by repeat (first | exact Sels.nil | apply Sels.cons | exact Sel.keep | exact Sel.here | apply Sel.there))) ?_
  rintro _ _ ⟨_, ⟨ys, rfl, hys, rfl, rfl⟩, rfl⟩
  refine SL.n1 ?_
  refine SL.nil ?_
  have hyl := hys.len
  refine SN.imp (Imp.ownSh (show Sel _ (own 32 3 a7 (bzT its).length c7 (List.map cellB ys).flatten) _ from (by repeat (first | exact Sel.keep | exact Sel.here | apply Sel.there))) (p := fun w => Tab w a7 (bzT its).length 3 (ys.map cellB)) (fun w h => tab_ownR h (by rw [List.length_map, hyl]) (cellR ys))) ?_
  refine SN.seq ?_
  refine SG.seq ?_
  refine SG.region ?_
  refine SL.val rfl rfl (fun w9 F9 S9 s => R.mv rfl) ?_
  refine SL.step rfl rfl (CS.call rfl go29 (ofBusy a7 (bzT its).length c7 (ys.map cellB) (cellR ys) (by omega)) (by repeat (first | exact Sels.nil | apply Sels.cons | exact Sel.keep | exact Sel.here | apply Sel.there))) ?_
  rintro _ _ ⟨_, ⟨b1, a1, c1, rfl, rfl⟩, rfl⟩
  refine SL.n2 ?_
  refine SL.val rfl rfl (fun w9 F9 S9 s => R.mv rfl) ?_
  refine SL.step rfl rfl (CS.call rfl go28 (first_ok _ kk rfl) (by repeat (first | exact Sels.nil | apply Sels.cons | exact Sel.keep | exact Sel.here | apply Sel.there))) ?_
  rintro _ _ ⟨_, ⟨b2, b3, rfl, rfl⟩, rfl⟩
  refine SL.n2 ?_
  refine SL.step rfl rfl (CS.call rfl go27 (map_ok _ _ rfl rfl) (by repeat (first | exact Sels.nil | apply Sels.cons | exact Sel.keep | exact Sel.here | apply Sel.there))) ?_
  rintro _ _ ⟨_, ⟨b8, b9, rfl, rfl⟩, rfl⟩
  refine SL.n2 ?_
  refine SL.step rfl rfl (CS.call rfl go26 (list_ok b8 b9 b2 b3 b1 kk a1 (bzT its).length c1 ys hyl.symm (by omega) hkk) (by repeat (first | exact Sels.nil | apply Sels.cons | exact Sel.keep | exact Sel.here | apply Sel.there))) ?_
  rintro _ _ ⟨_, ⟨a9, c9, rfl, rfl⟩, rfl⟩
  refine SL.n1 ?_
  refine SL.val rfl rfl (fun w9 F9 S9 s => R.as rfl) ?_
  refine SL.nil ?_
  refine SN.seq ?_
  exact SG.ret1 rfl rfl ((Imp.sels (by repeat (first | exact Sels.nil | apply Sels.cons | exact Sel.keep | exact Sel.here | apply Sel.there)))) (⟨ys, a9, c9, rfl, hys, rfl⟩)

end Go.Proofs.Ytlhkpakbenghgaa
/-
  Plain laws on package stats: what is counted.
-/
set_option linter.unusedVariables false
set_option linter.unusedSimpArgs false
namespace Brv.Stats
open Go Brv
def cntT (T : List (Int × V3)) : Int := (T.map fun p => p.2.1).sum
def cntK (T : List (Int × V3)) (i : Nat) : Int := cntT (T.take i)
theorem cntT_app (x y : List (Int × V3)) : cntT (x ++ y) = cntT x + cntT y := by unfold cntT; rw [List.map_append, List.sum_append]
theorem cntK_step {T : List (Int × V3)} {i : Nat} {p : Int × V3} (h : T[i]? = some p) : wr (wr (cntK T i) + p.2.1) = wr (cntK T (i + 1)) := by
  unfold cntK
  rw [List.take_add_one, h, cntT_app, wr_l]
  simp [cntT]
theorem cnt_pos {T : List (Int × V3)} (h : ∀ p ∈ T, 1 ≤ p.2.1) : 0 ≤ cntT T := by
  induction T with
  | nil => exact Int.le_refl _
  | cons p T ih =>
    have h1 := ih (fun q hq => h q (List.mem_cons_of_mem _ hq))
    have h2 := h p (by simp)
    unfold cntT at *
    rw [List.map_cons, List.sum_cons]; omega
theorem cnt_mem {T : List (Int × V3)} (h : ∀ p ∈ T, 1 ≤ p.2.1) {p : Int × V3} (hp : p ∈ T) : p.2.1 ≤ cntT T := by
  induction T with
  | nil => cases hp
  | cons q T ih =>
    have h0 := cnt_pos (fun r hr => h r (List.mem_cons_of_mem q hr))
    have h2 := h q (by simp)
    unfold cntT at *
    rw [List.map_cons, List.sum_cons]
    rcases List.mem_cons.1 hp with rfl | hp
    · omega
    · have := ih (fun r hr => h r (List.mem_cons_of_mem _ hr)) hp; omega
theorem cnt_put (T : List (Int × V3)) (k : Int) (v : V3) : cntT (putT T k v) = cntT T + v.1 - ((getT T k).getD zV).1 := by
  unfold putT getT
  cases hh : hasT T k with
  | false =>
    simp only [Bool.false_eq_true, if_false, Option.getD_none]
    have : cntT T = cntT (T.take (lowT T k)) + cntT (T.drop (lowT T k)) := by rw [← cntT_app, List.take_append_drop]
    rw [cntT_app, this]
    simp only [cntT, List.map_cons, List.sum_cons, zV]; omega
  | true =>
    obtain ⟨p, hp, e⟩ := hasT_mem hh
    obtain ⟨hlt, hx⟩ := List.getElem?_eq_some_iff.1 hp
    simp only [if_true, hp, Option.map_some, Option.getD_some]
    have e1 : cntT T = cntT (T.take (lowT T k)) + (p.2.1 + cntT (T.drop (lowT T k + 1))) := by
      conv => lhs; rw [← List.take_append_drop (lowT T k) T, List.drop_eq_getElem_cons hlt, hx, cntT_app]
      simp [cntT]
    rw [List.set_eq_take_append_cons_drop, if_pos hlt, cntT_app, e1]
    simp only [cntT, List.map_cons, List.sum_cons]; omega
theorem acc_cnt {rows : List (Int × V3)} : ∀ {T : List (Int × V3)} {m : Nat}, (∀ r ∈ rows, r.2.1 = 1) → m + rows.length ≤ 1000000 → (∀ p ∈ T, 1 ≤ p.2.1) → cntT T = m → (∀ p ∈ accT T rows, 1 ≤ p.2.1) ∧ cntT (accT T rows) = ((m + rows.length : Nat) : Int) := by
  induction rows with
  | nil => intro T m _ _ h1 h2; exact ⟨h1, by rw [List.length_nil, Nat.add_zero]; exact h2⟩
  | cons r rows ih =>
    intro T m hr hm h1 h2
    have hr1 := hr r (by simp)
    rw [List.length_cons] at hm ⊢
    have hold : 0 ≤ ((getT T r.1).getD zV).1 ∧ ((getT T r.1).getD zV).1 ≤ m := by
      cases hg : getT T r.1 with
      | none => exact ⟨Int.le_refl _, by show (0 : Int) ≤ m; omega⟩
      | some u =>
        have hmem := getT_some hg
        have a1 := h1 _ hmem
        have a2 := cnt_mem h1 hmem
        exact ⟨by show 0 ≤ u.1; simp only at a1; omega, by show u.1 ≤ m; simp only at a2; omega⟩
    have hv : (addV ((getT T r.1).getD zV) r.2).1 = ((getT T r.1).getD zV).1 + 1 := by
      show wr (_ + r.2.1) = _
      rw [hr1, wr_in (by omega)]
    have := ih (T := stepT T r) (m := m + 1) (fun q hq => hr q (List.mem_cons_of_mem _ hq)) (by omega) (fun p hp => by
      rcases mem_putT hp with rfl | hp
      · show 1 ≤ (addV _ _).1; omega
      · exact h1 p hp) (by
      show cntT (putT T r.1 _) = _
      rw [cnt_put, hv, h2]; omega)
    rw [show m + (rows.length + 1) = m + 1 + rows.length by omega]
    exact this
theorem srt_lt {α : Type} {T : List (Int × α)} (h : Srt T) {i : Nat} {p q : Int × α} (hp : T[i]? = some p) (hq : T[i + 1]? = some q) : p.1 < q.1 := by
  obtain ⟨h1, rfl⟩ := List.getElem?_eq_some_iff.1 hp
  obtain ⟨h2, rfl⟩ := List.getElem?_eq_some_iff.1 hq
  exact List.pairwise_iff_getElem.1 h i (i + 1) h1 h2 (by omega)
end Brv.Stats
/-
  The walks of package stats.
-/
set_option linter.unusedVariables false
set_option linter.unusedSimpArgs false
set_option maxRecDepth 4000
namespace Go.Proofs.Ytlhkpakbenghgaa
open Go Brv Brv.Stats
theorem usT_srt (l : List ItemV) : Srt (usT l) := accT_srt List.Pairwise.nil
theorem usT_cnt (l : List ItemV) (h : l.length ≤ 1000000) : (∀ p ∈ usT l, 1 ≤ p.2.1) ∧ cntT (usT l) = (l.length : Int) := by
  have := acc_cnt (rows := usR l) (T := []) (m := 0) (fun r hr => by obtain ⟨x, _, rfl⟩ := List.mem_map.1 hr; rfl) (by unfold usR; rw [List.length_map]; omega) (by simp) rfl
  rw [Nat.zero_add, show (usR l).length = l.length by unfold usR; rw [List.length_map]] at this
  exact this
theorem hasT_put {α : Type} {S : List (Int × α)} (hs : Srt S) (q : Int) (v : α) (j : Int) : hasT (putT S q v) j = (decide (j = q) || hasT S j) := by
  rw [hasT_isSome, getT_put hs, hasT_isSome]
  by_cases e : j = q
  · rw [if_pos e]; simp [e]
  · rw [if_neg e]; simp [e]
structure BzI (k : Nat) (st : BzS) : Prop where
  s1 : Srt st.1
  s2 : Srt st.2
  n : ∀ p ∈ st.1, 1 ≤ p.2.1 ∧ p.2.1 ≤ (k : Int) + 1 ∧ (hasT st.2 p.1 = false → p.2.1 ≤ (k : Int))
theorem BzI.step {k : Nat} {st : BzS} (h : BzI k st) (hk : k ≤ 1000000) (i num q : Int) : BzI k (bzW i num st q) := by
  have hmono : ∀ j, hasT (putT st.2 q i) j = false → hasT st.2 j = false := fun j hj => by rw [hasT_put h.s2] at hj; exact (Bool.or_eq_false_iff.1 hj).2
  cases hh : hasT st.2 q with
  | true =>
    have e : bzW i num st q = (st.1, putT st.2 q i) := by unfold bzW; rw [hh]; rfl
    rw [e]
    exact ⟨h.s1, srt_put h.s2 _ _, fun p hp => ⟨(h.n p hp).1, (h.n p hp).2.1, fun hf => (h.n p hp).2.2 (hmono _ hf)⟩⟩
  | false =>
    have e : bzW i num st q = (putT st.1 q (bump num (getT st.1 q)), putT st.2 q i) := by unfold bzW; rw [hh]; rfl
    rw [e]
    refine ⟨srt_put h.s1 _ _, srt_put h.s2 _ _, fun p hp => ?_⟩
    rcases mem_putT hp with rfl | hp
    · have hold : 0 ≤ ((getT st.1 q).getD (0, 0)).1 ∧ ((getT st.1 q).getD (0, 0)).1 ≤ (k : Int) := by
        cases hg : getT st.1 q with
        | none => exact ⟨Int.le_refl _, by show (0 : Int) ≤ k; omega⟩
        | some u =>
          obtain ⟨a1, _, a3⟩ := h.n _ (getT_some hg)
          exact ⟨by show 0 ≤ u.1; simp only at a1; omega, a3 hh⟩
      have hv : (bump num (getT st.1 q)).1 = ((getT st.1 q).getD (0, 0)).1 + 1 := wr_in (by omega)
      refine ⟨by show 1 ≤ (bump num (getT st.1 q)).1; omega, by show (bump num (getT st.1 q)).1 ≤ _; omega, fun hf => ?_⟩
      rw [hasT_put h.s2] at hf
      simp at hf
    · exact ⟨(h.n p hp).1, (h.n p hp).2.1, fun hf => (h.n p hp).2.2 (hmono _ hf)⟩
theorem BzI.fold {k : Nat} (hk : k ≤ 1000000) (i num : Int) (qs : List Int) : ∀ {st : BzS}, BzI k st → BzI k (qs.foldl (bzW i num) st) := by
  induction qs with
  | nil => exact fun h => h
  | cons q qs ih => exact fun h => ih (h.step hk i num q)
theorem bzL_cnt (l : List RecV) : ∀ k, k ≤ 1000000 → Srt (bzL l k) ∧ ∀ p ∈ bzL l k, 1 ≤ p.2.1 ∧ p.2.1 ≤ (k : Int) := by
  intro k
  induction k with
  | zero => intro _; exact ⟨List.Pairwise.nil, fun p hp => by cases hp⟩
  | succ k ih =>
    intro hk
    obtain ⟨h1, h2⟩ := ih (by omega)
    rw [bzL]
    cases hr : l[k]? with
    | none => exact ⟨h1, fun p hp => ⟨(h2 p hp).1, by have := (h2 p hp).2; omega⟩⟩
    | some r =>
      have := BzI.fold (k := k) (by omega) (k : Int) r.Number' (blksR r) (st := (bzL l k, [])) ⟨h1, List.Pairwise.nil, fun p hp => ⟨(h2 p hp).1, by have := (h2 p hp).2; omega, fun _ => (h2 p hp).2⟩⟩
      exact ⟨this.s1, fun p hp => ⟨(this.n p hp).1, by have := (this.n p hp).2.1; omega⟩⟩
theorem Usages_okG (a : Option Addr) (n c : Nat) (its : List ItemV) (hb : n ≤ 900000) (hpos : 0 < (usT its).length) : SpecS Try.prog 6 [.slice a n c] [sh (fun w => ItemsOk w a n its)] (fun v H' => ∃ g c', v = .slice (some ⟨g, 0, none⟩) (usT its).length c' ∧ H' = [own 28 4 (some ⟨g, 0, none⟩) ((usT its).length) c' (uCells (usT its)).flatten]) := fun w F S st =>
  (Usages_ok a n c its hb w F S st).mono fun v w' ⟨H', F', S', ⟨a', c', hv, hH⟩, st', fr⟩ => by
    subst hH
    obtain ⟨g, rfl⟩ := st'.ownG .here hpos
    exact ⟨_, F', S', ⟨g, c', hv, rfl⟩, st', fr⟩
theorem manyB_all (n : Nat) (hn : n ≤ 1073741824) : manyB n 1073741824 = n := by
  unfold manyB
  rw [if_neg (by omega)]; omega

set_option maxHeartbeats 2000000 in
theorem count_law (aa : Option Addr) (an ac : Nat) (ia : List ItemV) (ba : Option Addr) (bn bc : Nat) (ib : List RecV) (w : World) (hA : ItemsOk w aa an ia) (hB : RecsOk w ba bn ib) (hca : an ≤ 140737488351232) (hcb : bn ≤ 140737488351232) (hws : wsL ib ≤ 900000) : Meets Try.prog 3 [.slice aa an ac, .slice ba bn bc] w (fun v w' => v = .bool true ∧ Ext [] w w') := by
  refine Meets.law Try.func3 rfl 81 rfl (Nat.le_of_ble_eq_true rfl) (law_cons (p := fun w => ItemsOk w aa an ia) (fun w9 he => hA.ext0 he) (law_cons (p := fun w => RecsOk w ba bn ib) (fun w9 he => hB.ext0 he) (law_nil w))) ?_
  refine SG.fact (fun w9 F9 S9 s => (s.sh (p := fun w => ItemsOk w aa an ia) (by repeat (first | exact Sel.keep | exact Sel.here | apply Sel.there))).len) (fun hf9 => ?_)
  have hla := hf9; clear hf9
  refine SG.fact (fun w9 F9 S9 s => (s.sh (p := fun w => RecsOk w ba bn ib) (by repeat (first | exact Sel.keep | exact Sel.here | apply Sel.there))).len) (fun hf9 => ?_)
  have hlb := hf9; clear hf9
  have hua := usT_len ia
  refine SG.seq ?_
  refine SG.region ?_
  refine SL.val rfl rfl (fun w9 F9 S9 s => R.as rfl) ?_
  refine SL.nil ?_
  refine SN.seq ?_
  refine SG.seq ?_
  refine SG.seq ?_
  refine SG.region ?_
  refine SL.step rfl rfl (CS.call rfl go5 (first43_ok) (by repeat (first | exact Sels.nil | apply Sels.cons | exact Sel.keep | exact Sel.here | apply Sel.there))) ?_
  rintro _ _ ⟨_, ⟨rfl, rfl⟩, rfl⟩
  refine SL.n0 ?_
  refine SL.val rfl rfl (fun w9 F9 S9 s => R.not rfl) ?_
  refine SL.nil ?_
  refine SN.seq ?_
  refine SG.condF rfl ?_
  refine SG.skip ?_
  refine SN.seq ?_
  refine SG.seq ?_
  refine SG.seq ?_
  refine SG.region ?_
  refine SL.val rfl rfl (fun w9 F9 S9 s => R.mv rfl) ?_
  refine SL.val rfl rfl (fun w9 F9 S9 s => R.lenS rfl) ?_
  refine SL.val rfl rfl (fun w9 F9 S9 s => R.mv rfl) ?_
  refine SL.val rfl rfl (fun w9 F9 S9 s => R.lenS rfl) ?_
  refine SL.val rfl rfl (fun w9 F9 S9 s => R.add rfl rfl (by omega)) ?_
  refine SL.val rfl rfl (fun w9 F9 S9 s => R.gtr rfl rfl) ?_
  refine SL.nil ?_
  refine SN.seq ?_
  refine SG.condP rfl (fun h1 => ?_) (fun h1 => ?_)
  · refine SG.seq ?_
    refine SG.region ?_
    refine SL.val rfl rfl (fun w9 F9 S9 s => R.as rfl) ?_
    refine SL.nil ?_
    refine SN.seq ?_
    exact SG.ret1 rfl rfl ((Imp.sels (by repeat (first | exact Sels.nil | apply Sels.cons | exact Sel.keep | exact Sel.here | apply Sel.there)))) (rfl)
  · obtain ⟨hc1, hc2⟩ := usT_cnt ia (by omega)
    have hbl : (bzT ib).length ≤ wsL ib := Nat.le_trans (bzL_len _) (wsK_le ib _)
    have hbc := (bzL_cnt ib ib.length (by omega)).2
    refine SG.skip ?_
    refine SN.seq ?_
    refine SG.seq ?_
    refine SG.region ?_
    refine SL.val rfl rfl (fun w9 F9 S9 s => R.as rfl) ?_
    refine SL.nil ?_
    refine SN.seq ?_
    refine SG.seq ?_
    refine SG.seq ?_
    refine SG.region ?_
    refine SL.val rfl rfl (fun w9 F9 S9 s => R.mv rfl) ?_
    refine SL.step rfl rfl (CS.call rfl go6 (Usages_ok aa an ac ia (by omega)) (by repeat (first | exact Sels.nil | apply Sels.cons | exact Sel.keep | exact Sel.here | apply Sel.there))) ?_
    rintro _ _ ⟨_, ⟨a19, c19, rfl, rfl⟩, rfl⟩
    refine SL.n1 ?_
    refine SL.val rfl rfl (fun w9 F9 S9 s => R.lenS rfl) ?_
    refine SL.val rfl rfl (fun w9 F9 S9 s => R.mv rfl) ?_
    refine SL.nil ?_
    refine SN.seq ?_
    refine SG.block ?_
    refine SG.loop (X := Nat) (fun i => [(0, .slice aa an ac), (1, .slice ba bn bc), (5, .int .i64 (wr (cntK (usT ia) i))), (19, .slice a19 (usT ia).length c19), (20, .int .i64 (((usT ia).length : Nat) : Int)), (21, .int .i64 ((i : Nat) : Int))]) (fun i => [own 28 4 a19 ((usT ia).length) c19 (uCells (usT ia)).flatten, sh (fun w => ItemsOk w aa an ia), sh (fun w => RecsOk w ba bn ib)]) (fun i => i ≤ (usT ia).length) (fun i => (usT ia).length - i) (0) (Sub.cons rfl (Sub.cons rfl (Sub.cons rfl (Sub.cons rfl (Sub.cons rfl (Sub.cons rfl (Sub.nil _))))))) ((Imp.sels (by repeat (first | exact Sels.nil | apply Sels.cons | exact Sel.keep | exact Sel.here | apply Sel.there)))) (Nat.zero_le _) ?_
    intro i hi
    show SG _ _ _ _ _ [(0, .slice aa an ac), (1, .slice ba bn bc), (5, .int .i64 (wr (cntK (usT ia) i))), (19, .slice a19 (usT ia).length c19), (20, .int .i64 (((usT ia).length : Nat) : Int)), (21, .int .i64 ((i : Nat) : Int))] [own 28 4 a19 ((usT ia).length) c19 (uCells (usT ia)).flatten, sh (fun w => ItemsOk w aa an ia), sh (fun w => RecsOk w ba bn ib)] _
    refine SG.seq ?_
    refine SG.region ?_
    refine SL.val rfl rfl (fun w9 F9 S9 s => R.lss rfl rfl) ?_
    refine SL.nil ?_
    refine SN.seq ?_
    refine SG.seq ?_
    refine SG.condP rfl (fun h2 => ?_) (fun h2 => ?_)
    · obtain ⟨p, hp⟩ : ∃ p, (usT ia)[i]? = some p := ⟨_, List.getElem?_eq_getElem (by omega)⟩
      refine SG.fact (fun w9 F9 S9 s => s.ownG (show Sel _ (own 28 4 a19 ((usT ia).length) c19 (uCells (usT ia)).flatten) _ from (by repeat (first | exact Sel.keep | exact Sel.here | apply Sel.there))) (by omega)) (fun hf9 => ?_)
      obtain ⟨g, rfl⟩ := hf9
      have hp1 := hc1 p (List.mem_of_getElem? hp)
      refine SG.skip ?_
      refine SN.seq ?_
      refine SG.seq ?_
      refine SG.block ?_
      refine SG.seq ?_
      refine SG.region ?_
      refine SL.val rfl rfl (fun w9 F9 S9 s => R.mv rfl) ?_
      refine SL.val rfl rfl (fun w9 F9 S9 s => R.idxO rfl rfl (by omega) (by omega) rfl (i * 4) (by omega)) ?_
      refine SL.val rfl rfl (fun w9 F9 S9 s => R.ldN (vs := us4 p.1 p.2) rfl (row_ld (f := fun p : Int × V3 => us4 p.1 p.2) (fun _ => rfl) (s.ownC (show Sel _ (own 28 4 (some ⟨g, 0, none⟩) ((usT ia).length) c19 (uCells (usT ia)).flatten) _ from (by repeat (first | exact Sel.keep | exact Sel.here | apply Sel.there)))) hp) rfl) ?_
      refine SL.step rfl rfl (CS.alloc [.int .i64 0, .int .i64 0, .int .i64 0, .int .i64 0] rfl) ?_
      rintro _ _ ⟨b7, rfl, rfl⟩
      refine SL.val rfl rfl (fun w9 F9 S9 s => R.as rfl) ?_
      refine SL.step0 rfl (CS.stA (vs := us4 p.1 p.2) rfl rfl (by repeat (first | exact Sel.keep | exact Sel.here | apply Sel.there)) rfl (by rfl) (us4_one _ _)) ?_
      rintro _ _ rfl
      refine SL.nil ?_
      refine SN.seq ?_
      refine SG.seq ?_
      refine SG.region ?_
      refine SL.val rfl rfl (fun w9 F9 S9 s => R.mv rfl) ?_
      refine SL.val rfl rfl (fun w9 F9 S9 s => R.fld rfl) ?_
      refine SL.val rfl rfl (fun w9 F9 S9 s => R.ldB (v := .int .i64 p.2.1) rfl (s.cel (by repeat (first | exact SelB.blk | exact SelB.fz | apply SelB.there))) (by rfl)) ?_
      refine SL.val rfl rfl (fun w9 F9 S9 s => R.addW rfl rfl (wr (cntK (usT ia) (i + 1))) (cntK_step hp)) ?_
      refine SL.val rfl rfl (fun w9 F9 S9 s => R.as rfl) ?_
      refine SL.nil ?_
      refine SN.seq ?_
      refine SG.seq ?_
      refine SG.draw [8] [0, 1, 2, 3, 4, 5, 6, 7, 9, 10, 14, 15, 8, 11, 12, 13, 16, 17, 18] (by decide +kernel) rfl ?_
      refine SW.pure rfl rfl rfl rfl (fun w9 => R.fld rfl) ?_
      refine SW.read rfl rfl rfl rfl (fun w9 F9 S9 s => R.ldB (v := .int .i64 p.2.1) rfl (s.cel (by repeat (first | exact SelB.blk | exact SelB.fz | apply SelB.there))) (by rfl)) ?_
      refine SW.pure rfl rfl rfl rfl (fun w9 => R.lss rfl rfl) ?_
      refine SW.pure rfl rfl rfl rfl (fun w9 => R.mv rfl) ?_
      refine SW.isF 33 rfl (decide_eq_false (by omega)) ?_
      refine SW.pure rfl rfl rfl rfl (fun w9 => R.mv rfl) ?_
      refine SW.pure rfl rfl rfl rfl (fun w9 => R.gtr rfl rfl) ?_
      refine SW.pure rfl rfl rfl rfl (fun w9 => R.mv rfl) ?_
      refine SW.caseP 36 rfl (fun hg10_6 => ?_) (fun hg10_6 => ?_)
      · obtain ⟨i1, hi1⟩ : ∃ i1, i = i1 + 1 := ⟨i - 1, by omega⟩
        obtain ⟨pr, hpr⟩ : ∃ p, (usT ia)[i1]? = some p := ⟨_, List.getElem?_eq_getElem (by omega)⟩
        have hlt := srt_lt (usT_srt ia) hpr (show (usT ia)[i1 + 1]? = some p by rw [← hi1]; exact hp)
        refine SW.pure rfl rfl rfl rfl (fun w9 => R.mv rfl) ?_
        refine SW.pure rfl rfl rfl rfl (fun w9 => R.mv rfl) ?_
        refine SW.pure rfl rfl rfl rfl (fun w9 => R.subW rfl rfl ((i1 : Nat) : Int) (by rw [wrap_i64 (by omega)]; omega)) ?_
        refine SW.pure rfl rfl rfl rfl (fun w9 => R.fld rfl) ?_
        refine SW.read rfl rfl rfl rfl (fun w9 F9 S9 s => R.ldB (v := .int .i64 p.1) rfl (s.cel (by repeat (first | exact SelB.blk | exact SelB.fz | apply SelB.there))) (by rfl)) ?_
        refine SW.step rfl rfl rfl rfl (CS.call rfl go6 (Usages_okG aa an ac ia (by omega) (by omega)) (by repeat (first | exact Sels.nil | apply Sels.cons | exact Sel.keep | exact Sel.here | apply Sel.there))) ?_
        rintro _ _ ⟨_, ⟨g8, c38, rfl, rfl⟩, rfl⟩
        refine ⟨⟨.inr (fun w9 F9 S9 s => R.ldB (v := .int .i64 p.1) rfl (s.cel (by repeat (first | exact SelB.blk | exact SelB.fz | apply SelB.there))) (by rfl)), ⟨.inl (by decide +kernel), trivial⟩⟩, ?_⟩
        refine SW.n1 ?_
        refine SW.pure rfl rfl rfl rfl (fun w9 => R.idxO rfl rfl (by omega) (by omega) rfl (i1 * 4) (by omega)) ?_
        refine SW.pure rfl rfl rfl rfl (fun w9 => R.fld rfl) ?_
        refine SW.read rfl rfl rfl rfl (fun w9 F9 S9 s => R.ld (v := .int .i64 pr.1) rfl ((row_ld (f := fun p : Int × V3 => us4 p.1 p.2) (fun _ => rfl) (s.ownC (show Sel _ (own 28 4 (some ⟨g8, 0, none⟩) ((usT ia).length) c38 (uCells (usT ia)).flatten) _ from (by repeat (first | exact Sel.keep | exact Sel.here | apply Sel.there)))) hpr).load (j := 0) rfl)) ?_
        refine SW.pure rfl rfl rfl rfl (fun w9 => R.geq rfl rfl) ?_
        first | refine SW.pure rfl rfl rfl rfl (fun w9 => R.pickT rfl rfl) ?_ | refine SW.pure rfl rfl rfl rfl (fun w9 => R.pickF rfl rfl) ?_
        first | refine SW.pure rfl rfl rfl rfl (fun w9 => R.pickT rfl rfl) ?_ | refine SW.pure rfl rfl rfl rfl (fun w9 => R.pickF rfl rfl) ?_
        refine SW.nil ?_
        refine SN.seq ?_
        refine SG.condP rfl (fun h3 => ?_) (fun h3 => ?_)
        · exfalso; omega
        · refine SG.skip ?_
          refine SN.block ?_
          refine SN.seq ?_
          refine SG.region ?_
          refine SL.val rfl rfl (fun w9 F9 S9 s => R.add rfl rfl (by omega)) ?_
          refine SL.val rfl rfl (fun w9 F9 S9 s => R.mv rfl) ?_
          refine SL.nil ?_
          exact SN.again (i + 1) (by show (usT ia).length - (i + 1) < (usT ia).length - i; omega) (Sub.cons rfl (Sub.cons rfl (Sub.cons rfl (Sub.cons rfl (Sub.cons rfl (Sub.cons rfl (Sub.nil _))))))) ((Imp.sels (by repeat (first | exact Sels.nil | apply Sels.cons | exact Sel.keep | exact Sel.here | apply Sel.there)))) (by show i + 1 ≤ (usT ia).length; omega)
      · refine SW.pass (hd := rfl) rfl rfl rfl ?_
        refine SW.pass (hd := rfl) rfl rfl rfl ?_
        refine SW.pass (hd := rfl) rfl rfl rfl ?_
        refine SW.pass (hd := rfl) rfl rfl rfl ?_
        refine SW.pass (hd := rfl) rfl rfl rfl ?_
        refine SW.passS rfl rfl rfl rfl ⟨⟨.inl (by decide +kernel), trivial⟩, ?_⟩
        refine SW.pass (hd := rfl) rfl rfl rfl ?_
        refine SW.pass (hd := rfl) rfl rfl rfl ?_
        refine SW.pass (hd := rfl) rfl rfl rfl ?_
        refine SW.pass (hd := rfl) rfl rfl rfl ?_
        first | refine SW.pure rfl rfl rfl rfl (fun w9 => R.pickT rfl rfl) ?_ | refine SW.pure rfl rfl rfl rfl (fun w9 => R.pickF rfl rfl) ?_
        first | refine SW.pure rfl rfl rfl rfl (fun w9 => R.pickT rfl rfl) ?_ | refine SW.pure rfl rfl rfl rfl (fun w9 => R.pickF rfl rfl) ?_
        refine SW.nil ?_
        refine SN.seq ?_
        refine SG.condF rfl ?_
        refine SG.skip ?_
        refine SN.block ?_
        refine SN.seq ?_
        refine SG.region ?_
        refine SL.val rfl rfl (fun w9 F9 S9 s => R.add rfl rfl (by omega)) ?_
        refine SL.val rfl rfl (fun w9 F9 S9 s => R.mv rfl) ?_
        refine SL.nil ?_
        exact SN.again (i + 1) (by show (usT ia).length - (i + 1) < (usT ia).length - i; omega) (Sub.cons rfl (Sub.cons rfl (Sub.cons rfl (Sub.cons rfl (Sub.cons rfl (Sub.cons rfl (Sub.nil _))))))) ((Imp.sels (by repeat (first | exact Sels.nil | apply Sels.cons | exact Sel.keep | exact Sel.here | apply Sel.there)))) (by show i + 1 ≤ (usT ia).length; omega)
    · obtain rfl : i = (usT ia).length := by omega
      have hcn : wr (cntK (usT ia) (usT ia).length) = (an : Int) := by unfold cntK; rw [List.take_length, hc2, wr_in (by omega), hla]
      rw [hcn]
      refine SG.exit _ rfl ?_
      refine SN.seq ?_
      refine SG.seq ?_
      refine SG.seq ?_
      refine SG.region ?_
      refine SL.val rfl rfl (fun w9 F9 S9 s => R.mv rfl) ?_
      refine SL.step rfl rfl (CS.call rfl go7 (Blocks_ok ba bn bc ib (by omega) hws) (by repeat (first | exact Sels.nil | apply Sels.cons | exact Sel.keep | exact Sel.here | apply Sel.there))) ?_
      rintro _ _ ⟨_, ⟨a51, c51, rfl, rfl⟩, rfl⟩
      refine SL.n1 ?_
      refine SL.val rfl rfl (fun w9 F9 S9 s => R.lenS rfl) ?_
      refine SL.val rfl rfl (fun w9 F9 S9 s => R.mv rfl) ?_
      refine SL.nil ?_
      refine SN.seq ?_
      refine SG.block ?_
      refine SG.loop (X := Nat) (fun j => [(0, .slice aa an ac), (1, .slice ba bn bc), (5, .int .i64 ((an : Nat) : Int)), (51, .slice a51 (bzT ib).length c51), (52, .int .i64 (((bzT ib).length : Nat) : Int)), (53, .int .i64 ((j : Nat) : Int))]) (fun j => [own 32 3 a51 ((bzT ib).length) c51 (bCells (bzT ib)).flatten, sh (fun w => ItemsOk w aa an ia), sh (fun w => RecsOk w ba bn ib)]) (fun j => j ≤ (bzT ib).length) (fun j => (bzT ib).length - j) (0) (Sub.cons rfl (Sub.cons rfl (Sub.cons rfl (Sub.cons rfl (Sub.cons rfl (Sub.cons rfl (Sub.nil _))))))) ((Imp.sels (by repeat (first | exact Sels.nil | apply Sels.cons | exact Sel.keep | exact Sel.here | apply Sel.there)))) (Nat.zero_le _) ?_
      intro j hj
      show SG _ _ _ _ _ [(0, .slice aa an ac), (1, .slice ba bn bc), (5, .int .i64 ((an : Nat) : Int)), (51, .slice a51 (bzT ib).length c51), (52, .int .i64 (((bzT ib).length : Nat) : Int)), (53, .int .i64 ((j : Nat) : Int))] [own 32 3 a51 ((bzT ib).length) c51 (bCells (bzT ib)).flatten, sh (fun w => ItemsOk w aa an ia), sh (fun w => RecsOk w ba bn ib)] _
      refine SG.seq ?_
      refine SG.region ?_
      refine SL.val rfl rfl (fun w9 F9 S9 s => R.lss rfl rfl) ?_
      refine SL.nil ?_
      refine SN.seq ?_
      refine SG.seq ?_
      refine SG.condP rfl (fun h4 => ?_) (fun h4 => ?_)
      · obtain ⟨p, hp⟩ : ∃ p, (bzT ib)[j]? = some p := ⟨_, List.getElem?_eq_getElem (by omega)⟩
        refine SG.fact (fun w9 F9 S9 s => s.ownG (show Sel _ (own 32 3 a51 ((bzT ib).length) c51 (bCells (bzT ib)).flatten) _ from (by repeat (first | exact Sel.keep | exact Sel.here | apply Sel.there))) (by omega)) (fun hf9 => ?_)
        obtain ⟨g, rfl⟩ := hf9
        have hp1 := hbc p (List.mem_of_getElem? hp)
        refine SG.skip ?_
        refine SN.seq ?_
        refine SG.seq ?_
        refine SG.block ?_
        refine SG.seq ?_
        refine SG.region ?_
        refine SL.val rfl rfl (fun w9 F9 S9 s => R.idxO rfl rfl (by omega) (by omega) rfl (j * 3) (by omega)) ?_
        refine SL.val rfl rfl (fun w9 F9 S9 s => R.ldN (vs := bz3 p.1 p.2) rfl (row_ld (f := fun p : Int × V2 => bz3 p.1 p.2) (fun _ => rfl) (s.ownC (show Sel _ (own 32 3 (some ⟨g, 0, none⟩) ((bzT ib).length) c51 (bCells (bzT ib)).flatten) _ from (by repeat (first | exact Sel.keep | exact Sel.here | apply Sel.there)))) hp) rfl) ?_
        refine SL.step rfl rfl (CS.alloc [.int .i64 0, .int .i64 0, .int .i64 0] rfl) ?_
        rintro _ _ ⟨b9, rfl, rfl⟩
        refine SL.step0 rfl (CS.stA (vs := bz3 p.1 p.2) rfl rfl (by repeat (first | exact Sel.keep | exact Sel.here | apply Sel.there)) rfl (by rfl) (bz3_one _ _)) ?_
        rintro _ _ rfl
        refine SL.nil ?_
        refine SN.seq ?_
        refine SG.seq ?_
        refine SG.region ?_
        refine SL.val rfl rfl (fun w9 F9 S9 s => R.fld rfl) ?_
        refine SL.val rfl rfl (fun w9 F9 S9 s => R.ldB (v := .int .i64 p.2.1) rfl (s.cel (by repeat (first | exact SelB.blk | exact SelB.fz | apply SelB.there))) (by rfl)) ?_
        refine SL.val rfl rfl (fun w9 F9 S9 s => R.lss rfl rfl) ?_
        refine SL.val rfl rfl (fun w9 F9 S9 s => R.mv rfl) ?_
        refine SL.isF 60 rfl (decide_eq_false (by omega)) ?_
        refine SL.val rfl rfl (fun w9 F9 S9 s => R.fld rfl) ?_
        refine SL.val rfl rfl (fun w9 F9 S9 s => R.ldB (v := .int .i64 p.2.1) rfl (s.cel (by repeat (first | exact SelB.blk | exact SelB.fz | apply SelB.there))) (by rfl)) ?_
        refine SL.val rfl rfl (fun w9 F9 S9 s => R.mv rfl) ?_
        refine SL.val rfl rfl (fun w9 F9 S9 s => R.lenS rfl) ?_
        refine SL.val rfl rfl (fun w9 F9 S9 s => R.gtr rfl rfl) ?_
        first | refine SL.val rfl rfl (fun w9 F9 S9 s => R.pickT rfl rfl) ?_ | refine SL.val rfl rfl (fun w9 F9 S9 s => R.pickF rfl rfl) ?_
        refine SL.nil ?_
        refine SN.seq ?_
        refine SG.condP rfl (fun h5 => ?_) (fun h5 => ?_)
        · exfalso; omega
        · refine SG.skip ?_
          refine SN.block ?_
          refine SN.seq ?_
          refine SG.region ?_
          refine SL.val rfl rfl (fun w9 F9 S9 s => R.add rfl rfl (by omega)) ?_
          refine SL.val rfl rfl (fun w9 F9 S9 s => R.mv rfl) ?_
          refine SL.nil ?_
          exact SN.again (j + 1) (by show (bzT ib).length - (j + 1) < (bzT ib).length - j; omega) (Sub.cons rfl (Sub.cons rfl (Sub.cons rfl (Sub.cons rfl (Sub.cons rfl (Sub.cons rfl (Sub.nil _))))))) ((Imp.sels (by repeat (first | exact Sels.nil | apply Sels.cons | exact Sel.keep | exact Sel.here | apply Sel.there)))) (by show j + 1 ≤ (bzT ib).length; omega)
      · refine SG.exit _ rfl ?_
        refine SN.seq ?_
        refine SG.seq ?_
        refine SG.region ?_
        refine SL.val rfl rfl (fun w9 F9 S9 s => R.mv rfl) ?_
        refine SL.val rfl rfl (fun w9 F9 S9 s => R.mv rfl) ?_
        refine SL.val rfl rfl (fun w9 F9 S9 s => R.lenS rfl) ?_
        refine SL.val rfl rfl (fun w9 F9 S9 s => R.eqI rfl rfl) ?_
        refine SL.val rfl rfl (fun w9 F9 S9 s => R.mv rfl) ?_
        refine SL.isT 72 rfl (decide_eq_true rfl) ?_
        refine SL.val rfl rfl (fun w9 F9 S9 s => R.mv rfl) ?_
        refine SL.step rfl rfl (CS.call rfl go8 (hot_ok ba bn bc ib 1073741824 (by omega) hws (by decide)) (by repeat (first | exact Sels.nil | apply Sels.cons | exact Sel.keep | exact Sel.here | apply Sel.there))) ?_
        rintro _ _ ⟨_, ⟨ys, a74, c74, rfl, hys, rfl, rfl⟩, rfl⟩
        refine SL.n1 ?_
        refine SL.val rfl rfl (fun w9 F9 S9 s => R.lenS rfl) ?_
        refine SL.val rfl rfl (fun w9 F9 S9 s => R.mv rfl) ?_
        refine SL.step rfl rfl (CS.call rfl go7 (Blocks_ok ba bn bc ib (by omega) hws) (by repeat (first | exact Sels.nil | apply Sels.cons | exact Sel.keep | exact Sel.here | apply Sel.there))) ?_
        rintro _ _ ⟨_, ⟨a77, c77, rfl, rfl⟩, rfl⟩
        refine SL.n1 ?_
        refine SL.val rfl rfl (fun w9 F9 S9 s => R.lenS rfl) ?_
        refine SL.val rfl rfl (fun w9 F9 S9 s => R.eqI rfl rfl) ?_
        first | refine SL.val rfl rfl (fun w9 F9 S9 s => R.pickT rfl rfl) ?_ | refine SL.val rfl rfl (fun w9 F9 S9 s => R.pickF rfl rfl) ?_
        refine SL.val rfl rfl (fun w9 F9 S9 s => R.as rfl) ?_
        refine SL.nil ?_
        refine SN.seq ?_
        exact SG.ret1 rfl rfl ((Imp.sels (by repeat (first | exact Sels.nil | apply Sels.cons | exact Sel.keep | exact Sel.here | apply Sel.there)))) (congrArg Value.bool (decide_eq_true (by rw [manyB_all _ (by omega)])))

end Go.Proofs.Ytlhkpakbenghgaa
/-
  Laws where what is read is small: the row, and the arguments' sizes.
-/
set_option linter.unusedVariables false
set_option linter.unusedSimpArgs false
namespace Go.Proofs.Ytlhkpakbenghgaa
open Go Brv
namespace Upt
section
variable {H : Type} {enc : TypeId × Value → H}
def X (enc : TypeId × Value → H) (P : Program) (fn : Func) (s : ChangeSpec) (apart : Bool) (k : (H : Type) → List (DataW H) → Bool) : World → Array Value → Prop :=
  fun w args => ∃ ds gs before, DataW.Whole enc P fn.params.toList s.vars apart w args.toList ds gs before ∧ k H (ds ++ gs) = true
def smallB (enc : TypeId × Value → H) (P : Program) (f : Func) (s : ChangeSpec) (apart : Bool) (k : (H : Type) → List (DataW H) → Bool) (w : World) (args : Array Value) (fuel : Nat) : Bool :=
  match DataW.whole enc P w f.params.toList s.vars apart args.toList fuel with
  | some x => k H (x.1 ++ x.2.1)
  | none => false
theorem X_of {P : Program} {f : Func} {s : ChangeSpec} {apart : Bool} {k : (H : Type) → List (DataW H) → Bool} {w : World} {args : Array Value} {fuel : Nat} (h : smallB enc P f s apart k w args fuel = true) : X enc P f s apart k w args := by
  unfold smallB at h
  split at h
  · rename_i x hx
    exact ⟨x.1, x.2.1, x.2.2, DataW.Whole_of_whole hx, h⟩
  · cases h
theorem X_heap {P : Program} {f : Func} {s : ChangeSpec} {apart : Bool} {k : (H : Type) → List (DataW H) → Bool} (w w' : World) (args : Array Value) (hh : w.heap = w'.heap) (h : X enc P f s apart k w args) : X enc P f s apart k w' args :=
  let ⟨ds, gs, before, h1, h2⟩ := h
  ⟨ds, gs, before, h1.of_heap hh, h2⟩
theorem witness {C : Checked} {os : Os} {f : FuncId} {fn : Func} {s : ChangeSpec} {conds : List PathCond} {apart : Bool} {k : (H : Type) → List (DataW H) → Bool} (modest : Bool) (i : Input) (fuel : Nat)
    (hv : (World.plainHolding C.prog os i).variablesB C.prog = true)
    (hr : ((World.plainHolding C.prog os i).heap.toList.drop C.prog.globals.size).take ((begin C.prog (fun _ _ => 0) default).world.heap.size - C.prog.globals.size) =
      (begin C.prog (fun _ _ => 0) default).world.heap.toList.drop C.prog.globals.size)
    (hok : Input.okWideB C.prog (World.plainHolding C.prog os i) f ⟨#[], i.args, []⟩ = true)
    (hpre : s.preB enc C.prog fn conds apart (World.plainHolding C.prog os i).memory i.args fuel = true)
    (hk : smallB enc C.prog fn s apart k (World.plainHolding C.prog os i).memory i.args fuel = true)
    (hsz : s.sizedB enc C.prog fn apart (World.plainHolding C.prog os i).memory i.args fuel = true := by kernel_rfl) :
    ∃ (w : World) (tape : Tape) (i : Input), w.os = os ∧ (w.forCall tape i).Shaped C.prog ∧ i.vars = [] ∧ Input.okWide C.prog (w.forCall tape i) .any w.heap.size f i ∧
      ((s.pre enc C.prog fn conds apart (w.forCall tape i).memory i.args ∧ X enc C.prog fn s apart k (w.forCall tape i).memory i.args) ∧ sizedMet enc C.prog fn (OpenSpec.ofChange s) apart (w.forCall tape i).memory i.args) ∧ ({ modest := modest } : Assume).holds C.prog (lone (Frame.enter C.prog f i.args .normal) [] (w.forCall tape i)) :=
  ⟨World.holding C.prog os i, fun _ _ => 0, ⟨#[], i.args, []⟩, rfl, World.shaped_of_B hv hr, (Input.okWide_of_okWideB (base := 0) hok).1, (Input.okWide_of_okWideB hok).2, ⟨⟨ChangeSpec.pre_of_preB hpre, X_of hk⟩, sizedMet_of_sizedB hsz⟩, by
    simp only [Assume.holds]
    exact ⟨by simp, by simp, fun _ => Modest.zero, by simp, by simp⟩⟩
end
theorem holds {p : Pinned} {s : ChangeSpec} {c : OpenClaim} {k : (H : Type) → List (DataW H) → Bool} (f : FuncId) (fn : Func)
    (hn : c.program = p.name) (hs : c.sum = p.sum) (hsp : c.spec = s.name)
    (hstart : c.start = .entering) (hout : c.outside = []) (hin : c.inits = []) (hun : c.under = none) (hi4 : c.initsInPlace = [] ∧ c.initsUnfollowed = false ∧ c.initsRecurse = false ∧ c.initsNamed = [] ∧ c.initsPassed = []) (hnb : c.noBlocks = false) (hlv : c.leaving = false) (hfo : c.followed = none) (hnar : c.narrowed = true) (hstill : c.still = false) (hlaid : c.laid = [])
    (hfn : p.checked.prog.funcNamed c.func = some f) (hf : p.checked.prog.funcs[f]? = some fn)
    (closed : joinedFacts p.checked.prog f fn s c = true)
    (hinst : fn.isInstance p.checked.prog c.origin c.targs) (hwrap : fn.isWrapper p.checked.prog c.wrapper c.mainSum)
    (h : ∀ os : Os, os.Started → ∀ (H : Type) (enc : TypeId × Value → H), (∀ a b, enc a = enc b → a = b) →
      ReturnsInHanded c.assume p.checked os f .any (fun w args => (s.pre enc p.checked.prog fn c.domain c.apart w args ∧ X enc p.checked.prog fn s c.apart k w args) ∧ sizedMet enc p.checked.prog fn (OpenSpec.ofChange s) c.apart w args) (s.post enc p.checked.prog fn c.apart c.fresh c.handsOn c.again)) :
    c.holds p { OpenSpec.ofChange s with cond := some k } := by
  simp only [joinedFacts, Bool.and_eq_true, beq_iff_eq, Array.all_eq_true_iff_forall_mem, List.all_eq_true, decide_eq_true_eq] at closed
  obtain ⟨⟨⟨⟨⟨⟨⟨⟨⟨⟨⟨⟨⟨⟨⟨⟨⟨⟨⟨⟨⟨⟨⟨⟨⟨⟨⟨⟨⟨⟨⟨k1, k2⟩, k3⟩, k4⟩, k5⟩, k6⟩, k7⟩, k8⟩, k9⟩, k10⟩, k11⟩, k12⟩, k13⟩, k14⟩, k15⟩, k16⟩, k17⟩, k17b⟩, k18⟩, k19⟩, k20⟩, k21⟩, k22⟩, k23⟩, k23b⟩, k24⟩, k24b⟩, k24c⟩, k25⟩, k26⟩, k27⟩, k28⟩ := closed
  have hq : ∀ os : Os, Stop.quiet p.checked.prog os := fun os k hk => by rw [k9] at hk; cases hk
  refine ⟨k1, hn, hs, hsp, k2, k3, by unfold OpenClaim.startFits; rw [hstart]; exact k24, by unfold OpenClaim.startTold; rw [hstart]; exact ⟨hin, hun, hi4⟩, f, fn, hfn, hf, ⟨k4, k19⟩, (fun hb => by rw [hnb] at hb; cases hb), by unfold OpenClaim.namedList; rw [hfo]; exact k5, hinst, hwrap,
    k6.trans k7.symm, ⟨k8.trans k9.symm, by unfold Program.envWorded; rw [k9]; rfl, k23b⟩, k10, k11, k12, k13, k14, ⟨k15, k27, k28⟩, ⟨k16, k20⟩, ⟨k17, k21, k25, k26⟩, ⟨k22, k24b, k24c, k17b⟩, (by rw [hout, hnar]; rfl), fun n hn' => varReadable_some (k18 n hn'),
    ⟨_, by unfold OpenClaim.world; rw [hout, hstart]; exact WideRow.started_initial, hq _⟩, [], by unfold OpenClaim.lists; rw [hfo], fun os st _ H enc inj => ?_⟩
  have st' : os.Started := by unfold OpenClaim.world at st; rw [hout, hstart] at st; exact st
  rw [OpenClaim.post_not_still hstill]
  unfold OpenClaim.form
  rw [hstart, k6]
  intro F
  have e1 : c.okInput = Input.okWide := by unfold OpenClaim.okInput; rw [hnb]
  have e2 : c.atReturn p.checked.prog = aloneAtReturn p.checked.prog := by unfold OpenClaim.atReturn; rw [hlv]
  have e3 : c.always p.checked.prog [] = nothingAlways := by unfold OpenClaim.always; rw [hfo]
  have e4 : ({ OpenSpec.ofChange s with cond := some k } : OpenSpec).post enc p.checked.prog fn F c.outside c.apart c.fresh c.handsOn c.again = s.post enc p.checked.prog fn c.apart c.fresh c.handsOn c.again := by rw [hout]; rfl
  have e5 : c.pre enc p.checked.prog fn { OpenSpec.ofChange s with cond := some k } = (fun w args => (s.pre enc p.checked.prog fn c.domain c.apart w args ∧ X enc p.checked.prog fn s c.apart k w args) ∧ sizedMet enc p.checked.prog fn (OpenSpec.ofChange s) c.apart w args) := by
    funext w args
    unfold OpenClaim.pre OpenClaim.preLaid
    rw [hlaid]
    refine propext ⟨fun ⟨⟨ds, gs, before, h1, h2, h3⟩, h4⟩ => ⟨⟨⟨ds, gs, before, h1, h2⟩, ⟨ds, gs, before, h1, h3⟩⟩, h4⟩, fun ⟨⟨⟨ds, gs, before, h1, h2⟩, ⟨ds', gs', before', h1', h3⟩⟩, h4⟩ => ?_⟩
    obtain ⟨rfl, rfl, _⟩ := h1.unique h1'
    exact ⟨⟨ds, gs, before, h1, h2, h3⟩, h4⟩
  rw [e1, e2, e3]
  show ReturnsInOpen _ _ _ _ _ _ _ _ (({ OpenSpec.ofChange s with cond := some k } : OpenSpec).post enc p.checked.prog fn F c.outside c.apart c.fresh c.handsOn c.again) _ _
  rw [e4, e5]
  exact h os st' H enc inj k24
end Upt

/-- The cells cs read as plain data of type t, of bulk at most m. -/
def RdM (P : Program) (w : World) : Nat → TypeId → List Value → Nat → Prop
  | 0, _, _, _ => False
  | f + 1, t, cs, m => match P.underlying t with
    | some .bool => (∃ b, cs = [.bool b]) ∧ 1 ≤ m
    | some (.int k) => (∃ n, cs = [.int k n] ∧ (Lit.int k n).wf = true) ∧ 1 ≤ m
    | some .string => ∃ l : List UInt8, cs = [.string (str l)] ∧ l.length ≤ 140737488351232 ∧ l.length + 1 ≤ m
    | some (.slice e) => ∃ a n c, cs = [.slice a n c] ∧ n ≤ c ∧ (a = none → c = 0) ∧ c * P.bytesOf e ≤ 140737488351232 ∧
        ∃ (vss : List (List Value)) (ms : List Nat), vss.length = n ∧ ms.length = n ∧ Cells w a vss.flatten ∧ (∀ (i : Nat) (vs : List Value), vss[i]? = some vs → vs.length = P.cellsOf e ∧ ∃ k : Nat, ms[i]? = some k ∧ RdM P w f e vs k) ∧ ms.sum + 1 ≤ m
    | some (.struct fs) => cs.length = P.cellsOf t ∧ ∃ ms : List Nat, ms.length = fs.size ∧ (∀ (i : Nat) (f' : Field), fs[i]? = some f' → ∃ k, ms[i]? = some k ∧ RdM P w f f'.type ((cs.drop f'.offset).take (P.cellsOf f'.type)) k) ∧ ms.sum ≤ m
    | some (.array l e) => cs.length = P.cellsOf t ∧ ∀ i, i < l → ∃ k, RdM P w f e ((cs.drop (i * P.cellsOf e)).take (P.cellsOf e)) k
    | _ => True
theorem RdM.rd {P : Program} {w : World} : ∀ {f : Nat} {t : TypeId} {cs : List Value} {m : Nat}, RdM P w f t cs m → Rd P w f t cs
  | 0, _, _, _, h => h.elim
  | f + 1, t, cs, m, h => by
    unfold RdM at h
    unfold Rd
    cases hu : P.underlying t with
    | none => trivial
    | some dsc =>
      rw [hu] at h
      cases dsc with
      | bool => exact h.1
      | int k => exact h.1
      | string => obtain ⟨l, h1, h2, _⟩ := h; exact ⟨l, h1, h2⟩
      | slice e =>
        obtain ⟨a, n, c, rfl, h1, h2, h3, vss, ms, h4, _, h6, h7, _⟩ := h
        refine ⟨a, n, c, rfl, h1, h2, h3, vss, h4, h6, fun vs hvs => ?_⟩
        obtain ⟨i, hi⟩ := List.getElem?_of_mem hvs
        obtain ⟨q1, k, _, q2⟩ := h7 i vs hi
        exact ⟨q1, q2.rd⟩
      | struct fs =>
        obtain ⟨h1, ms, _, h2, _⟩ := h
        exact ⟨h1, fun i f' hf' => let ⟨k, _, q⟩ := h2 i f' hf'; q.rd⟩
      | array l e => exact ⟨h.1, fun i hi => let ⟨k, q⟩ := h.2 i hi; q.rd⟩
      | _ => trivial
theorem bulkAll_sum {H : Type} : ∀ (l : List (DataW H)), Rows.uptoBulkAll l = (l.map Rows.uptoBulk).sum
  | [] => rfl
  | d :: r => by simp only [Rows.uptoBulkAll, List.map_cons, List.sum_cons]; rw [bulkAll_sum r]
theorem rdM_of_trod {H : Type} {enc : TypeId × Value → H} {P : Program} {w : World} {base : Nat} {sp : Nat → Bool} (hsp : ∀ b, sp b = true) : ∀ (fuel : Nat) (t : TypeId) (cs : List Value) (x : DataW H × List MemPlace), DataW.trod enc P w base sp true fuel t cs = some x →
    (∀ n ∈ x.1.weights P t, n ≤ 140737488351232) → ∀ m, Rows.uptoBulk x.1 ≤ m → RdM P w fuel t cs m
  | 0, t, cs, x, h, _ => by simp [DataW.trod] at h
  | fuel + 1, t, cs, x, h, hw => by
    intro m hm
    unfold RdM
    cases hu : P.underlying t with
    | none => trivial
    | some dsc =>
      cases dsc with
      | bool => obtain ⟨b, rfl, rfl⟩ := DataW.trod_bool hu h; exact ⟨⟨b, rfl⟩, by simpa [Rows.uptoBulk] using hm⟩
      | int k => obtain ⟨n, rfl, rfl, hwf⟩ := DataW.trod_int hu h; exact ⟨⟨n, rfl, hwf⟩, by simpa [Rows.uptoBulk] using hm⟩
      | string =>
        obtain ⟨s, rfl, rfl, _⟩ := DataW.trod_string hu h
        refine ⟨s.data.toList, by rw [str_toList], ?_, by simpa [Rows.uptoBulk] using hm⟩
        exact hw _ (by simp [DataW.weights])
      | slice e =>
        rcases DataW.trod_slice hu h with ⟨rfl, rfl⟩ | ⟨a, len, cap, elems, rest, n, hf, rfl, rfl, _, hlc, _, hel, hcell, hsr, _⟩
        · exact ⟨none, 0, 0, rfl, Nat.le_refl _, fun _ => rfl, by simp, [], [], rfl, rfl, Cells.nil _ _, by simp, by simpa [Rows.uptoBulk] using hm⟩
        · cases hf
          have hrest := (hsr (hsp _)).1
          have hget : ∀ i, i < len → ∃ vs y, w.cells? base (a.add (i * P.cellsOf e)) (P.cellsOf e) = some vs ∧ DataW.trod enc P w base sp true fuel e vs = some y ∧ elems[i]? = some y := by
            intro i hi
            have := hcell i hi
            rw [List.getElem?_eq_getElem (by omega)] at this
            obtain ⟨vs, h1, h2⟩ := Option.bind_eq_some_iff.1 this
            exact ⟨vs, _, h1, h2, List.getElem?_eq_getElem (by omega)⟩
          refine ⟨some a, len, cap, rfl, hlc, (fun h => by cases h), ?_, ?_⟩
          · have := hw ((elems.length + rest.length) * P.bytesOf e) (by simp [DataW.weights, hu])
            rw [hel, hrest, show len + (cap - len) = cap by omega] at this
            exact this
          · let vss : List (List Value) := (List.range len).map fun i => (w.cells? base (a.add (i * P.cellsOf e)) (P.cellsOf e)).getD []
            have hvget : ∀ i vs, vss[i]? = some vs → i < len ∧ w.cells? base (a.add (i * P.cellsOf e)) (P.cellsOf e) = some vs := by
              intro i vs hi
              have hlt : i < len := by have := (List.getElem?_eq_some_iff.1 hi).1; simpa [vss] using this
              obtain ⟨vs', _, h1, _⟩ := hget i hlt
              simp [vss, hlt, h1] at hi
              subst hi
              exact ⟨hlt, h1⟩
            refine ⟨vss, elems.map (fun y => Rows.uptoBulk y.1), by simp [vss], by simpa using hel, ?_, ?_, ?_⟩
            · intro j v hj
              refine ⟨a, rfl, ?_⟩
              have := flatten_cells (w := w) (p := a) (size := P.cellsOf e) vss 0 (fun i vs hi => by
                obtain ⟨_, h1⟩ := hvget i vs hi
                obtain ⟨hl, hc⟩ := cells?_get h1
                refine ⟨hl, fun j v hj => ?_⟩
                rw [Nat.zero_add]; exact hc j v hj) j v hj
              simpa using this
            · intro i vs hi
              obtain ⟨hlt, h1⟩ := hvget i vs hi
              obtain ⟨vs', y, h1', h2, h3⟩ := hget i hlt
              rw [h1] at h1'; cases h1'
              refine ⟨(cells?_get h1).1, Rows.uptoBulk y.1, by rw [List.getElem?_map, h3]; rfl, rdM_of_trod hsp fuel e vs y h2 (fun m hm => ?_) _ (Nat.le_refl _)⟩
              refine hw m ?_
              simp only [DataW.weights, hu, List.mem_cons, List.mem_append]
              refine .inr (.inl (mem_weightsAll (List.mem_map.2 ⟨y, List.mem_of_getElem? h3, rfl⟩) hm))
            · simp only [Rows.uptoBulk, bulkAll_sum, List.map_map] at hm
              have : (elems.map (Rows.uptoBulk ∘ fun x => x.1)).sum = (elems.map fun y => Rows.uptoBulk y.1).sum := rfl
              omega
      | struct fs =>
        obtain ⟨xs, n, hf, rfl, hl, hxl, hget⟩ := DataW.trod_struct hu h
        cases hf
        refine ⟨hl, xs.map (fun y => Rows.uptoBulk y.1), by simpa using hxl, fun i f' hf' => ?_, ?_⟩
        · have := hget i f' hf'
          have hlt : i < xs.length := by have := (Array.getElem?_eq_some_iff.1 hf').1; omega
          rw [List.getElem?_eq_getElem hlt] at this
          refine ⟨Rows.uptoBulk xs[i].1, by simp [List.getElem?_eq_getElem hlt], rdM_of_trod hsp fuel f'.type _ _ this (fun m hm => ?_) _ (Nat.le_refl _)⟩
          refine hw m ?_
          simp only [DataW.weights, hu]
          exact DataW.weights_mem_each (j := i) (by simp [hf']) (by simp [List.getElem?_eq_getElem hlt]) m hm
        · simp only [Rows.uptoBulk, bulkAll_sum, List.map_map] at hm
          have : (xs.map (Rows.uptoBulk ∘ fun x => x.1)).sum = (xs.map fun y => Rows.uptoBulk y.1).sum := rfl
          omega
      | array l e =>
        obtain ⟨xs, n, hf, rfl, hl, hxl, hget⟩ := DataW.trod_array hu h
        cases hf
        refine ⟨hl, fun i hi => ?_⟩
        have := hget i hi
        rw [List.getElem?_eq_getElem (by omega)] at this
        refine ⟨_, rdM_of_trod hsp fuel e _ _ this (fun q hm => ?_) _ (Nat.le_refl _)⟩
        refine hw q ?_
        simp only [DataW.weights, hu]
        exact mem_weightsAll (List.mem_map.2 ⟨_, List.getElem_mem (by omega), rfl⟩) hm
      | _ => trivial
theorem RdM.of {H : Type} {enc : TypeId × Value → H} {P : Program} {w : World} {t : TypeId} {v : Value} {d : DataW H} {ps : List MemPlace} {ts : List TypeId} {ds : List (DataW H)} {j : Nat}
    (h : DataW.Trod enc P w 0 (fun _ => true) true t v d ps) (hsz : (DataW.weightsEach P ts ds).all (· ≤ reachBytes) = true) (ht : ts[j]? = some t) (hd : ds[j]? = some d) : ∃ f, RdM P w f t v.cells.toList (Rows.uptoBulk d) := by
  obtain ⟨fuel, hf⟩ := h
  refine ⟨fuel, rdM_of_trod (fun _ => rfl) fuel t _ _ hf (fun n hn => ?_) _ (Nat.le_refl _)⟩
  have := List.all_eq_true.1 hsz n (DataW.weights_mem_each ht hd n hn)
  exact of_decide_eq_true this
theorem sum_ge : ∀ (ms : List Nat), (∀ k ∈ ms, 1 ≤ k) → ms.length ≤ ms.sum
  | [], _ => Nat.zero_le _
  | k :: ms, h => by
    have := h k (by simp)
    have := sum_ge ms (fun x hx => h x (by simp [hx]))
    simp only [List.length_cons, List.sum_cons]; omega
/-- A slice of bytes, and its bulk. -/
theorem RdM.bytes {P : Program} {w : World} {f : Nat} {T E : TypeId} [t : TyBytes P T E] (hc : P.cellsOf E = 1) (hby : P.bytesOf E = 1) {cs : List Value} {m : Nat} (h : RdM P w f T cs m) :
    ∃ a n c l, cs = [.slice a n c] ∧ n ≤ c ∧ (a = none → c = 0) ∧ c ≤ 140737488351232 ∧ Bs w a n l ∧ l.length + 1 ≤ m := by
  obtain ⟨a, n, c, l, rfl, h1, h2, h3, h4⟩ := h.rd.bytes hc hby
  refine ⟨a, n, c, l, rfl, h1, h2, h3, h4, ?_⟩
  cases f with
  | zero => exact h.elim
  | succ f =>
    unfold RdM at h
    rw [t.h] at h
    obtain ⟨a', n', c', he, _, _, _, vss, ms, hl, hml, hcell, hv, hm⟩ := h
    cases he
    have := sum_ge ms (fun k hk => by
      obtain ⟨i, hi⟩ := List.getElem?_of_mem hk
      have hil : i < vss.length := by have := (List.getElem?_eq_some_iff.1 hi).1; omega
      obtain ⟨_, k', hk', hr⟩ := hv i _ (List.getElem?_eq_getElem hil)
      rw [hi] at hk'; cases hk'
      cases f with
      | zero => exact hr.elim
      | succ f => unfold RdM at hr; rw [t.e] at hr; exact hr.2)
    rw [← h4.len]; omega
theorem RdM.int {P : Program} {w : World} {f : Nat} {T : TypeId} {k : IntKind} [t : TyInt P T k] {cs : List Value} {m : Nat} (h : RdM P w f T cs m) : ∃ n, cs = [.int k n] ∧ (Lit.int k n).wf = true ∧ 1 ≤ m := by
  cases f with
  | zero => exact h.elim
  | succ f => unfold RdM at h; rw [t.h] at h; obtain ⟨⟨n, h1, h2⟩, h3⟩ := h; exact ⟨n, h1, h2, h3⟩
/-- The rows of a slice, each of which reads as data of a kind. -/
theorem RdM.rows {P : Program} {w : World} {f : Nat} {T E size : TypeId} {α : Type} {cells : α → List Value} {ok : α → Prop} {bulk : α → Nat} (hT : P.underlying T = some (.slice E)) (hs : P.cellsOf E = size)
    (hof : ∀ f cs m, RdM P w f E cs m → ∃ o, cs = cells o ∧ ok o ∧ bulk o ≤ m) {cs : List Value} {m : Nat} (h : RdM P w f T cs m) :
    ∃ a n c, ∃ os : List α, cs = [.slice a n c] ∧ n ≤ c ∧ c * P.bytesOf E ≤ 140737488351232 ∧ Tab w a n size (os.map cells) ∧ (∀ o ∈ os, ok o) ∧ (os.map bulk).sum + 1 ≤ m := by
  cases f with
  | zero => exact h.elim
  | succ f =>
    unfold RdM at h
    rw [hT] at h
    obtain ⟨a, n, c, rfl, h1, _, h3, vss, ms, hl, hml, hcell, hv, hm⟩ := h
    have hex : ∀ (vss : List (List Value)) (ms : List Nat), vss.length = ms.length → (∀ (i : Nat) (vs : List Value), vss[i]? = some vs → vs.length = P.cellsOf E ∧ ∃ k : Nat, ms[i]? = some k ∧ RdM P w f E vs k) → ∃ os : List α, vss = os.map cells ∧ (∀ o ∈ os, ok o) ∧ (os.map bulk).sum ≤ ms.sum := by
      intro vss
      induction vss with
      | nil => exact fun ms _ _ => ⟨[], rfl, by simp, by simp⟩
      | cons vs r ih =>
        intro ms hl hv
        cases ms with
        | nil => simp at hl
        | cons k ms =>
          obtain ⟨_, k', hk', hr⟩ := hv 0 vs rfl
          simp only [List.getElem?_cons_zero, Option.some.injEq] at hk'
          subst hk'
          obtain ⟨o, rfl, ho, hb⟩ := hof f vs k hr
          obtain ⟨os, rfl, hos, hbs⟩ := ih ms (by simpa using hl) (fun i vs hi => hv (i + 1) vs hi)
          refine ⟨o :: os, rfl, fun x hx => (List.mem_cons.1 hx).elim (fun e => e ▸ ho) (hos x), ?_⟩
          simp only [List.map_cons, List.sum_cons]; omega
    obtain ⟨os, rfl, hos, hbs⟩ := hex vss ms (by omega) hv
    refine ⟨a, n, c, os, rfl, h1, h3, ⟨hcell, hl.symm, fun vs hvs => ?_⟩, hos, by omega⟩
    obtain ⟨i, hi⟩ := List.getElem?_of_mem hvs
    rw [← hs]; exact (hv i vs hi).1
end Go.Proofs.Ytlhkpakbenghgaa
/-
  Items and records among the arguments, and their bulk.
-/
set_option linter.unusedVariables false
namespace Go.Proofs.Ytlhkpakbenghgaa
open Go Brv Brv.Stats
def ExtV.bulk (o : ExtV) : Nat := 1 + 1
set_option maxRecDepth 100000 in
theorem extV_ofM {w : World} (f : Nat) (cs : List Value) (m : Nat) (h : RdM Try.prog w f 40 cs m) : ∃ o : ExtV, cs = o.cells ∧ o.ok w ∧ o.bulk ≤ m := by
  cases f with
  | zero => exact h.elim
  | succ f =>
    unfold RdM at h
    rw [Try.underlying40] at h
    obtain ⟨hl, ms, hml, hf, hsum⟩ := h
    rw [show Try.prog.cellsOf 40 = 2 from by kernel_rfl] at hl
    obtain ⟨v0, v1, rfl⟩ : ∃ v0 v1, cs = [v0, v1] := by
      match cs, hl with
      | [v0, v1], _ => exact ⟨v0, v1, rfl⟩
    obtain ⟨k0, k1, rfl⟩ : ∃ k0 k1, ms = [k0, k1] := by
      match ms, hml with
      | [k0, k1], _ => exact ⟨k0, k1, rfl⟩
    obtain ⟨k, hk0, r0⟩ := hf 0 _ rfl
    cases hk0
    replace r0 : RdM Try.prog w f 3 (List.take (Try.prog.cellsOf 3) (List.drop 0 [v0, v1])) k0 := r0
    rw [show Try.prog.cellsOf 3 = 1 from by kernel_rfl] at r0
    replace r0 : RdM Try.prog w f 3 [v0] k0 := r0
    obtain ⟨k, hk1, r1⟩ := hf 1 _ rfl
    cases hk1
    replace r1 : RdM Try.prog w f 3 (List.take (Try.prog.cellsOf 3) (List.drop 1 [v0, v1])) k1 := r1
    rw [show Try.prog.cellsOf 3 = 1 from by kernel_rfl] at r1
    replace r1 : RdM Try.prog w f 3 [v1] k1 := r1
    obtain ⟨x0, e0, w0, d0⟩ := r0.int
    cases e0
    obtain ⟨x1, e1, w1, d1⟩ := r1.int
    cases e1
    simp only [List.sum_cons, List.sum_nil] at hsum
    exact ⟨⟨x0, x1⟩, rfl, ⟨w0, w1⟩, by show 1 + 1 ≤ m; omega⟩
set_option maxRecDepth 100000 in
theorem extV_rowsM41 {w : World} {f : Nat} {cs : List Value} {m : Nat} (h : RdM Try.prog w f 41 cs m) : ∃ a n c, ∃ os : List ExtV, cs = [.slice a n c] ∧ n ≤ c ∧ c * 16 ≤ 140737488351232 ∧ Tab w a n 2 (os.map ExtV.cells) ∧ (∀ o ∈ os, o.ok w) ∧ (os.map ExtV.bulk).sum + 1 ≤ m := by
  have := RdM.rows (α := ExtV) (cells := ExtV.cells) (ok := fun o => o.ok w) (bulk := ExtV.bulk) (size := 2) Try.underlying41 (by kernel_rfl) (fun f cs m h => extV_ofM f cs m h) h
  rw [show Try.prog.bytesOf 40 = 16 from by kernel_rfl] at this
  exact this

def ItemV.bulk (o : ItemV) : Nat := 1 + 1 + 1 + 1 + 1 + 1 + 1 + 1 + ((o.At'.map ExtV.bulk).sum + 1)
set_option maxRecDepth 100000 in
theorem itemV_ofM {w : World} (f : Nat) (cs : List Value) (m : Nat) (h : RdM Try.prog w f 43 cs m) : ∃ o : ItemV, cs = o.cells ∧ o.ok w ∧ o.bulk ≤ m := by
  cases f with
  | zero => exact h.elim
  | succ f =>
    unfold RdM at h
    rw [Try.underlying43] at h
    obtain ⟨hl, ms, hml, hf, hsum⟩ := h
    rw [show Try.prog.cellsOf 43 = 9 from by kernel_rfl] at hl
    obtain ⟨v0, v1, v2, v3, v4, v5, v6, v7, v8, rfl⟩ : ∃ v0 v1 v2 v3 v4 v5 v6 v7 v8, cs = [v0, v1, v2, v3, v4, v5, v6, v7, v8] := by
      match cs, hl with
      | [v0, v1, v2, v3, v4, v5, v6, v7, v8], _ => exact ⟨v0, v1, v2, v3, v4, v5, v6, v7, v8, rfl⟩
    obtain ⟨k0, k1, k2, k3, k4, k5, k6, k7, k8, rfl⟩ : ∃ k0 k1 k2 k3 k4 k5 k6 k7 k8, ms = [k0, k1, k2, k3, k4, k5, k6, k7, k8] := by
      match ms, hml with
      | [k0, k1, k2, k3, k4, k5, k6, k7, k8], _ => exact ⟨k0, k1, k2, k3, k4, k5, k6, k7, k8, rfl⟩
    obtain ⟨k, hk0, r0⟩ := hf 0 _ rfl
    cases hk0
    replace r0 : RdM Try.prog w f 3 (List.take (Try.prog.cellsOf 3) (List.drop 0 [v0, v1, v2, v3, v4, v5, v6, v7, v8])) k0 := r0
    rw [show Try.prog.cellsOf 3 = 1 from by kernel_rfl] at r0
    replace r0 : RdM Try.prog w f 3 [v0] k0 := r0
    obtain ⟨k, hk1, r1⟩ := hf 1 _ rfl
    cases hk1
    replace r1 : RdM Try.prog w f 3 (List.take (Try.prog.cellsOf 3) (List.drop 1 [v0, v1, v2, v3, v4, v5, v6, v7, v8])) k1 := r1
    rw [show Try.prog.cellsOf 3 = 1 from by kernel_rfl] at r1
    replace r1 : RdM Try.prog w f 3 [v1] k1 := r1
    obtain ⟨k, hk2, r2⟩ := hf 2 _ rfl
    cases hk2
    replace r2 : RdM Try.prog w f 3 (List.take (Try.prog.cellsOf 3) (List.drop 2 [v0, v1, v2, v3, v4, v5, v6, v7, v8])) k2 := r2
    rw [show Try.prog.cellsOf 3 = 1 from by kernel_rfl] at r2
    replace r2 : RdM Try.prog w f 3 [v2] k2 := r2
    obtain ⟨k, hk3, r3⟩ := hf 3 _ rfl
    cases hk3
    replace r3 : RdM Try.prog w f 3 (List.take (Try.prog.cellsOf 3) (List.drop 3 [v0, v1, v2, v3, v4, v5, v6, v7, v8])) k3 := r3
    rw [show Try.prog.cellsOf 3 = 1 from by kernel_rfl] at r3
    replace r3 : RdM Try.prog w f 3 [v3] k3 := r3
    obtain ⟨k, hk4, r4⟩ := hf 4 _ rfl
    cases hk4
    replace r4 : RdM Try.prog w f 3 (List.take (Try.prog.cellsOf 3) (List.drop 4 [v0, v1, v2, v3, v4, v5, v6, v7, v8])) k4 := r4
    rw [show Try.prog.cellsOf 3 = 1 from by kernel_rfl] at r4
    replace r4 : RdM Try.prog w f 3 [v4] k4 := r4
    obtain ⟨k, hk5, r5⟩ := hf 5 _ rfl
    cases hk5
    replace r5 : RdM Try.prog w f 3 (List.take (Try.prog.cellsOf 3) (List.drop 5 [v0, v1, v2, v3, v4, v5, v6, v7, v8])) k5 := r5
    rw [show Try.prog.cellsOf 3 = 1 from by kernel_rfl] at r5
    replace r5 : RdM Try.prog w f 3 [v5] k5 := r5
    obtain ⟨k, hk6, r6⟩ := hf 6 _ rfl
    cases hk6
    replace r6 : RdM Try.prog w f 3 (List.take (Try.prog.cellsOf 3) (List.drop 6 [v0, v1, v2, v3, v4, v5, v6, v7, v8])) k6 := r6
    rw [show Try.prog.cellsOf 3 = 1 from by kernel_rfl] at r6
    replace r6 : RdM Try.prog w f 3 [v6] k6 := r6
    obtain ⟨k, hk7, r7⟩ := hf 7 _ rfl
    cases hk7
    replace r7 : RdM Try.prog w f 3 (List.take (Try.prog.cellsOf 3) (List.drop 7 [v0, v1, v2, v3, v4, v5, v6, v7, v8])) k7 := r7
    rw [show Try.prog.cellsOf 3 = 1 from by kernel_rfl] at r7
    replace r7 : RdM Try.prog w f 3 [v7] k7 := r7
    obtain ⟨k, hk8, r8⟩ := hf 8 _ rfl
    cases hk8
    replace r8 : RdM Try.prog w f 41 (List.take (Try.prog.cellsOf 41) (List.drop 8 [v0, v1, v2, v3, v4, v5, v6, v7, v8])) k8 := r8
    rw [show Try.prog.cellsOf 41 = 1 from by kernel_rfl] at r8
    replace r8 : RdM Try.prog w f 41 [v8] k8 := r8
    obtain ⟨x0, e0, w0, d0⟩ := r0.int
    cases e0
    obtain ⟨x1, e1, w1, d1⟩ := r1.int
    cases e1
    obtain ⟨x2, e2, w2, d2⟩ := r2.int
    cases e2
    obtain ⟨x3, e3, w3, d3⟩ := r3.int
    cases e3
    obtain ⟨x4, e4, w4, d4⟩ := r4.int
    cases e4
    obtain ⟨x5, e5, w5, d5⟩ := r5.int
    cases e5
    obtain ⟨x6, e6, w6, d6⟩ := r6.int
    cases e6
    obtain ⟨x7, e7, w7, d7⟩ := r7.int
    cases e7
    obtain ⟨a8, n8, c8, l8, e8, z8, y8, b8, q8, d8⟩ := extV_rowsM41 r8
    cases e8
    simp only [List.sum_cons, List.sum_nil] at hsum
    exact ⟨⟨x0, x1, x2, x3, x4, x5, x6, x7, a8, n8, c8, l8⟩, rfl, ⟨w0, w1, w2, w3, w4, w5, w6, w7, ⟨z8, y8, b8, q8⟩⟩, by show 1 + 1 + 1 + 1 + 1 + 1 + 1 + 1 + ((l8.map ExtV.bulk).sum + 1) ≤ m; omega⟩
set_option maxRecDepth 100000 in
theorem itemV_rowsM22 {w : World} {f : Nat} {cs : List Value} {m : Nat} (h : RdM Try.prog w f 22 cs m) : ∃ a n c, ∃ os : List ItemV, cs = [.slice a n c] ∧ n ≤ c ∧ c * 88 ≤ 140737488351232 ∧ Tab w a n 9 (os.map ItemV.cells) ∧ (∀ o ∈ os, o.ok w) ∧ (os.map ItemV.bulk).sum + 1 ≤ m := by
  have := RdM.rows (α := ItemV) (cells := ItemV.cells) (ok := fun o => o.ok w) (bulk := ItemV.bulk) (size := 9) Try.underlying22 (by kernel_rfl) (fun f cs m h => itemV_ofM f cs m h) h
  rw [show Try.prog.bytesOf 43 = 88 from by kernel_rfl] at this
  exact this

def WriteV.bulk (o : WriteV) : Nat := 1 + (o.B'.length + 1)
set_option maxRecDepth 100000 in
theorem writeV_ofM {w : World} (f : Nat) (cs : List Value) (m : Nat) (h : RdM Try.prog w f 47 cs m) : ∃ o : WriteV, cs = o.cells ∧ o.ok w ∧ o.bulk ≤ m := by
  cases f with
  | zero => exact h.elim
  | succ f =>
    unfold RdM at h
    rw [Try.underlying47] at h
    obtain ⟨hl, ms, hml, hf, hsum⟩ := h
    rw [show Try.prog.cellsOf 47 = 2 from by kernel_rfl] at hl
    obtain ⟨v0, v1, rfl⟩ : ∃ v0 v1, cs = [v0, v1] := by
      match cs, hl with
      | [v0, v1], _ => exact ⟨v0, v1, rfl⟩
    obtain ⟨k0, k1, rfl⟩ : ∃ k0 k1, ms = [k0, k1] := by
      match ms, hml with
      | [k0, k1], _ => exact ⟨k0, k1, rfl⟩
    obtain ⟨k, hk0, r0⟩ := hf 0 _ rfl
    cases hk0
    replace r0 : RdM Try.prog w f 3 (List.take (Try.prog.cellsOf 3) (List.drop 0 [v0, v1])) k0 := r0
    rw [show Try.prog.cellsOf 3 = 1 from by kernel_rfl] at r0
    replace r0 : RdM Try.prog w f 3 [v0] k0 := r0
    obtain ⟨k, hk1, r1⟩ := hf 1 _ rfl
    cases hk1
    replace r1 : RdM Try.prog w f 45 (List.take (Try.prog.cellsOf 45) (List.drop 1 [v0, v1])) k1 := r1
    rw [show Try.prog.cellsOf 45 = 1 from by kernel_rfl] at r1
    replace r1 : RdM Try.prog w f 45 [v1] k1 := r1
    obtain ⟨x0, e0, w0, d0⟩ := r0.int
    cases e0
    obtain ⟨a1, n1, c1, l1, e1, z1, _, y1, b1, d1⟩ := r1.bytes (by kernel_rfl) (by kernel_rfl)
    cases e1
    simp only [List.sum_cons, List.sum_nil] at hsum
    exact ⟨⟨x0, a1, n1, c1, l1⟩, rfl, ⟨w0, ⟨z1, y1, b1⟩⟩, by show 1 + (l1.length + 1) ≤ m; omega⟩
set_option maxRecDepth 100000 in
theorem writeV_rowsM44 {w : World} {f : Nat} {cs : List Value} {m : Nat} (h : RdM Try.prog w f 44 cs m) : ∃ a n c, ∃ os : List WriteV, cs = [.slice a n c] ∧ n ≤ c ∧ c * 32 ≤ 140737488351232 ∧ Tab w a n 2 (os.map WriteV.cells) ∧ (∀ o ∈ os, o.ok w) ∧ (os.map WriteV.bulk).sum + 1 ≤ m := by
  have := RdM.rows (α := WriteV) (cells := WriteV.cells) (ok := fun o => o.ok w) (bulk := WriteV.bulk) (size := 2) Try.underlying44 (by kernel_rfl) (fun f cs m h => writeV_ofM f cs m h) h
  rw [show Try.prog.bytesOf 47 = 32 from by kernel_rfl] at this
  exact this

def RecV.bulk (o : RecV) : Nat := 1 + 1 + 1 + ((o.Writes'.map WriteV.bulk).sum + 1)
set_option maxRecDepth 100000 in
theorem recV_ofM {w : World} (f : Nat) (cs : List Value) (m : Nat) (h : RdM Try.prog w f 50 cs m) : ∃ o : RecV, cs = o.cells ∧ o.ok w ∧ o.bulk ≤ m := by
  cases f with
  | zero => exact h.elim
  | succ f =>
    unfold RdM at h
    rw [Try.underlying50] at h
    obtain ⟨hl, ms, hml, hf, hsum⟩ := h
    rw [show Try.prog.cellsOf 50 = 4 from by kernel_rfl] at hl
    obtain ⟨v0, v1, v2, v3, rfl⟩ : ∃ v0 v1 v2 v3, cs = [v0, v1, v2, v3] := by
      match cs, hl with
      | [v0, v1, v2, v3], _ => exact ⟨v0, v1, v2, v3, rfl⟩
    obtain ⟨k0, k1, k2, k3, rfl⟩ : ∃ k0 k1 k2 k3, ms = [k0, k1, k2, k3] := by
      match ms, hml with
      | [k0, k1, k2, k3], _ => exact ⟨k0, k1, k2, k3, rfl⟩
    obtain ⟨k, hk0, r0⟩ := hf 0 _ rfl
    cases hk0
    replace r0 : RdM Try.prog w f 3 (List.take (Try.prog.cellsOf 3) (List.drop 0 [v0, v1, v2, v3])) k0 := r0
    rw [show Try.prog.cellsOf 3 = 1 from by kernel_rfl] at r0
    replace r0 : RdM Try.prog w f 3 [v0] k0 := r0
    obtain ⟨k, hk1, r1⟩ := hf 1 _ rfl
    cases hk1
    replace r1 : RdM Try.prog w f 3 (List.take (Try.prog.cellsOf 3) (List.drop 1 [v0, v1, v2, v3])) k1 := r1
    rw [show Try.prog.cellsOf 3 = 1 from by kernel_rfl] at r1
    replace r1 : RdM Try.prog w f 3 [v1] k1 := r1
    obtain ⟨k, hk2, r2⟩ := hf 2 _ rfl
    cases hk2
    replace r2 : RdM Try.prog w f 3 (List.take (Try.prog.cellsOf 3) (List.drop 2 [v0, v1, v2, v3])) k2 := r2
    rw [show Try.prog.cellsOf 3 = 1 from by kernel_rfl] at r2
    replace r2 : RdM Try.prog w f 3 [v2] k2 := r2
    obtain ⟨k, hk3, r3⟩ := hf 3 _ rfl
    cases hk3
    replace r3 : RdM Try.prog w f 44 (List.take (Try.prog.cellsOf 44) (List.drop 3 [v0, v1, v2, v3])) k3 := r3
    rw [show Try.prog.cellsOf 44 = 1 from by kernel_rfl] at r3
    replace r3 : RdM Try.prog w f 44 [v3] k3 := r3
    obtain ⟨x0, e0, w0, d0⟩ := r0.int
    cases e0
    obtain ⟨x1, e1, w1, d1⟩ := r1.int
    cases e1
    obtain ⟨x2, e2, w2, d2⟩ := r2.int
    cases e2
    obtain ⟨a3, n3, c3, l3, e3, z3, y3, b3, q3, d3⟩ := writeV_rowsM44 r3
    cases e3
    simp only [List.sum_cons, List.sum_nil] at hsum
    exact ⟨⟨x0, x1, x2, a3, n3, c3, l3⟩, rfl, ⟨w0, w1, w2, ⟨z3, y3, b3, q3⟩⟩, by show 1 + 1 + 1 + ((l3.map WriteV.bulk).sum + 1) ≤ m; omega⟩
set_option maxRecDepth 100000 in
theorem recV_rowsM23 {w : World} {f : Nat} {cs : List Value} {m : Nat} (h : RdM Try.prog w f 23 cs m) : ∃ a n c, ∃ os : List RecV, cs = [.slice a n c] ∧ n ≤ c ∧ c * 48 ≤ 140737488351232 ∧ Tab w a n 4 (os.map RecV.cells) ∧ (∀ o ∈ os, o.ok w) ∧ (os.map RecV.bulk).sum + 1 ≤ m := by
  have := RdM.rows (α := RecV) (cells := RecV.cells) (ok := fun o => o.ok w) (bulk := RecV.bulk) (size := 4) Try.underlying23 (by kernel_rfl) (fun f cs m h => recV_ofM f cs m h) h
  rw [show Try.prog.bytesOf 50 = 48 from by kernel_rfl] at this
  exact this

theorem ws_bulk (ws : List WriteV) : 2 * ws.length ≤ (ws.map WriteV.bulk).sum := by
  induction ws with
  | nil => simp
  | cons z ws ih => rw [List.map_cons, List.sum_cons, List.length_cons]; have : WriteV.bulk z = 1 + (z.B'.length + 1) := rfl; omega
theorem wsL_bulk (l : List RecV) : 2 * wsL l ≤ (l.map RecV.bulk).sum := by
  induction l with
  | nil => simp [wsL]
  | cons r l ih =>
    unfold wsL at ih ⊢
    rw [List.map_cons, List.sum_cons, List.map_cons, List.sum_cons]
    have h := ws_bulk r.Writes'
    have : RecV.bulk r = 1 + 1 + 1 + ((r.Writes'.map WriteV.bulk).sum + 1) := rfl
    omega
end Go.Proofs.Ytlhkpakbenghgaa
