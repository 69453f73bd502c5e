/-
  Texts of this claim, put together.
-/
import Derived.Test.YtlhkpakbenghgaaGreatRows
import Derived.JoinedOf
import Derived.Test.YtlhkpakbenghgaaGreatStaTLz3
/-
  The walks of package stats.
-/
set_option linter.unusedVariables false
set_option linter.unusedSimpArgs false
set_option maxRecDepth 4000
namespace Go.Proofs.YtlhkpakbenghgaaGreat
open Go Brv Brv.Stats
set_option maxHeartbeats 1000000 in
theorem stab_ok (a : Option Addr) (n c : Nat) (l0 : List E3) (hn : n ≤ 1152921504606846976) : SpecS Tryz.prog 52 [.slice a n c, .int .i64 ((n : Nat) : Int), .func (.func 27) #[] #[]] [own 45 3 a n c (List.map cellB l0).flatten] (fun v H' => ∃ ys, v = .tuple #[] ∧ Part l0 ys 0 n ∧ H' = [own 45 3 a n c (List.map cellB ys).flatten]) := by
  refine SpecS.enter Tryz.func52 rfl 63 rfl (Nat.le_of_ble_eq_true rfl) (fun o => ?_)
  refine SG.fact (fun w9 F9 S9 s => s.ownL (show Sel _ (own 45 3 a n c (List.map cellB l0).flatten) _ from (by repeat (first | exact Sel.keep | exact Sel.here | apply Sel.there)))) (fun hf9 => ?_)
  obtain ⟨hll0, hnc⟩ := hf9
  rw [flat_len cellB_len] at hll0
  have hll : l0.length = n := by omega
  refine SG.seq ?_
  refine SG.region ?_
  refine SL.val rfl rfl (fun w9 F9 S9 s => R.as rfl) ?_
  refine SL.nil ?_
  refine SN.seq ?_
  refine SG.seq ?_
  refine SG.region ?_
  refine SL.val rfl rfl (fun w9 F9 S9 s => R.mv rfl) ?_
  refine SL.val rfl rfl (fun w9 F9 S9 s => R.as rfl) ?_
  refine SL.val rfl rfl (fun w9 F9 S9 s => R.as rfl) ?_
  refine SL.nil ?_
  refine SN.seq ?_
  refine SG.seq ?_
  refine SG.block ?_
  refine SG.loop (X := Nat × List E3) (fun y => [(0, .slice a n c), (1, .int .i64 ((n : Nat) : Int)), (2, .func (.func 27) #[] #[]), (6, .int .i64 20), (7, .int .i64 ((y.1 : Nat) : Int)), (8, .int .i64 ((y.1 + 20 : Nat) : Int))]) (fun y => [own 45 3 a n c (List.map cellB y.2).flatten]) (fun y => y.2.length = n ∧ y.1 ≤ n ∧ Stb l0 y.2 ∧ Full y.2 20 y.1) (fun y => n - y.1) ((0, l0)) (Sub.cons rfl (Sub.cons rfl (Sub.cons rfl (Sub.cons rfl (Sub.cons rfl (Sub.cons rfl (Sub.nil _))))))) ((Imp.sels (by repeat (first | exact Sels.nil | apply Sels.cons | exact Sel.keep | exact Sel.here | apply Sel.there)))) (⟨hll, Nat.zero_le _, Stb.refl _, .zero⟩) ?_
  rintro ⟨p, l⟩ ⟨k1, k2, k3, k4⟩
  dsimp only at k1 k2 k3 k4
  show SG _ _ _ _ _ [(0, .slice a n c), (1, .int .i64 ((n : Nat) : Int)), (2, .func (.func 27) #[] #[]), (6, .int .i64 20), (7, .int .i64 ((p : Nat) : Int)), (8, .int .i64 ((p + 20 : Nat) : Int))] [own 45 3 a n c (List.map cellB l).flatten] _
  refine SG.seq ?_
  refine SG.seq ?_
  refine SG.region ?_
  refine SL.val rfl rfl (fun w9 F9 S9 s => R.mv rfl) ?_
  refine SL.val rfl rfl (fun w9 F9 S9 s => R.mv rfl) ?_
  refine SL.val rfl rfl (fun w9 F9 S9 s => R.leq rfl rfl) ?_
  refine SL.nil ?_
  refine SN.seq ?_
  refine SG.condP rfl (fun h0 => ?_) (fun h0 => ?_)
  · have hip := insM_part (l := l) (a := p) (b := p + 20) (by omega) (by omega)
    refine SG.skip ?_
    refine SN.seq ?_
    refine SG.block ?_
    refine SG.seq ?_
    refine SG.region ?_
    refine SL.val rfl rfl (fun w9 F9 S9 s => R.mv rfl) ?_
    refine SL.val rfl rfl (fun w9 F9 S9 s => R.mv rfl) ?_
    refine SL.val rfl rfl (fun w9 F9 S9 s => R.mv rfl) ?_
    refine SL.val rfl rfl (fun w9 F9 S9 s => R.mv rfl) ?_
    refine SL.step rfl rfl (CS.call rfl go83 (ins_ok a n c l p (p + 20) (by omega) (by omega) (by omega)) (by repeat (first | exact Sels.nil | apply Sels.cons | exact Sel.keep | exact Sel.here | apply Sel.there))) ?_
    rintro _ _ ⟨_, ⟨rfl, rfl⟩, rfl⟩
    refine SL.n1 ?_
    refine SL.nil ?_
    refine SN.seq ?_
    refine SG.seq ?_
    refine SG.region ?_
    refine SL.val rfl rfl (fun w9 F9 S9 s => R.mv rfl) ?_
    refine SL.val rfl rfl (fun w9 F9 S9 s => R.as rfl) ?_
    refine SL.nil ?_
    refine SN.seq ?_
    refine SG.region ?_
    refine SL.val rfl rfl (fun w9 F9 S9 s => R.mv rfl) ?_
    refine SL.val rfl rfl (fun w9 F9 S9 s => R.mv rfl) ?_
    refine SL.val rfl rfl (fun w9 F9 S9 s => R.addW rfl rfl ((p + 20 + 20 : Nat) : Int) (by rw [wrap_i64 (by omega)]; omega)) ?_
    refine SL.val rfl rfl (fun w9 F9 S9 s => R.as rfl) ?_
    refine SL.nil ?_
    refine SN.block ?_
    exact SN.again ((p + 20, insM l p (p + 20))) (by show n - (p + 20) < n - p; omega) (Sub.cons rfl (Sub.cons rfl (Sub.cons rfl (Sub.cons rfl (Sub.cons rfl (Sub.cons rfl (Sub.nil _))))))) ((Imp.sels (by repeat (first | exact Sels.nil | apply Sels.cons | exact Sel.keep | exact Sel.here | apply Sel.there)))) (⟨by show (insM l p (p + 20)).length = n; rw [insM_len]; exact k1, by show p + 20 ≤ n; omega, k3.trans hip.stb, (k4.part hip (Nat.le_refl _)).snoc hip.mid⟩)
  · have hip := insM_part (l := l) (a := p) (b := n) (by omega) (by omega)
    refine SG.exit _ rfl ?_
    refine SN.seq ?_
    refine SG.seq ?_
    refine SG.region ?_
    refine SL.val rfl rfl (fun w9 F9 S9 s => R.mv rfl) ?_
    refine SL.val rfl rfl (fun w9 F9 S9 s => R.mv rfl) ?_
    refine SL.val rfl rfl (fun w9 F9 S9 s => R.mv rfl) ?_
    refine SL.val rfl rfl (fun w9 F9 S9 s => R.mv rfl) ?_
    refine SL.step rfl rfl (CS.call rfl go83 (ins_ok a n c l p n (by omega) (by omega) (by omega)) (by repeat (first | exact Sels.nil | apply Sels.cons | exact Sel.keep | exact Sel.here | apply Sel.there))) ?_
    rintro _ _ ⟨_, ⟨rfl, rfl⟩, rfl⟩
    refine SL.n1 ?_
    refine SL.nil ?_
    refine SN.seq ?_
    refine SG.block ?_
    refine SG.loop (X := Nat × List E3) (fun y => [(0, .slice a n c), (1, .int .i64 ((n : Nat) : Int)), (2, .func (.func 27) #[] #[]), (6, .int .i64 ((y.1 : Nat) : Int))]) (fun y => [own 45 3 a n c (List.map cellB y.2).flatten]) (fun y => 0 < y.1 ∧ y.1 ≤ 2305843009213693952 ∧ y.2.length = n ∧ Stb l0 y.2 ∧ Blks y.2 y.1 0 n) (fun y => n - y.1) ((20, insM l p n)) (Sub.cons rfl (Sub.cons rfl (Sub.cons rfl (Sub.cons rfl (Sub.nil _))))) ((Imp.sels (by repeat (first | exact Sels.nil | apply Sels.cons | exact Sel.keep | exact Sel.here | apply Sel.there)))) (⟨by show 0 < 20; omega, by show 20 ≤ _; omega, by show (insM l p n).length = n; rw [insM_len]; exact k1, k3.trans hip.stb, (k4.part hip (Nat.le_refl _)).blks (.last k2 (by omega) hip.mid) k2⟩) ?_
    rintro ⟨s9, l9⟩ ⟨g1, g2, g3, g4, g5⟩
    dsimp only at g1 g2 g3 g4 g5
    show SG _ _ _ _ _ [(0, .slice a n c), (1, .int .i64 ((n : Nat) : Int)), (2, .func (.func 27) #[] #[]), (6, .int .i64 ((s9 : Nat) : Int))] [own 45 3 a n c (List.map cellB l9).flatten] _
    refine SG.seq ?_
    refine SG.seq ?_
    refine SG.region ?_
    refine SL.val rfl rfl (fun w9 F9 S9 s => R.mv rfl) ?_
    refine SL.val rfl rfl (fun w9 F9 S9 s => R.mv rfl) ?_
    refine SL.val rfl rfl (fun w9 F9 S9 s => R.lss rfl rfl) ?_
    refine SL.nil ?_
    refine SN.seq ?_
    refine SG.condP rfl (fun h1 => ?_) (fun h1 => ?_)
    · refine SG.skip ?_
      refine SN.seq ?_
      refine SG.block ?_
      refine SG.seq ?_
      refine SG.region ?_
      refine SL.val rfl rfl (fun w9 F9 S9 s => R.mv rfl) ?_
      refine SL.val rfl rfl (fun w9 F9 S9 s => R.mulW rfl rfl ((0 + 2 * s9 : Nat) : Int) (by rw [wrap_i64 (by omega)]; omega)) ?_
      refine SL.val rfl rfl (fun w9 F9 S9 s => R.as rfl) ?_
      refine SL.val rfl rfl (fun w9 F9 S9 s => R.as rfl) ?_
      refine SL.nil ?_
      refine SN.seq ?_
      refine SG.seq ?_
      refine SG.block ?_
      refine SG.loop (X := Nat × List E3) (fun y => [(0, .slice a n c), (1, .int .i64 ((n : Nat) : Int)), (2, .func (.func 27) #[] #[]), (6, .int .i64 ((s9 : Nat) : Int)), (7, .int .i64 ((y.1 : Nat) : Int)), (8, .int .i64 ((y.1 + 2 * s9 : Nat) : Int))]) (fun y => [own 45 3 a n c (List.map cellB y.2).flatten]) (fun y => y.2.length = n ∧ y.1 ≤ n ∧ Stb l0 y.2 ∧ Full y.2 (2 * s9) y.1 ∧ Blks y.2 s9 y.1 n) (fun y => n - y.1) ((0, l9)) (Sub.cons rfl (Sub.cons rfl (Sub.cons rfl (Sub.cons rfl (Sub.cons rfl (Sub.cons rfl (Sub.nil _))))))) ((Imp.sels (by repeat (first | exact Sels.nil | apply Sels.cons | exact Sel.keep | exact Sel.here | apply Sel.there)))) (⟨g3, Nat.zero_le _, g4, .zero, g5⟩) ?_
      rintro ⟨p9, m9⟩ ⟨u1, u2, u3, u4, u5⟩
      dsimp only at u1 u2 u3 u4 u5
      show SG _ _ _ _ _ [(0, .slice a n c), (1, .int .i64 ((n : Nat) : Int)), (2, .func (.func 27) #[] #[]), (6, .int .i64 ((s9 : Nat) : Int)), (7, .int .i64 ((p9 : Nat) : Int)), (8, .int .i64 ((p9 + 2 * s9 : Nat) : Int))] [own 45 3 a n c (List.map cellB m9).flatten] _
      refine SG.seq ?_
      refine SG.seq ?_
      refine SG.region ?_
      refine SL.val rfl rfl (fun w9 F9 S9 s => R.mv rfl) ?_
      refine SL.val rfl rfl (fun w9 F9 S9 s => R.mv rfl) ?_
      refine SL.val rfl rfl (fun w9 F9 S9 s => R.leq rfl rfl) ?_
      refine SL.nil ?_
      refine SN.seq ?_
      refine SG.condP rfl (fun h2 => ?_) (fun h2 => ?_)
      · obtain ⟨hb1, hb2⟩ := u5.two g1 (by omega) (by omega)
        refine SG.skip ?_
        refine SN.seq ?_
        refine SG.block ?_
        refine SG.seq ?_
        refine SG.region ?_
        refine SL.val rfl rfl (fun w9 F9 S9 s => R.mv rfl) ?_
        refine SL.val rfl rfl (fun w9 F9 S9 s => R.mv rfl) ?_
        refine SL.val rfl rfl (fun w9 F9 S9 s => R.mv rfl) ?_
        refine SL.val rfl rfl (fun w9 F9 S9 s => R.mv rfl) ?_
        refine SL.val rfl rfl (fun w9 F9 S9 s => R.addW rfl rfl ((p9 + s9 : Nat) : Int) (by rw [wrap_i64 (by omega)]; omega)) ?_
        refine SL.val rfl rfl (fun w9 F9 S9 s => R.mv rfl) ?_
        refine SL.val rfl rfl (fun w9 F9 S9 s => R.mv rfl) ?_
        refine SL.step rfl rfl (CS.call rfl go84 (sym_ok a n c hn _ m9 p9 (p9 + s9) (p9 + 2 * s9) (Nat.le_refl _) hb1 (by omega) (by omega) (by omega)) (by repeat (first | exact Sels.nil | apply Sels.cons | exact Sel.keep | exact Sel.here | apply Sel.there))) ?_
        rintro _ _ ⟨_, ⟨ys, rfl, hp, rfl, rfl⟩, rfl⟩
        refine SL.n1 ?_
        refine SL.nil ?_
        refine SN.seq ?_
        refine SG.seq ?_
        refine SG.region ?_
        refine SL.val rfl rfl (fun w9 F9 S9 s => R.mv rfl) ?_
        refine SL.val rfl rfl (fun w9 F9 S9 s => R.as rfl) ?_
        refine SL.nil ?_
        refine SN.seq ?_
        refine SG.region ?_
        refine SL.val rfl rfl (fun w9 F9 S9 s => R.mv rfl) ?_
        refine SL.val rfl rfl (fun w9 F9 S9 s => R.mv rfl) ?_
        refine SL.val rfl rfl (fun w9 F9 S9 s => R.mulW rfl rfl ((2 * s9 : Nat) : Int) (by rw [wrap_i64 (by omega)]; omega)) ?_
        refine SL.val rfl rfl (fun w9 F9 S9 s => R.addW rfl rfl ((p9 + 2 * s9 + 2 * s9 : Nat) : Int) (by rw [wrap_i64 (by omega)]; omega)) ?_
        refine SL.val rfl rfl (fun w9 F9 S9 s => R.as rfl) ?_
        refine SL.nil ?_
        refine SN.block ?_
        exact SN.again ((p9 + 2 * s9, ys)) (by show n - (p9 + 2 * s9) < n - p9; omega) (Sub.cons rfl (Sub.cons rfl (Sub.cons rfl (Sub.cons rfl (Sub.cons rfl (Sub.cons rfl (Sub.nil _))))))) ((Imp.sels (by repeat (first | exact Sels.nil | apply Sels.cons | exact Sel.keep | exact Sel.here | apply Sel.there)))) (⟨by show ys.length = n; have := hp.len; omega, by show p9 + 2 * s9 ≤ n; omega, u3.trans hp.stb, (u4.part hp (Nat.le_refl _)).snoc hp.mid, hb2.part hp (Nat.le_refl _)⟩)
      · refine SG.exit _ rfl ?_
        refine SN.seq ?_
        refine SG.seq ?_
        refine SG.seq ?_
        refine SG.region ?_
        refine SL.val rfl rfl (fun w9 F9 S9 s => R.mv rfl) ?_
        refine SL.val rfl rfl (fun w9 F9 S9 s => R.mv rfl) ?_
        refine SL.val rfl rfl (fun w9 F9 S9 s => R.addW rfl rfl ((p9 + s9 : Nat) : Int) (by rw [wrap_i64 (by omega)]; omega)) ?_
        refine SL.val rfl rfl (fun w9 F9 S9 s => R.as rfl) ?_
        refine SL.nil ?_
        refine SN.seq ?_
        refine SG.seq ?_
        refine SG.region ?_
        refine SL.val rfl rfl (fun w9 F9 S9 s => R.mv rfl) ?_
        refine SL.val rfl rfl (fun w9 F9 S9 s => R.mv rfl) ?_
        refine SL.val rfl rfl (fun w9 F9 S9 s => R.lss rfl rfl) ?_
        refine SL.nil ?_
        refine SN.seq ?_
        refine SG.condP rfl (fun h3 => ?_) (fun h3 => ?_)
        · refine SG.region ?_
          refine SL.val rfl rfl (fun w9 F9 S9 s => R.mv rfl) ?_
          refine SL.val rfl rfl (fun w9 F9 S9 s => R.mv rfl) ?_
          refine SL.val rfl rfl (fun w9 F9 S9 s => R.mv rfl) ?_
          refine SL.val rfl rfl (fun w9 F9 S9 s => R.mv rfl) ?_
          refine SL.val rfl rfl (fun w9 F9 S9 s => R.mv rfl) ?_
          refine SL.step rfl rfl (CS.call rfl go84 (sym_ok a n c hn _ m9 p9 (p9 + s9) n (Nat.le_refl _) (u5.rest (by omega) (by omega) (by omega)) (by omega) (by omega) (Nat.le_refl _)) (by repeat (first | exact Sels.nil | apply Sels.cons | exact Sel.keep | exact Sel.here | apply Sel.there))) ?_
          rintro _ _ ⟨_, ⟨ys, rfl, hp, rfl, rfl⟩, rfl⟩
          refine SL.n1 ?_
          refine SL.nil ?_
          refine SN.seq ?_
          refine SG.region ?_
          refine SL.val rfl rfl (fun w9 F9 S9 s => R.mv rfl) ?_
          refine SL.val rfl rfl (fun w9 F9 S9 s => R.mulW rfl rfl ((2 * s9 : Nat) : Int) (by rw [wrap_i64 (by omega)]; omega)) ?_
          refine SL.val rfl rfl (fun w9 F9 S9 s => R.as rfl) ?_
          refine SL.nil ?_
          refine SN.block ?_
          exact SN.again ((2 * s9, ys)) (by show n - 2 * s9 < n - s9; omega) (Sub.cons rfl (Sub.cons rfl (Sub.cons rfl (Sub.cons rfl (Sub.nil _))))) ((Imp.sels (by repeat (first | exact Sels.nil | apply Sels.cons | exact Sel.keep | exact Sel.here | apply Sel.there)))) (⟨by show 0 < 2 * s9; omega, by show 2 * s9 ≤ _; omega, by show ys.length = n; have := hp.len; omega, u3.trans hp.stb, (u4.part hp (Nat.le_refl _)).blks (.last u2 (by omega) hp.mid) u2⟩)
        · refine SG.skip ?_
          refine SN.seq ?_
          refine SG.region ?_
          refine SL.val rfl rfl (fun w9 F9 S9 s => R.mv rfl) ?_
          refine SL.val rfl rfl (fun w9 F9 S9 s => R.mulW rfl rfl ((2 * s9 : Nat) : Int) (by rw [wrap_i64 (by omega)]; omega)) ?_
          refine SL.val rfl rfl (fun w9 F9 S9 s => R.as rfl) ?_
          refine SL.nil ?_
          refine SN.block ?_
          exact SN.again ((2 * s9, m9)) (by show n - 2 * s9 < n - s9; omega) (Sub.cons rfl (Sub.cons rfl (Sub.cons rfl (Sub.cons rfl (Sub.nil _))))) ((Imp.sels (by repeat (first | exact Sels.nil | apply Sels.cons | exact Sel.keep | exact Sel.here | apply Sel.there)))) (⟨by show 0 < 2 * s9; omega, by show 2 * s9 ≤ _; omega, u1, u3, u4.blks (.last u2 (by omega) (u5.one (by omega))) u2⟩)
    · have hdn := g5.all (by omega) g3.symm
      refine SG.exit _ rfl ?_
      exact SN.end0 rfl ((Imp.sels (by repeat (first | exact Sels.nil | apply Sels.cons | exact Sel.keep | exact Sel.here | apply Sel.there)))) (⟨l9, rfl, part_all g4 hdn hll.symm g3.symm, rfl⟩)

theorem sort_ok (a : Option Addr) (n c : Nat) (l0 : List E3) (hn : n ≤ 1152921504606846976) : SpecS Tryz.prog 26 [.slice a n c, .func (.func 27) #[] #[]] [own 45 3 a n c (List.map cellB l0).flatten] (fun v H' => ∃ ys, v = .tuple #[] ∧ Part l0 ys 0 n ∧ H' = [own 45 3 a n c (List.map cellB ys).flatten]) := by
  refine SpecS.enter Tryz.func26 rfl 9 rfl (Nat.le_of_ble_eq_true rfl) (fun o => ?_)
  refine SG.region ?_
  refine SL.val rfl rfl (fun w9 F9 S9 s => R.mv rfl) ?_
  refine SL.val rfl rfl (fun w9 F9 S9 s => R.mv rfl) ?_
  refine SL.val rfl rfl (fun w9 F9 S9 s => R.lenS rfl) ?_
  refine SL.val rfl rfl (fun w9 F9 S9 s => R.mv rfl) ?_
  refine SL.step rfl rfl (CS.call rfl go52 (stab_ok a n c l0 hn) (by repeat (first | exact Sels.nil | apply Sels.cons | exact Sel.keep | exact Sel.here | apply Sel.there))) ?_
  rintro _ _ ⟨_, ⟨ys, rfl, hys, rfl, rfl⟩, rfl⟩
  refine SL.n1 ?_
  refine SL.nil ?_
  exact SN.end0 rfl ((Imp.sels (by repeat (first | exact Sels.nil | apply Sels.cons | exact Sel.keep | exact Sel.here | apply Sel.there)))) (⟨ys, rfl, hys, rfl⟩)

end Go.Proofs.YtlhkpakbenghgaaGreat
/-
  Iterators that box what consumes them.
-/
set_option linter.unusedVariables false
set_option linter.unusedSimpArgs false
namespace Brv
open Go
/-- As IterS, for consumers of one cell. -/
def IterY (P : Program) (gf : FuncId) (lb : List Value) (HI : List Asn) (N : Nat) (E : Nat → List Value → (World → Prop) → Prop) : Prop :=
  ∀ (y : Value) (J Jx : Nat → Asn), y.oneCell' = true → (∀ k vs p, k < N → E k vs p → YSpec P y vs [sh p, J k] (fun b H' => H' = [if b then J (k + 1) else Jx (k + 1)])) →
    SpecS P gf (y :: lb) (J 0 :: HI) (fun _ H' => H' = J N :: HI ∨ ∃ k, k ≤ N ∧ H' = Jx k :: HI)
section
variable {P : Program} {B : Exit → Act → World → Prop} {n : Nat} {df : List Deferred} {ks : List K} {ρ : Env} {o : Org} {H : List Asn}
/-- for .. := range g { body } -/
theorem SG.rangeY {g : Operand} {ps : Array Tmp} {assign body : Code} {gf : FuncId} {lb : List Value} {Nn : Nat} {E : Nat → List Value → (World → Prop) → Prop} {HI : List Asn}
    (hps : ps.toList.all (fun p => Nat.blt p n) = true) (hg : ev ρ g = some (.func (.func gf) #[] lb.toArray)) (eg : ∀ (vs : Array Value) w, (callFunc gf vs).run P w = .ok (.enter gf vs) w)
    (hit : IterY P gf lb HI Nn E) {X Y : Type} (HJ : Nat → X → List Asn) (I : Nat → X → Prop) (HX : Code → Nat → Y → List Asn) (IX : Code → Nat → Y → Prop) (x₀ : X) (i : Imp H (HJ 0 x₀ ++ HI)) (h0 : I 0 x₀)
    (hround : ∀ l k x vs p, k < Nn → I k x → E k vs p → vs.length = ps.size ∧ ∀ o', SG P (assignS P l (roundS HJ I HX IX k) body o') ⟨n, [], some l⟩ o' [] (bindEnv ps.toList vs ρ) (sh p :: HJ k x) assign)
    (hdone : ∀ d x, I Nn x → SN P B ⟨n, ⟨.collected d, #[]⟩ :: df, none⟩ o ks ρ (dfr d :: HJ Nn x ++ HI))
    (hstop : ∀ d k c y, k ≤ Nn → IX c k y → SG P B ⟨n, ⟨.collected d, #[]⟩ :: df, none⟩ o ks ρ (dfr d :: HX c k y ++ HI) c) :
    SG P B ⟨n, df, none⟩ o ks ρ H (.rangeFunc g ps assign body) := by
  intro w F₀ S₀ s₀ f₀ a ha
  obtain ⟨Fw, Sw, s, f⟩ := i.at s₀ f₀
  obtain ⟨Fj, Sj, Fi, Si, ⟨a1, a2, a3, a4⟩, ⟨b1, b2, b3⟩, hsj, hsi⟩ := s.sep.split
  refine wpIn_rangeFunc (F := Fence.wide) ?_
  intro fn hfn
  obtain ⟨rec, hrec⟩ : ∃ rec : LoopState → Option Code → Loop, rec = fun st pe => { state := st, pending := pe, fn, tmps := a.tmps, params := ps, assign, body, defers := w.heap.size } := ⟨_, rfl⟩
  obtain ⟨W1, hW1⟩ : ∃ W1, (w.alloc (.deferred (some []))).alloc (.loop (rec .ready none)) = W1 := ⟨_, rfl⟩
  have hL1 : W1.heap[w.heap.size + 1]? = some (.loop (rec .ready none)) := by
    rw [← hW1]; have := World.alloc_heap_new (w.alloc (.deferred (some []))) (.loop (rec .ready none)); rwa [World.size_alloc] at this
  have hK1 : W1.heap[w.heap.size]? = some (.deferred (some [])) := by
    rw [← hW1]; exact ((Ext.alloc (w.alloc (.deferred (some []))) _).keep _ (by simp) (by simp)).trans (World.alloc_heap_new w _)
  have hE1 : Ext [] w W1 := by rw [← hW1]; exact (Ext.alloc w _).trans0 (Ext.alloc _ _)
  have hs1 : W1.heap.size = w.heap.size + 2 := by rw [← hW1]; simp
  obtain ⟨d, hd⟩ : ∃ d, d = w.heap.size := ⟨_, rfl⟩
  obtain ⟨l, hl⟩ : ∃ l, l = w.heap.size + 1 := ⟨_, rfl⟩
  rw [← hl] at hL1
  rw [← hd] at hK1
  -- the consumer's assertions
  let J : Nat → Asn := fun k => ⟨fun F S W => ∃ x F' S', I k x ∧ Sep (HJ k x) F' S' W ∧ (F = l :: d :: F' ∧ S = S') ∧ (l ∉ F' ∧ l ∉ S') ∧ (d ∉ F' ∧ d ∉ S') ∧ W.heap[l]? = some (.loop (rec .ready none)) ∧ W.heap[d]? = some (.deferred (some [])),
    by
      rintro F S M W W' ⟨x, F', S', h1, h2, ⟨rfl, rfl⟩, h3, h4, h5, h6⟩ he hF hS
      refine ⟨x, F', S, h1, h2.ext he (hF.mono (fun z hz => by simp [hz]) (subR _)) hS, ⟨rfl, rfl⟩, h3, h4, ?_, ?_⟩
      · exact (he.keep l (Array.getElem?_eq_some_iff.1 h5).1 (hF l (by simp))).trans h5
      · exact (he.keep d (Array.getElem?_eq_some_iff.1 h6).1 (hF d (by simp))).trans h6⟩
  let Jx : Nat → Asn := fun k => ⟨fun F S W => ∃ c y F' S', IX c k y ∧ Sep (HX c k y) F' S' W ∧ (F = l :: d :: F' ∧ S = S') ∧ (l ∉ F' ∧ l ∉ S') ∧ (d ∉ F' ∧ d ∉ S') ∧ W.heap[l]? = some (.loop (rec .done (some c))) ∧ W.heap[d]? = some (.deferred (some [])),
    by
      rintro F S M W W' ⟨c, y, F', S', h1, h2, ⟨rfl, rfl⟩, h3, h4, h5, h6⟩ he hF hS
      refine ⟨c, y, F', S, h1, h2.ext he (hF.mono (fun z hz => by simp [hz]) (subR _)) hS, ⟨rfl, rfl⟩, h3, h4, ?_, ?_⟩
      · exact (he.keep l (Array.getElem?_eq_some_iff.1 h5).1 (hF l (by simp))).trans h5
      · exact (he.keep d (Array.getElem?_eq_some_iff.1 h6).1 (hF d (by simp))).trans h6⟩
  refine ⟨w.heap.size + 1, [{ target := .collected w.heap.size, args := #[] }], W1, { target := .fn (.func gf) lb.toArray, args := #[.func (.yield (w.heap.size + 1)) #[] #[]] }, W1, gf,
    #[.func (.yield (w.heap.size + 1)) #[] #[]] ++ lb.toArray, W1, ?_, ?_, fun _ _ => trivial, ?_, fun h => (by cases h), ?_⟩
  · rw [← hW1, hrec]; exact run_enterLoop_outer _ _ _ _ _
  · simp only [resolve, ha.eval hg]
    simp [go_sem]
  · simp [invoke, go_sem, eg]
  · have hdl : d ≠ l := by omega
    have newF : ∀ {T : List Nat}, (∀ b ∈ T, b < w.heap.size) → l ∉ T ∧ d ∉ T := fun h => ⟨fun q => by have := h _ q; omega, fun q => by have := h _ q; omega⟩
    have ltj : ∀ b ∈ Fj, b < w.heap.size := fun b hb => s.ltF b (a1 hb)
    have ltsj : ∀ b ∈ Sj, b < w.heap.size := fun b hb => s.ltS b (a3 hb)
    have lti : ∀ b ∈ Fi, b < w.heap.size := fun b hb => s.ltF b (a2 hb)
    have ltsi : ∀ b ∈ Si, b < w.heap.size := fun b hb => s.ltS b (a4 hb)
    have hJ0 : (J 0).P (l :: d :: Fj) Sj W1 := ⟨x₀, Fj, Sj, h0, hsj.ext hE1 (Apart.nilR _) (Apart.nilR _), ⟨rfl, rfl⟩, ⟨(newF ltj).1, (newF ltsj).1⟩, ⟨(newF ltj).2, (newF ltsj).2⟩, hL1, hK1⟩
    have hst : St (J 0 :: HI) (l :: d :: Fj ++ Fi) (Sj ++ Si) W1 := by
      refine ⟨⟨l :: d :: Fj, Sj, Fi, Si, ⟨inL _ _, inR _ _, inL _ _, inR _ _⟩, ⟨?_, ?_, b3⟩, hJ0, hsi.ext hE1 (Apart.nilR _) (Apart.nilR _)⟩, ?_, ?_⟩
      · intro x hx hy
        simp only [List.mem_cons] at hx
        rcases hx with rfl | rfl | hx
        · exact (newF lti).1 hy
        · exact (newF lti).2 hy
        · exact b1 x hx hy
      · intro x hx hy
        simp only [List.mem_cons] at hx
        rcases hx with rfl | rfl | hx
        · exact (newF ltsi).1 hy
        · exact (newF ltsi).2 hy
        · exact b2 x hx hy
      · intro x hx
        simp only [List.cons_append, List.mem_cons, List.mem_append] at hx
        rcases hx with rfl | rfl | hx | hx
        · omega
        · omega
        · have := ltj x hx; omega
        · have := lti x hx; omega
      · intro x hx
        rcases List.mem_append.1 hx with hx | hx
        · have := ltsj x hx; omega
        · have := ltsi x hx; omega
    have hfr : From o W1 (l :: d :: Fj ++ Fi) (Sj ++ Si) := by
      refine ⟨f.ext.trans0 hE1, ?_, ?_⟩
      · intro x hx
        have hz := f.ext.size
        simp only [List.cons_append, List.mem_cons, List.mem_append] at hx
        rcases hx with rfl | rfl | hx | hx
        · exact .inr (by omega)
        · exact .inr (by omega)
        · exact f.fF x (a1 hx)
        · exact f.fF x (a2 hx)
      · intro x hx
        exact (List.mem_append.1 hx).elim (fun h => f.fS x (a3 h)) (fun h => f.fS x (a4 h))
    have hy : ∀ k vs p, k < Nn → E k vs p → YSpec P (.func (.yield l) #[] #[]) vs [Brv.sh p, J k] (fun b H' => H' = [if b then J (k + 1) else Jx (k + 1)]) := by
      intro k vs p hk hE A F S s
      obtain ⟨F1, S1, F2, S2, ⟨c1, c2, c3, c4⟩, ⟨e1, e2, e3⟩, hp, F3, S3, F4, S4, ⟨c1', c2', c3', c4'⟩, _, hJ, _⟩ := s.sep
      obtain ⟨x, F', S', hi, hsep, ⟨rfl, rfl⟩, ⟨l1, l2⟩, ⟨d1, d2⟩, hl', hd'⟩ := hJ
      refine .inl ⟨_, rfl, ?_⟩
      have hlt : l < A.heap.size := (Array.getElem?_eq_some_iff.1 hl').1
      have hltd : d < A.heap.size := (Array.getElem?_eq_some_iff.1 hd').1
      obtain ⟨hlen, hG⟩ := hround l k x vs p hk hi hE
      have hy := run_yield (P := P) (args := vs.toArray) hl' (by rw [hrec]; simpa using hlen)
      rw [hrec] at hy
      refine ⟨fn, _, assign, body, hy, roundIn_of_wpIn hfn ?_⟩
      have hfr : Fr ⟨n, [], some l⟩ (bindEnv ps.toList vs ρ) { tmps := (ps.toList.zip vs).foldl (fun t (p, v) => t.setIfInBounds p v) a.tmps, defers := [] } :=
        bind_fr (n := ⟨n, [], some l⟩) ps.toList vs (a := { tmps := a.tmps, defers := [] }) ⟨ha.size, rfl, ha.vals⟩ (fun p hp => by simpa [Nat.blt_eq] using List.all_eq_true.1 hps p hp)
      have hz : (ps.zip vs.toArray).foldl (fun t (p, v) => t.setIfInBounds p v) a.tmps = (ps.toList.zip vs).foldl (fun t (p, v) => t.setIfInBounds p v) a.tmps := by
        rw [← Array.foldl_toList, Array.toList_zip]
      rw [hz]
      have hsA : St (Brv.sh p :: HJ k x) F' (S1 ++ S3) A := by
        refine ⟨⟨[], S1, F', S3, ⟨by simp, subR _, inL _ _, inR _ _⟩, ⟨Apart.nilL _, Apart.nilL _, e3.mono (subR _) (fun z hz => c1' (by simp [hz]))⟩, (instPersSh p).h _ _ _ hp, hsep⟩, fun z hz => s.ltF z (c2 (c1' (by simp [hz]))), ?_⟩
        intro z hz
        exact (List.mem_append.1 hz).elim (fun hz => s.ltS z (c3 hz)) (fun hz => s.ltS z (c4 (c3' hz)))
      have hw := hG ⟨A, F', S1 ++ S3⟩ A F' (S1 ++ S3) hsA (From.refl _ _ _) _ hfr
      refine wpIn_mono (F := Fence.wide.inRound l) (fen_wp (r := some l) hw) ?_
      intro e a₁ w₂ hq
      cases e with
      | normal =>
        obtain ⟨Hb, F2, S2, s2, f2, hq⟩ := hq
        have hd1 : d ∉ S1 := fun h => e3 d h (c1' (by simp))
        have hl1 : l ∉ S1 := fun h => e3 l h (c1' (by simp))
        have hFl : l ∈ F := c2 (c1' (by simp))
        have hFd : d ∈ F := c2 (c1' (by simp))
        have hFF : ∀ z ∈ F', z ∈ F := fun z hz => c2 (c1' (by simp [hz]))
        have hszA2 : A.heap.size ≤ w₂.heap.size := f2.ext.size
        have nF2 : l ∉ F2 ∧ d ∉ F2 := ⟨fun h => (f2.fF _ h).elim l1 (fun h => by simp only at h; omega), fun h => (f2.fF _ h).elim d1 (fun h => by simp only at h; omega)⟩
        have nS2 : l ∉ S2 ∧ d ∉ S2 := ⟨fun h => (f2.fS _ h).elim (fun h => (List.mem_append.1 h).elim hl1 l2) (fun h => h.elim l1 (fun h => by simp only at h; omega)), fun h => (f2.fS _ h).elim (fun h => (List.mem_append.1 h).elim hd1 d2) (fun h => h.elim d1 (fun h => by simp only at h; omega))⟩
        replace hl' : w₂.heap[l]? = some (.loop (rec .ready none)) := (f2.ext.keep l hlt l1).trans hl'
        replace hd' : w₂.heap[d]? = some (.deferred (some [])) := (f2.ext.keep d hltd d1).trans hd'
        have hlt9 : l < w₂.heap.size := (Array.getElem?_eq_some_iff.1 hl').1
        have hltd9 : d < w₂.heap.size := (Array.getElem?_eq_some_iff.1 hd').1
        have hbr := run_beginRound (P := P) hl' (by rw [hrec])
        refine ⟨_, hbr, ?_⟩
        have hl3 : (w₂.putObj l (.loop { rec .ready none with state := .busy })).heap[l]? = some (.loop { rec .ready none with state := .busy }) := World.putObj_heap_same hlt9
        have hd3 : (w₂.putObj l (.loop { rec .ready none with state := .busy })).heap[d]? = some (.deferred (some [])) := (World.putObj_heap_other hdl).trans hd'
        have hE3 := Ext.putObj w₂ l (.loop { rec .ready none with state := .busy })
        have apl : ∀ {T : List Nat}, l ∉ T → Apart T [l] := fun h z hz hz2 => h (by rw [← List.mem_singleton.1 hz2]; exact hz)
        have hsb : St Hb F2 S2 (w₂.putObj l (.loop { rec .ready none with state := .busy })) :=
          ⟨s2.sep.ext hE3 (apl nF2.1) (apl nS2.1), fun z hz => by simpa using s2.ltF z hz, fun z hz => by simpa using s2.ltS z hz⟩
        refine wpIn_mono (F := Fence.wide.inRound l) (fen_wp (r := some l) (hq _ F2 S2 hsb)) ?_
        have fin : ∀ (jump : Option Code) (W3 : World) (F5 S5 : List Nat), From ⟨w₂.putObj l (.loop { rec .ready none with state := .busy }), F2, S2⟩ W3 F5 S5 → (∀ b ∈ F5, b < W3.heap.size) → (∀ b ∈ S5, b < W3.heap.size) →
            (Instr.endRound l jump).run P W3 = .ok (.bool jump.isNone) (W3.putObj l (.loop (rec (if jump.isNone then .ready else .done) jump))) ∧
            (W3.putObj l (.loop (rec (if jump.isNone then .ready else .done) jump))).heap[l]? = some (.loop (rec (if jump.isNone then .ready else .done) jump)) ∧
            (W3.putObj l (.loop (rec (if jump.isNone then .ready else .done) jump))).heap[d]? = some (.deferred (some [])) ∧ (l ∉ F5 ∧ l ∉ S5) ∧ (d ∉ F5 ∧ d ∉ S5) ∧ Ext [l] W3 (W3.putObj l (.loop (rec (if jump.isNone then .ready else .done) jump))) ∧
            From ⟨A, F, S⟩ (W3.putObj l (.loop (rec (if jump.isNone then .ready else .done) jump))) (l :: d :: F5) S5 ∧ (∀ b ∈ l :: d :: F5, b < (W3.putObj l (.loop (rec (if jump.isNone then .ready else .done) jump))).heap.size) ∧ (∀ b ∈ S5, b < (W3.putObj l (.loop (rec (if jump.isNone then .ready else .done) jump))).heap.size) := by
          intro jump W3 F5 S5 fr h5 h6
          have hlt2 : l < (w₂.putObj l (.loop { rec .ready none with state := .busy })).heap.size := by simpa using hlt9
          have hltd2 : d < (w₂.putObj l (.loop { rec .ready none with state := .busy })).heap.size := by simpa using hltd9
          have hl4 : W3.heap[l]? = some (.loop { rec .ready none with state := .busy }) := (fr.ext.keep _ hlt2 nF2.1).trans hl3
          have hd4 : W3.heap[d]? = some (.deferred (some [])) := (fr.ext.keep _ hltd2 nF2.2).trans hd3
          have hlt4 : l < W3.heap.size := (Array.getElem?_eq_some_iff.1 hl4).1
          have hltd4 : d < W3.heap.size := (Array.getElem?_eq_some_iff.1 hd4).1
          have her := run_endRound (P := P) jump hl4
          rw [hrec] at her ⊢
          have hszA : w₂.heap.size ≤ W3.heap.size := by have := fr.ext.size; simpa using this
          have nF : l ∉ F5 ∧ d ∉ F5 := ⟨fun h => (fr.fF _ h).elim nF2.1 (fun h => by simp only [World.putObj, Array.size_setIfInBounds] at h; omega), fun h => (fr.fF _ h).elim nF2.2 (fun h => by simp only [World.putObj, Array.size_setIfInBounds] at h; omega)⟩
          have nS : l ∉ S5 ∧ d ∉ S5 := ⟨fun h => (fr.fS _ h).elim nS2.1 (fun h => h.elim nF2.1 (fun h => by simp only [World.putObj, Array.size_setIfInBounds] at h; omega)), fun h => (fr.fS _ h).elim nS2.2 (fun h => h.elim nF2.2 (fun h => by simp only [World.putObj, Array.size_setIfInBounds] at h; omega))⟩
          have hx2 := Ext.putObj W3 l (.loop { state := if jump.isNone = true then LoopState.ready else LoopState.done, pending := jump, fn := fn, tmps := a.tmps, params := ps, assign := assign, body := body, defers := w.heap.size })
          have hF2 : ∀ z ∈ F2, z ∈ F ∨ A.heap.size ≤ z := fun z hz => (f2.fF z hz).imp (hFF z) id
          have hE4 : Ext F A W3 := ((f2.ext.mono (M' := F) (fun z hz => .inl (hFF z hz))).transN hE3 (fun z hz => .inl (by rw [List.mem_singleton.1 hz]; exact hFl))).transN fr.ext (fun z hz => hF2 z hz)
          refine ⟨her, World.putObj_heap_same hlt4, (World.putObj_heap_other hdl).trans hd4, ⟨nF.1, nS.1⟩, ⟨nF.2, nS.2⟩, hx2, ⟨hE4.transN hx2 (fun z hz => .inl (by rw [List.mem_singleton.1 hz]; exact hFl)), ?_, ?_⟩, ?_, ?_⟩
          · intro z hz
            simp only [List.mem_cons] at hz
            rcases hz with rfl | rfl | hz
            · exact .inl hFl
            · exact .inl hFd
            · exact (fr.fF z hz).elim (hF2 z) (fun h => .inr (Nat.le_trans hszA2 (by simpa [World.putObj, Array.size_setIfInBounds] using h)))
          · intro z hz
            exact (fr.fS z hz).elim (fun h => (f2.fS z h).elim (fun h => .inl ((List.mem_append.1 h).elim (fun h => c3 h) (fun h => c4 (c3' h)))) (fun h => .inr (h.imp (hFF z) id))) (fun h => .inr (h.elim (hF2 z) (fun h => .inr (Nat.le_trans hszA2 (by simpa [World.putObj, Array.size_setIfInBounds] using h)))))
          · intro z hz
            simp only [List.mem_cons] at hz
            rcases hz with rfl | rfl | hz
            · simpa using hlt4
            · simpa using hltd4
            · simpa using h5 z hz
          · intro z hz; simpa using h6 z hz
        rintro e a3 W3 hp3
        cases e with
        | normal =>
          obtain ⟨x', F5, S5, hi', s5, fr⟩ := hp3
          obtain ⟨f1, f2, f3, n1, n2, f4, f5, f6, f7⟩ := fin none W3 F5 S5 fr s5.ltF s5.ltS
          refine ⟨_, _, f1, true, rfl, [J (k + 1)], l :: d :: F5, S5, by simp, ⟨⟨l :: d :: F5, S5, [], [], ⟨subR _, by simp, subR _, by simp⟩, ⟨Apart.nilR _, Apart.nilR _, Apart.nilR _⟩, ⟨x', F5, S5, hi', s5.sep.ext f4 (apl n1.1) (apl n1.2), ⟨rfl, rfl⟩, n1, n2, f2, f3⟩, trivial⟩, f6, f7⟩, f5⟩
        | ret =>
          obtain ⟨y', F5, S5, hi', s5, fr⟩ := hp3
          obtain ⟨f1, f2, f3, n1, n2, f4, f5, f6, f7⟩ := fin (some .ret) W3 F5 S5 fr s5.ltF s5.ltS
          refine ⟨_, _, f1, false, rfl, [Jx (k + 1)], l :: d :: F5, S5, by simp, ⟨⟨l :: d :: F5, S5, [], [], ⟨subR _, by simp, subR _, by simp⟩, ⟨Apart.nilR _, Apart.nilR _, Apart.nilR _⟩, ⟨_, y', F5, S5, hi', s5.sep.ext f4 (apl n1.1) (apl n1.2), ⟨rfl, rfl⟩, n1, n2, f2, f3⟩, trivial⟩, f6, f7⟩, f5⟩
        | exit id =>
          obtain ⟨y', F5, S5, hi', s5, fr⟩ := hp3
          obtain ⟨f1, f2, f3, n1, n2, f4, f5, f6, f7⟩ := fin (some (.exit id)) W3 F5 S5 fr s5.ltF s5.ltS
          refine ⟨_, _, f1, false, rfl, [Jx (k + 1)], l :: d :: F5, S5, by simp, ⟨⟨l :: d :: F5, S5, [], [], ⟨subR _, by simp, subR _, by simp⟩, ⟨Apart.nilR _, Apart.nilR _, Apart.nilR _⟩, ⟨_, y', F5, S5, hi', s5.sep.ext f4 (apl n1.1) (apl n1.2), ⟨rfl, rfl⟩, n1, n2, f2, f3⟩, trivial⟩, f6, f7⟩, f5⟩
        | goto t =>
          obtain ⟨y', F5, S5, hi', s5, fr⟩ := hp3
          obtain ⟨f1, f2, f3, n1, n2, f4, f5, f6, f7⟩ := fin (some (.goto t)) W3 F5 S5 fr s5.ltF s5.ltS
          refine ⟨_, _, f1, false, rfl, [Jx (k + 1)], l :: d :: F5, S5, by simp, ⟨⟨l :: d :: F5, S5, [], [], ⟨subR _, by simp, subR _, by simp⟩, ⟨Apart.nilR _, Apart.nilR _, Apart.nilR _⟩, ⟨_, y', F5, S5, hi', s5.sep.ext f4 (apl n1.1) (apl n1.2), ⟨rfl, rfl⟩, n1, n2, f2, f3⟩, trivial⟩, f6, f7⟩, f5⟩
        | panic ch => exact hp3.elim
        | outgrown => exact hp3.elim
      | _ => exact hq.elim
    have hm := hit (.func (.yield l) #[] #[]) J Jx rfl hy W1 _ _ hst
    have e : (Value.func (.yield l) #[] #[] :: lb).toArray = #[.func (.yield l) #[] #[]] ++ lb.toArray := by simp
    unfold Meets at hm
    rw [e] at hm
    rw [← hl]
    refine CallsIn.mono (callsIn_wide.2 hm) ?_
    intro e W2 he
    cases e with
    | returned v =>
      obtain ⟨H', F5, S5, hH, s5, fr⟩ := he
      have fr' := hfr.trans fr
      have apl : ∀ {T : List Nat}, l ∉ T → Apart T [l] := fun h z hz hz2 => h (by rw [← List.mem_singleton.1 hz2]; exact hz)
      have leave : ∀ {HL : List Asn} {F' S' F2 S2 : List Nat} (ob : Obj), (l :: d :: F' ⊆ F5 ∧ F2 ⊆ F5 ∧ S' ⊆ S5 ∧ S2 ⊆ S5) → (Apart (l :: d :: F') F2 ∧ Apart (l :: d :: F') S2 ∧ Apart S' F2) → Sep HL F' S' W2 → Sep HI F2 S2 W2 → (l ∉ F' ∧ l ∉ S') → (d ∉ F' ∧ d ∉ S') → W2.heap[d]? = some (.deferred (some [])) →
          ∃ F6 S6, St (dfr d :: HL ++ HI) F6 S6 (W2.putObj l ob) ∧ From o (W2.putObj l ob) F6 S6 := by
        intro HL F' S' F2 S2 ob ⟨g1, g2, g3, g4⟩ ⟨k1, k2, k3⟩ hh hhi n1 n2 hdd
        have hx := Ext.putObj W2 l ob
        refine ⟨d :: F' ++ F2, S' ++ S2, ⟨⟨[d], [], F' ++ F2, S' ++ S2, ⟨by simp, fun z hz => by simp at hz ⊢; exact .inr hz, by simp, subR _⟩, ⟨?_, ?_, Apart.nilL _⟩, ⟨rfl, (World.putObj_heap_other hdl).trans hdd⟩, ?_⟩, ?_, ?_⟩, ⟨fr'.ext.transN hx (fun z hz => by rw [List.mem_singleton.1 hz]; exact fr'.fF l (g1 (by simp))), ?_, ?_⟩⟩
        · intro z hz hz2
          rw [List.mem_singleton.1 hz] at hz2
          exact (List.mem_append.1 hz2).elim n2.1 (fun h => k1 d (by simp) h)
        · intro z hz hz2
          rw [List.mem_singleton.1 hz] at hz2
          exact (List.mem_append.1 hz2).elim n2.2 (fun h => k2 d (by simp) h)
        · refine Sep.join ⟨F', S', F2, S2, ⟨inL _ _, inR _ _, inL _ _, inR _ _⟩, ⟨k1.mono (fun z hz => by simp [hz]) (subR _), k2.mono (fun z hz => by simp [hz]) (subR _), k3⟩, hh.ext hx (apl n1.1) (apl n1.2), hhi.ext hx (apl (fun h => k1 l (by simp) h)) (apl (fun h => k2 l (by simp) h))⟩
        · intro z hz
          simp only [List.cons_append, List.mem_cons, List.mem_append] at hz
          have : z ∈ F5 := by
            rcases hz with rfl | hz | hz
            · exact g1 (by simp)
            · exact g1 (by simp [hz])
            · exact g2 hz
          simpa using s5.ltF z this
        · intro z hz
          have : z ∈ S5 := (List.mem_append.1 hz).elim (fun h => g3 h) (fun h => g4 h)
          simpa using s5.ltS z this
        · intro z hz
          simp only [List.cons_append, List.mem_cons, List.mem_append] at hz
          refine fr'.fF z ?_
          rcases hz with rfl | hz | hz
          · exact g1 (by simp)
          · exact g1 (by simp [hz])
          · exact g2 hz
        · intro z hz
          exact fr'.fS z ((List.mem_append.1 hz).elim (fun h => g3 h) (fun h => g4 h))
      rcases hH with rfl | ⟨k, hk, rfl⟩
      · obtain ⟨F1, S1, F2, S2, hsub, hap, ⟨x, F', S', hi, hsep, ⟨rfl, rfl⟩, n1, n2, hl', hd'⟩, hHI⟩ := s5.sep
        refine ⟨none, _, by have := run_endLoop (P := P) hl' (by rw [hrec]; simp); rw [hrec] at this; exact this, ?_⟩
        obtain ⟨F6, S6, s6, fr6⟩ := leave _ hsub hap hsep hHI n1 n2 hd'
        exact hdone d x hi _ F6 S6 s6 fr6 _ ⟨ha.size, by simp [ha.defers, hd], ha.vals⟩
      · obtain ⟨F1, S1, F2, S2, hsub, hap, ⟨c, y, F', S', hi, hsep, ⟨rfl, rfl⟩, n1, n2, hl', hd'⟩, hHI⟩ := s5.sep
        refine ⟨some c, _, by have := run_endLoop (P := P) hl' (by rw [hrec]; simp); rw [hrec] at this; exact this, ?_⟩
        obtain ⟨F6, S6, s6, fr6⟩ := leave _ hsub hap hsep hHI n1 n2 hd'
        exact fen_wp (r := none) (hstop d k c y hk hi _ F6 S6 s6 fr6 _ ⟨ha.size, by simp [ha.defers, hd], ha.vals⟩)
    | panicked ch => exact he.elim
    | outgrown => exact he.elim
end
end Brv
/-
  The walks of package flow.
-/
set_option linter.unusedVariables false
set_option linter.unusedSimpArgs false
set_option maxRecDepth 4000
namespace Go.Proofs.YtlhkpakbenghgaaGreat
open Go Brv
theorem cloBusy (a : Option Addr) (n c : Nat) (Rr : List (List Value)) (hR : ∀ r ∈ Rr, r.length = 3 ∧ ∀ u ∈ r, u.oneCell' = true) (hb : n * 24 ≤ 140737488355328) : SpecS Tryz.prog 60 [.slice a n c] [sh (fun w => Tab w a n 3 Rr)] (fun v H' => ∃ a' c', v = .slice a' n c' ∧ H' = [own 45 3 a' (n) c' (Rr.flatten)]) := by
  refine SpecS.enter Tryz.func60 rfl 8 rfl (Nat.le_of_ble_eq_true rfl) (fun o => ?_)
  refine SG.seq ?_
  refine SG.region ?_
  refine SL.val rfl rfl (fun w9 F9 S9 s => R.as rfl) ?_
  refine SL.nil ?_
  refine SN.seq ?_
  refine SG.seq ?_
  refine SG.seq ?_
  refine SG.region ?_
  refine SL.val rfl rfl (fun w9 F9 S9 s => R.mv rfl) ?_
  refine SL.val rfl rfl (fun w9 F9 S9 s => R.eqNilS rfl rfl) ?_
  refine SL.nil ?_
  refine SN.seq ?_
  refine SG.condB rfl (fun h0 => ?_) (fun h0 => ?_)
  · obtain rfl : a = none := by simpa using h0
    refine SG.fact (fun w9 F9 S9 s => tabR_none (s.sh (p := fun w => Tab w none n 3 Rr) (by repeat (first | exact Sel.keep | exact Sel.here | apply Sel.there))) (by decide)) (fun hf9 => ?_)
    obtain ⟨hn0, hR0⟩ := hf9
    subst hn0
    subst hR0
    refine SG.imp (Imp.ownNil 45 3) ?_
    refine SG.seq ?_
    refine SG.region ?_
    refine SL.val rfl rfl (fun w9 F9 S9 s => R.as rfl) ?_
    refine SL.nil ?_
    refine SN.seq ?_
    exact SG.ret1 rfl rfl ((Imp.sels (by repeat (first | exact Sels.nil | apply Sels.cons | exact Sel.keep | exact Sel.here | apply Sel.there)))) (⟨none, 0, rfl, rfl⟩)
  · refine SG.fact (fun w9 F9 S9 s => tabR_flat (s.sh (p := fun w => Tab w a n 3 Rr) (by repeat (first | exact Sel.keep | exact Sel.here | apply Sel.there)))) (fun hf9 => ?_)
    have hfl := hf9; clear hf9
    refine SG.skip ?_
    refine SN.seq ?_
    refine SG.seq ?_
    refine SG.region ?_
    refine SL.step rfl rfl (CS.buildA rfl rfl rfl rfl rfl [] rfl) ?_
    rintro _ _ ⟨b5, rfl, rfl⟩
    refine SL.val rfl rfl (fun w9 F9 S9 s => R.mv rfl) ?_
    refine SL.step rfl rfl (CS.imp (Imp.ownBlk (size := 3) (k := 0) (show Sel _ (blk b5 [] 45) _ from (by repeat (first | exact Sel.keep | exact Sel.here | apply Sel.there))) rfl (Nat.zero_le _)) (CS.app rfl rfl (by repeat (first | exact Sel.keep | exact Sel.here | apply Sel.there)) (fun w9 F9 S9 s => (s.sh (p := fun w => Tab w a n 3 Rr) (by repeat (first | exact Sel.keep | exact Sel.here | apply Sel.there))).cells) hfl (flat_oneR (fun r hr => (hR r hr).2)) (by simp [maxLen]; omega) (by omega))) ?_
    rintro _ _ ⟨a7, c7, rfl, rfl⟩
    refine SL.val rfl rfl (fun w9 F9 S9 s => R.as rfl) ?_
    refine SL.nil ?_
    rw [Nat.zero_add, List.nil_append]
    refine SN.seq ?_
    exact SG.ret1 rfl rfl ((Imp.sels (by repeat (first | exact Sels.nil | apply Sels.cons | exact Sel.keep | exact Sel.here | apply Sel.there)))) (⟨a7, c7, rfl, rfl⟩)

theorem valsBusy (a : Option Addr) (n c : Nat) : SpecS Tryz.prog 59 [.slice a n c] [] (fun v H' => ∃ b, v = .func (.func 88) #[] #[.pointer (some ⟨b, 0, none⟩)] ∧ H' = [fz b [.slice a n c] 38]) := by
  refine SpecS.enter Tryz.func59 rfl 4 rfl (Nat.le_of_ble_eq_true rfl) (fun o => ?_)
  refine SG.seq ?_
  refine SG.region ?_
  refine SL.step rfl rfl (CS.box1 rfl rfl) ?_
  rintro _ _ ⟨b1, rfl, rfl⟩
  refine SL.val rfl rfl (fun w9 F9 S9 s => R.as rfl) ?_
  refine SL.nil ?_
  refine SN.seq ?_
  refine SG.seq ?_
  refine SG.region ?_
  refine SL.val rfl rfl (fun w9 F9 S9 s => R.mkFunc rfl rfl) ?_
  refine SL.val rfl rfl (fun w9 F9 S9 s => R.as rfl) ?_
  refine SL.nil ?_
  refine SN.imp (Imp.fz (show Sel _ (blk b1 [.slice a n c] 38) _ from (by repeat (first | exact Sel.keep | exact Sel.here | apply Sel.there)))) ?_
  refine SN.seq ?_
  exact SG.ret1 rfl rfl ((Imp.sels (by repeat (first | exact Sels.nil | apply Sels.cons | exact Sel.keep | exact Sel.here | apply Sel.there)))) (⟨b1, rfl, rfl⟩)

theorem vals1Busy (y : Value) (b : Nat) (a : Option Addr) (n c : Nat) (Rr : List (List Value)) (J Jx : Nat → Asn) (hR : ∀ r ∈ Rr, r.length = 3 ∧ ∀ u ∈ r, u.oneCell' = true) (hb : n ≤ 140737488355328) (hY : ∀ k vs p, k < n → (fun k vs p => ∃ row, Rr[k]? = some row ∧ vs = [.agg row.toArray] ∧ p = fun _ => True) k vs p → YSpec Tryz.prog y vs [sh p, J k] (fun b H' => H' = [if b then J (k + 1) else Jx (k + 1)])) : SpecS Tryz.prog 88 [y, .pointer (some ⟨b, 0, none⟩)] [J 0, fz b [.slice a n c] 38, sh (fun w => Tab w a n 3 Rr)] (fun v H' => (H' = J n :: [fz b [.slice a n c] 38, sh (fun w => Tab w a n 3 Rr)] ∨ ∃ k, k ≤ n ∧ H' = Jx k :: [fz b [.slice a n c] 38, sh (fun w => Tab w a n 3 Rr)])) := by
  refine SpecS.enter Tryz.func88 rfl 16 rfl (Nat.le_of_ble_eq_true rfl) (fun o => ?_)
  refine SG.fact (fun w9 F9 S9 s => (s.sh (p := fun w => Tab w a n 3 Rr) (by repeat (first | exact Sel.keep | exact Sel.here | apply Sel.there))).len) (fun hf9 => ?_)
  have hnl := hf9; clear hf9
  refine SG.seq ?_
  refine SG.region ?_
  refine SL.val rfl rfl (fun w9 F9 S9 s => R.ldB (v := .slice a n c) rfl (s.cel (by repeat (first | exact SelB.blk | exact SelB.fz | apply SelB.there))) (by rfl)) ?_
  refine SL.val rfl rfl (fun w9 F9 S9 s => R.lenS rfl) ?_
  refine SL.val rfl rfl (fun w9 F9 S9 s => R.mv rfl) ?_
  refine SL.nil ?_
  refine SN.seq ?_
  refine SG.block ?_
  refine SG.loop (X := Nat) (fun k => [(0, y), (5, .slice a n c), (6, .int .i64 (n : Int)), (7, .int .i64 (k : Int))]) (fun k => [J k, fz b [.slice a n c] 38, sh (fun w => Tab w a n 3 Rr)]) (fun k => k ≤ n) (fun k => n - k) (0) (Sub.cons rfl (Sub.cons rfl (Sub.cons rfl (Sub.cons rfl (Sub.nil _))))) ((Imp.sels (by repeat (first | exact Sels.nil | apply Sels.cons | exact Sel.keep | exact Sel.here | apply Sel.there)))) (Nat.zero_le _) ?_
  intro k hk
  show SG _ _ _ _ _ [(0, y), (5, .slice a n c), (6, .int .i64 (n : Int)), (7, .int .i64 (k : Int))] [J k, fz b [.slice a n c] 38, sh (fun w => Tab w a n 3 Rr)] _
  refine SG.seq ?_
  refine SG.region ?_
  refine SL.val rfl rfl (fun w9 F9 S9 s => R.lss rfl rfl) ?_
  refine SL.nil ?_
  refine SN.seq ?_
  refine SG.seq ?_
  refine SG.condP rfl (fun h0 => ?_) (fun h0 => ?_)
  · obtain ⟨row, hr⟩ : ∃ row, Rr[k]? = some row := ⟨_, List.getElem?_eq_getElem (by omega)⟩
    obtain ⟨hrl, hr1⟩ := hR row (List.mem_of_getElem? hr)
    refine SG.fact (fun w9 F9 S9 s => tabR_pt (s.sh (p := fun w => Tab w a n 3 Rr) (by repeat (first | exact Sel.keep | exact Sel.here | apply Sel.there))) (by decide) hr) (fun hf9 => ?_)
    obtain ⟨q, hq⟩ := hf9
    refine SG.skip ?_
    refine SN.seq ?_
    refine SG.seq ?_
    refine SG.block ?_
    refine SG.seq ?_
    refine SG.region ?_
    refine SL.val rfl rfl (fun w9 F9 S9 s => R.idx rfl rfl (by omega) (by omega) q hq) ?_
    refine SL.val rfl rfl (fun w9 F9 S9 s => R.ldN (vs := row) rfl (tabR_ld (s.sh (p := fun w => Tab w a n 3 Rr) (by repeat (first | exact Sel.keep | exact Sel.here | apply Sel.there))) (by decide) hq hr) hrl) ?_
    refine SL.step rfl rfl (CS.alloc [.int .i64 0, .int .i64 0, .int .i64 0] rfl) ?_
    rintro _ _ ⟨b4, rfl, rfl⟩
    refine SL.step0 rfl (CS.stA (vs := row) rfl rfl (by repeat (first | exact Sel.keep | exact Sel.here | apply Sel.there)) hrl (by rfl) hr1) ?_
    rintro _ _ rfl
    refine SL.nil ?_
    refine SN.seq ?_
    refine SG.seq ?_
    refine SG.region ?_
    refine SL.val rfl rfl (fun w9 F9 S9 s => R.mv rfl) ?_
    refine SL.val rfl rfl (fun w9 F9 S9 s => R.ldBN (cs := row.toArray) rfl (s.cel (by repeat (first | exact SelB.blk | exact SelB.fz | apply SelB.there))) (by simpa using hrl)) ?_
    refine SL.imp (Imp.pure (p := fun _ => True) (fun _ => trivial)) ?_
    refine SL.step rfl rfl (CS.yield rfl rfl (hY k _ _ (by omega) ⟨row, hr, rfl, rfl⟩) (by repeat (first | exact Sels.nil | apply Sels.cons | exact Sel.keep | exact Sel.here | apply Sel.there))) ?_
    rintro _ _ ⟨_, ⟨bq, rfl, rfl⟩, rfl⟩
    refine SL.n1 ?_
    refine SL.val rfl rfl (fun w9 F9 S9 s => R.not rfl) ?_
    refine SL.nil ?_
    refine SN.seq ?_
    refine SG.condB rfl (fun h1 => ?_) (fun h1 => ?_)
    · obtain rfl : bq = false := by simpa using h1
      exact SG.ret0 rfl ((Imp.sels (by repeat (first | exact Sels.nil | apply Sels.cons | exact Sel.keep | exact Sel.here | apply Sel.there)))) (.inr ⟨k + 1, by omega, rfl⟩)
    · obtain rfl : bq = true := by simpa using h1
      refine SG.skip ?_
      refine SN.block ?_
      refine SN.seq ?_
      refine SG.region ?_
      refine SL.val rfl rfl (fun w9 F9 S9 s => R.add rfl rfl (by omega)) ?_
      refine SL.val rfl rfl (fun w9 F9 S9 s => R.mv rfl) ?_
      refine SL.nil ?_
      exact SN.again (k + 1) (by show n - (k + 1) < n - k; omega) (Sub.cons rfl (Sub.cons rfl (Sub.cons rfl (Sub.cons rfl (Sub.nil _))))) ((Imp.sels (by repeat (first | exact Sels.nil | apply Sels.cons | exact Sel.keep | exact Sel.here | apply Sel.there)))) (by show k + 1 ≤ n; omega)
  · obtain rfl : n = k := by omega
    refine SG.exit _ rfl ?_
    exact SN.end0 rfl ((Imp.sels (by repeat (first | exact Sels.nil | apply Sels.cons | exact Sel.keep | exact Sel.here | apply Sel.there)))) (.inl rfl)

theorem vals1Busy_it (b : Nat) (a : Option Addr) (n c : Nat) (Rr : List (List Value)) (hR : ∀ r ∈ Rr, r.length = 3 ∧ ∀ u ∈ r, u.oneCell' = true) (hb : n ≤ 140737488355328) : IterS Tryz.prog 88 [.pointer (some ⟨b, 0, none⟩)] [fz b [.slice a n c] 38, sh (fun w => Tab w a n 3 Rr)] n (fun k vs p => ∃ row, Rr[k]? = some row ∧ vs = [.agg row.toArray] ∧ p = fun _ => True) := fun y J Jx hY => vals1Busy y b a n c Rr J Jx hR hb hY

theorem eachBusy (f : Nat) (us vs : List Value) : SpecS Tryz.prog 57 [.func (.func f) us.toArray vs.toArray] [] (fun v H' => v = .func (.func f) us.toArray vs.toArray ∧ H' = []) := by
  refine SpecS.enter Tryz.func57 rfl 6 rfl (Nat.le_of_ble_eq_true rfl) (fun o => ?_)
  refine SG.seq ?_
  refine SG.region ?_
  refine SL.val rfl rfl (fun w9 F9 S9 s => R.as rfl) ?_
  refine SL.nil ?_
  refine SN.seq ?_
  refine SG.seq ?_
  refine SG.seq ?_
  refine SG.region ?_
  refine SL.val rfl rfl (fun w9 F9 S9 s => R.mv rfl) ?_
  refine SL.val rfl rfl (fun w9 F9 S9 s => R.eqNilF Tryz.underlying79 rfl rfl) ?_
  refine SL.nil ?_
  refine SN.seq ?_
  refine SG.condF rfl ?_
  refine SG.skip ?_
  refine SN.seq ?_
  refine SG.seq ?_
  refine SG.region ?_
  refine SL.val rfl rfl (fun w9 F9 S9 s => R.mv rfl) ?_
  refine SL.val rfl rfl (fun w9 F9 S9 s => R.as rfl) ?_
  refine SL.nil ?_
  refine SN.seq ?_
  exact SG.ret1 rfl rfl ((Imp.sels (by repeat (first | exact Sels.nil | apply Sels.cons | exact Sel.keep | exact Sel.here | apply Sel.there)))) (⟨rfl, rfl⟩)

theorem ofBusy (a : Option Addr) (n c : Nat) (Rr : List (List Value)) (hR : ∀ r ∈ Rr, r.length = 3 ∧ ∀ u ∈ r, u.oneCell' = true) (hb : n * 24 ≤ 140737488355328) : SpecS Tryz.prog 32 [.slice a n c] [sh (fun w => Tab w a n 3 Rr)] (fun v H' => ∃ b a' c', v = .func (.func 88) #[] #[.pointer (some ⟨b, 0, none⟩)] ∧ H' = [fz b [.slice a' n c'] 38, sh (fun w => Tab w a' n 3 Rr)]) := by
  refine SpecS.enter Tryz.func32 rfl 6 rfl (Nat.le_of_ble_eq_true rfl) (fun o => ?_)
  refine SG.fact (fun w9 F9 S9 s => (s.sh (p := fun w => Tab w a n 3 Rr) (by repeat (first | exact Sel.keep | exact Sel.here | apply Sel.there))).len) (fun hf9 => ?_)
  have hnl := hf9; clear hf9
  refine SG.seq ?_
  refine SG.region ?_
  refine SL.val rfl rfl (fun w9 F9 S9 s => R.as rfl) ?_
  refine SL.nil ?_
  refine SN.seq ?_
  refine SG.seq ?_
  refine SG.region ?_
  refine SL.val rfl rfl (fun w9 F9 S9 s => R.mv rfl) ?_
  refine SL.step rfl rfl (CS.call rfl go60 (cloBusy a n c Rr hR hb) (by repeat (first | exact Sels.nil | apply Sels.cons | exact Sel.keep | exact Sel.here | apply Sel.there))) ?_
  rintro _ _ ⟨_, ⟨a4, c4, rfl, rfl⟩, rfl⟩
  refine SL.n1 ?_
  refine SL.step rfl rfl (CS.call rfl go59 (valsBusy a4 n c4) (by repeat (first | exact Sels.nil | apply Sels.cons | exact Sel.keep | exact Sel.here | apply Sel.there))) ?_
  rintro _ _ ⟨_, ⟨b5, rfl, rfl⟩, rfl⟩
  refine SL.n1 ?_
  refine SL.val rfl rfl (fun w9 F9 S9 s => R.as rfl) ?_
  refine SL.nil ?_
  refine SN.imp (Imp.ownSh (show Sel _ (own 45 3 a4 n c4 (Rr.flatten)) _ from (by repeat (first | exact Sel.keep | exact Sel.here | apply Sel.there))) (p := fun w => Tab w a4 n 3 Rr) (fun w h => tab_ownR h hnl hR)) ?_
  refine SN.seq ?_
  exact SG.ret1 rfl rfl ((Imp.sels (by repeat (first | exact Sels.nil | apply Sels.cons | exact Sel.keep | exact Sel.here | apply Sel.there)))) (⟨b5, a4, c4, rfl, rfl⟩)

end Go.Proofs.YtlhkpakbenghgaaGreat
/-
  The walks of package stats.
-/
set_option linter.unusedVariables false
set_option linter.unusedSimpArgs false
set_option maxRecDepth 4000
namespace Go.Proofs.YtlhkpakbenghgaaGreat
open Go Brv Brv.Stats
theorem cellR (l : List E3) : ∀ r ∈ l.map cellB, r.length = 3 ∧ ∀ u ∈ r, u.oneCell' = true := by
  intro r hr
  obtain ⟨x, _, rfl⟩ := List.mem_map.1 hr
  exact ⟨rfl, cellB_one x⟩
def manyB (n : Nat) (kk : Int) : Nat := if kk < 1 then 0 else min n kk.toNat

theorem first_ok (sv : Value) (kk : Int) (hs1 : sv.oneCell' = true) : SpecS Tryz.prog 31 [sv, .int .i64 kk] [] (fun v H' => ∃ b2 b3, v = .func (.func 58) #[] #[.pointer (some ⟨b3, 0, none⟩), .pointer (some ⟨b2, 0, none⟩)] ∧ H' = [fz b2 [sv] 79, fz b3 [.int .i64 kk] 3]) := by
  refine SpecS.enter Tryz.func31 rfl 6 rfl (Nat.le_of_ble_eq_true rfl) (fun o => ?_)
  refine SG.seq ?_
  refine SG.region ?_
  refine SL.step rfl rfl (CS.box1 rfl hs1) ?_
  rintro _ _ ⟨b2, rfl, rfl⟩
  refine SL.step rfl rfl (CS.box1 rfl rfl) ?_
  rintro _ _ ⟨b3, rfl, rfl⟩
  refine SL.val rfl rfl (fun w9 F9 S9 s => R.as rfl) ?_
  refine SL.nil ?_
  refine SN.seq ?_
  refine SG.seq ?_
  refine SG.region ?_
  refine SL.val rfl rfl (fun w9 F9 S9 s => R.mkFunc rfl rfl) ?_
  refine SL.val rfl rfl (fun w9 F9 S9 s => R.as rfl) ?_
  refine SL.nil ?_
  refine SN.imp (Imp.fz (show Sel _ (blk b2 [sv] 79) _ from (by repeat (first | exact Sel.keep | exact Sel.here | apply Sel.there)))) ?_
  refine SN.imp (Imp.fz (show Sel _ (blk b3 [.int .i64 kk] 3) _ from (by repeat (first | exact Sel.keep | exact Sel.here | apply Sel.there)))) ?_
  refine SN.seq ?_
  exact SG.ret1 rfl rfl ((Imp.sels (by repeat (first | exact Sels.nil | apply Sels.cons | exact Sel.keep | exact Sel.here | apply Sel.there)))) (⟨b2, b3, rfl, rfl⟩)

theorem first1_ok (y : Value) (b2 b3 b : Nat) (kk : Int) (a : Option Addr) (n c : Nat) (xs : List E3) (J Jx : Nat → Asn) (hl : n = xs.length) (hb : n ≤ 140737488355328) (hkk : kk ≤ 9223372036854775807) (hy1 : y.oneCell' = true) (hY : ∀ k vs p, k < (manyB n kk) → (fun k vs p => ∃ x, xs[k]? = some x ∧ vs = [.agg (cellB x).toArray] ∧ p = fun _ => True) k vs p → YSpec Tryz.prog y vs [sh p, J k] (fun b H' => H' = [if b then J (k + 1) else Jx (k + 1)])) : SpecS Tryz.prog 58 [y, .pointer (some ⟨b3, 0, none⟩), .pointer (some ⟨b2, 0, none⟩)] [J 0, fz b2 [.func (.func 88) #[] #[.pointer (some ⟨b, 0, none⟩)]] 79, fz b3 [.int .i64 kk] 3, fz b [.slice a n c] 38, sh (fun w => Tab w a n 3 (xs.map cellB))] (fun v H' => (H' = J (manyB n kk) :: [fz b2 [.func (.func 88) #[] #[.pointer (some ⟨b, 0, none⟩)]] 79, fz b3 [.int .i64 kk] 3, fz b [.slice a n c] 38, sh (fun w => Tab w a n 3 (xs.map cellB))] ∨ ∃ k, k ≤ (manyB n kk) ∧ H' = Jx k :: [fz b2 [.func (.func 88) #[] #[.pointer (some ⟨b, 0, none⟩)]] 79, fz b3 [.int .i64 kk] 3, fz b [.slice a n c] 38, sh (fun w => Tab w a n 3 (xs.map cellB))])) := by
  refine SpecS.enter Tryz.func58 rfl 22 rfl (Nat.le_of_ble_eq_true rfl) (fun o => ?_)
  refine SG.seq ?_
  refine SG.region ?_
  refine SL.step rfl rfl (CS.box1 rfl hy1) ?_
  rintro _ _ ⟨c3, rfl, rfl⟩
  refine SL.nil ?_
  refine SN.seq ?_
  refine SG.seq ?_
  refine SG.region ?_
  refine SL.val rfl rfl (fun w9 F9 S9 s => R.ldB (v := .int .i64 kk) rfl (s.cel (show SelB _ b3 [.int .i64 kk] 3 from (by repeat (first | exact SelB.blk | exact SelB.fz | apply SelB.there)))) (by rfl)) ?_
  refine SL.step rfl rfl (CS.alloc [.int .i64 0] rfl) ?_
  rintro _ _ ⟨b4, rfl, rfl⟩
  refine SL.step0 rfl (CS.st rfl rfl (by repeat (first | exact Sel.keep | exact Sel.here | apply Sel.there)) (by repeat (first | exact SetAt.here | apply SetAt.there)) rfl) ?_
  rintro _ _ rfl
  refine SL.nil ?_
  refine SN.seq ?_
  refine SG.seq ?_
  refine SG.seq ?_
  refine SG.region ?_
  refine SL.val rfl rfl (fun w9 F9 S9 s => R.ldB (v := .int .i64 kk) rfl (s.cel (show SelB _ b4 [.int .i64 kk] 3 from (by repeat (first | exact SelB.blk | exact SelB.fz | apply SelB.there)))) (by rfl)) ?_
  refine SL.val rfl rfl (fun w9 F9 S9 s => R.lss rfl rfl) ?_
  refine SL.nil ?_
  refine SN.seq ?_
  refine SG.condP rfl (fun h0 => ?_) (fun h0 => ?_)
  · have hm0 : manyB n kk = 0 := if_pos h0
    exact SG.ret0 rfl ((show Imp _ _ by rw [hm0]; exact (Imp.sels (by repeat (first | exact Sels.nil | apply Sels.cons | exact Sel.keep | exact Sel.here | apply Sel.there))))) (.inl rfl)
  · refine SG.skip ?_
    refine SN.seq ?_
    refine SG.seq ?_
    refine SG.region ?_
    refine SL.val rfl rfl (fun w9 F9 S9 s => R.ldB (v := .func (.func 88) #[] #[.pointer (some ⟨b, 0, none⟩)]) rfl (s.cel (by repeat (first | exact SelB.blk | exact SelB.fz | apply SelB.there))) (by rfl)) ?_
    refine SL.step rfl rfl (CS.call rfl go57 (eachBusy 88 [] [.pointer (some ⟨b, 0, none⟩)]) (by repeat (first | exact Sels.nil | apply Sels.cons | exact Sel.keep | exact Sel.here | apply Sel.there))) ?_
    rintro _ _ ⟨_, ⟨rfl, rfl⟩, rfl⟩
    refine SL.n0 ?_
    refine SL.nil ?_
    refine SN.seq ?_
    refine SG.block ?_
    refine SG.range rfl rfl go88 (vals1Busy_it b a n c (xs.map cellB) (cellR xs) hb) (X := Unit) (Y := Bool) (fun k _ => [J k, blk b4 [.int .i64 (kk - (k : Int))] 3, blk c3 [y] 128, fz b2 [.func (.func 88) #[] #[.pointer (some ⟨b, 0, none⟩)]] 79, fz b3 [.int .i64 kk] 3]) (fun k _ => (k : Int) < kk) (fun c k z => [if z then J k else Jx k, fz b2 [.func (.func 88) #[] #[.pointer (some ⟨b, 0, none⟩)]] 79, fz b3 [.int .i64 kk] 3]) (fun c k z => c = .ret ∧ k ≤ n ∧ (z = true → k = (manyB n kk)) ∧ (z = false → k ≤ (manyB n kk))) (()) ((show Imp _ _ by rw [show kk - ((0 : Nat) : Int) = kk by omega]; exact (Imp.sels (by repeat (first | exact Sels.nil | apply Sels.cons | exact Sel.keep | exact Sel.here | apply Sel.there))))) ((by show ((0 : Nat) : Int) < kk; omega)) ?_ ?_ ?_
    · rintro l k _ vs p hk hI ⟨row, hr, rfl, rfl⟩
      obtain ⟨x, hx, rfl⟩ : ∃ x, xs[k]? = some x ∧ cellB x = row := by rw [List.getElem?_map] at hr; cases hx : xs[k]? with | none => rw [hx] at hr; cases hr | some x => rw [hx] at hr; exact ⟨x, rfl, Option.some.inj hr⟩
      have hm1 : manyB n kk = min n kk.toNat := if_neg h0
      refine ⟨rfl, ?_⟩
      intro o8
      refine SG.region ?_
      refine SL.step rfl rfl (CS.alloc [.int .i64 0, .int .i64 0, .int .i64 0] rfl) ?_
      rintro _ _ ⟨b5, rfl, rfl⟩
      refine SL.step0 rfl (CS.stA (vs := cellB x) rfl rfl (by repeat (first | exact Sel.keep | exact Sel.here | apply Sel.there)) rfl (by rfl) (cellB_one x)) ?_
      rintro _ _ rfl
      refine SL.nil ?_
      refine SN.roundA (fun o9 => ?_)
      refine SG.block ?_
      refine SG.seq ?_
      refine SG.region ?_
      refine SL.val rfl rfl (fun w9 F9 S9 s => R.ldB (v := .int .i64 (kk - (k : Int))) rfl (s.cel (show SelB _ b4 [.int .i64 (kk - (k : Int))] 3 from (by repeat (first | exact SelB.blk | exact SelB.fz | apply SelB.there)))) (by rfl)) ?_
      refine SL.val rfl rfl (fun w9 F9 S9 s => R.sub' rfl rfl (by omega)) ?_
      refine SL.step0 rfl (CS.st rfl rfl (show Sel _ (blk b4 _ _) _ from (by repeat (first | exact Sel.keep | exact Sel.here | apply Sel.there))) (by repeat (first | exact SetAt.here | apply SetAt.there)) rfl) ?_
      rintro _ _ rfl
      refine SL.nil ?_
      refine SN.seq ?_
      refine SG.seq ?_
      refine SG.region ?_
      refine SL.val rfl rfl (fun w9 F9 S9 s => R.ldB (v := y) rfl (s.cel (show SelB _ c3 [y] 128 from (by repeat (first | exact SelB.blk | exact SelB.fz | apply SelB.there)))) (by rfl)) ?_
      refine SL.val rfl rfl (fun w9 F9 S9 s => R.ldBN (cs := (cellB x).toArray) rfl (s.cel (by repeat (first | exact SelB.blk | exact SelB.fz | apply SelB.there))) rfl) ?_
      refine SL.imp (Imp.pure (p := fun _ => True) (fun _ => trivial)) ?_
      refine SL.step rfl rfl (CS.yield rfl rfl (hY k _ _ (by omega) ⟨x, hx, rfl, rfl⟩) (by repeat (first | exact Sels.nil | apply Sels.cons | exact Sel.keep | exact Sel.here | apply Sel.there))) ?_
      rintro _ _ ⟨_, ⟨bq, rfl, rfl⟩, rfl⟩
      refine SL.n1 ?_
      refine SL.val rfl rfl (fun w9 F9 S9 s => R.not rfl) ?_
      refine SL.val rfl rfl (fun w9 F9 S9 s => R.mv rfl) ?_
      refine SL.caseB 18 rfl (fun hg6_4 => ?_) (fun hg6_4 => ?_)
      · obtain rfl : bq = false := by simpa using hg6_4
        refine SL.pass rfl rfl ?_
        refine SL.pass rfl rfl ?_
        first | refine SL.val rfl rfl (fun w9 F9 S9 s => R.pickT rfl rfl) ?_ | refine SL.val rfl rfl (fun w9 F9 S9 s => R.pickF rfl rfl) ?_
        refine SL.nil ?_
        refine SN.seq ?_
        refine SG.condT rfl ?_
        exact SG.retR false (Imp.sels (by repeat (first | exact Sels.nil | apply Sels.cons | exact Sel.keep | exact Sel.here | apply Sel.there))) ⟨rfl, by omega, by simp, fun _ => by omega⟩
      · obtain rfl : bq = true := by simpa using hg6_4
        refine SL.val rfl rfl (fun w9 F9 S9 s => R.ldB (v := .int .i64 (kk - (k : Int) - 1)) rfl (s.cel (show SelB _ b4 [.int .i64 (kk - (k : Int) - 1)] 3 from (by repeat (first | exact SelB.blk | exact SelB.fz | apply SelB.there)))) (by rfl)) ?_
        refine SL.val rfl rfl (fun w9 F9 S9 s => R.eqI rfl rfl) ?_
        first | refine SL.val rfl rfl (fun w9 F9 S9 s => R.pickT rfl rfl) ?_ | refine SL.val rfl rfl (fun w9 F9 S9 s => R.pickF rfl rfl) ?_
        refine SL.nil ?_
        refine SN.seq ?_
        refine SG.condP rfl (fun h1 => ?_) (fun h1 => ?_)
        · exact SG.retR true (Imp.sels (by repeat (first | exact Sels.nil | apply Sels.cons | exact Sel.keep | exact Sel.here | apply Sel.there))) ⟨rfl, by omega, fun _ => by omega, by simp⟩
        · refine SG.skip ?_
          refine SN.block ?_
          exact SN.next () (show Imp _ _ by rw [show kk - ((k + 1 : Nat) : Int) = kk - (k : Int) - 1 by omega]; exact (Imp.sels (by repeat (first | exact Sels.nil | apply Sels.cons | exact Sel.keep | exact Sel.here | apply Sel.there)))) (show ((k + 1 : Nat) : Int) < kk by omega)
    · rintro d2 _ hI
      have hm1 : manyB n kk = n := by unfold manyB; rw [if_neg h0]; omega
      refine SN.block ?_
      exact SN.end0M rfl (by repeat (first | exact Dfrs.nil | apply Dfrs.cons | exact Sel.here | apply Sel.there)) ((show Imp _ _ by rw [hm1]; exact (Imp.sels (by repeat (first | exact Sels.nil | apply Sels.cons | exact Sel.keep | exact Sel.here | apply Sel.there))))) (.inl rfl)
    · rintro d k _ z hk ⟨rfl, hkn, hz1, hz2⟩
      cases z with
      | true => rw [hz1 rfl]; exact SG.ret0M rfl (by repeat (first | exact Dfrs.nil | apply Dfrs.cons | exact Sel.here | apply Sel.there)) ((Imp.sels (by repeat (first | exact Sels.nil | apply Sels.cons | exact Sel.keep | exact Sel.here | apply Sel.there)))) (.inl rfl)
      | false => exact SG.ret0M rfl (by repeat (first | exact Dfrs.nil | apply Dfrs.cons | exact Sel.here | apply Sel.there)) ((Imp.sels (by repeat (first | exact Sels.nil | apply Sels.cons | exact Sel.keep | exact Sel.here | apply Sel.there)))) (.inr ⟨k, hz2 rfl, rfl⟩)

theorem map_ok (sv fv : Value) (hs1 : sv.oneCell' = true) (hf1 : fv.oneCell' = true) : SpecS Tryz.prog 30 [sv, fv] [] (fun v H' => ∃ b8 b9, v = .func (.func 56) #[] #[.pointer (some ⟨b9, 0, none⟩), .pointer (some ⟨b8, 0, none⟩)] ∧ H' = [fz b8 [sv] 79, fz b9 [fv] 82]) := by
  refine SpecS.enter Tryz.func30 rfl 6 rfl (Nat.le_of_ble_eq_true rfl) (fun o => ?_)
  refine SG.seq ?_
  refine SG.region ?_
  refine SL.step rfl rfl (CS.box1 rfl hs1) ?_
  rintro _ _ ⟨b2, rfl, rfl⟩
  refine SL.step rfl rfl (CS.box1 rfl hf1) ?_
  rintro _ _ ⟨b3, rfl, rfl⟩
  refine SL.val rfl rfl (fun w9 F9 S9 s => R.as rfl) ?_
  refine SL.nil ?_
  refine SN.seq ?_
  refine SG.seq ?_
  refine SG.region ?_
  refine SL.val rfl rfl (fun w9 F9 S9 s => R.mkFunc rfl rfl) ?_
  refine SL.val rfl rfl (fun w9 F9 S9 s => R.as rfl) ?_
  refine SL.nil ?_
  refine SN.imp (Imp.fz (show Sel _ (blk b2 [sv] 79) _ from (by repeat (first | exact Sel.keep | exact Sel.here | apply Sel.there)))) ?_
  refine SN.imp (Imp.fz (show Sel _ (blk b3 [fv] 82) _ from (by repeat (first | exact Sel.keep | exact Sel.here | apply Sel.there)))) ?_
  refine SN.seq ?_
  exact SG.ret1 rfl rfl ((Imp.sels (by repeat (first | exact Sels.nil | apply Sels.cons | exact Sel.keep | exact Sel.here | apply Sel.there)))) (⟨b2, b3, rfl, rfl⟩)

theorem first1_it (b2 b3 b : Nat) (kk : Int) (a : Option Addr) (n c : Nat) (l : List E3) (hl : n = l.length) (hb : n ≤ 140737488355328) (hkk : kk ≤ 9223372036854775807) : IterY Tryz.prog 58 [.pointer (some ⟨b3, 0, none⟩), .pointer (some ⟨b2, 0, none⟩)] [fz b2 [.func (.func 88) #[] #[.pointer (some ⟨b, 0, none⟩)]] 79, fz b3 [.int .i64 kk] 3, fz b [.slice a n c] 38, sh (fun w => Tab w a n 3 (l.map cellB))] (manyB n kk) (fun k vs p => ∃ x, l[k]? = some x ∧ vs = [.agg (cellB x).toArray] ∧ p = fun _ => True) := fun y J Jx hy1 hY => first1_ok y b2 b3 b kk a n c l J Jx hl hb hkk hy1 hY

theorem map1_ok (y : Value) (b8 b9 b2 b3 b : Nat) (kk : Int) (a : Option Addr) (n c : Nat) (xs : List E3) (J Jx : Nat → Asn) (hl : n = xs.length) (hb : n ≤ 140737488355328) (hkk : kk ≤ 9223372036854775807) (hy1 : y.oneCell' = true) (hY : ∀ k vs p, k < (manyB n kk) → (fun k vs p => ∃ x, xs[k]? = some x ∧ vs = [.int .i64 x.1] ∧ p = fun _ => True) k vs p → YSpec Tryz.prog y vs [sh p, J k] (fun b H' => H' = [if b then J (k + 1) else Jx (k + 1)])) : SpecS Tryz.prog 56 [y, .pointer (some ⟨b9, 0, none⟩), .pointer (some ⟨b8, 0, none⟩)] [J 0, fz b8 [.func (.func 58) #[] #[.pointer (some ⟨b3, 0, none⟩), .pointer (some ⟨b2, 0, none⟩)]] 79, fz b9 [.func (.func 33) #[] #[]] 82, fz b2 [.func (.func 88) #[] #[.pointer (some ⟨b, 0, none⟩)]] 79, fz b3 [.int .i64 kk] 3, fz b [.slice a n c] 38, sh (fun w => Tab w a n 3 (xs.map cellB))] (fun v H' => (H' = J (manyB n kk) :: [fz b8 [.func (.func 58) #[] #[.pointer (some ⟨b3, 0, none⟩), .pointer (some ⟨b2, 0, none⟩)]] 79, fz b9 [.func (.func 33) #[] #[]] 82, fz b2 [.func (.func 88) #[] #[.pointer (some ⟨b, 0, none⟩)]] 79, fz b3 [.int .i64 kk] 3, fz b [.slice a n c] 38, sh (fun w => Tab w a n 3 (xs.map cellB))] ∨ ∃ k, k ≤ (manyB n kk) ∧ H' = Jx k :: [fz b8 [.func (.func 58) #[] #[.pointer (some ⟨b3, 0, none⟩), .pointer (some ⟨b2, 0, none⟩)]] 79, fz b9 [.func (.func 33) #[] #[]] 82, fz b2 [.func (.func 88) #[] #[.pointer (some ⟨b, 0, none⟩)]] 79, fz b3 [.int .i64 kk] 3, fz b [.slice a n c] 38, sh (fun w => Tab w a n 3 (xs.map cellB))])) := by
  refine SpecS.enter Tryz.func56 rfl 16 rfl (Nat.le_of_ble_eq_true rfl) (fun o => ?_)
  refine SG.seq ?_
  refine SG.region ?_
  refine SL.step rfl rfl (CS.box1 rfl hy1) ?_
  rintro _ _ ⟨c3, rfl, rfl⟩
  refine SL.nil ?_
  refine SN.seq ?_
  refine SG.seq ?_
  refine SG.seq ?_
  refine SG.region ?_
  refine SL.val rfl rfl (fun w9 F9 S9 s => R.ldB (v := .func (.func 33) #[] #[]) rfl (s.cel (by repeat (first | exact SelB.blk | exact SelB.fz | apply SelB.there))) (by rfl)) ?_
  refine SL.val rfl rfl (fun w9 F9 S9 s => R.eqNilF Tryz.underlying82 rfl rfl) ?_
  refine SL.nil ?_
  refine SN.seq ?_
  refine SG.condF rfl ?_
  refine SG.skip ?_
  refine SN.seq ?_
  refine SG.seq ?_
  refine SG.region ?_
  refine SL.val rfl rfl (fun w9 F9 S9 s => R.ldB (v := .func (.func 58) #[] #[.pointer (some ⟨b3, 0, none⟩), .pointer (some ⟨b2, 0, none⟩)]) rfl (s.cel (by repeat (first | exact SelB.blk | exact SelB.fz | apply SelB.there))) (by rfl)) ?_
  refine SL.step rfl rfl (CS.call rfl go57 (eachBusy 58 [] [.pointer (some ⟨b3, 0, none⟩), .pointer (some ⟨b2, 0, none⟩)]) (by repeat (first | exact Sels.nil | apply Sels.cons | exact Sel.keep | exact Sel.here | apply Sel.there))) ?_
  rintro _ _ ⟨_, ⟨rfl, rfl⟩, rfl⟩
  refine SL.n0 ?_
  refine SL.nil ?_
  refine SN.seq ?_
  refine SG.block ?_
  refine SG.rangeY rfl rfl go58 (first1_it b2 b3 b kk a n c xs hl hb hkk) (X := Unit) (Y := Unit) (fun k _ => [J k, blk c3 [y] 125, fz b8 [.func (.func 58) #[] #[.pointer (some ⟨b3, 0, none⟩), .pointer (some ⟨b2, 0, none⟩)]] 79, fz b9 [.func (.func 33) #[] #[]] 82]) (fun k _ => True) (fun c k z => [Jx k, fz b8 [.func (.func 58) #[] #[.pointer (some ⟨b3, 0, none⟩), .pointer (some ⟨b2, 0, none⟩)]] 79, fz b9 [.func (.func 33) #[] #[]] 82]) (fun c k z => c = .ret ∧ k ≤ (manyB n kk)) (()) ((Imp.sels (by repeat (first | exact Sels.nil | apply Sels.cons | exact Sel.keep | exact Sel.here | apply Sel.there)))) (trivial) ?_ ?_ ?_
  · rintro l k _ vs p hk _ ⟨x, hx, rfl, rfl⟩
    refine ⟨rfl, ?_⟩
    intro o8
    refine SG.region ?_
    refine SL.step rfl rfl (CS.alloc [.int .i64 0, .int .i64 0, .int .i64 0] rfl) ?_
    rintro _ _ ⟨b4, rfl, rfl⟩
    refine SL.step0 rfl (CS.stA (vs := cellB x) rfl rfl (by repeat (first | exact Sel.keep | exact Sel.here | apply Sel.there)) rfl (by rfl) (cellB_one x)) ?_
    rintro _ _ rfl
    refine SL.nil ?_
    refine SN.roundA (fun o9 => ?_)
    refine SG.block ?_
    refine SG.seq ?_
    refine SG.draw [3, 4] [0, 1, 2, 3, 4, 5] (by decide +kernel) rfl ?_
    refine SW.read rfl rfl rfl rfl (fun w9 F9 S9 s => R.ldB (v := y) rfl (s.cel (show SelB _ c3 [y] 125 from (by repeat (first | exact SelB.blk | exact SelB.fz | apply SelB.there)))) (by rfl)) ?_
    refine SW.read rfl rfl rfl rfl (fun w9 F9 S9 s => R.ldB (v := .func (.func 33) #[] #[]) rfl (s.cel (by repeat (first | exact SelB.blk | exact SelB.fz | apply SelB.there))) (by rfl)) ?_
    refine SW.read rfl rfl rfl rfl (fun w9 F9 S9 s => R.ldBN (cs := (cellB x).toArray) rfl (s.cel (by repeat (first | exact SelB.blk | exact SelB.fz | apply SelB.there))) rfl) ?_
    refine SW.step rfl rfl rfl rfl (CS.callV rfl rfl rfl go33 (hot2_ok x) (by repeat (first | exact Sels.nil | apply Sels.cons | exact Sel.keep | exact Sel.here | apply Sel.there))) ?_
    rintro _ _ ⟨_, ⟨rfl, rfl⟩, rfl⟩
    refine ⟨⟨.inl (by decide +kernel), ⟨.inl (by decide +kernel), ⟨.inr (fun w9 F9 S9 s => R.ldB (v := y) rfl (s.cel (show SelB _ c3 [y] 125 from (by repeat (first | exact SelB.blk | exact SelB.fz | apply SelB.there)))) (by rfl)), trivial⟩⟩⟩, ?_⟩
    refine SW.n0 ?_
    refine SW.step rfl rfl rfl rfl (CS.imp (Imp.pure (p := fun _ => True) (fun _ => trivial)) (CS.yield rfl rfl (hY k _ _ (by omega) ⟨x, hx, rfl, rfl⟩) (by repeat (first | exact Sels.nil | apply Sels.cons | exact Sel.keep | exact Sel.here | apply Sel.there)))) ?_
    rintro _ _ ⟨_, ⟨bq, rfl, rfl⟩, rfl⟩
    refine ⟨⟨.inl (by decide +kernel), ⟨.inl (by decide +kernel), ⟨.inl (by decide +kernel), trivial⟩⟩⟩, ?_⟩
    refine SW.n1 ?_
    refine SW.pure rfl rfl rfl rfl (fun w9 => R.not rfl) ?_
    refine SW.nil ?_
    refine SN.seq ?_
    refine SG.condB rfl (fun h1 => ?_) (fun h1 => ?_)
    · obtain rfl : bq = false := by simpa using h1
      exact SG.retR () (Imp.sels (by repeat (first | exact Sels.nil | apply Sels.cons | exact Sel.keep | exact Sel.here | apply Sel.there))) ⟨rfl, by omega⟩
    · obtain rfl : bq = true := by simpa using h1
      refine SG.skip ?_
      refine SN.block ?_
      exact SN.next () (Imp.sels (by repeat (first | exact Sels.nil | apply Sels.cons | exact Sel.keep | exact Sel.here | apply Sel.there))) trivial
  · rintro d2 _ _
    refine SN.block ?_
    exact SN.end0M rfl (by repeat (first | exact Dfrs.nil | apply Dfrs.cons | exact Sel.here | apply Sel.there)) ((Imp.sels (by repeat (first | exact Sels.nil | apply Sels.cons | exact Sel.keep | exact Sel.here | apply Sel.there)))) (.inl rfl)
  · rintro d k _ z hk ⟨rfl, hkn⟩
    exact SG.ret0M rfl (by repeat (first | exact Dfrs.nil | apply Dfrs.cons | exact Sel.here | apply Sel.there)) ((Imp.sels (by repeat (first | exact Sels.nil | apply Sels.cons | exact Sel.keep | exact Sel.here | apply Sel.there)))) (.inr ⟨k, hkn, rfl⟩)

theorem map1_it (b8 b9 b2 b3 b : Nat) (kk : Int) (a : Option Addr) (n c : Nat) (l : List E3) (hl : n = l.length) (hb : n ≤ 140737488355328) (hkk : kk ≤ 9223372036854775807) : IterY Tryz.prog 56 [.pointer (some ⟨b9, 0, none⟩), .pointer (some ⟨b8, 0, none⟩)] [fz b8 [.func (.func 58) #[] #[.pointer (some ⟨b3, 0, none⟩), .pointer (some ⟨b2, 0, none⟩)]] 79, fz b9 [.func (.func 33) #[] #[]] 82, fz b2 [.func (.func 88) #[] #[.pointer (some ⟨b, 0, none⟩)]] 79, fz b3 [.int .i64 kk] 3, fz b [.slice a n c] 38, sh (fun w => Tab w a n 3 (l.map cellB))] (manyB n kk) (fun k vs p => ∃ x, l[k]? = some x ∧ vs = [.int .i64 x.1] ∧ p = fun _ => True) := fun y J Jx hy1 hY => map1_ok y b8 b9 b2 b3 b kk a n c l J Jx hl hb hkk hy1 hY
theorem manyB_le (n : Nat) (kk : Int) : manyB n kk ≤ n := by unfold manyB; split <;> omega
def intsB (l : List E3) : List Value := l.map fun x => .int .i64 x.1
theorem intsB_take {l : List E3} {k : Nat} {x : E3} (h : l[k]? = some x) : intsB (l.take k) ++ [.int .i64 x.1] = intsB (l.take (k + 1)) := by unfold intsB; rw [List.take_add_one, h]; simp

theorem appseq_ok (b8 b9 b2 b3 b : Nat) (kk : Int) (a : Option Addr) (n c : Nat) (xs : List E3) (hl : n = xs.length) (hb : n * 24 ≤ 140737488355328) (hkk : kk ≤ 9223372036854775807) : SpecS Tryz.prog 85 [.slice none 0 0, .func (.func 56) #[] #[.pointer (some ⟨b9, 0, none⟩), .pointer (some ⟨b8, 0, none⟩)]] [fz b8 [.func (.func 58) #[] #[.pointer (some ⟨b3, 0, none⟩), .pointer (some ⟨b2, 0, none⟩)]] 79, fz b9 [.func (.func 33) #[] #[]] 82, fz b2 [.func (.func 88) #[] #[.pointer (some ⟨b, 0, none⟩)]] 79, fz b3 [.int .i64 kk] 3, fz b [.slice a n c] 38, sh (fun w => Tab w a n 3 (xs.map cellB))] (fun v H' => ∃ a' c', v = .slice a' (manyB n kk) c' ∧ H' = [own 3 1 a' ((manyB n kk)) c' (intsB (xs.take (manyB n kk)))]) := by
  refine SpecS.enter Tryz.func85 rfl 13 rfl (Nat.le_of_ble_eq_true rfl) (fun o => ?_)
  refine SG.seq ?_
  refine SG.region ?_
  refine SL.step rfl rfl (CS.box1 rfl rfl) ?_
  rintro _ _ ⟨c2, rfl, rfl⟩
  refine SL.val rfl rfl (fun w9 F9 S9 s => R.as rfl) ?_
  refine SL.nil ?_
  refine SN.seq ?_
  refine SG.seq ?_
  refine SG.seq ?_
  refine SG.region ?_
  refine SL.val rfl rfl (fun w9 F9 S9 s => R.mv rfl) ?_
  refine SL.nil ?_
  refine SN.seq ?_
  refine SG.block ?_
  refine SG.rangeY rfl rfl go56 (map1_it b8 b9 b2 b3 b kk a n c xs hl (by omega) hkk) (X := Option Addr × Nat) (Y := Unit) (fun k y => [blk c2 [.slice y.1 k y.2] 40, own 3 1 y.1 (k) y.2 (intsB (xs.take k))]) (fun k y => True) (fun c k _ => []) (fun c k _ => False) ((none, 0)) (((Imp.ownNil 3 1).trans (Imp.sels (by repeat (first | exact Sels.nil | apply Sels.cons | exact Sel.keep | exact Sel.here | apply Sel.there))))) (trivial) ?_ ?_ ?_
  · rintro l k ⟨a9, c9⟩ vs p hk _ ⟨x, hx, rfl, rfl⟩
    have hmb := manyB_le n kk
    refine ⟨rfl, ?_⟩
    intro o8
    refine SG.region ?_
    refine SL.val rfl rfl (fun w9 F9 S9 s => R.as rfl) ?_
    refine SL.nil ?_
    refine SN.roundA (fun o9 => ?_)
    refine SG.block ?_
    refine SG.region ?_
    refine SL.val rfl rfl (fun w9 F9 S9 s => R.ldB (v := .slice a9 k c9) rfl (s.cel (show SelB _ c2 _ _ from (by repeat (first | exact SelB.blk | exact SelB.fz | apply SelB.there)))) (by rfl)) ?_
    refine SL.val rfl rfl (fun w9 F9 S9 s => R.mv rfl) ?_
    refine SL.step rfl rfl (CS.buildA rfl rfl rfl rfl rfl [.int .i64 x.1] rfl) ?_
    rintro _ _ ⟨b10, rfl, rfl⟩
    refine SL.step rfl rfl (CS.app rfl rfl (show Sel _ (own 3 1 a9 (k) c9 (intsB (xs.take k))) _ from (by repeat (first | exact Sel.keep | exact Sel.here | apply Sel.there))) (fun w9 F9 S9 s => s.blkC (show Sel _ (blk b10 [.int .i64 x.1] _) _ from (by repeat (first | exact Sel.keep | exact Sel.here | apply Sel.there)))) rfl (by intro u hu; rw [List.mem_singleton.1 hu]; rfl) (by simp [maxLen]; omega) (by omega)) ?_
    rintro _ _ ⟨a11, c11, rfl, rfl⟩
    refine SL.step0 rfl (CS.st rfl rfl (show Sel _ (blk c2 _ _) _ from (by repeat (first | exact Sel.keep | exact Sel.here | apply Sel.there))) (by repeat (first | exact SetAt.here | apply SetAt.there)) rfl) ?_
    rintro _ _ rfl
    refine SL.nil ?_
    refine SN.block ?_
    exact SN.next ((a11, c11)) ((show Imp _ _ by dsimp only; rw [← intsB_take hx]; exact (Imp.sels (by repeat (first | exact Sels.nil | apply Sels.cons | exact Sel.keep | exact Sel.here | apply Sel.there))))) (trivial)
  · rintro d2 ⟨a9, c9⟩ _
    refine SN.block ?_
    refine SN.seq ?_
    refine SG.seq ?_
    refine SG.region ?_
    refine SL.val rfl rfl (fun w9 F9 S9 s => R.ldB (v := .slice a9 (manyB n kk) c9) rfl (s.cel (show SelB _ c2 _ _ from (by repeat (first | exact SelB.blk | exact SelB.fz | apply SelB.there)))) (by rfl)) ?_
    refine SL.val rfl rfl (fun w9 F9 S9 s => R.as rfl) ?_
    refine SL.nil ?_
    refine SN.seq ?_
    exact SG.ret1M rfl rfl (by repeat (first | exact Dfrs.nil | apply Dfrs.cons | exact Sel.here | apply Sel.there)) ((Imp.sels (by repeat (first | exact Sels.nil | apply Sels.cons | exact Sel.keep | exact Sel.here | apply Sel.there)))) (⟨a9, c9, rfl, rfl⟩)
  · rintro d k c _ hk ⟨⟩

theorem collect_ok (b8 b9 b2 b3 b : Nat) (kk : Int) (a : Option Addr) (n c : Nat) (xs : List E3) (hl : n = xs.length) (hb : n * 24 ≤ 140737488355328) (hkk : kk ≤ 9223372036854775807) : SpecS Tryz.prog 54 [.func (.func 56) #[] #[.pointer (some ⟨b9, 0, none⟩), .pointer (some ⟨b8, 0, none⟩)]] [fz b8 [.func (.func 58) #[] #[.pointer (some ⟨b3, 0, none⟩), .pointer (some ⟨b2, 0, none⟩)]] 79, fz b9 [.func (.func 33) #[] #[]] 82, fz b2 [.func (.func 88) #[] #[.pointer (some ⟨b, 0, none⟩)]] 79, fz b3 [.int .i64 kk] 3, fz b [.slice a n c] 38, sh (fun w => Tab w a n 3 (xs.map cellB))] (fun v H' => ∃ a' c', v = .slice a' (manyB n kk) c' ∧ H' = [own 3 1 a' ((manyB n kk)) c' (intsB (xs.take (manyB n kk)))]) := by
  refine SpecS.enter Tryz.func54 rfl 5 rfl (Nat.le_of_ble_eq_true rfl) (fun o => ?_)
  refine SG.seq ?_
  refine SG.region ?_
  refine SL.val rfl rfl (fun w9 F9 S9 s => R.as rfl) ?_
  refine SL.nil ?_
  refine SN.seq ?_
  refine SG.seq ?_
  refine SG.region ?_
  refine SL.val rfl rfl (fun w9 F9 S9 s => R.mv rfl) ?_
  refine SL.step rfl rfl (CS.call rfl go85 (appseq_ok b8 b9 b2 b3 b kk a n c xs hl hb hkk) (by repeat (first | exact Sels.nil | apply Sels.cons | exact Sel.keep | exact Sel.here | apply Sel.there))) ?_
  rintro _ _ ⟨_, ⟨a9, c9, rfl, rfl⟩, rfl⟩
  refine SL.n1 ?_
  refine SL.val rfl rfl (fun w9 F9 S9 s => R.as rfl) ?_
  refine SL.nil ?_
  refine SN.seq ?_
  exact SG.ret1 rfl rfl ((Imp.sels (by repeat (first | exact Sels.nil | apply Sels.cons | exact Sel.keep | exact Sel.here | apply Sel.there)))) (⟨a9, c9, rfl, rfl⟩)

theorem eachI (f : Nat) (us vs : List Value) : SpecS Tryz.prog 55 [.func (.func f) us.toArray vs.toArray] [] (fun v H' => v = .func (.func f) us.toArray vs.toArray ∧ H' = []) := by
  refine SpecS.enter Tryz.func55 rfl 6 rfl (Nat.le_of_ble_eq_true rfl) (fun o => ?_)
  refine SG.seq ?_
  refine SG.region ?_
  refine SL.val rfl rfl (fun w9 F9 S9 s => R.as rfl) ?_
  refine SL.nil ?_
  refine SN.seq ?_
  refine SG.seq ?_
  refine SG.seq ?_
  refine SG.region ?_
  refine SL.val rfl rfl (fun w9 F9 S9 s => R.mv rfl) ?_
  refine SL.val rfl rfl (fun w9 F9 S9 s => R.eqNilF Tryz.underlying76 rfl rfl) ?_
  refine SL.nil ?_
  refine SN.seq ?_
  refine SG.condF rfl ?_
  refine SG.skip ?_
  refine SN.seq ?_
  refine SG.seq ?_
  refine SG.region ?_
  refine SL.val rfl rfl (fun w9 F9 S9 s => R.mv rfl) ?_
  refine SL.val rfl rfl (fun w9 F9 S9 s => R.as rfl) ?_
  refine SL.nil ?_
  refine SN.seq ?_
  exact SG.ret1 rfl rfl ((Imp.sels (by repeat (first | exact Sels.nil | apply Sels.cons | exact Sel.keep | exact Sel.here | apply Sel.there)))) (⟨rfl, rfl⟩)

theorem list_ok (b8 b9 b2 b3 b : Nat) (kk : Int) (a : Option Addr) (n c : Nat) (xs : List E3) (hl : n = xs.length) (hb : n * 24 ≤ 140737488355328) (hkk : kk ≤ 9223372036854775807) : SpecS Tryz.prog 29 [.func (.func 56) #[] #[.pointer (some ⟨b9, 0, none⟩), .pointer (some ⟨b8, 0, none⟩)]] [fz b8 [.func (.func 58) #[] #[.pointer (some ⟨b3, 0, none⟩), .pointer (some ⟨b2, 0, none⟩)]] 79, fz b9 [.func (.func 33) #[] #[]] 82, fz b2 [.func (.func 88) #[] #[.pointer (some ⟨b, 0, none⟩)]] 79, fz b3 [.int .i64 kk] 3, fz b [.slice a n c] 38, sh (fun w => Tab w a n 3 (xs.map cellB))] (fun v H' => ∃ a' c', v = .slice a' (manyB n kk) c' ∧ H' = [own 3 1 a' ((manyB n kk)) c' (intsB (xs.take (manyB n kk)))]) := by
  refine SpecS.enter Tryz.func29 rfl 6 rfl (Nat.le_of_ble_eq_true rfl) (fun o => ?_)
  refine SG.seq ?_
  refine SG.region ?_
  refine SL.val rfl rfl (fun w9 F9 S9 s => R.as rfl) ?_
  refine SL.nil ?_
  refine SN.seq ?_
  refine SG.seq ?_
  refine SG.region ?_
  refine SL.val rfl rfl (fun w9 F9 S9 s => R.mv rfl) ?_
  refine SL.step rfl rfl (CS.call rfl go55 (eachI 56 [] [.pointer (some ⟨b9, 0, none⟩), .pointer (some ⟨b8, 0, none⟩)]) (by repeat (first | exact Sels.nil | apply Sels.cons | exact Sel.keep | exact Sel.here | apply Sel.there))) ?_
  rintro _ _ ⟨_, ⟨rfl, rfl⟩, rfl⟩
  refine SL.n0 ?_
  refine SL.step rfl rfl (CS.call rfl go54 (collect_ok b8 b9 b2 b3 b kk a n c xs hl hb hkk) (by repeat (first | exact Sels.nil | apply Sels.cons | exact Sel.keep | exact Sel.here | apply Sel.there))) ?_
  rintro _ _ ⟨_, ⟨a9, c9, rfl, rfl⟩, rfl⟩
  refine SL.n1 ?_
  refine SL.val rfl rfl (fun w9 F9 S9 s => R.as rfl) ?_
  refine SL.nil ?_
  refine SN.seq ?_
  exact SG.ret1 rfl rfl ((Imp.sels (by repeat (first | exact Sels.nil | apply Sels.cons | exact Sel.keep | exact Sel.here | apply Sel.there)))) (⟨a9, c9, rfl, rfl⟩)

end Go.Proofs.YtlhkpakbenghgaaGreat
/-
  The walks of package stats.
-/
set_option linter.unusedVariables false
set_option linter.unusedSimpArgs false
set_option maxRecDepth 4000
namespace Go.Proofs.YtlhkpakbenghgaaGreat
open Go Brv Brv.Stats
theorem hot_ok (a : Option Addr) (n c : Nat) (its : List RecV) (kk : Int) (hb : n * 48 ≤ 140737488355328) (hw : wsL its ≤ 900000) (hkk : kk ≤ 9223372036854775807) : SpecS Tryz.prog 9 [.slice a n c, .int .i64 kk] [sh (fun w => RecsOk w a n its)] (fun v H' => ∃ ys a' c', v = .slice a' (manyB (bzT its).length kk) c' ∧ Part (bzT its) ys 0 (bzT its).length ∧ H' = [own 3 1 a' (manyB (bzT its).length kk) c' (intsB (ys.take (manyB (bzT its).length kk)))]) := by
  refine SpecS.enter Tryz.func9 rfl 16 rfl (Nat.le_of_ble_eq_true rfl) (fun o => ?_)
  have hbl : (bzT its).length ≤ wsL its := Nat.le_trans (bzL_len _) (wsK_le its _)
  refine SG.seq ?_
  refine SG.region ?_
  refine SL.val rfl rfl (fun w9 F9 S9 s => R.as rfl) ?_
  refine SL.nil ?_
  refine SN.seq ?_
  refine SG.seq ?_
  refine SG.region ?_
  refine SL.val rfl rfl (fun w9 F9 S9 s => R.mv rfl) ?_
  refine SL.step rfl rfl (CS.call rfl go7 (Blocks_ok a n c its (by omega) hw) (by repeat (first | exact Sels.nil | apply Sels.cons | exact Sel.keep | exact Sel.here | apply Sel.there))) ?_
  rintro _ _ ⟨_, ⟨a7, c7, rfl, rfl⟩, rfl⟩
  refine SL.n1 ?_
  refine SL.val rfl rfl (fun w9 F9 S9 s => R.as rfl) ?_
  refine SL.nil ?_
  refine SN.seq ?_
  refine SG.seq ?_
  refine SG.region ?_
  refine SL.val rfl rfl (fun w9 F9 S9 s => R.mv rfl) ?_
  refine SL.step rfl rfl (CS.call rfl go26 (sort_ok a7 (bzT its).length c7 (bzT its) (by omega)) (by repeat (first | exact Sels.nil | apply Sels.cons | exact Sel.keep | exact Sel.here | apply Sel.there))) ?_
  rintro _ _ ⟨_, ⟨ys, rfl, hys, rfl, rfl⟩, rfl⟩
  refine SL.n1 ?_
  refine SL.nil ?_
  have hyl := hys.len
  refine SN.imp (Imp.ownSh (show Sel _ (own 45 3 a7 (bzT its).length c7 (List.map cellB ys).flatten) _ from (by repeat (first | exact Sel.keep | exact Sel.here | apply Sel.there))) (p := fun w => Tab w a7 (bzT its).length 3 (ys.map cellB)) (fun w h => tab_ownR h (by rw [List.length_map, hyl]) (cellR ys))) ?_
  refine SN.seq ?_
  refine SG.seq ?_
  refine SG.region ?_
  refine SL.val rfl rfl (fun w9 F9 S9 s => R.mv rfl) ?_
  refine SL.step rfl rfl (CS.call rfl go32 (ofBusy a7 (bzT its).length c7 (ys.map cellB) (cellR ys) (by omega)) (by repeat (first | exact Sels.nil | apply Sels.cons | exact Sel.keep | exact Sel.here | apply Sel.there))) ?_
  rintro _ _ ⟨_, ⟨b1, a1, c1, rfl, rfl⟩, rfl⟩
  refine SL.n2 ?_
  refine SL.val rfl rfl (fun w9 F9 S9 s => R.mv rfl) ?_
  refine SL.step rfl rfl (CS.call rfl go31 (first_ok _ kk rfl) (by repeat (first | exact Sels.nil | apply Sels.cons | exact Sel.keep | exact Sel.here | apply Sel.there))) ?_
  rintro _ _ ⟨_, ⟨b2, b3, rfl, rfl⟩, rfl⟩
  refine SL.n2 ?_
  refine SL.step rfl rfl (CS.call rfl go30 (map_ok _ _ rfl rfl) (by repeat (first | exact Sels.nil | apply Sels.cons | exact Sel.keep | exact Sel.here | apply Sel.there))) ?_
  rintro _ _ ⟨_, ⟨b8, b9, rfl, rfl⟩, rfl⟩
  refine SL.n2 ?_
  refine SL.step rfl rfl (CS.call rfl go29 (list_ok b8 b9 b2 b3 b1 kk a1 (bzT its).length c1 ys hyl.symm (by omega) hkk) (by repeat (first | exact Sels.nil | apply Sels.cons | exact Sel.keep | exact Sel.here | apply Sel.there))) ?_
  rintro _ _ ⟨_, ⟨a9, c9, rfl, rfl⟩, rfl⟩
  refine SL.n1 ?_
  refine SL.val rfl rfl (fun w9 F9 S9 s => R.as rfl) ?_
  refine SL.nil ?_
  refine SN.seq ?_
  exact SG.ret1 rfl rfl ((Imp.sels (by repeat (first | exact Sels.nil | apply Sels.cons | exact Sel.keep | exact Sel.here | apply Sel.there)))) (⟨ys, a9, c9, rfl, hys, rfl⟩)

end Go.Proofs.YtlhkpakbenghgaaGreat
/-
  The walks of package stats.
-/
set_option linter.unusedVariables false
set_option linter.unusedSimpArgs false
set_option maxRecDepth 4000
namespace Go.Proofs.YtlhkpakbenghgaaGreat
open Go Brv Brv.Stats
def flg (T ys : List E3) (k : Nat) : List Value := T.map fun p => .bool (decide (p ∈ ys.take k))
theorem madeCells_bools (m : Nat) : (madeCells (Value.bool false).cells m).toList = List.replicate m (.bool false) := by
  refine List.ext_getElem (by simp [madeCells, Value.cells]) (fun i h1 h2 => ?_)
  simp [madeCells, Value.cells, Nat.mod_one]
theorem flg_zero (T ys : List E3) : flg T ys 0 = List.replicate T.length (.bool false) := by
  unfold flg
  exact List.eq_replicate_iff.2 ⟨by rw [List.length_map], fun b hb => by obtain ⟨x, _, rfl⟩ := List.mem_map.1 hb; simp⟩
theorem flg_len (T ys : List E3) (k : Nat) : (flg T ys k).length = T.length := by simp [flg]
theorem flg_at {T ys : List E3} {k i : Nat} {x : E3} (h : T[i]? = some x) : (flg T ys k)[i]? = some (.bool (decide (x ∈ ys.take k))) := by unfold flg; rw [List.getElem?_map, h]; rfl
theorem nd_inj {L : List E3} (hL : L.Nodup) {a b : Nat} {y : E3} (ha : L[a]? = some y) (hb : L[b]? = some y) : a = b := by
  obtain ⟨ha1, ha2⟩ := List.getElem?_eq_some_iff.1 ha
  obtain ⟨hb1, hb2⟩ := List.getElem?_eq_some_iff.1 hb
  rcases Nat.lt_trichotomy a b with h | h | h
  · exact absurd (ha2.trans hb2.symm) (List.pairwise_iff_getElem.1 hL a b ha1 hb1 h)
  · exact h
  · exact absurd (hb2.trans ha2.symm) (List.pairwise_iff_getElem.1 hL b a hb1 ha1 h)
theorem flg_set {T ys : List E3} {k j : Nat} {z : E3} (hn : T.Nodup) (hz : T[j]? = some z) (hk : ys[k]? = some z) : (flg T ys k).set j (.bool true) = flg T ys (k + 1) := by
  refine List.ext_getElem? fun i => ?_
  rw [List.getElem?_set]
  cases hx : T[i]? with
  | none =>
    have h1 : (flg T ys k)[i]? = none := by unfold flg; rw [List.getElem?_map, hx]; rfl
    have h2 : (flg T ys (k + 1))[i]? = none := by unfold flg; rw [List.getElem?_map, hx]; rfl
    rw [h1, h2]
    split
    · rename_i e; subst e; rw [hz] at hx; cases hx
    · rfl
  | some x =>
    rw [flg_at hx, flg_at hx]
    split
    · rename_i e
      subst e
      rw [hz] at hx; cases hx
      rw [if_pos (by rw [flg_len]; exact (List.getElem?_eq_some_iff.1 hz).1), show decide (z ∈ ys.take (k + 1)) = true from decide_eq_true (by rw [List.take_add_one, hk]; simp)]
    · rename_i e
      congr 2
      have hne : x ≠ z := fun e2 => e (nd_inj hn hz (by rw [e2] at hx; exact hx))
      rw [List.take_add_one, hk]
      simp [hne]
theorem srt_nodup {T : List E3} (h : Srt T) : T.Nodup := h.imp fun h e => by rw [e] at h; omega
theorem stb_nodup {T ys : List E3} (h : Stb T ys) (hn : T.Nodup) : ys.Nodup := by
  refine List.pairwise_iff_getElem.2 fun a b ha hb hab e => ?_
  have ey : ys = ys.take a ++ ys[a] :: ys.drop (a + 1) := by
    conv => lhs; rw [← List.take_append_drop a ys, List.drop_eq_getElem_cons ha]
  have hm : ys[a] ∈ ys.drop (a + 1) := by
    refine List.mem_iff_getElem?.2 ⟨b - (a + 1), ?_⟩
    rw [List.getElem?_drop, show a + 1 + (b - (a + 1)) = b by omega, List.getElem?_eq_getElem hb, e]
  have hf := h (ys[a]).2.1
  have hT : (T.filter (fun y => decide (y.2.1 = (ys[a]).2.1))).Nodup := List.Nodup.sublist (List.filter_sublist) hn
  rw [hf] at hT
  generalize ys[a] = x at ey hm hT
  rw [ey, List.filter_append, List.filter_cons_of_pos (by simp)] at hT
  exact (List.pairwise_cons.1 (List.pairwise_append.1 hT).2.1).1 x (List.mem_filter.2 ⟨hm, by simp⟩) rfl
def Pk (T ys : List E3) (k i : Nat) (o : Option Nat) : Prop := (o = none ∧ ∀ (j : Nat) (w : E3), j < i → T[j]? = some w → w ∈ ys.take k) ∨ ∃ (j : Nat) (z : E3), o = some j ∧ j < i ∧ T[j]? = some z ∧ z ∉ ys.take k ∧ (∀ (j' : Nat) (w : E3), j' < i → T[j']? = some w → w ∉ ys.take k → bf w z = false) ∧ (∀ (j' : Nat) (w : E3), j' < j → T[j']? = some w → w ∉ ys.take k → bf z w = true)
theorem Pk.nil (T ys : List E3) (k : Nat) : Pk T ys k 0 none := .inl ⟨rfl, fun j w h => absurd h (Nat.not_lt_zero _)⟩
theorem Pk.skip {T ys : List E3} {k i : Nat} {o : Option Nat} {x : E3} (h : Pk T ys k i o) (hx : T[i]? = some x) (hm : x ∈ ys.take k) : Pk T ys k (i + 1) o := by
  rcases h with ⟨rfl, h⟩ | ⟨j, z, rfl, h1, h2, h3, h4, h5⟩
  · refine .inl ⟨rfl, fun j w hj hw => ?_⟩
    rcases Nat.lt_succ_iff_lt_or_eq.1 hj with hj | rfl
    · exact h j w hj hw
    · rw [hx] at hw; cases hw; exact hm
  · refine .inr ⟨j, z, rfl, by omega, h2, h3, fun j' w hj hw hn => ?_, h5⟩
    rcases Nat.lt_succ_iff_lt_or_eq.1 hj with hj | rfl
    · exact h4 j' w hj hw hn
    · rw [hx] at hw; cases hw; exact absurd hm hn
theorem Pk.first {T ys : List E3} {k i : Nat} {x : E3} (h : Pk T ys k i none) (hx : T[i]? = some x) (hm : x ∉ ys.take k) : Pk T ys k (i + 1) (some i) := by
  rcases h with ⟨_, h⟩ | ⟨j, z, h0, _⟩
  · refine .inr ⟨i, x, rfl, by omega, hx, hm, fun j' w hj hw hn => ?_, fun j' w hj hw hn => absurd (h j' w hj hw) hn⟩
    rcases Nat.lt_succ_iff_lt_or_eq.1 hj with hj | rfl
    · exact absurd (h j' w hj hw) hn
    · rw [hx] at hw; cases hw; unfold bf; simp
  · cases h0
theorem Pk.more {T ys : List E3} {k i j : Nat} {x z : E3} (h : Pk T ys k i (some j)) (hz : T[j]? = some z) (hx : T[i]? = some x) (hm : x ∉ ys.take k) (hb : z.2.1 < x.2.1) : Pk T ys k (i + 1) (some i) := by
  rcases h with ⟨h0, _⟩ | ⟨j1, z1, h0, h1, h2, h3, h4, h5⟩
  · cases h0
  · cases h0
    rw [hz] at h2; cases h2
    refine .inr ⟨i, x, rfl, by omega, hx, hm, fun j' w hj hw hn => ?_, fun j' w hj hw hn => ?_⟩
    · rcases Nat.lt_succ_iff_lt_or_eq.1 hj with hj | rfl
      · have := h4 j' w hj hw hn
        unfold bf at *; simp only [decide_eq_false_iff_not] at *; omega
      · rw [hx] at hw; cases hw; unfold bf; simp
    · have := h4 j' w hj hw hn
      unfold bf at *; simp only [decide_eq_false_iff_not, decide_eq_true_eq] at *; omega
theorem Pk.less {T ys : List E3} {k i j : Nat} {x z : E3} (h : Pk T ys k i (some j)) (hz : T[j]? = some z) (hx : T[i]? = some x) (hb : ¬ z.2.1 < x.2.1) : Pk T ys k (i + 1) (some j) := by
  rcases h with ⟨h0, _⟩ | ⟨j1, z1, h0, h1, h2, h3, h4, h5⟩
  · cases h0
  · cases h0
    rw [hz] at h2; cases h2
    refine .inr ⟨j, z, rfl, by omega, hz, h3, fun j' w hj hw hn => ?_, h5⟩
    rcases Nat.lt_succ_iff_lt_or_eq.1 hj with hj | rfl
    · exact h4 j' w hj hw hn
    · rw [hx] at hw; cases hw; unfold bf; simp only [decide_eq_false_iff_not]; exact hb
def pkB (T ys : List E3) (k : Nat) (o : Option Nat) (x : E3) : Bool := !decide (x ∈ ys.take k) && (match o with
  | none => true
  | some j => match T[j]? with
    | some z => decide (z.2.1 < x.2.1)
    | none => true)
theorem Pk.yes {T ys : List E3} {k i : Nat} {o : Option Nat} {x : E3} (h : Pk T ys k i o) (hx : T[i]? = some x) (hb : pkB T ys k o x = true) : Pk T ys k (i + 1) (some i) := by
  unfold pkB at hb
  rw [Bool.and_eq_true] at hb
  have hm : x ∉ ys.take k := by simpa using hb.1
  cases o with
  | none => exact h.first hx hm
  | some j =>
    cases hz : T[j]? with
    | none => rcases h with ⟨h0, _⟩ | ⟨j1, z1, h0, h1, h2, _⟩ <;> cases h0; rw [hz] at h2; cases h2
    | some z => exact h.more hz hx hm (by have h9 := hb.2; simp only [hz] at h9; exact of_decide_eq_true h9)
theorem Pk.no {T ys : List E3} {k i : Nat} {o : Option Nat} {x : E3} (h : Pk T ys k i o) (hx : T[i]? = some x) (hb : pkB T ys k o x = false) : Pk T ys k (i + 1) o := by
  by_cases hm : x ∈ ys.take k
  · exact h.skip hx hm
  · unfold pkB at hb
    rw [decide_eq_false hm] at hb
    cases o with
    | none => cases hb
    | some j =>
      cases hz : T[j]? with
      | none => simp [hz] at hb
      | some z => simp only [hz, Bool.not_false, Bool.true_and] at hb; exact h.less hz hx (of_decide_eq_false hb)
theorem Pk.last {T ys : List E3} {k : Nat} {o : Option Nat} (h : Pk T ys k T.length o) (hn : T.Nodup) (hst : Stb T ys) (hd : Down ys) (hk : k < ys.length) : ∃ j z, o = some j ∧ T[j]? = some z ∧ ys[k]? = some z := by
  obtain ⟨x, hx⟩ : ∃ x, ys[k]? = some x := ⟨_, List.getElem?_eq_getElem hk⟩
  have hny := stb_nodup hst hn
  have hxk : x ∉ ys.take k := by
    intro h
    obtain ⟨a, ha⟩ := List.getElem?_of_mem h
    have hak : a < k := by have := (List.getElem?_eq_some_iff.1 ha).1; rw [List.length_take] at this; omega
    rw [List.getElem?_take_of_lt hak] at ha
    have := nd_inj hny ha hx; omega
  rcases h with ⟨rfl, h⟩ | ⟨j, z, rfl, h1, h2, h3, h4, h5⟩
  · obtain ⟨j, hj⟩ := List.getElem?_of_mem (hst.symm.mem (List.mem_of_getElem? hx))
    exact absurd (h j x (List.getElem?_eq_some_iff.1 hj).1 hj) hxk
  · have := pick_next hst hd hn hx h2 h3 (fun j' w hw hn => h4 j' w (List.getElem?_eq_some_iff.1 hw).1 hw hn) h5 hny
    exact ⟨j, z, rfl, h2, by rw [this]; exact hx⟩
theorem cell_lit {w : World} {g i : Nat} {v : Value} (h : w.cell? ((⟨g, 0, none⟩ : Addr).add i) = some v) : w.cell? ⟨g, i, none⟩ = some v := by
  rw [Go.Addr.add_lit, Nat.zero_add] at h; exact h
theorem manyB_lt {n k : Nat} {kk : Int} (h1 : (k : Int) < kk) (h2 : k < n) : k + 1 ≤ manyB n kk := by
  unfold manyB
  rw [if_neg (by omega)]; omega
theorem manyB_eq {n k : Nat} {kk : Int} (h : k ≤ manyB n kk) (h2 : ¬ (k : Int) < kk ∨ ¬ k < n) : k = manyB n kk := by
  unfold manyB at *
  split at h
  · rename_i h1; rw [if_pos h1]; omega
  · rename_i h1; rw [if_neg h1]; omega
def bI : Option Nat → Int
  | none => -1
  | some j => (j : Int)

set_option maxHeartbeats 1000000 in
theorem rHot_ok (a : Option Addr) (n c : Nat) (its : List RecV) (kk : Int) (ys : List E3) (hys : Part (bzT its) ys 0 (bzT its).length) (hb : n * 48 ≤ 140737488355328) (hws : wsL its ≤ 900000) (hkk : kk ≤ 9223372036854775807) : SpecS Tryz.prog 10 [.slice a n c, .int .i64 kk] [sh (fun w => RecsOk w a n its)] (fun v H' => ∃ a' c', v = .slice a' (manyB (bzT its).length kk) c' ∧ H' = [own 3 1 a' (manyB (bzT its).length kk) c' (intsB (ys.take (manyB (bzT its).length kk)))]) := by
  refine SpecS.enter Tryz.func10 rfl 67 rfl (Nat.le_of_ble_eq_true rfl) (fun o => ?_)
  have hul := bzT_len its
  have hyl := hys.len
  obtain ⟨hst, hdn⟩ : Stb (bzT its) ys ∧ Down ys := by
    refine ⟨hys.stb, ?_⟩
    have := hys.mid
    unfold seg at this
    rw [List.drop_zero, List.take_of_length_le (by omega)] at this
    exact this
  have hnd := srt_nodup (bzT_srt its)
  refine SG.seq ?_
  refine SG.region ?_
  refine SL.val rfl rfl (fun w9 F9 S9 s => R.as rfl) ?_
  refine SL.nil ?_
  refine SN.seq ?_
  refine SG.seq ?_
  refine SG.region ?_
  refine SL.val rfl rfl (fun w9 F9 S9 s => R.mv rfl) ?_
  refine SL.step rfl rfl (CS.call rfl go8 (rBlocks_ok a n c its hb hws) (by repeat (first | exact Sels.nil | apply Sels.cons | exact Sel.keep | exact Sel.here | apply Sel.there))) ?_
  rintro _ _ ⟨_, ⟨a5, c5, rfl, rfl⟩, rfl⟩
  refine SL.n1 ?_
  refine SL.val rfl rfl (fun w9 F9 S9 s => R.as rfl) ?_
  refine SL.nil ?_
  refine SN.seq ?_
  refine SG.seq ?_
  refine SG.region ?_
  refine SL.val rfl rfl (fun w9 F9 S9 s => R.as rfl) ?_
  refine SL.nil ?_
  refine SN.seq ?_
  refine SG.seq ?_
  refine SG.region ?_
  refine SL.val rfl rfl (fun w9 F9 S9 s => R.mv rfl) ?_
  refine SL.val rfl rfl (fun w9 F9 S9 s => R.lenS rfl) ?_
  refine SL.step rfl rfl (CS.make rfl rfl (by omega) (Int.le_refl _) (by omega) (by omega) (flg (bzT its) ys 0) (by rw [Int.toNat_natCast, Nat.mul_one, flg_zero]; exact madeCells_bools _)) ?_
  rintro _ _ ⟨b15, rfl, rfl⟩
  refine SL.val rfl rfl (fun w9 F9 S9 s => R.as rfl) ?_
  refine SL.nil ?_
  refine SN.imp (Imp.ownBlk (size := 1) (k := (bzT its).length) (show Sel _ (blk b15 _ _) _ from (by repeat (first | exact Sel.keep | exact Sel.here | apply Sel.there))) (by rw [flg_len, Nat.mul_one]) (by unfold maxLen; omega)) ?_
  refine SN.seq ?_
  refine SG.seq ?_
  refine SG.block ?_
  refine SG.loop (X := Nat × Option Addr × Nat) (fun y => [(0, .slice a n c), (1, .int .i64 kk), (5, .slice a5 (bzT its).length c5), (6, .slice y.2.1 y.1 y.2.2), (7, .slice (some ⟨b15, 0, none⟩) (bzT its).length (bzT its).length)]) (fun y => [own 45 3 a5 ((bzT its).length) c5 (bCells (bzT its)).flatten, own 3 1 y.2.1 (y.1) y.2.2 (intsB (ys.take y.1)), own 4 1 (some ⟨b15, 0, none⟩) ((bzT its).length) ((bzT its).length) (flg (bzT its) ys y.1), sh (fun w => RecsOk w a n its)]) (fun y => y.1 ≤ manyB (bzT its).length kk) (fun y => (bzT its).length - y.1) ((0, none, 0)) (Sub.cons rfl (Sub.cons rfl (Sub.cons rfl (Sub.cons rfl (Sub.cons rfl (Sub.nil _)))))) (((Imp.ownNil 3 1).trans (Imp.sels (by repeat (first | exact Sels.nil | apply Sels.cons | exact Sel.keep | exact Sel.here | apply Sel.there))))) (Nat.zero_le _) ?_
  rintro ⟨k, a9, c9⟩ hk
  dsimp only at hk
  have hmb := manyB_le (bzT its).length kk
  show SG _ _ _ _ _ [(0, .slice a n c), (1, .int .i64 kk), (5, .slice a5 (bzT its).length c5), (6, .slice a9 k c9), (7, .slice (some ⟨b15, 0, none⟩) (bzT its).length (bzT its).length)] [own 45 3 a5 ((bzT its).length) c5 (bCells (bzT its)).flatten, own 3 1 a9 (k) c9 (intsB (ys.take k)), own 4 1 (some ⟨b15, 0, none⟩) ((bzT its).length) ((bzT its).length) (flg (bzT its) ys k), sh (fun w => RecsOk w a n its)] _
  refine SG.seq ?_
  refine SG.seq ?_
  refine SG.region ?_
  refine SL.val rfl rfl (fun w9 F9 S9 s => R.mv rfl) ?_
  refine SL.val rfl rfl (fun w9 F9 S9 s => R.lenS rfl) ?_
  refine SL.val rfl rfl (fun w9 F9 S9 s => R.mv rfl) ?_
  refine SL.val rfl rfl (fun w9 F9 S9 s => R.lss rfl rfl) ?_
  refine SL.val rfl rfl (fun w9 F9 S9 s => R.mv rfl) ?_
  refine SL.caseP 20 rfl (fun hg4_4 => ?_) (fun hg4_4 => ?_)
  · refine SL.val rfl rfl (fun w9 F9 S9 s => R.mv rfl) ?_
    refine SL.val rfl rfl (fun w9 F9 S9 s => R.lenS rfl) ?_
    refine SL.val rfl rfl (fun w9 F9 S9 s => R.mv rfl) ?_
    refine SL.val rfl rfl (fun w9 F9 S9 s => R.lenS rfl) ?_
    refine SL.val rfl rfl (fun w9 F9 S9 s => R.lss rfl rfl) ?_
    first | refine SL.val rfl rfl (fun w9 F9 S9 s => R.pickT rfl rfl) ?_ | refine SL.val rfl rfl (fun w9 F9 S9 s => R.pickF rfl rfl) ?_
    refine SL.nil ?_
    refine SN.seq ?_
    refine SG.condP rfl (fun h0 => ?_) (fun h0 => ?_)
    · refine SG.skip ?_
      refine SN.seq ?_
      refine SG.block ?_
      refine SG.seq ?_
      refine SG.region ?_
      refine SL.val rfl rfl (fun w9 F9 S9 s => R.as rfl) ?_
      refine SL.nil ?_
      refine SN.seq ?_
      refine SG.seq ?_
      refine SG.seq ?_
      refine SG.region ?_
      refine SL.val rfl rfl (fun w9 F9 S9 s => R.mv rfl) ?_
      refine SL.val rfl rfl (fun w9 F9 S9 s => R.lenS rfl) ?_
      refine SL.val rfl rfl (fun w9 F9 S9 s => R.mv rfl) ?_
      refine SL.nil ?_
      refine SN.seq ?_
      refine SG.block ?_
      refine SG.loop (X := Nat × Option Nat) (fun y => [(0, .slice a n c), (1, .int .i64 kk), (5, .slice a5 (bzT its).length c5), (6, .slice a9 k c9), (7, .slice (some ⟨b15, 0, none⟩) (bzT its).length (bzT its).length), (8, .int .i64 (bI y.2)), (27, .slice a5 (bzT its).length c5), (28, .int .i64 (((bzT its).length : Nat) : Int)), (29, .int .i64 ((y.1 : Nat) : Int))]) (fun y => [own 45 3 a5 ((bzT its).length) c5 (bCells (bzT its)).flatten, own 3 1 a9 (k) c9 (intsB (ys.take k)), own 4 1 (some ⟨b15, 0, none⟩) ((bzT its).length) ((bzT its).length) (flg (bzT its) ys k), sh (fun w => RecsOk w a n its)]) (fun y => y.1 ≤ (bzT its).length ∧ Pk (bzT its) ys k y.1 y.2) (fun y => (bzT its).length - y.1) ((0, none)) (Sub.cons rfl (Sub.cons rfl (Sub.cons rfl (Sub.cons rfl (Sub.cons rfl (Sub.cons rfl (Sub.cons rfl (Sub.cons rfl (Sub.cons rfl (Sub.nil _)))))))))) ((Imp.sels (by repeat (first | exact Sels.nil | apply Sels.cons | exact Sel.keep | exact Sel.here | apply Sel.there)))) (⟨Nat.zero_le _, Pk.nil _ _ _⟩) ?_
      rintro ⟨i, o⟩ ⟨hi, hp⟩
      dsimp only at hi hp
      show SG _ _ _ _ _ [(0, .slice a n c), (1, .int .i64 kk), (5, .slice a5 (bzT its).length c5), (6, .slice a9 k c9), (7, .slice (some ⟨b15, 0, none⟩) (bzT its).length (bzT its).length), (8, .int .i64 (bI o)), (27, .slice a5 (bzT its).length c5), (28, .int .i64 (((bzT its).length : Nat) : Int)), (29, .int .i64 ((i : Nat) : Int))] [own 45 3 a5 ((bzT its).length) c5 (bCells (bzT its)).flatten, own 3 1 a9 (k) c9 (intsB (ys.take k)), own 4 1 (some ⟨b15, 0, none⟩) ((bzT its).length) ((bzT its).length) (flg (bzT its) ys k), sh (fun w => RecsOk w a n its)] _
      refine SG.seq ?_
      refine SG.region ?_
      refine SL.val rfl rfl (fun w9 F9 S9 s => R.lss rfl rfl) ?_
      refine SL.nil ?_
      refine SN.seq ?_
      refine SG.seq ?_
      refine SG.condP rfl (fun h1 => ?_) (fun h1 => ?_)
      · obtain ⟨x, hx⟩ : ∃ x, (bzT its)[i]? = some x := ⟨_, List.getElem?_eq_getElem (by omega)⟩
        refine SG.fact (fun w9 F9 S9 s => s.ownG (show Sel _ (own 45 3 a5 ((bzT its).length) c5 (bCells (bzT its)).flatten) _ from (by repeat (first | exact Sel.keep | exact Sel.here | apply Sel.there))) (by omega)) (fun hf9 => ?_)
        obtain ⟨g5, rfl⟩ := hf9
        refine SG.skip ?_
        refine SN.seq ?_
        refine SG.seq ?_
        refine SG.block ?_
        refine SG.seq ?_
        refine SG.region ?_
        refine SL.val rfl rfl (fun w9 F9 S9 s => R.mv rfl) ?_
        refine SL.val rfl rfl (fun w9 F9 S9 s => R.idxO rfl rfl (by omega) (by omega) rfl (i * 3) (by omega)) ?_
        refine SL.val rfl rfl (fun w9 F9 S9 s => R.ldN (vs := bz3 x.1 x.2) rfl (row_ld (f := (fun p : Int × V2 => bz3 p.1 p.2)) (fun _ => rfl) (s.ownC (show Sel _ (own 45 3 (some ⟨g5, 0, none⟩) ((bzT its).length) c5 (bCells (bzT its)).flatten) _ from (by repeat (first | exact Sel.keep | exact Sel.here | apply Sel.there)))) hx) rfl) ?_
        refine SL.step rfl rfl (CS.alloc [.int .i64 0, .int .i64 0, .int .i64 0] rfl) ?_
        rintro _ _ ⟨b10, rfl, rfl⟩
        refine SL.val rfl rfl (fun w9 F9 S9 s => R.as rfl) ?_
        refine SL.step0 rfl (CS.stA (vs := bz3 x.1 x.2) rfl rfl (by repeat (first | exact Sel.keep | exact Sel.here | apply Sel.there)) rfl (by rfl) (bz3_one _ _)) ?_
        rintro _ _ rfl
        refine SL.nil ?_
        refine SN.seq ?_
        refine SG.seq ?_
        refine SG.cut (X := Bool) (fun w => [(0, .slice a n c), (1, .int .i64 kk), (5, .slice (some ⟨g5, 0, none⟩) (bzT its).length c5), (6, .slice a9 k c9), (7, .slice (some ⟨b15, 0, none⟩) (bzT its).length (bzT its).length), (8, .int .i64 (bI o)), (9, .int .i64 ((i : Nat) : Int)), (27, .slice (some ⟨g5, 0, none⟩) (bzT its).length c5), (28, .int .i64 (((bzT its).length : Nat) : Int)), (29, .int .i64 ((i : Nat) : Int)), (52, .bool w)]) (fun w => [own 45 3 (some ⟨g5, 0, none⟩) ((bzT its).length) c5 (bCells (bzT its)).flatten, own 3 1 a9 (k) c9 (intsB (ys.take k)), own 4 1 (some ⟨b15, 0, none⟩) ((bzT its).length) ((bzT its).length) (flg (bzT its) ys k), sh (fun w => RecsOk w a n its)]) (fun w => w = pkB (bzT its) ys k o x) ?_ ?_
        · refine SG.draw [] [0, 1, 2, 3, 4, 5, 6, 7, 8, 9, 10, 11, 12, 13, 14, 15, 16, 17, 18] (by decide +kernel) rfl ?_
          refine SW.pure rfl rfl rfl rfl (fun w9 => R.mv rfl) ?_
          refine SW.pure rfl rfl rfl rfl (fun w9 => R.mv rfl) ?_
          refine SW.pure rfl rfl rfl rfl (fun w9 => R.idxO rfl rfl (by omega) (by omega) rfl i (by omega)) ?_
          refine SW.read rfl rfl rfl rfl (fun w9 F9 S9 s => R.ld (v := .bool (decide (x ∈ ys.take k))) rfl (cell_lit ((s.ownC (show Sel _ (own 4 1 (some ⟨b15, 0, none⟩) ((bzT its).length) ((bzT its).length) (flg (bzT its) ys k)) _ from (by repeat (first | exact Sel.keep | exact Sel.here | apply Sel.there)))).load (flg_at hx)))) ?_
          refine SW.pure rfl rfl rfl rfl (fun w9 => R.not rfl) ?_
          refine SW.pure rfl rfl rfl rfl (fun w9 => R.mv rfl) ?_
          refine SW.caseB 39 rfl (fun hg9_5 => ?_) (fun hg9_5 => ?_)
          · refine SW.pure rfl rfl rfl rfl (fun w9 => R.mv rfl) ?_
            refine SW.pure rfl rfl rfl rfl (fun w9 => R.lss rfl rfl) ?_
            refine SW.pure rfl rfl rfl rfl (fun w9 => R.mv rfl) ?_
            refine SW.caseP 42 rfl (fun hg9_8 => ?_) (fun hg9_8 => ?_)
            · obtain rfl : o = none := by
                rcases o with _ | j
                · rfl
                · exact absurd hg9_8 (by show ¬ ((j : Int) < 0); omega)
              refine SW.pass (hd := rfl) rfl rfl rfl ?_
              refine SW.pass (hd := rfl) rfl rfl rfl ?_
              refine SW.pass (hd := rfl) rfl rfl rfl ?_
              refine SW.pass (hd := rfl) rfl rfl rfl ?_
              refine SW.pass (hd := rfl) rfl rfl rfl ?_
              refine SW.pass (hd := rfl) rfl rfl rfl ?_
              refine SW.pass (hd := rfl) rfl rfl rfl ?_
              refine SW.pass (hd := rfl) rfl rfl rfl ?_
              first | refine SW.pure rfl rfl rfl rfl (fun w9 => R.pickT rfl rfl) ?_ | refine SW.pure rfl rfl rfl rfl (fun w9 => R.pickF rfl rfl) ?_
              first | refine SW.pure rfl rfl rfl rfl (fun w9 => R.pickT rfl rfl) ?_ | refine SW.pure rfl rfl rfl rfl (fun w9 => R.pickF rfl rfl) ?_
              refine SW.nil ?_
              exact SN.handX (true) (Sub.cons rfl (Sub.cons rfl (Sub.cons rfl (Sub.cons rfl (Sub.cons rfl (Sub.cons rfl (Sub.cons rfl (Sub.cons rfl (Sub.cons rfl (Sub.cons rfl (Sub.cons rfl (Sub.nil _)))))))))))) ((Imp.sels (by repeat (first | exact Sels.nil | apply Sels.cons | exact Sel.keep | exact Sel.here | apply Sel.there)))) (by unfold pkB; rw [show (!decide (x ∈ ys.take k)) = true from hg9_5]; rfl)
            · obtain ⟨j, z, rfl, hjz⟩ : ∃ j z, o = some j ∧ (bzT its)[j]? = some z := by
                rcases hp with ⟨rfl, _⟩ | ⟨j, z, ho, _, hz, _⟩
                · exact absurd (show (-1 : Int) < 0 by decide) hg9_8
                · exact ⟨j, z, ho, hz⟩
              have hzj := hjz
              have hjl := (List.getElem?_eq_some_iff.1 hjz).1
              refine SW.pure rfl rfl rfl rfl (fun w9 => R.fld rfl) ?_
              refine SW.read rfl rfl rfl rfl (fun w9 F9 S9 s => R.ldB (v := .int .i64 x.2.1) rfl (s.cel (by repeat (first | exact SelB.blk | exact SelB.fz | apply SelB.there))) (by rfl)) ?_
              refine SW.pure rfl rfl rfl rfl (fun w9 => R.mv rfl) ?_
              refine SW.pure rfl rfl rfl rfl (fun w9 => R.mv rfl) ?_
              refine SW.pure rfl rfl rfl rfl (fun w9 => R.idxO (i := (j : Int)) rfl rfl (by omega) (by omega) rfl (j * 3) (by omega)) ?_
              refine SW.pure rfl rfl rfl rfl (fun w9 => R.fld rfl) ?_
              refine SW.read rfl rfl rfl rfl (fun w9 F9 S9 s => R.ld (v := .int .i64 z.2.1) rfl ((row_ld (f := (fun p : Int × V2 => bz3 p.1 p.2)) (fun _ => rfl) (s.ownC (show Sel _ (own 45 3 (some ⟨g5, 0, none⟩) ((bzT its).length) c5 (bCells (bzT its)).flatten) _ from (by repeat (first | exact Sel.keep | exact Sel.here | apply Sel.there)))) hjz).load (j := 1) rfl)) ?_
              refine SW.pure rfl rfl rfl rfl (fun w9 => R.gtr rfl rfl) ?_
              first | refine SW.pure rfl rfl rfl rfl (fun w9 => R.pickT rfl rfl) ?_ | refine SW.pure rfl rfl rfl rfl (fun w9 => R.pickF rfl rfl) ?_
              first | refine SW.pure rfl rfl rfl rfl (fun w9 => R.pickT rfl rfl) ?_ | refine SW.pure rfl rfl rfl rfl (fun w9 => R.pickF rfl rfl) ?_
              refine SW.nil ?_
              exact SN.handX (decide (z.2.1 < x.2.1)) (Sub.cons rfl (Sub.cons rfl (Sub.cons rfl (Sub.cons rfl (Sub.cons rfl (Sub.cons rfl (Sub.cons rfl (Sub.cons rfl (Sub.cons rfl (Sub.cons rfl (Sub.cons rfl (Sub.nil _)))))))))))) ((Imp.sels (by repeat (first | exact Sels.nil | apply Sels.cons | exact Sel.keep | exact Sel.here | apply Sel.there)))) (by unfold pkB; rw [show (!decide (x ∈ ys.take k)) = true from hg9_5]; simp only [hzj, Bool.true_and])
          · refine SW.pass (hd := rfl) rfl rfl rfl ?_
            refine SW.pass (hd := rfl) rfl rfl rfl ?_
            refine SW.pass (hd := rfl) rfl rfl rfl ?_
            refine SW.pass (hd := rfl) rfl rfl rfl ?_
            refine SW.pass (hd := rfl) rfl rfl rfl ?_
            refine SW.pass (hd := rfl) rfl rfl rfl ?_
            refine SW.pass (hd := rfl) rfl rfl rfl ?_
            refine SW.pass (hd := rfl) rfl rfl rfl ?_
            refine SW.pass (hd := rfl) rfl rfl rfl ?_
            refine SW.pass (hd := rfl) rfl rfl rfl ?_
            refine SW.pass (hd := rfl) rfl rfl rfl ?_
            refine SW.pass (hd := rfl) rfl rfl rfl ?_
            first | refine SW.pure rfl rfl rfl rfl (fun w9 => R.pickT rfl rfl) ?_ | refine SW.pure rfl rfl rfl rfl (fun w9 => R.pickF rfl rfl) ?_
            refine SW.nil ?_
            exact SN.handX (false) (Sub.cons rfl (Sub.cons rfl (Sub.cons rfl (Sub.cons rfl (Sub.cons rfl (Sub.cons rfl (Sub.cons rfl (Sub.cons rfl (Sub.cons rfl (Sub.cons rfl (Sub.cons rfl (Sub.nil _)))))))))))) ((Imp.sels (by repeat (first | exact Sels.nil | apply Sels.cons | exact Sel.keep | exact Sel.here | apply Sel.there)))) (by unfold pkB; rw [show (!decide (x ∈ ys.take k)) = false by simpa using hg9_5]; rfl)
        · rintro w hw
          show SN _ _ _ _ _ [(0, .slice a n c), (1, .int .i64 kk), (5, .slice (some ⟨g5, 0, none⟩) (bzT its).length c5), (6, .slice a9 k c9), (7, .slice (some ⟨b15, 0, none⟩) (bzT its).length (bzT its).length), (8, .int .i64 (bI o)), (9, .int .i64 ((i : Nat) : Int)), (27, .slice (some ⟨g5, 0, none⟩) (bzT its).length c5), (28, .int .i64 (((bzT its).length : Nat) : Int)), (29, .int .i64 ((i : Nat) : Int)), (52, .bool w)] [own 45 3 (some ⟨g5, 0, none⟩) ((bzT its).length) c5 (bCells (bzT its)).flatten, own 3 1 a9 (k) c9 (intsB (ys.take k)), own 4 1 (some ⟨b15, 0, none⟩) ((bzT its).length) ((bzT its).length) (flg (bzT its) ys k), sh (fun w => RecsOk w a n its)]
          refine SN.seq ?_
          refine SG.condB rfl (fun h2 => ?_) (fun h2 => ?_)
          · refine SG.region ?_
            refine SL.val rfl rfl (fun w9 F9 S9 s => R.mv rfl) ?_
            refine SL.val rfl rfl (fun w9 F9 S9 s => R.as rfl) ?_
            refine SL.nil ?_
            refine SN.block ?_
            refine SN.seq ?_
            refine SG.region ?_
            refine SL.val rfl rfl (fun w9 F9 S9 s => R.add rfl rfl (by omega)) ?_
            refine SL.val rfl rfl (fun w9 F9 S9 s => R.mv rfl) ?_
            refine SL.nil ?_
            exact SN.again ((i + 1, some i)) (by show (bzT its).length - (i + 1) < (bzT its).length - i; omega) (Sub.cons rfl (Sub.cons rfl (Sub.cons rfl (Sub.cons rfl (Sub.cons rfl (Sub.cons rfl (Sub.cons rfl (Sub.cons rfl (Sub.cons rfl (Sub.nil _)))))))))) ((Imp.sels (by repeat (first | exact Sels.nil | apply Sels.cons | exact Sel.keep | exact Sel.here | apply Sel.there)))) (⟨by show i + 1 ≤ (bzT its).length; omega, hp.yes hx (by rw [← hw]; exact h2)⟩)
          · refine SG.skip ?_
            refine SN.block ?_
            refine SN.seq ?_
            refine SG.region ?_
            refine SL.val rfl rfl (fun w9 F9 S9 s => R.add rfl rfl (by omega)) ?_
            refine SL.val rfl rfl (fun w9 F9 S9 s => R.mv rfl) ?_
            refine SL.nil ?_
            exact SN.again ((i + 1, o)) (by show (bzT its).length - (i + 1) < (bzT its).length - i; omega) (Sub.cons rfl (Sub.cons rfl (Sub.cons rfl (Sub.cons rfl (Sub.cons rfl (Sub.cons rfl (Sub.cons rfl (Sub.cons rfl (Sub.cons rfl (Sub.nil _)))))))))) ((Imp.sels (by repeat (first | exact Sels.nil | apply Sels.cons | exact Sel.keep | exact Sel.here | apply Sel.there)))) (⟨by show i + 1 ≤ (bzT its).length; omega, hp.no hx (by rw [← hw]; simpa using h2)⟩)
      · obtain rfl : i = (bzT its).length := by omega
        obtain ⟨j, z, rfl, hz, hyk⟩ := hp.last hnd hst hdn (by omega)
        have hjl := (List.getElem?_eq_some_iff.1 hz).1
        refine SG.fact (fun w9 F9 S9 s => s.ownG (show Sel _ (own 45 3 a5 ((bzT its).length) c5 (bCells (bzT its)).flatten) _ from (by repeat (first | exact Sel.keep | exact Sel.here | apply Sel.there))) (by omega)) (fun hf9 => ?_)
        obtain ⟨g5, rfl⟩ := hf9
        refine SG.exit _ rfl ?_
        refine SN.seq ?_
        refine SG.seq ?_
        refine SG.region ?_
        refine SL.val rfl rfl (fun w9 F9 S9 s => R.mv rfl) ?_
        refine SL.val rfl rfl (fun w9 F9 S9 s => R.mv rfl) ?_
        refine SL.val rfl rfl (fun w9 F9 S9 s => R.idxO (i := (j : Int)) rfl rfl (by omega) (by omega) rfl j (by omega)) ?_
        refine SL.step0 rfl (CS.stO (j := j) rfl rfl (show Sel _ (own 4 1 (some ⟨b15, 0, none⟩) ((bzT its).length) ((bzT its).length) (flg (bzT its) ys k)) _ from (by repeat (first | exact Sel.keep | exact Sel.here | apply Sel.there))) (by omega) rfl) ?_
        rintro _ _ rfl
        refine SL.nil ?_
        refine SN.seq ?_
        refine SG.region ?_
        refine SL.val rfl rfl (fun w9 F9 S9 s => R.mv rfl) ?_
        refine SL.val rfl rfl (fun w9 F9 S9 s => R.mv rfl) ?_
        refine SL.val rfl rfl (fun w9 F9 S9 s => R.mv rfl) ?_
        refine SL.val rfl rfl (fun w9 F9 S9 s => R.idxO (i := (j : Int)) rfl rfl (by omega) (by omega) rfl (j * 3) (by omega)) ?_
        refine SL.val rfl rfl (fun w9 F9 S9 s => R.fld rfl) ?_
        refine SL.val rfl rfl (fun w9 F9 S9 s => R.ld (v := .int .i64 z.1) rfl ((row_ld (f := (fun p : Int × V2 => bz3 p.1 p.2)) (fun _ => rfl) (s.ownC (show Sel _ (own 45 3 (some ⟨g5, 0, none⟩) ((bzT its).length) c5 (bCells (bzT its)).flatten) _ from (by repeat (first | exact Sel.keep | exact Sel.here | apply Sel.there)))) hz).load (j := 0) rfl)) ?_
        refine SL.step rfl rfl (CS.buildA rfl rfl rfl rfl rfl [.int .i64 z.1] rfl) ?_
        rintro _ _ ⟨b64, rfl, rfl⟩
        refine SL.step rfl rfl (CS.app rfl rfl (show Sel _ (own 3 1 a9 (k) c9 (intsB (ys.take k))) _ from (by repeat (first | exact Sel.keep | exact Sel.here | apply Sel.there))) (fun w9 F9 S9 s => s.blkC (show Sel _ (blk b64 [.int .i64 z.1] _) _ from (by repeat (first | exact Sel.keep | exact Sel.here | apply Sel.there)))) rfl (by intro u hu; rw [List.mem_singleton.1 hu]; rfl) (by simp [maxLen]; omega) (by omega)) ?_
        rintro _ _ ⟨a65, c65, rfl, rfl⟩
        refine SL.val rfl rfl (fun w9 F9 S9 s => R.as rfl) ?_
        refine SL.nil ?_
        refine SN.block ?_
        exact SN.again ((k + 1, a65, c65)) (by show (bzT its).length - (k + 1) < (bzT its).length - k; omega) (Sub.cons rfl (Sub.cons rfl (Sub.cons rfl (Sub.cons rfl (Sub.cons rfl (Sub.nil _)))))) ((show Imp _ _ by dsimp only; rw [← intsB_take hyk, ← flg_set hnd hz hyk]; exact (Imp.sels (by repeat (first | exact Sels.nil | apply Sels.cons | exact Sel.keep | exact Sel.here | apply Sel.there))))) (manyB_lt hg4_4 (by omega))
    · obtain rfl : k = manyB (bzT its).length kk := manyB_eq hk (.inr (by omega))
      refine SG.exit _ rfl ?_
      refine SN.seq ?_
      refine SG.seq ?_
      refine SG.region ?_
      refine SL.val rfl rfl (fun w9 F9 S9 s => R.mv rfl) ?_
      refine SL.val rfl rfl (fun w9 F9 S9 s => R.as rfl) ?_
      refine SL.nil ?_
      refine SN.seq ?_
      exact SG.ret1 rfl rfl ((Imp.sels (by repeat (first | exact Sels.nil | apply Sels.cons | exact Sel.keep | exact Sel.here | apply Sel.there)))) (⟨a9, c9, rfl, rfl⟩)
  · refine SL.pass rfl rfl ?_
    refine SL.pass rfl rfl ?_
    refine SL.pass rfl rfl ?_
    refine SL.pass rfl rfl ?_
    refine SL.pass rfl rfl ?_
    first | refine SL.val rfl rfl (fun w9 F9 S9 s => R.pickT rfl rfl) ?_ | refine SL.val rfl rfl (fun w9 F9 S9 s => R.pickF rfl rfl) ?_
    refine SL.nil ?_
    refine SN.seq ?_
    refine SG.condF rfl ?_
    obtain rfl : k = manyB (bzT its).length kk := manyB_eq hk (.inl hg4_4)
    refine SG.exit _ rfl ?_
    refine SN.seq ?_
    refine SG.seq ?_
    refine SG.region ?_
    refine SL.val rfl rfl (fun w9 F9 S9 s => R.mv rfl) ?_
    refine SL.val rfl rfl (fun w9 F9 S9 s => R.as rfl) ?_
    refine SL.nil ?_
    refine SN.seq ?_
    exact SG.ret1 rfl rfl ((Imp.sels (by repeat (first | exact Sels.nil | apply Sels.cons | exact Sel.keep | exact Sel.here | apply Sel.there)))) (⟨a9, c9, rfl, rfl⟩)

end Go.Proofs.YtlhkpakbenghgaaGreat
/-
  The walks of package stats.
-/
set_option linter.unusedVariables false
set_option linter.unusedSimpArgs false
set_option maxRecDepth 4000
namespace Go.Proofs.YtlhkpakbenghgaaGreat
open Go Brv Brv.Stats
theorem stabS_ok (a : Option Addr) (n c : Nat) (l0 : List E3) (hn : n < 20) : SpecS Tryz.prog 52 [.slice a n c, .int .i64 (n : Int), .func (.func 27) #[] #[]] [own 45 3 a n c (List.map cellB l0).flatten] (fun v H' => ∃ ys, v = .tuple #[] ∧ Part l0 ys 0 n ∧ H' = [own 45 3 a n c (List.map cellB ys).flatten]) := by
  refine SpecS.enter Tryz.func52 rfl 63 rfl (Nat.le_of_ble_eq_true rfl) (fun o => ?_)
  refine SG.fact (fun w9 F9 S9 s => s.ownL (show Sel _ (own 45 3 a n c (List.map cellB l0).flatten) _ from (by repeat (first | exact Sel.keep | exact Sel.here | apply Sel.there)))) (fun hf9 => ?_)
  obtain ⟨hll0, hnc⟩ := hf9
  rw [flat_len cellB_len] at hll0
  have hll : l0.length = n := by omega
  refine SG.seq ?_
  refine SG.region ?_
  refine SL.val rfl rfl (fun w9 F9 S9 s => R.as rfl) ?_
  refine SL.nil ?_
  refine SN.seq ?_
  refine SG.seq ?_
  refine SG.region ?_
  refine SL.val rfl rfl (fun w9 F9 S9 s => R.mv rfl) ?_
  refine SL.val rfl rfl (fun w9 F9 S9 s => R.as rfl) ?_
  refine SL.val rfl rfl (fun w9 F9 S9 s => R.as rfl) ?_
  refine SL.nil ?_
  refine SN.seq ?_
  refine SG.seq ?_
  refine SG.block ?_
  refine SG.loop (X := Unit) (fun _ => [(0, .slice a n c), (1, .int .i64 (n : Int)), (2, .func (.func 27) #[] #[]), (6, .int .i64 20), (7, .int .i64 0), (8, .int .i64 20)]) (fun _ => [own 45 3 a n c (List.map cellB l0).flatten]) (fun _ => True) (fun _ => 0) (()) (Sub.cons rfl (Sub.cons rfl (Sub.cons rfl (Sub.cons rfl (Sub.cons rfl (Sub.cons rfl (Sub.nil _))))))) ((Imp.sels (by repeat (first | exact Sels.nil | apply Sels.cons | exact Sel.keep | exact Sel.here | apply Sel.there)))) (trivial) ?_
  rintro _ _
  refine SG.seq ?_
  refine SG.seq ?_
  refine SG.region ?_
  refine SL.val rfl rfl (fun w9 F9 S9 s => R.mv rfl) ?_
  refine SL.val rfl rfl (fun w9 F9 S9 s => R.mv rfl) ?_
  refine SL.val rfl rfl (fun w9 F9 S9 s => R.leq rfl rfl) ?_
  refine SL.nil ?_
  refine SN.seq ?_
  refine SG.condP rfl (fun h0 => ?_) (fun h0 => ?_)
  · exfalso; omega
  · refine SG.exit _ rfl ?_
    refine SN.seq ?_
    refine SG.seq ?_
    refine SG.region ?_
    refine SL.val rfl rfl (fun w9 F9 S9 s => R.mv rfl) ?_
    refine SL.val rfl rfl (fun w9 F9 S9 s => R.mv rfl) ?_
    refine SL.val rfl rfl (fun w9 F9 S9 s => R.mv rfl) ?_
    refine SL.val rfl rfl (fun w9 F9 S9 s => R.mv rfl) ?_
    refine SL.step rfl rfl (CS.call rfl go83 (ins_ok a n c l0 0 n (by omega) (by omega) (by omega)) (by repeat (first | exact Sels.nil | apply Sels.cons | exact Sel.keep | exact Sel.here | apply Sel.there))) ?_
    rintro _ _ ⟨_, ⟨rfl, rfl⟩, rfl⟩
    refine SL.n1 ?_
    refine SL.nil ?_
    refine SN.seq ?_
    refine SG.block ?_
    refine SG.loop (X := Unit) (fun _ => [(0, .slice a n c), (1, .int .i64 (n : Int)), (2, .func (.func 27) #[] #[]), (6, .int .i64 20)]) (fun _ => [own 45 3 a n c (List.map cellB (insM l0 0 n)).flatten]) (fun _ => True) (fun _ => 0) (()) (Sub.cons rfl (Sub.cons rfl (Sub.cons rfl (Sub.cons rfl (Sub.nil _))))) ((Imp.sels (by repeat (first | exact Sels.nil | apply Sels.cons | exact Sel.keep | exact Sel.here | apply Sel.there)))) (trivial) ?_
    rintro _ _
    refine SG.seq ?_
    refine SG.seq ?_
    refine SG.region ?_
    refine SL.val rfl rfl (fun w9 F9 S9 s => R.mv rfl) ?_
    refine SL.val rfl rfl (fun w9 F9 S9 s => R.mv rfl) ?_
    refine SL.val rfl rfl (fun w9 F9 S9 s => R.lss rfl rfl) ?_
    refine SL.nil ?_
    refine SN.seq ?_
    refine SG.condP rfl (fun h1 => ?_) (fun h1 => ?_)
    · exfalso; omega
    · refine SG.exit _ rfl ?_
      exact SN.end0 rfl ((Imp.sels (by repeat (first | exact Sels.nil | apply Sels.cons | exact Sel.keep | exact Sel.here | apply Sel.there)))) (⟨_, rfl, insM_part (by omega) (by omega), rfl⟩)

theorem sortS_ok (a : Option Addr) (n c : Nat) (l0 : List E3) (hn : n < 20) : SpecS Tryz.prog 26 [.slice a n c, .func (.func 27) #[] #[]] [own 45 3 a n c (List.map cellB l0).flatten] (fun v H' => ∃ ys, v = .tuple #[] ∧ Part l0 ys 0 n ∧ H' = [own 45 3 a n c (List.map cellB ys).flatten]) := by
  refine SpecS.enter Tryz.func26 rfl 9 rfl (Nat.le_of_ble_eq_true rfl) (fun o => ?_)
  refine SG.region ?_
  refine SL.val rfl rfl (fun w9 F9 S9 s => R.mv rfl) ?_
  refine SL.val rfl rfl (fun w9 F9 S9 s => R.mv rfl) ?_
  refine SL.val rfl rfl (fun w9 F9 S9 s => R.lenS rfl) ?_
  refine SL.val rfl rfl (fun w9 F9 S9 s => R.mv rfl) ?_
  refine SL.step rfl rfl (CS.call rfl go52 (stabS_ok a n c l0 hn) (by repeat (first | exact Sels.nil | apply Sels.cons | exact Sel.keep | exact Sel.here | apply Sel.there))) ?_
  rintro _ _ ⟨_, ⟨ys, rfl, hys, rfl, rfl⟩, rfl⟩
  refine SL.n1 ?_
  refine SL.nil ?_
  exact SN.end0 rfl ((Imp.sels (by repeat (first | exact Sels.nil | apply Sels.cons | exact Sel.keep | exact Sel.here | apply Sel.there)))) (⟨ys, rfl, hys, rfl⟩)

end Go.Proofs.YtlhkpakbenghgaaGreat
/-
  The walks of package stats.
-/
set_option linter.unusedVariables false
set_option linter.unusedSimpArgs false
set_option maxRecDepth 4000
namespace Go.Proofs.YtlhkpakbenghgaaGreat
open Go Brv Brv.Stats
theorem hotS_ok (a : Option Addr) (n c : Nat) (its : List RecV) (kk : Int) (hb : n * 48 ≤ 140737488355328) (hw : wsL its ≤ 900000) (hkk : kk ≤ 9223372036854775807) (hT : (bzT its).length < 20) : SpecS Tryz.prog 9 [.slice a n c, .int .i64 kk] [sh (fun w => RecsOk w a n its)] (fun v H' => ∃ ys a' c', v = .slice a' (manyB (bzT its).length kk) c' ∧ Part (bzT its) ys 0 (bzT its).length ∧ H' = [own 3 1 a' (manyB (bzT its).length kk) c' (intsB (ys.take (manyB (bzT its).length kk)))]) := by
  refine SpecS.enter Tryz.func9 rfl 16 rfl (Nat.le_of_ble_eq_true rfl) (fun o => ?_)
  have hbl : (bzT its).length ≤ wsL its := Nat.le_trans (bzL_len _) (wsK_le its _)
  refine SG.seq ?_
  refine SG.region ?_
  refine SL.val rfl rfl (fun w9 F9 S9 s => R.as rfl) ?_
  refine SL.nil ?_
  refine SN.seq ?_
  refine SG.seq ?_
  refine SG.region ?_
  refine SL.val rfl rfl (fun w9 F9 S9 s => R.mv rfl) ?_
  refine SL.step rfl rfl (CS.call rfl go7 (Blocks_ok a n c its (by omega) hw) (by repeat (first | exact Sels.nil | apply Sels.cons | exact Sel.keep | exact Sel.here | apply Sel.there))) ?_
  rintro _ _ ⟨_, ⟨a7, c7, rfl, rfl⟩, rfl⟩
  refine SL.n1 ?_
  refine SL.val rfl rfl (fun w9 F9 S9 s => R.as rfl) ?_
  refine SL.nil ?_
  refine SN.seq ?_
  refine SG.seq ?_
  refine SG.region ?_
  refine SL.val rfl rfl (fun w9 F9 S9 s => R.mv rfl) ?_
  refine SL.step rfl rfl (CS.call rfl go26 (sortS_ok a7 (bzT its).length c7 (bzT its) hT) (by repeat (first | exact Sels.nil | apply Sels.cons | exact Sel.keep | exact Sel.here | apply Sel.there))) ?_
  rintro _ _ ⟨_, ⟨ys, rfl, hys, rfl, rfl⟩, rfl⟩
  refine SL.n1 ?_
  refine SL.nil ?_
  have hyl := hys.len
  refine SN.imp (Imp.ownSh (show Sel _ (own 45 3 a7 (bzT its).length c7 (List.map cellB ys).flatten) _ from (by repeat (first | exact Sel.keep | exact Sel.here | apply Sel.there))) (p := fun w => Tab w a7 (bzT its).length 3 (ys.map cellB)) (fun w h => tab_ownR h (by rw [List.length_map, hyl]) (cellR ys))) ?_
  refine SN.seq ?_
  refine SG.seq ?_
  refine SG.region ?_
  refine SL.val rfl rfl (fun w9 F9 S9 s => R.mv rfl) ?_
  refine SL.step rfl rfl (CS.call rfl go32 (ofBusy a7 (bzT its).length c7 (ys.map cellB) (cellR ys) (by omega)) (by repeat (first | exact Sels.nil | apply Sels.cons | exact Sel.keep | exact Sel.here | apply Sel.there))) ?_
  rintro _ _ ⟨_, ⟨b1, a1, c1, rfl, rfl⟩, rfl⟩
  refine SL.n2 ?_
  refine SL.val rfl rfl (fun w9 F9 S9 s => R.mv rfl) ?_
  refine SL.step rfl rfl (CS.call rfl go31 (first_ok _ kk rfl) (by repeat (first | exact Sels.nil | apply Sels.cons | exact Sel.keep | exact Sel.here | apply Sel.there))) ?_
  rintro _ _ ⟨_, ⟨b2, b3, rfl, rfl⟩, rfl⟩
  refine SL.n2 ?_
  refine SL.step rfl rfl (CS.call rfl go30 (map_ok _ _ rfl rfl) (by repeat (first | exact Sels.nil | apply Sels.cons | exact Sel.keep | exact Sel.here | apply Sel.there))) ?_
  rintro _ _ ⟨_, ⟨b8, b9, rfl, rfl⟩, rfl⟩
  refine SL.n2 ?_
  refine SL.step rfl rfl (CS.call rfl go29 (list_ok b8 b9 b2 b3 b1 kk a1 (bzT its).length c1 ys hyl.symm (by omega) hkk) (by repeat (first | exact Sels.nil | apply Sels.cons | exact Sel.keep | exact Sel.here | apply Sel.there))) ?_
  rintro _ _ ⟨_, ⟨a9, c9, rfl, rfl⟩, rfl⟩
  refine SL.n1 ?_
  refine SL.val rfl rfl (fun w9 F9 S9 s => R.as rfl) ?_
  refine SL.nil ?_
  refine SN.seq ?_
  exact SG.ret1 rfl rfl ((Imp.sels (by repeat (first | exact Sels.nil | apply Sels.cons | exact Sel.keep | exact Sel.here | apply Sel.there)))) (⟨ys, a9, c9, rfl, hys, rfl⟩)

end Go.Proofs.YtlhkpakbenghgaaGreat
/-
  The walks of package stats.
-/
set_option linter.unusedVariables false
set_option linter.unusedSimpArgs false
set_option maxRecDepth 4000
namespace Go.Proofs.YtlhkpakbenghgaaGreat
open Go Brv Brv.Stats
/-- A write of the law's own. -/
def mkW (q : Int) (g : Nat) : WriteV := ⟨q, some ⟨g, 0, none⟩, 2, 2, [97, 98]⟩
def mkWs (qs : List Int) (gs : List Nat) : List WriteV := List.zipWith mkW qs gs
theorem mkWs_snoc {qs : List Int} {gs : List Nat} {k : Nat} {q : Int} (h : qs[k]? = some q) (hg : gs.length = k) (g : Nat) : mkWs (qs.take k) gs ++ [mkW q g] = mkWs (qs.take (k + 1)) (gs ++ [g]) := by
  have hk := (List.getElem?_eq_some_iff.1 h).1
  unfold mkWs
  rw [List.take_add_one, h, List.zipWith_append (by rw [List.length_take]; omega)]; rfl
theorem mkWs_len {qs : List Int} {gs : List Nat} {k : Nat} (hk : k ≤ qs.length) (hg : gs.length = k) : (mkWs (qs.take k) gs).length = k := by unfold mkWs; rw [List.length_zipWith, List.length_take]; omega
theorem ints_ld {w : World} {p : Addr} {qs : List Int} {k : Nat} {q : Int} (h : Cells w (some p) (qs.map (Value.int .i64))) (hq : qs[k]? = some q) : w.cell? (p.add ((k : Int).toNat * 1)) = some (.int .i64 q) := by
  rw [Int.toNat_natCast, Nat.mul_one]
  exact h.load (by rw [List.getElem?_map, hq]; rfl)
def WsOk (ws : List WriteV) (w : World) : Prop := ∀ z ∈ ws, z.ok w
theorem w1_ok (b0 n : Nat) (qs : List Int) (hn : n = qs.length) (hb : n ≤ 1000) (hqs : ∀ q ∈ qs, (Lit.int .i64 q).wf = true) : SpecS Tryz.prog 13 [.slice (some ⟨b0, 0, none⟩) n n] [blk b0 (qs.map (Value.int .i64)) 3] (fun v H' => ∃ gs a' c', v = .slice a' n c' ∧ List.length gs = n ∧ H' = [own 30 2 a' (n) c' (List.map WriteV.cells (mkWs qs gs)).flatten, sh (WsOk (mkWs qs gs))]) := by
  refine SpecS.enter Tryz.func13 rfl 20 rfl (Nat.le_of_ble_eq_true rfl) (fun o => ?_)
  refine SG.seq ?_
  refine SG.region ?_
  refine SL.val rfl rfl (fun w9 F9 S9 s => R.as rfl) ?_
  refine SL.nil ?_
  refine SN.seq ?_
  refine SG.seq ?_
  refine SG.seq ?_
  refine SG.region ?_
  refine SL.val rfl rfl (fun w9 F9 S9 s => R.mv rfl) ?_
  refine SL.val rfl rfl (fun w9 F9 S9 s => R.lenS rfl) ?_
  refine SL.val rfl rfl (fun w9 F9 S9 s => R.mv rfl) ?_
  refine SL.nil ?_
  refine SN.seq ?_
  refine SG.block ?_
  refine SG.loop (X := List Nat × Option Addr × Nat × Nat) (fun y => [(0, .slice (some ⟨b0, 0, none⟩) n n), (2, .slice y.2.1 y.2.2.2 y.2.2.1), (5, .slice (some ⟨b0, 0, none⟩) n n), (6, .int .i64 (n : Int)), (7, .int .i64 (y.2.2.2 : Int))]) (fun y => [blk b0 (qs.map (Value.int .i64)) 3, own 30 2 y.2.1 (y.2.2.2) y.2.2.1 (List.map WriteV.cells (mkWs (qs.take y.2.2.2) y.1)).flatten, sh (WsOk (mkWs (qs.take y.2.2.2) y.1))]) (fun y => y.1.length = y.2.2.2 ∧ y.2.2.2 ≤ n) (fun y => n - y.2.2.2) (([], none, 0, 0)) (Sub.cons rfl (Sub.cons rfl (Sub.cons rfl (Sub.cons rfl (Sub.cons rfl (Sub.nil _)))))) (((Imp.ownNil 30 2).trans ((Imp.pure (p := WsOk []) (fun _ z hz => by cases hz)).trans (Imp.sels (by repeat (first | exact Sels.nil | apply Sels.cons | exact Sel.keep | exact Sel.here | apply Sel.there)))))) (⟨rfl, Nat.zero_le _⟩) ?_
  rintro ⟨gs, a9, c9, k⟩ ⟨hgl, hk⟩
  dsimp only at hgl hk
  show SG _ _ _ _ _ [(0, .slice (some ⟨b0, 0, none⟩) n n), (2, .slice a9 k c9), (5, .slice (some ⟨b0, 0, none⟩) n n), (6, .int .i64 (n : Int)), (7, .int .i64 (k : Int))] [blk b0 (qs.map (Value.int .i64)) 3, own 30 2 a9 (k) c9 (List.map WriteV.cells (mkWs (qs.take k) gs)).flatten, sh (WsOk (mkWs (qs.take k) gs))] _
  refine SG.seq ?_
  refine SG.region ?_
  refine SL.val rfl rfl (fun w9 F9 S9 s => R.lss rfl rfl) ?_
  refine SL.nil ?_
  refine SN.seq ?_
  refine SG.seq ?_
  refine SG.condP rfl (fun h0 => ?_) (fun h0 => ?_)
  · obtain ⟨q, hq⟩ : ∃ q, qs[k]? = some q := ⟨_, List.getElem?_eq_getElem (by omega)⟩
    have hwl := mkWs_len (qs := qs) (gs := gs) (k := k) (by omega) hgl
    have hqb := hqs q (List.mem_of_getElem? hq)
    refine SG.skip ?_
    refine SN.seq ?_
    refine SG.seq ?_
    refine SG.block ?_
    refine SG.seq ?_
    refine SG.region ?_
    refine SL.val rfl rfl (fun w9 F9 S9 s => R.idx rfl rfl (by omega) (by omega) _ rfl) ?_
    refine SL.val rfl rfl (fun w9 F9 S9 s => R.ld (v := .int .i64 q) rfl (ints_ld (s.blkC (show Sel _ (blk b0 (qs.map (Value.int .i64)) 3) _ from (by repeat (first | exact Sel.keep | exact Sel.here | apply Sel.there)))) hq)) ?_
    refine SL.val rfl rfl (fun w9 F9 S9 s => R.as rfl) ?_
    refine SL.nil ?_
    refine SN.seq ?_
    refine SG.region ?_
    refine SL.val rfl rfl (fun w9 F9 S9 s => R.mv rfl) ?_
    refine SL.val rfl rfl (fun w9 F9 S9 s => R.mv rfl) ?_
    refine SL.step rfl rfl (CS.buildA rfl rfl rfl rfl rfl (vbs [97, 98]) rfl) ?_
    rintro _ _ ⟨b13, rfl, rfl⟩
    refine SL.step rfl rfl (CS.markB (l := [97, 98]) rfl (show Sel _ (blk b13 _ _) _ from (by repeat (first | exact Sel.keep | exact Sel.here | apply Sel.there))) rfl) ?_
    rintro _ _ ⟨rfl, rfl⟩
    refine SL.val rfl rfl (fun w9 F9 S9 s => R.buildN (l := (mkW q b13).cells) rfl rfl) ?_
    refine SL.step rfl rfl (CS.buildA rfl rfl rfl rfl rfl (mkW q b13).cells rfl) ?_
    rintro _ _ ⟨b16, rfl, rfl⟩
    refine SL.step rfl rfl (CS.app rfl rfl (show Sel _ (own 30 2 a9 (k) c9 (List.map WriteV.cells (mkWs (qs.take k) gs)).flatten) _ from (by repeat (first | exact Sel.keep | exact Sel.here | apply Sel.there))) (fun w9 F9 S9 s => s.blkC (show Sel _ (blk b16 (mkW q b13).cells _) _ from (by repeat (first | exact Sel.keep | exact Sel.here | apply Sel.there)))) rfl (WriteV.cells.one _) (by simp [maxLen]; omega) (by omega)) ?_
    rintro _ _ ⟨a17, c17, rfl, rfl⟩
    refine SL.val rfl rfl (fun w9 F9 S9 s => R.as rfl) ?_
    refine SL.nil ?_
    refine SN.imp (Imp.both (show Sel _ (sh (WsOk (mkWs (qs.take k) gs))) _ from (by repeat (first | exact Sel.keep | exact Sel.here | apply Sel.there))) (show Sel _ (sh (fun w => Bs w (some ⟨b13, 0, none⟩) [97, 98].length [97, 98])) _ from (by repeat (first | exact Sel.keep | exact Sel.here | apply Sel.there)))) ?_
    refine SN.imp (Imp.weak (p := fun w => WsOk (mkWs (qs.take k) gs) w ∧ Bs w (some ⟨b13, 0, none⟩) [97, 98].length [97, 98]) (q := WsOk (mkWs (qs.take (k + 1)) (gs ++ [b13]))) (by repeat (first | exact Sel.keep | exact Sel.here | apply Sel.there)) (fun w h => by rw [← mkWs_snoc hq hgl]; exact fun z hz => (List.mem_append.1 hz).elim (h.1 z) (fun hz => by rw [List.mem_singleton.1 hz]; exact ⟨hqb, Nat.le_refl _, (show (2 : Nat) ≤ 140737488351232 by decide), h.2⟩))) ?_
    refine SN.block ?_
    refine SN.seq ?_
    refine SG.region ?_
    refine SL.val rfl rfl (fun w9 F9 S9 s => R.add rfl rfl (by omega)) ?_
    refine SL.val rfl rfl (fun w9 F9 S9 s => R.mv rfl) ?_
    refine SL.nil ?_
    exact SN.again ((gs ++ [b13], a17, c17, k + 1)) (by show n - (k + 1) < n - k; omega) (Sub.cons rfl (Sub.cons rfl (Sub.cons rfl (Sub.cons rfl (Sub.cons rfl (Sub.nil _)))))) ((show Imp _ _ by dsimp only; rw [← mkWs_snoc hq hgl, List.map_append, List.flatten_append]; exact (Imp.sels (by repeat (first | exact Sels.nil | apply Sels.cons | exact Sel.keep | exact Sel.here | apply Sel.there))))) (⟨by show (gs ++ [b13]).length = k + 1; simp; omega, by show k + 1 ≤ n; omega⟩)
  · obtain rfl : n = k := by omega
    rw [List.take_of_length_le (show qs.length ≤ n by omega)]
    refine SG.exit _ rfl ?_
    refine SN.seq ?_
    refine SG.seq ?_
    refine SG.region ?_
    refine SL.val rfl rfl (fun w9 F9 S9 s => R.mv rfl) ?_
    refine SL.val rfl rfl (fun w9 F9 S9 s => R.as rfl) ?_
    refine SL.nil ?_
    refine SN.seq ?_
    exact SG.ret1 rfl rfl ((Imp.sels (by repeat (first | exact Sels.nil | apply Sels.cons | exact Sel.keep | exact Sel.here | apply Sel.there)))) (⟨gs, a9, c9, rfl, hgl, rfl⟩)

end Go.Proofs.YtlhkpakbenghgaaGreat
/-
  The structs of plain fields, to be compared.
-/
set_option linter.unusedVariables false
set_option maxRecDepth 100000
namespace Go.Proofs.YtlhkpakbenghgaaGreat
open Go Brv
instance : TyEqS Tryz.prog 35 [.i .i64, .i .i64] := ⟨by kernel_rfl, by kernel_rfl, by kernel_rfl, by kernel_rfl⟩ -- api.Extent
instance : TyEqS Tryz.prog 43 [.i .i64, .i .i64, .i .i64, .i .i64] := ⟨by kernel_rfl, by kernel_rfl, by kernel_rfl, by kernel_rfl⟩ -- api.Usage
instance : TyEqS Tryz.prog 45 [.i .i64, .i .i64, .i .i64] := ⟨by kernel_rfl, by kernel_rfl, by kernel_rfl, by kernel_rfl⟩ -- api.Busy
instance : TyEqS Tryz.prog 114 [.i .i64, .i .i64] := ⟨by kernel_rfl, by kernel_rfl, by kernel_rfl, by kernel_rfl⟩ -- order.pair[int,int]
end Go.Proofs.YtlhkpakbenghgaaGreat
/-
  The walks of package stats.
-/
set_option linter.unusedVariables false
set_option linter.unusedSimpArgs false
set_option maxRecDepth 4000
namespace Go.Proofs.YtlhkpakbenghgaaGreat
open Go Brv Brv.Stats
def fIts (g : Nat) : List ItemV := [⟨0, 2, 0, 0, 0, 0, 0, 5, some ⟨g, 0, none⟩, 1, 1, [⟨1, 2⟩]⟩, ⟨0, 1, 0, 0, 0, 0, 0, 7, none, 0, 0, []⟩]
theorem fIts_us (g : Nat) : usT (fIts g) = [(1, (1, 7, 0)), (2, (1, 5, 2))] := by
  show accT [] [(2, (1, 5, secE [⟨1, 2⟩])), (1, (1, 7, secE []))] = _
  decide +kernel
theorem fIts_sec (g : Nat) : secL (fIts g) = 2 := by
  show wr (wr (0 + secE [⟨1, 2⟩]) + secE []) = 2
  decide +kernel
theorem fIts_ok {w : World} {g h : Nat} (h1 : Cells w (some ⟨g, 0, none⟩) [.int .i64 1, .int .i64 2]) (h2 : Cells w (some ⟨h, 0, none⟩) ((fIts g).map ItemV.cells).flatten) : ItemsOk w (some ⟨h, 0, none⟩) 2 (fIts g) := by
  refine ⟨rfl, ⟨h2, rfl, fun vs hv => (itemR _ vs hv).1⟩, ?_⟩
  intro x hx
  simp only [fIts, List.mem_cons, List.not_mem_nil, or_false] at hx
  rcases hx with rfl | rfl
  · exact ⟨rfl, rfl, rfl, rfl, rfl, rfl, rfl, rfl, Nat.le_refl _, (show 1 * 16 ≤ 140737488351232 by decide), ⟨h1, rfl, fun vs hv => by rw [List.mem_singleton.1 hv]; rfl⟩, fun z hz => by rw [List.mem_singleton.1 hz]; exact ⟨by decide, by decide⟩⟩
  · exact ⟨by decide, by decide, by decide, by decide, by decide, by decide, by decide, by decide, Nat.le_refl _, (show 0 * 16 ≤ 140737488351232 by decide), ⟨fun j v hj => by simp at hj, rfl, fun vs hv => by cases hv⟩, fun z hz => by cases hz⟩
def fRecs (a : Option Addr) (c : Nat) (ws : List WriteV) (a' : Option Addr) (c' : Nat) (ws' : List WriteV) : List RecV := [⟨0, 0, 4, a, 2, c, ws⟩, ⟨0, 0, 5, a', 1, c', ws'⟩]
section
variable {w : World} {a a' : Option Addr} {c c' g g1 g2 h : Nat}
theorem fRecs_bz : bzT (fRecs a c (mkWs [3, 1] [g, g1]) a' c' (mkWs [3] [g2])) = [(1, (1, 4)), (3, (2, 5))] := by
  show bzR (bzR [] 0 4 [3, 1]) 1 5 [3] = _
  decide +kernel
theorem fRecs_by : byR 0 (fRecs a c (mkWs [3, 1] [g, g1]) a' c' (mkWs [3] [g2])) = 6 := by
  show wr (wr (wr (0 + 2) + 2) + 2) = 6
  decide +kernel
theorem fRecs_ok (h1 : Cells w a ((mkWs [3, 1] [g, g1]).map WriteV.cells).flatten) (k1 : WsOk (mkWs [3, 1] [g, g1]) w) (h2 : Cells w a' ((mkWs [3] [g2]).map WriteV.cells).flatten) (k2 : WsOk (mkWs [3] [g2]) w)
    (h3 : Cells w (some ⟨h, 0, none⟩) ((fRecs a c (mkWs [3, 1] [g, g1]) a' c' (mkWs [3] [g2])).map RecV.cells).flatten) : RecsOk w (some ⟨h, 0, none⟩) 2 (fRecs a c (mkWs [3, 1] [g, g1]) a' c' (mkWs [3] [g2])) := by
  refine ⟨rfl, ⟨h3, rfl, fun vs hv => by obtain ⟨x, _, rfl⟩ := List.mem_map.1 hv; rfl⟩, ?_⟩
  intro x hx
  simp only [fRecs, List.mem_cons, List.not_mem_nil, or_false] at hx
  rcases hx with rfl | rfl
  · exact ⟨⟨h1, rfl, fun vs hv => by obtain ⟨x, _, rfl⟩ := List.mem_map.1 hv; rfl⟩, (show 2 * 32 ≤ 140737488355328 by decide), k1⟩
  · exact ⟨⟨h2, rfl, fun vs hv => by obtain ⟨x, _, rfl⟩ := List.mem_map.1 hv; rfl⟩, (show 1 * 32 ≤ 140737488355328 by decide), k2⟩
theorem fRecs_hot {ys : List E3} (hp : Part [(1, (1, 4)), (3, (2, 5))] ys 0 2) : ys = [(3, (2, 5)), (1, (1, 4))] := by
  obtain ⟨P, A, B, Q, h1, h2, h3, h4, h5, h6, h7⟩ := hp
  obtain rfl : P = [] := List.length_eq_zero_iff.1 h3
  have hQ : Q = [] := by
    have := congrArg List.length h1
    simp only [List.length_append, List.length_nil, List.length_cons] at this
    exact List.length_eq_zero_iff.1 (by omega)
  subst hQ
  simp only [List.nil_append, List.append_nil] at h1 h2
  subst h1 h2
  refine Down.uniq h7 ?_ (h6.symm.trans ?_)
  · refine List.pairwise_cons.2 ⟨fun z hz => ?_, List.pairwise_singleton _ _⟩
    rw [List.mem_singleton.1 hz]; decide
  · exact Stb.swap (l := [(1, (1, 4))]) (m := [(3, (2, 5))]) fun x hx y hy => by rw [List.mem_singleton.1 hx, List.mem_singleton.1 hy]; decide
end

theorem us_first (g h : Nat) : SpecS Tryz.prog 5 [.slice (some ⟨h, 0, none⟩) 2 2] [sh (fun w => ItemsOk w (some ⟨h, 0, none⟩) 2 (fIts g))] (fun v H' => ∃ a' c', v = .slice a' 2 c' ∧ H' = [own 43 4 a' 2 c' [.int .i64 1, .int .i64 1, .int .i64 7, .int .i64 0, .int .i64 2, .int .i64 1, .int .i64 5, .int .i64 2]]) := by
  have h := Usages_ok (some ⟨h, 0, none⟩) 2 2 (fIts g) (by decide)
  rw [fIts_us] at h
  exact h
theorem bz_first {a a' : Option Addr} {c c' g g1 g2 : Nat} (h : Nat) : SpecS Tryz.prog 7 [.slice (some ⟨h, 0, none⟩) 2 2] [sh (fun w => RecsOk w (some ⟨h, 0, none⟩) 2 (fRecs a c (mkWs [3, 1] [g, g1]) a' c' (mkWs [3] [g2])))] (fun v H' => ∃ a' c', v = .slice a' 2 c' ∧ H' = [own 45 3 a' 2 c' [.int .i64 1, .int .i64 1, .int .i64 4, .int .i64 3, .int .i64 2, .int .i64 5]]) := by
  have h := Blocks_ok (some ⟨h, 0, none⟩) 2 2 (fRecs a c (mkWs [3, 1] [g, g1]) a' c' (mkWs [3] [g2])) (by decide) (show 2 + (1 + 0) ≤ 900000 by decide)
  rw [fRecs_bz] at h
  exact h
theorem hot_first {a a' : Option Addr} {c c' g g1 g2 : Nat} (h : Nat) : SpecS Tryz.prog 9 [.slice (some ⟨h, 0, none⟩) 2 2, .int .i64 1] [sh (fun w => RecsOk w (some ⟨h, 0, none⟩) 2 (fRecs a c (mkWs [3, 1] [g, g1]) a' c' (mkWs [3] [g2])))] (fun v H' => ∃ a' c', v = .slice a' 1 c' ∧ H' = [own 3 1 a' 1 c' [.int .i64 3]]) := by
  have h := hotS_ok (some ⟨h, 0, none⟩) 2 2 (fRecs a c (mkWs [3, 1] [g, g1]) a' c' (mkWs [3] [g2])) 1 (by decide) (show 2 + (1 + 0) ≤ 900000 by decide) (by decide) (by rw [fRecs_bz]; decide)
  rw [fRecs_bz] at h
  refine h.mono ?_
  rintro v H' ⟨ys, a9, c9, h1, h2, h3⟩
  rw [fRecs_hot h2] at h3
  exact ⟨a9, c9, h1, h3⟩

theorem part_at {w : World} {g k : Nat} {xs ys : List Value} (h : Cells w (some ⟨g, 0, none⟩) (xs ++ ys)) (hk : xs.length = k) : Cells w (some ⟨g, k, none⟩) ys := by
  subst hk
  intro j v hj
  refine ⟨_, rfl, ?_⟩
  have := h.load (j := xs.length + j) (by rw [List.getElem?_append_right (by omega), Nat.add_sub_cancel_left]; exact hj)
  rw [Go.Addr.add_lit] at this ⊢
  simpa using this

theorem first43_ok  : SpecS Tryz.prog 4 [] [] (fun v H' => v = .bool true ∧ H' = []) := by
  refine SpecS.enter Tryz.func4 rfl 70 rfl (Nat.le_of_ble_eq_true rfl) (fun o => ?_)
  refine SG.seq ?_
  refine SG.region ?_
  refine SL.val rfl rfl (fun w9 F9 S9 s => R.as rfl) ?_
  refine SL.nil ?_
  refine SN.seq ?_
  refine SG.seq ?_
  refine SG.region ?_
  refine SL.val rfl rfl (fun w9 F9 S9 s => R.buildN (l := [.int .i64 1, .int .i64 2]) rfl rfl) ?_
  refine SL.step rfl rfl (CS.buildA rfl rfl rfl rfl rfl [.int .i64 1, .int .i64 2] rfl) ?_
  rintro _ _ ⟨b8, rfl, rfl⟩
  refine SL.val rfl rfl (fun w9 F9 S9 s => R.buildN (l := ItemV.cells ⟨0, 2, 0, 0, 0, 0, 0, 5, some ⟨b8, 0, none⟩, 1, 1, [⟨1, 2⟩]⟩) rfl rfl) ?_
  refine SL.val rfl rfl (fun w9 F9 S9 s => R.buildN (l := ItemV.cells ⟨0, 1, 0, 0, 0, 0, 0, 7, none, 0, 0, []⟩) rfl rfl) ?_
  refine SL.step rfl rfl (CS.buildA rfl rfl rfl rfl rfl ((fIts b8).map ItemV.cells).flatten rfl) ?_
  rintro _ _ ⟨b11, rfl, rfl⟩
  refine SL.val rfl rfl (fun w9 F9 S9 s => R.as rfl) ?_
  refine SL.nil ?_
  refine SN.imp (Imp.blkSh (show Sel _ (blk b8 _ _) _ from (by repeat (first | exact Sel.keep | exact Sel.here | apply Sel.there))) (p := fun w => Cells w (some ⟨b8, 0, none⟩) [.int .i64 1, .int .i64 2]) (fun w h => Cells.of_blk h 0 _ (fun j v hj => by simpa using hj))) ?_
  refine SN.imp (Imp.blkSh (show Sel _ (blk b11 _ _) _ from (by repeat (first | exact Sel.keep | exact Sel.here | apply Sel.there))) (p := fun w => Cells w (some ⟨b11, 0, none⟩) ((fIts b8).map ItemV.cells).flatten) (fun w h => Cells.of_blk h 0 _ (fun j v hj => by simpa using hj))) ?_
  refine SN.imp (Imp.both (show Sel _ (sh (fun w => Cells w (some ⟨b8, 0, none⟩) [.int .i64 1, .int .i64 2])) _ from (by repeat (first | exact Sel.keep | exact Sel.here | apply Sel.there))) (show Sel _ (sh (fun w => Cells w (some ⟨b11, 0, none⟩) ((fIts b8).map ItemV.cells).flatten)) _ from (by repeat (first | exact Sel.keep | exact Sel.here | apply Sel.there)))) ?_
  refine SN.imp (Imp.weak (p := fun w => Cells w (some ⟨b8, 0, none⟩) [.int .i64 1, .int .i64 2] ∧ Cells w (some ⟨b11, 0, none⟩) ((fIts b8).map ItemV.cells).flatten) (q := fun w => ItemsOk w (some ⟨b11, 0, none⟩) 2 (fIts b8)) (by repeat (first | exact Sel.keep | exact Sel.here | apply Sel.there)) (fun w h => fIts_ok h.1 h.2)) ?_
  refine SN.seq ?_
  refine SG.seq ?_
  refine SG.region ?_
  refine SL.val rfl rfl (fun w9 F9 S9 s => R.mv rfl) ?_
  refine SL.step rfl rfl (CS.call rfl go5 (us_first b8 b11) (by repeat (first | exact Sels.nil | apply Sels.cons | exact Sel.keep | exact Sel.here | apply Sel.there))) ?_
  rintro _ _ ⟨_, ⟨a13, c13, rfl, rfl⟩, rfl⟩
  refine SL.n1 ?_
  refine SL.val rfl rfl (fun w9 F9 S9 s => R.as rfl) ?_
  refine SL.nil ?_
  refine SN.seq ?_
  refine SG.seq ?_
  refine SG.region ?_
  refine SL.val rfl rfl (fun w9 F9 S9 s => R.as rfl) ?_
  refine SL.nil ?_
  refine SN.seq ?_
  refine SG.seq ?_
  refine SG.region ?_
  refine SL.val rfl rfl (fun w9 F9 S9 s => R.mv rfl) ?_
  refine SL.step rfl rfl (CS.buildA rfl rfl rfl rfl rfl (List.map (Value.int .i64) [3, 1]) rfl) ?_
  rintro _ _ ⟨b15, rfl, rfl⟩
  refine SL.step rfl rfl (CS.callV rfl rfl rfl go13 (w1_ok b15 2 [3, 1] rfl (by decide) (by decide)) (by repeat (first | exact Sels.nil | apply Sels.cons | exact Sel.keep | exact Sel.here | apply Sel.there))) ?_
  rintro _ _ ⟨_, ⟨gs, a16, c16, rfl, hgs, rfl, rfl⟩, rfl⟩
  refine SL.n2 ?_
  obtain ⟨g, g1, rfl⟩ : ∃ x y, gs = [x, y] := by
    match gs, hgs with
    | [x, y], _ => exact ⟨x, y, rfl⟩
  refine SL.val rfl rfl (fun w9 F9 S9 s => R.buildN (l := RecV.cells ⟨0, 0, 4, a16, 2, c16, mkWs [3, 1] [g, g1]⟩) rfl rfl) ?_
  refine SL.val rfl rfl (fun w9 F9 S9 s => R.mv rfl) ?_
  refine SL.step rfl rfl (CS.buildA rfl rfl rfl rfl rfl (List.map (Value.int .i64) [3]) rfl) ?_
  rintro _ _ ⟨b19, rfl, rfl⟩
  refine SL.step rfl rfl (CS.callV rfl rfl rfl go13 (w1_ok b19 1 [3] rfl (by decide) (by decide)) (by repeat (first | exact Sels.nil | apply Sels.cons | exact Sel.keep | exact Sel.here | apply Sel.there))) ?_
  rintro _ _ ⟨_, ⟨gs, a20, c20, rfl, hgs, rfl, rfl⟩, rfl⟩
  refine SL.n2 ?_
  obtain ⟨g2, rfl⟩ : ∃ x, gs = [x] := by
    match gs, hgs with
    | [x], _ => exact ⟨x, rfl⟩
  refine SL.val rfl rfl (fun w9 F9 S9 s => R.buildN (l := RecV.cells ⟨0, 0, 5, a20, 1, c20, mkWs [3] [g2]⟩) rfl rfl) ?_
  refine SL.step rfl rfl (CS.buildA rfl rfl rfl rfl rfl ((fRecs a16 c16 (mkWs [3, 1] [g, g1]) a20 c20 (mkWs [3] [g2])).map RecV.cells).flatten rfl) ?_
  rintro _ _ ⟨b22, rfl, rfl⟩
  refine SL.val rfl rfl (fun w9 F9 S9 s => R.as rfl) ?_
  refine SL.nil ?_
  refine SN.imp (Imp.ownSh (show Sel _ (own 30 2 a16 (2) c16 (List.map WriteV.cells (mkWs [3, 1] [g, g1])).flatten) _ from (by repeat (first | exact Sel.keep | exact Sel.here | apply Sel.there))) (p := fun w => Cells w a16 ((mkWs [3, 1] [g, g1]).map WriteV.cells).flatten) (fun w h => h)) ?_
  refine SN.imp (Imp.ownSh (show Sel _ (own 30 2 a20 (1) c20 (List.map WriteV.cells (mkWs [3] [g2])).flatten) _ from (by repeat (first | exact Sel.keep | exact Sel.here | apply Sel.there))) (p := fun w => Cells w a20 ((mkWs [3] [g2]).map WriteV.cells).flatten) (fun w h => h)) ?_
  refine SN.imp (Imp.blkSh (show Sel _ (blk b22 _ _) _ from (by repeat (first | exact Sel.keep | exact Sel.here | apply Sel.there))) (p := fun w => Cells w (some ⟨b22, 0, none⟩) ((fRecs a16 c16 (mkWs [3, 1] [g, g1]) a20 c20 (mkWs [3] [g2])).map RecV.cells).flatten) (fun w h => Cells.of_blk h 0 _ (fun j v hj => by simpa using hj))) ?_
  refine SN.imp (Imp.both (show Sel _ (sh (fun w => Cells w a16 ((mkWs [3, 1] [g, g1]).map WriteV.cells).flatten)) _ from (by repeat (first | exact Sel.keep | exact Sel.here | apply Sel.there))) (show Sel _ (sh (WsOk (mkWs [3, 1] [g, g1]))) _ from (by repeat (first | exact Sel.keep | exact Sel.here | apply Sel.there)))) ?_
  refine SN.imp (Imp.both (show Sel _ (sh (fun w => Cells w a20 ((mkWs [3] [g2]).map WriteV.cells).flatten)) _ from (by repeat (first | exact Sel.keep | exact Sel.here | apply Sel.there))) (show Sel _ (sh (WsOk (mkWs [3] [g2]))) _ from (by repeat (first | exact Sel.keep | exact Sel.here | apply Sel.there)))) ?_
  refine SN.imp (Imp.both (show Sel _ (sh (fun w => Cells w a16 ((mkWs [3, 1] [g, g1]).map WriteV.cells).flatten ∧ WsOk (mkWs [3, 1] [g, g1]) w)) _ from (by repeat (first | exact Sel.keep | exact Sel.here | apply Sel.there))) (show Sel _ (sh (fun w => Cells w a20 ((mkWs [3] [g2]).map WriteV.cells).flatten ∧ WsOk (mkWs [3] [g2]) w)) _ from (by repeat (first | exact Sel.keep | exact Sel.here | apply Sel.there)))) ?_
  refine SN.imp (Imp.both (show Sel _ (sh (fun w => (Cells w a16 ((mkWs [3, 1] [g, g1]).map WriteV.cells).flatten ∧ WsOk (mkWs [3, 1] [g, g1]) w) ∧ (Cells w a20 ((mkWs [3] [g2]).map WriteV.cells).flatten ∧ WsOk (mkWs [3] [g2]) w))) _ from (by repeat (first | exact Sel.keep | exact Sel.here | apply Sel.there))) (show Sel _ (sh (fun w => Cells w (some ⟨b22, 0, none⟩) ((fRecs a16 c16 (mkWs [3, 1] [g, g1]) a20 c20 (mkWs [3] [g2])).map RecV.cells).flatten)) _ from (by repeat (first | exact Sel.keep | exact Sel.here | apply Sel.there)))) ?_
  refine SN.imp (Imp.weak (p := fun w => ((Cells w a16 ((mkWs [3, 1] [g, g1]).map WriteV.cells).flatten ∧ WsOk (mkWs [3, 1] [g, g1]) w) ∧ (Cells w a20 ((mkWs [3] [g2]).map WriteV.cells).flatten ∧ WsOk (mkWs [3] [g2]) w)) ∧ Cells w (some ⟨b22, 0, none⟩) ((fRecs a16 c16 (mkWs [3, 1] [g, g1]) a20 c20 (mkWs [3] [g2])).map RecV.cells).flatten) (q := fun w => RecsOk w (some ⟨b22, 0, none⟩) 2 (fRecs a16 c16 (mkWs [3, 1] [g, g1]) a20 c20 (mkWs [3] [g2]))) (by repeat (first | exact Sel.keep | exact Sel.here | apply Sel.there)) (fun w h => fRecs_ok h.1.1.1 h.1.1.2 h.1.2.1 h.1.2.2 h.2)) ?_
  refine SN.seq ?_
  refine SG.seq ?_
  refine SG.region ?_
  refine SL.val rfl rfl (fun w9 F9 S9 s => R.mv rfl) ?_
  refine SL.step rfl rfl (CS.call rfl go7 (bz_first b22) (by repeat (first | exact Sels.nil | apply Sels.cons | exact Sel.keep | exact Sel.here | apply Sel.there))) ?_
  rintro _ _ ⟨_, ⟨a24, c24, rfl, rfl⟩, rfl⟩
  refine SL.n1 ?_
  refine SL.val rfl rfl (fun w9 F9 S9 s => R.mv rfl) ?_
  refine SL.step rfl rfl (CS.call rfl go9 (hot_first b22) (by repeat (first | exact Sels.nil | apply Sels.cons | exact Sel.keep | exact Sel.here | apply Sel.there))) ?_
  rintro _ _ ⟨_, ⟨a26, c26, rfl, rfl⟩, rfl⟩
  refine SL.n1 ?_
  refine SL.val rfl rfl (fun w9 F9 S9 s => R.as rfl) ?_
  refine SL.val rfl rfl (fun w9 F9 S9 s => R.as rfl) ?_
  refine SL.nil ?_
  refine SN.fact (fun w9 F9 S9 s => s.ownG (show Sel _ (own 43 4 a13 2 c13 [.int .i64 1, .int .i64 1, .int .i64 7, .int .i64 0, .int .i64 2, .int .i64 1, .int .i64 5, .int .i64 2]) _ from (by repeat (first | exact Sel.keep | exact Sel.here | apply Sel.there))) (by decide)) (fun hf9 => ?_)
  obtain ⟨p2, rfl⟩ := hf9
  refine SN.fact (fun w9 F9 S9 s => s.ownG (show Sel _ (own 45 3 a24 2 c24 [.int .i64 1, .int .i64 1, .int .i64 4, .int .i64 3, .int .i64 2, .int .i64 5]) _ from (by repeat (first | exact Sel.keep | exact Sel.here | apply Sel.there))) (by decide)) (fun hf9 => ?_)
  obtain ⟨p5, rfl⟩ := hf9
  refine SN.fact (fun w9 F9 S9 s => s.ownG (show Sel _ (own 3 1 a26 1 c26 [.int .i64 3]) _ from (by repeat (first | exact Sel.keep | exact Sel.here | apply Sel.there))) (by decide)) (fun hf9 => ?_)
  obtain ⟨p6, rfl⟩ := hf9
  refine SN.seq ?_
  refine SG.seq ?_
  refine SG.region ?_
  refine SL.val rfl rfl (fun w9 F9 S9 s => R.mv rfl) ?_
  refine SL.val rfl rfl (fun w9 F9 S9 s => R.lenS rfl) ?_
  refine SL.val rfl rfl (fun w9 F9 S9 s => R.eqI rfl rfl) ?_
  refine SL.val rfl rfl (fun w9 F9 S9 s => R.mv rfl) ?_
  refine SL.isT 30 rfl (rfl) ?_
  refine SL.val rfl rfl (fun w9 F9 S9 s => R.mv rfl) ?_
  refine SL.val rfl rfl (fun w9 F9 S9 s => R.idxO (i := 1) rfl rfl (by omega) (by omega) rfl 4 (by decide)) ?_
  refine SL.val rfl rfl (fun w9 F9 S9 s => R.ldN (vs := [.int .i64 2, .int .i64 1, .int .i64 5, .int .i64 2]) rfl (part_at (k := 4) (xs := [.int .i64 1, .int .i64 1, .int .i64 7, .int .i64 0]) (s.ownC (show Sel _ (own 43 4 (some ⟨p2, 0, none⟩) 2 c13 [.int .i64 1, .int .i64 1, .int .i64 7, .int .i64 0, .int .i64 2, .int .i64 1, .int .i64 5, .int .i64 2]) _ from (by repeat (first | exact Sel.keep | exact Sel.here | apply Sel.there)))) rfl) rfl) ?_
  refine SL.val rfl rfl (fun w9 F9 S9 s => R.buildN (l := [.int .i64 2, .int .i64 1, .int .i64 5, .int .i64 2]) rfl rfl) ?_
  refine SL.val rfl rfl (fun w9 F9 S9 s => R.eqS rfl rfl rfl rfl (b := true) (by simp [eqL, veq])) ?_
  first | refine SL.val rfl rfl (fun w9 F9 S9 s => R.pickT rfl rfl) ?_ | refine SL.val rfl rfl (fun w9 F9 S9 s => R.pickF rfl rfl) ?_
  refine SL.val rfl rfl (fun w9 F9 S9 s => R.mv rfl) ?_
  refine SL.isT 37 rfl (rfl) ?_
  refine SL.val rfl rfl (fun w9 F9 S9 s => R.mv rfl) ?_
  refine SL.step rfl rfl (CS.call rfl go11 ((Secs_ok (some ⟨b11, 0, none⟩) 2 2 (fIts b8) (by decide)).mono (fun v H h => (show v = .int .i64 2 ∧ H = [] from by rw [← fIts_sec b8]; exact h))) (by repeat (first | exact Sels.nil | apply Sels.cons | exact Sel.keep | exact Sel.here | apply Sel.there))) ?_
  rintro _ _ ⟨_, ⟨rfl, rfl⟩, rfl⟩
  refine SL.n0 ?_
  refine SL.val rfl rfl (fun w9 F9 S9 s => R.eqI rfl rfl) ?_
  first | refine SL.val rfl rfl (fun w9 F9 S9 s => R.pickT rfl rfl) ?_ | refine SL.val rfl rfl (fun w9 F9 S9 s => R.pickF rfl rfl) ?_
  refine SL.val rfl rfl (fun w9 F9 S9 s => R.mv rfl) ?_
  refine SL.isT 42 rfl (rfl) ?_
  refine SL.val rfl rfl (fun w9 F9 S9 s => R.mv rfl) ?_
  refine SL.val rfl rfl (fun w9 F9 S9 s => R.lenS rfl) ?_
  refine SL.val rfl rfl (fun w9 F9 S9 s => R.eqI rfl rfl) ?_
  first | refine SL.val rfl rfl (fun w9 F9 S9 s => R.pickT rfl rfl) ?_ | refine SL.val rfl rfl (fun w9 F9 S9 s => R.pickF rfl rfl) ?_
  refine SL.val rfl rfl (fun w9 F9 S9 s => R.mv rfl) ?_
  refine SL.isT 47 rfl (rfl) ?_
  refine SL.val rfl rfl (fun w9 F9 S9 s => R.mv rfl) ?_
  refine SL.val rfl rfl (fun w9 F9 S9 s => R.idxO (i := 1) rfl rfl (by omega) (by omega) rfl 3 (by decide)) ?_
  refine SL.val rfl rfl (fun w9 F9 S9 s => R.ldN (vs := [.int .i64 3, .int .i64 2, .int .i64 5]) rfl (part_at (k := 3) (xs := [.int .i64 1, .int .i64 1, .int .i64 4]) (s.ownC (show Sel _ (own 45 3 (some ⟨p5, 0, none⟩) 2 c24 [.int .i64 1, .int .i64 1, .int .i64 4, .int .i64 3, .int .i64 2, .int .i64 5]) _ from (by repeat (first | exact Sel.keep | exact Sel.here | apply Sel.there)))) rfl) rfl) ?_
  refine SL.val rfl rfl (fun w9 F9 S9 s => R.buildN (l := [.int .i64 3, .int .i64 2, .int .i64 5]) rfl rfl) ?_
  refine SL.val rfl rfl (fun w9 F9 S9 s => R.eqS rfl rfl rfl rfl (b := true) (by simp [eqL, veq])) ?_
  first | refine SL.val rfl rfl (fun w9 F9 S9 s => R.pickT rfl rfl) ?_ | refine SL.val rfl rfl (fun w9 F9 S9 s => R.pickF rfl rfl) ?_
  refine SL.val rfl rfl (fun w9 F9 S9 s => R.mv rfl) ?_
  refine SL.isT 54 rfl (rfl) ?_
  refine SL.val rfl rfl (fun w9 F9 S9 s => R.mv rfl) ?_
  refine SL.val rfl rfl (fun w9 F9 S9 s => R.lenS rfl) ?_
  refine SL.val rfl rfl (fun w9 F9 S9 s => R.eqI rfl rfl) ?_
  first | refine SL.val rfl rfl (fun w9 F9 S9 s => R.pickT rfl rfl) ?_ | refine SL.val rfl rfl (fun w9 F9 S9 s => R.pickF rfl rfl) ?_
  refine SL.val rfl rfl (fun w9 F9 S9 s => R.mv rfl) ?_
  refine SL.isT 59 rfl (rfl) ?_
  refine SL.val rfl rfl (fun w9 F9 S9 s => R.mv rfl) ?_
  refine SL.val rfl rfl (fun w9 F9 S9 s => R.idxO (i := 0) rfl rfl (by omega) (by omega) rfl 0 (by decide)) ?_
  refine SL.val rfl rfl (fun w9 F9 S9 s => R.ld (v := .int .i64 3) rfl ((s.ownC (show Sel _ (own 3 1 (some ⟨p6, 0, none⟩) 1 c26 [.int .i64 3]) _ from (by repeat (first | exact Sel.keep | exact Sel.here | apply Sel.there)))).load (j := 0) rfl)) ?_
  refine SL.val rfl rfl (fun w9 F9 S9 s => R.eqI rfl rfl) ?_
  first | refine SL.val rfl rfl (fun w9 F9 S9 s => R.pickT rfl rfl) ?_ | refine SL.val rfl rfl (fun w9 F9 S9 s => R.pickF rfl rfl) ?_
  refine SL.val rfl rfl (fun w9 F9 S9 s => R.mv rfl) ?_
  refine SL.isT 65 rfl (rfl) ?_
  refine SL.val rfl rfl (fun w9 F9 S9 s => R.mv rfl) ?_
  refine SL.step rfl rfl (CS.call rfl go12 ((Bytes_ok (some ⟨b22, 0, none⟩) 2 2 (fRecs a16 c16 (mkWs [3, 1] [g, g1]) a20 c20 (mkWs [3] [g2])) (by decide)).mono (fun v H h => (show v = .int .i64 6 ∧ H = [] from by rw [← fRecs_by (a := a16) (c := c16) (g := g) (g1 := g1) (a' := a20) (c' := c20) (g2 := g2)]; exact h))) (by repeat (first | exact Sels.nil | apply Sels.cons | exact Sel.keep | exact Sel.here | apply Sel.there))) ?_
  rintro _ _ ⟨_, ⟨rfl, rfl⟩, rfl⟩
  refine SL.n0 ?_
  refine SL.val rfl rfl (fun w9 F9 S9 s => R.eqI rfl rfl) ?_
  first | refine SL.val rfl rfl (fun w9 F9 S9 s => R.pickT rfl rfl) ?_ | refine SL.val rfl rfl (fun w9 F9 S9 s => R.pickF rfl rfl) ?_
  refine SL.val rfl rfl (fun w9 F9 S9 s => R.as rfl) ?_
  refine SL.nil ?_
  refine SN.seq ?_
  exact SG.ret1 rfl rfl ((Imp.sels (by repeat (first | exact Sels.nil | apply Sels.cons | exact Sel.keep | exact Sel.here | apply Sel.there)))) (⟨rfl, rfl⟩)

end Go.Proofs.YtlhkpakbenghgaaGreat
/-
  The walks of package stats.
-/
set_option linter.unusedVariables false
set_option linter.unusedSimpArgs false
set_option maxRecDepth 4000
namespace Go.Proofs.YtlhkpakbenghgaaGreat
open Go Brv Brv.Stats
def szR (l : List RecV) (i : Nat) : Nat := ((l.take i).map fun r => 1 + r.Writes'.length).sum
def szI (l : List ItemV) (i : Nat) : Nat := ((l.take i).map fun x => 1 + x.At'.length).sum
theorem szR_step {l : List RecV} {i : Nat} {r : RecV} (h : l[i]? = some r) : szR l (i + 1) = szR l i + (1 + r.Writes'.length) := by unfold szR; rw [List.take_add_one, h]; simp
theorem szI_step {l : List ItemV} {i : Nat} {x : ItemV} (h : l[i]? = some x) : szI l (i + 1) = szI l i + (1 + x.At'.length) := by unfold szI; rw [List.take_add_one, h]; simp
theorem szR_le (l : List RecV) (i : Nat) : szR l i ≤ szR l l.length := by
  unfold szR
  rw [List.take_length]
  conv => rhs; rw [← List.take_append_drop i l, List.map_append, List.sum_append]
  omega
theorem szI_le (l : List ItemV) (i : Nat) : szI l i ≤ szI l l.length := by
  unfold szI
  rw [List.take_length]
  conv => rhs; rw [← List.take_append_drop i l, List.map_append, List.sum_append]
  omega
theorem szR_ws (l : List RecV) : wsL l + l.length = szR l l.length := by
  unfold szR wsL
  rw [List.take_length]
  induction l with
  | nil => rfl
  | cons r l ih => rw [List.map_cons, List.sum_cons, List.map_cons, List.sum_cons, List.length_cons]; omega
theorem szI_len (l : List ItemV) : l.length ≤ szI l l.length := by
  unfold szI
  rw [List.take_length]
  induction l with
  | nil => exact Nat.zero_le _
  | cons r l ih => rw [List.map_cons, List.sum_cons, List.length_cons]; omega
def seF (u : Int) (l : List ItemV) : Int := l.foldl (fun u x => fE u x.At') u
theorem seF_step {u : Int} {l : List ItemV} {i : Nat} {x : ItemV} (h : l[i]? = some x) : fE (seF u (l.take i)) x.At' = seF u (l.take (i + 1)) := by unfold seF; rw [List.take_add_one, h, List.foldl_append]; rfl
theorem seF_from (l : List ItemV) : ∀ u : Int, seF (wr u) l = l.foldl (fun n x => wr (n + secE x.At')) (wr u) := by
  induction l with
  | nil => exact fun u => rfl
  | cons x l ih =>
    intro u
    show seF (fE (wr u) x.At') l = l.foldl (fun n x => wr (n + secE x.At')) (wr (wr u + secE x.At'))
    rw [fE_from, wr_l, ih]
theorem seF_sec (l : List ItemV) : seF 0 l = secL l := by
  have := seF_from l 0
  rwa [show wr 0 = 0 by decide +kernel] at this
theorem us4_eq (k : Int) (v : V3) : (!eqL (us4 k v).toArray.toList (us4 k v).toArray.toList) = false := by simp [us4, eqL, veq]
theorem bz3_eq (k : Int) (v : V2) : (!eqL (bz3 k v).toArray.toList (bz3 k v).toArray.toList) = false := by simp [bz3, eqL, veq]
theorem intsB_at {l : List E3} {i : Nat} {x : E3} (h : l[i]? = some x) : (intsB l)[i]? = some (.int .i64 x.1) := by unfold intsB; rw [List.getElem?_map, h]; rfl

set_option maxHeartbeats 4000000 in
theorem tell_law (aa : Option Addr) (an ac : Nat) (ia : List ItemV) (ba : Option Addr) (bn bc : Nat) (ib : List RecV) (kk : Int) (w : World) (hA : ItemsOk w aa an ia) (hB : RecsOk w ba bn ib) (hkk : kk ≤ 9223372036854775807) (hsz : szR ib ib.length + szI ia ia.length ≤ 4000000) : Meets Tryz.prog 3 [.slice aa an ac, .slice ba bn bc, .int .i64 kk] w (fun v w' => v = .bool true ∧ Ext [] w w') := by
  refine Meets.law Tryz.func3 rfl 170 rfl (Nat.le_of_ble_eq_true rfl) (law_cons (p := fun w => ItemsOk w aa an ia) (fun w9 he => hA.ext0 he) (law_cons (p := fun w => RecsOk w ba bn ib) (fun w9 he => hB.ext0 he) (law_nil w))) ?_
  refine SG.fact (fun w9 F9 S9 s => (s.sh (p := fun w => ItemsOk w aa an ia) (by repeat (first | exact Sel.keep | exact Sel.here | apply Sel.there))).len) (fun hf9 => ?_)
  have hla := hf9; clear hf9
  refine SG.fact (fun w9 F9 S9 s => (s.sh (p := fun w => RecsOk w ba bn ib) (by repeat (first | exact Sel.keep | exact Sel.here | apply Sel.there))).len) (fun hf9 => ?_)
  have hlb := hf9; clear hf9
  have hs1 := szR_ws ib
  have hs2 := szI_len ia
  have hbs : szR ib bn = szR ib ib.length := by rw [hlb]
  refine SG.seq ?_
  refine SG.region ?_
  refine SL.val rfl rfl (fun w9 F9 S9 s => R.as rfl) ?_
  refine SL.nil ?_
  refine SN.seq ?_
  refine SG.seq ?_
  refine SG.seq ?_
  refine SG.region ?_
  refine SL.step rfl rfl (CS.call rfl go4 (first43_ok) (by repeat (first | exact Sels.nil | apply Sels.cons | exact Sel.keep | exact Sel.here | apply Sel.there))) ?_
  rintro _ _ ⟨_, ⟨rfl, rfl⟩, rfl⟩
  refine SL.n0 ?_
  refine SL.val rfl rfl (fun w9 F9 S9 s => R.not rfl) ?_
  refine SL.nil ?_
  refine SN.seq ?_
  refine SG.condF rfl ?_
  refine SG.skip ?_
  refine SN.seq ?_
  refine SG.seq ?_
  refine SG.region ?_
  refine SL.val rfl rfl (fun w9 F9 S9 s => R.as rfl) ?_
  refine SL.val rfl rfl (fun w9 F9 S9 s => R.as rfl) ?_
  refine SL.val rfl rfl (fun w9 F9 S9 s => R.as rfl) ?_
  refine SL.nil ?_
  refine SN.seq ?_
  refine SG.seq ?_
  refine SG.seq ?_
  refine SG.region ?_
  refine SL.val rfl rfl (fun w9 F9 S9 s => R.mv rfl) ?_
  refine SL.val rfl rfl (fun w9 F9 S9 s => R.lenS rfl) ?_
  refine SL.val rfl rfl (fun w9 F9 S9 s => R.mv rfl) ?_
  refine SL.nil ?_
  refine SN.seq ?_
  refine SG.block ?_
  refine SG.loop (X := Nat) (fun i => [(0, .slice aa an ac), (1, .slice ba bn bc), (2, .int .i64 kk), (7, .int .i64 ((szR ib i : Nat) : Int)), (8, .int .i64 (byR 0 (ib.take i))), (9, .int .i64 0), (29, .slice ba bn bc), (30, .int .i64 ((bn : Nat) : Int)), (31, .int .i64 ((i : Nat) : Int))]) (fun i => [sh (fun w => ItemsOk w aa an ia), sh (fun w => RecsOk w ba bn ib)]) (fun i => i ≤ bn) (fun i => bn - i) (0) (Sub.cons rfl (Sub.cons rfl (Sub.cons rfl (Sub.cons rfl (Sub.cons rfl (Sub.cons rfl (Sub.cons rfl (Sub.cons rfl (Sub.cons rfl (Sub.nil _)))))))))) ((Imp.sels (by repeat (first | exact Sels.nil | apply Sels.cons | exact Sel.keep | exact Sel.here | apply Sel.there)))) (Nat.zero_le _) ?_
  intro i hi
  show SG _ _ _ _ _ [(0, .slice aa an ac), (1, .slice ba bn bc), (2, .int .i64 kk), (7, .int .i64 ((szR ib i : Nat) : Int)), (8, .int .i64 (byR 0 (ib.take i))), (9, .int .i64 0), (29, .slice ba bn bc), (30, .int .i64 ((bn : Nat) : Int)), (31, .int .i64 ((i : Nat) : Int))] [sh (fun w => ItemsOk w aa an ia), sh (fun w => RecsOk w ba bn ib)] _
  refine SG.seq ?_
  refine SG.region ?_
  refine SL.val rfl rfl (fun w9 F9 S9 s => R.lss rfl rfl) ?_
  refine SL.nil ?_
  refine SN.seq ?_
  refine SG.seq ?_
  refine SG.condP rfl (fun h1 => ?_) (fun h1 => ?_)
  · obtain ⟨r, hr⟩ : ∃ r, ib[i]? = some r := ⟨_, List.getElem?_eq_getElem (by omega)⟩
    refine SG.fact (fun w9 F9 S9 s => recs_pt (s.sh (p := fun w => RecsOk w ba bn ib) (by repeat (first | exact Sel.keep | exact Sel.here | apply Sel.there))) hr) (fun hf9 => ?_)
    obtain ⟨q, hq⟩ := hf9
    refine SG.fact (fun w9 F9 S9 s => (rec_at (recs_ok (s.sh (p := fun w => RecsOk w ba bn ib) (by repeat (first | exact Sel.keep | exact Sel.here | apply Sel.there))) hr)).2) (fun hf9 => ?_)
    have hwn := hf9; clear hf9
    have hz1 := szR_step hr
    have hz2 := szR_le ib (i + 1)
    refine SG.skip ?_
    refine SN.seq ?_
    refine SG.seq ?_
    refine SG.block ?_
    refine SG.seq ?_
    refine SG.region ?_
    refine SL.val rfl rfl (fun w9 F9 S9 s => R.idx rfl rfl (by omega) (by omega) q hq) ?_
    refine SL.val rfl rfl (fun w9 F9 S9 s => R.ldN (vs := r.cells) rfl (recs_ld (s.sh (p := fun w => RecsOk w ba bn ib) (by repeat (first | exact Sel.keep | exact Sel.here | apply Sel.there))) hq hr) rfl) ?_
    refine SL.step rfl rfl (CS.alloc [.int .i64 0, .int .i64 0, .int .i64 0, .slice none 0 0] rfl) ?_
    rintro _ _ ⟨b11, rfl, rfl⟩
    refine SL.step0 rfl (CS.stA (vs := r.cells) rfl rfl (by repeat (first | exact Sel.keep | exact Sel.here | apply Sel.there)) rfl (by rfl) (RecV.cells.one r)) ?_
    rintro _ _ rfl
    refine SL.nil ?_
    refine SN.seq ?_
    refine SG.seq ?_
    refine SG.region ?_
    refine SL.val rfl rfl (fun w9 F9 S9 s => R.mv rfl) ?_
    refine SL.val rfl rfl (fun w9 F9 S9 s => R.fld rfl) ?_
    refine SL.val rfl rfl (fun w9 F9 S9 s => R.ldB (v := .slice r.Writes'a r.Writes'n r.Writes'c) rfl (s.cel (by repeat (first | exact SelB.blk | exact SelB.fz | apply SelB.there))) (by rfl)) ?_
    refine SL.val rfl rfl (fun w9 F9 S9 s => R.lenS rfl) ?_
    refine SL.val rfl rfl (fun w9 F9 S9 s => R.add rfl rfl (by omega)) ?_
    refine SL.val rfl rfl (fun w9 F9 S9 s => R.addW rfl rfl ((szR ib (i + 1) : Nat) : Int) (by rw [wrap_i64 (by omega)]; omega)) ?_
    refine SL.val rfl rfl (fun w9 F9 S9 s => R.as rfl) ?_
    refine SL.nil ?_
    refine SN.seq ?_
    refine SG.seq ?_
    refine SG.region ?_
    refine SL.val rfl rfl (fun w9 F9 S9 s => R.fld rfl) ?_
    refine SL.val rfl rfl (fun w9 F9 S9 s => R.ldB (v := .slice r.Writes'a r.Writes'n r.Writes'c) rfl (s.cel (by repeat (first | exact SelB.blk | exact SelB.fz | apply SelB.there))) (by rfl)) ?_
    refine SL.val rfl rfl (fun w9 F9 S9 s => R.lenS rfl) ?_
    refine SL.val rfl rfl (fun w9 F9 S9 s => R.mv rfl) ?_
    refine SL.nil ?_
    refine SN.imp (Imp.weak (p := fun w => RecsOk w ba bn ib) (q := fun w => Tab w r.Writes'a r.Writes'n 2 (r.Writes'.map WriteV.cells)) (by repeat (first | exact Sel.keep | exact Sel.here | apply Sel.there)) (fun w h => (rec_at (recs_ok h hr)).1)) ?_
    refine SN.seq ?_
    refine SG.block ?_
    refine SG.loop (X := Nat) (fun j => [(0, .slice aa an ac), (1, .slice ba bn bc), (2, .int .i64 kk), (7, .int .i64 ((szR ib (i + 1) : Nat) : Int)), (8, .int .i64 (byW (byR 0 (ib.take i)) (r.Writes'.take j))), (9, .int .i64 0), (29, .slice ba bn bc), (30, .int .i64 ((bn : Nat) : Int)), (31, .int .i64 ((i : Nat) : Int)), (42, .slice r.Writes'a r.Writes'n r.Writes'c), (43, .int .i64 ((r.Writes'n : Nat) : Int)), (44, .int .i64 ((j : Nat) : Int))]) (fun j => [sh (fun w => Tab w r.Writes'a r.Writes'n 2 (r.Writes'.map WriteV.cells)), sh (fun w => ItemsOk w aa an ia), sh (fun w => RecsOk w ba bn ib)]) (fun j => j ≤ r.Writes'n) (fun j => r.Writes'n - j) (0) (Sub.cons rfl (Sub.cons rfl (Sub.cons rfl (Sub.cons rfl (Sub.cons rfl (Sub.cons rfl (Sub.cons rfl (Sub.cons rfl (Sub.cons rfl (Sub.cons rfl (Sub.cons rfl (Sub.cons rfl (Sub.nil _))))))))))))) ((Imp.sels (by repeat (first | exact Sels.nil | apply Sels.cons | exact Sel.keep | exact Sel.here | apply Sel.there)))) (Nat.zero_le _) ?_
    intro j hj
    show SG _ _ _ _ _ [(0, .slice aa an ac), (1, .slice ba bn bc), (2, .int .i64 kk), (7, .int .i64 ((szR ib (i + 1) : Nat) : Int)), (8, .int .i64 (byW (byR 0 (ib.take i)) (r.Writes'.take j))), (9, .int .i64 0), (29, .slice ba bn bc), (30, .int .i64 ((bn : Nat) : Int)), (31, .int .i64 ((i : Nat) : Int)), (42, .slice r.Writes'a r.Writes'n r.Writes'c), (43, .int .i64 ((r.Writes'n : Nat) : Int)), (44, .int .i64 ((j : Nat) : Int))] [sh (fun w => Tab w r.Writes'a r.Writes'n 2 (r.Writes'.map WriteV.cells)), sh (fun w => ItemsOk w aa an ia), sh (fun w => RecsOk w ba bn ib)] _
    refine SG.seq ?_
    refine SG.region ?_
    refine SL.val rfl rfl (fun w9 F9 S9 s => R.lss rfl rfl) ?_
    refine SL.nil ?_
    refine SN.seq ?_
    refine SG.seq ?_
    refine SG.condP rfl (fun h2 => ?_) (fun h2 => ?_)
    · obtain ⟨z, hz⟩ : ∃ z, r.Writes'[j]? = some z := ⟨_, List.getElem?_eq_getElem (by omega)⟩
      refine SG.fact (fun w9 F9 S9 s => wrs_pt (s.sh (p := fun w => Tab w r.Writes'a r.Writes'n 2 (r.Writes'.map WriteV.cells)) (by repeat (first | exact Sel.keep | exact Sel.here | apply Sel.there))) hz) (fun hf9 => ?_)
      obtain ⟨q2, hq2⟩ := hf9
      refine SG.skip ?_
      refine SN.seq ?_
      refine SG.seq ?_
      refine SG.block ?_
      refine SG.seq ?_
      refine SG.region ?_
      refine SL.val rfl rfl (fun w9 F9 S9 s => R.idx rfl rfl (by omega) (by omega) q2 hq2) ?_
      refine SL.val rfl rfl (fun w9 F9 S9 s => R.ldN (vs := z.cells) rfl (wrs_ld (s.sh (p := fun w => Tab w r.Writes'a r.Writes'n 2 (r.Writes'.map WriteV.cells)) (by repeat (first | exact Sel.keep | exact Sel.here | apply Sel.there))) hq2 hz) rfl) ?_
      refine SL.step rfl rfl (CS.alloc [.int .i64 0, .slice none 0 0] rfl) ?_
      rintro _ _ ⟨b13, rfl, rfl⟩
      refine SL.step0 rfl (CS.stA (vs := z.cells) rfl rfl (by repeat (first | exact Sel.keep | exact Sel.here | apply Sel.there)) rfl (by rfl) (WriteV.cells.one z)) ?_
      rintro _ _ rfl
      refine SL.nil ?_
      refine SN.seq ?_
      refine SG.region ?_
      refine SL.val rfl rfl (fun w9 F9 S9 s => R.mv rfl) ?_
      refine SL.val rfl rfl (fun w9 F9 S9 s => R.fld rfl) ?_
      refine SL.val rfl rfl (fun w9 F9 S9 s => R.ldB (v := .slice z.B'a z.B'n z.B'c) rfl (s.cel (by repeat (first | exact SelB.blk | exact SelB.fz | apply SelB.there))) (by rfl)) ?_
      refine SL.val rfl rfl (fun w9 F9 S9 s => R.lenS rfl) ?_
      refine SL.val rfl rfl (fun w9 F9 S9 s => R.addW rfl rfl (byW (byR 0 (ib.take i)) (r.Writes'.take (j + 1))) (byW_step hz)) ?_
      refine SL.val rfl rfl (fun w9 F9 S9 s => R.as rfl) ?_
      refine SL.nil ?_
      refine SN.block ?_
      refine SN.seq ?_
      refine SG.region ?_
      refine SL.val rfl rfl (fun w9 F9 S9 s => R.add rfl rfl (by omega)) ?_
      refine SL.val rfl rfl (fun w9 F9 S9 s => R.mv rfl) ?_
      refine SL.nil ?_
      exact SN.again (j + 1) (by show r.Writes'n - (j + 1) < r.Writes'n - j; omega) (Sub.cons rfl (Sub.cons rfl (Sub.cons rfl (Sub.cons rfl (Sub.cons rfl (Sub.cons rfl (Sub.cons rfl (Sub.cons rfl (Sub.cons rfl (Sub.cons rfl (Sub.cons rfl (Sub.cons rfl (Sub.nil _))))))))))))) ((Imp.sels (by repeat (first | exact Sels.nil | apply Sels.cons | exact Sel.keep | exact Sel.here | apply Sel.there)))) (by show j + 1 ≤ r.Writes'n; omega)
    · rw [List.take_of_length_le (show r.Writes'.length ≤ j by omega), byR_step hr]
      refine SG.exit _ rfl ?_
      refine SN.block ?_
      refine SN.seq ?_
      refine SG.region ?_
      refine SL.val rfl rfl (fun w9 F9 S9 s => R.add rfl rfl (by omega)) ?_
      refine SL.val rfl rfl (fun w9 F9 S9 s => R.mv rfl) ?_
      refine SL.nil ?_
      exact SN.again (i + 1) (by show bn - (i + 1) < bn - i; omega) (Sub.cons rfl (Sub.cons rfl (Sub.cons rfl (Sub.cons rfl (Sub.cons rfl (Sub.cons rfl (Sub.cons rfl (Sub.cons rfl (Sub.cons rfl (Sub.nil _)))))))))) ((Imp.sels (by repeat (first | exact Sels.nil | apply Sels.cons | exact Sel.keep | exact Sel.here | apply Sel.there)))) (by show i + 1 ≤ bn; omega)
  · obtain rfl : bn = i := by omega
    rw [List.take_of_length_le (show ib.length ≤ bn by omega), hlb]
    rw [← hlb]
    refine SG.exit _ rfl ?_
    refine SN.seq ?_
    refine SG.seq ?_
    refine SG.seq ?_
    refine SG.region ?_
    refine SL.val rfl rfl (fun w9 F9 S9 s => R.mv rfl) ?_
    refine SL.val rfl rfl (fun w9 F9 S9 s => R.lenS rfl) ?_
    refine SL.val rfl rfl (fun w9 F9 S9 s => R.mv rfl) ?_
    refine SL.nil ?_
    refine SN.seq ?_
    refine SG.block ?_
    refine SG.loop (X := Nat) (fun i => [(0, .slice aa an ac), (1, .slice ba bn bc), (2, .int .i64 kk), (7, .int .i64 ((szR ib bn + szI ia i : Nat) : Int)), (8, .int .i64 (byR 0 ib)), (9, .int .i64 (seF 0 (ia.take i))), (55, .slice aa an ac), (56, .int .i64 ((an : Nat) : Int)), (57, .int .i64 ((i : Nat) : Int))]) (fun i => [sh (fun w => ItemsOk w aa an ia), sh (fun w => RecsOk w ba bn ib)]) (fun i => i ≤ an) (fun i => an - i) (0) (Sub.cons rfl (Sub.cons rfl (Sub.cons rfl (Sub.cons rfl (Sub.cons rfl (Sub.cons rfl (Sub.cons rfl (Sub.cons rfl (Sub.cons rfl (Sub.nil _)))))))))) ((Imp.sels (by repeat (first | exact Sels.nil | apply Sels.cons | exact Sel.keep | exact Sel.here | apply Sel.there)))) (Nat.zero_le _) ?_
    intro i hi
    show SG _ _ _ _ _ [(0, .slice aa an ac), (1, .slice ba bn bc), (2, .int .i64 kk), (7, .int .i64 ((szR ib bn + szI ia i : Nat) : Int)), (8, .int .i64 (byR 0 ib)), (9, .int .i64 (seF 0 (ia.take i))), (55, .slice aa an ac), (56, .int .i64 ((an : Nat) : Int)), (57, .int .i64 ((i : Nat) : Int))] [sh (fun w => ItemsOk w aa an ia), sh (fun w => RecsOk w ba bn ib)] _
    refine SG.seq ?_
    refine SG.region ?_
    refine SL.val rfl rfl (fun w9 F9 S9 s => R.lss rfl rfl) ?_
    refine SL.nil ?_
    refine SN.seq ?_
    refine SG.seq ?_
    refine SG.condP rfl (fun h3 => ?_) (fun h3 => ?_)
    · obtain ⟨x, hx⟩ : ∃ x, ia[i]? = some x := ⟨_, List.getElem?_eq_getElem (by omega)⟩
      refine SG.fact (fun w9 F9 S9 s => items_pt (s.sh (p := fun w => ItemsOk w aa an ia) (by repeat (first | exact Sel.keep | exact Sel.here | apply Sel.there))) hx) (fun hf9 => ?_)
      obtain ⟨q, hq⟩ := hf9
      refine SG.fact (fun w9 F9 S9 s => (item_at (itemsOk_at (s.sh (p := fun w => ItemsOk w aa an ia) (by repeat (first | exact Sel.keep | exact Sel.here | apply Sel.there))) hx)).2) (fun hf9 => ?_)
      have hat := hf9; clear hf9
      have hz1 := szI_step hx
      have hz2 := szI_le ia (i + 1)
      refine SG.skip ?_
      refine SN.seq ?_
      refine SG.seq ?_
      refine SG.block ?_
      refine SG.seq ?_
      refine SG.region ?_
      refine SL.val rfl rfl (fun w9 F9 S9 s => R.idx rfl rfl (by omega) (by omega) q hq) ?_
      refine SL.val rfl rfl (fun w9 F9 S9 s => R.ldN (vs := x.cells) rfl (items_ld (s.sh (p := fun w => ItemsOk w aa an ia) (by repeat (first | exact Sel.keep | exact Sel.here | apply Sel.there))) hq hx) rfl) ?_
      refine SL.step rfl rfl (CS.alloc [.int .i64 0, .int .i64 0, .int .i64 0, .int .i64 0, .int .i64 0, .int .i64 0, .int .i64 0, .int .i64 0, .slice none 0 0] rfl) ?_
      rintro _ _ ⟨b15, rfl, rfl⟩
      refine SL.step0 rfl (CS.stA (vs := x.cells) rfl rfl (by repeat (first | exact Sel.keep | exact Sel.here | apply Sel.there)) rfl (by rfl) (ItemV.cells.one x)) ?_
      rintro _ _ rfl
      refine SL.nil ?_
      refine SN.seq ?_
      refine SG.seq ?_
      refine SG.region ?_
      refine SL.val rfl rfl (fun w9 F9 S9 s => R.mv rfl) ?_
      refine SL.val rfl rfl (fun w9 F9 S9 s => R.fld rfl) ?_
      refine SL.val rfl rfl (fun w9 F9 S9 s => R.ldB (v := .slice x.At'a x.At'n x.At'c) rfl (s.cel (by repeat (first | exact SelB.blk | exact SelB.fz | apply SelB.there))) (by rfl)) ?_
      refine SL.val rfl rfl (fun w9 F9 S9 s => R.lenS rfl) ?_
      refine SL.val rfl rfl (fun w9 F9 S9 s => R.add rfl rfl (by omega)) ?_
      refine SL.val rfl rfl (fun w9 F9 S9 s => R.addW rfl rfl ((szR ib bn + szI ia (i + 1) : Nat) : Int) (by rw [wrap_i64 (by omega)]; omega)) ?_
      refine SL.val rfl rfl (fun w9 F9 S9 s => R.as rfl) ?_
      refine SL.nil ?_
      refine SN.seq ?_
      refine SG.seq ?_
      refine SG.region ?_
      refine SL.val rfl rfl (fun w9 F9 S9 s => R.fld rfl) ?_
      refine SL.val rfl rfl (fun w9 F9 S9 s => R.ldB (v := .slice x.At'a x.At'n x.At'c) rfl (s.cel (by repeat (first | exact SelB.blk | exact SelB.fz | apply SelB.there))) (by rfl)) ?_
      refine SL.val rfl rfl (fun w9 F9 S9 s => R.lenS rfl) ?_
      refine SL.val rfl rfl (fun w9 F9 S9 s => R.mv rfl) ?_
      refine SL.nil ?_
      refine SN.imp (Imp.weak (p := fun w => ItemsOk w aa an ia) (q := fun w => Tab w x.At'a x.At'n 2 (x.At'.map ExtV.cells)) (by repeat (first | exact Sel.keep | exact Sel.here | apply Sel.there)) (fun w h => (item_at (itemsOk_at h hx)).1)) ?_
      refine SN.seq ?_
      refine SG.block ?_
      refine SG.loop (X := Nat) (fun j => [(0, .slice aa an ac), (1, .slice ba bn bc), (2, .int .i64 kk), (7, .int .i64 ((szR ib bn + szI ia (i + 1) : Nat) : Int)), (8, .int .i64 (byR 0 ib)), (9, .int .i64 (fE (seF 0 (ia.take i)) (x.At'.take j))), (55, .slice aa an ac), (56, .int .i64 ((an : Nat) : Int)), (57, .int .i64 ((i : Nat) : Int)), (68, .slice x.At'a x.At'n x.At'c), (69, .int .i64 ((x.At'n : Nat) : Int)), (70, .int .i64 ((j : Nat) : Int))]) (fun j => [sh (fun w => Tab w x.At'a x.At'n 2 (x.At'.map ExtV.cells)), sh (fun w => ItemsOk w aa an ia), sh (fun w => RecsOk w ba bn ib)]) (fun j => j ≤ x.At'n) (fun j => x.At'n - j) (0) (Sub.cons rfl (Sub.cons rfl (Sub.cons rfl (Sub.cons rfl (Sub.cons rfl (Sub.cons rfl (Sub.cons rfl (Sub.cons rfl (Sub.cons rfl (Sub.cons rfl (Sub.cons rfl (Sub.cons rfl (Sub.nil _))))))))))))) ((Imp.sels (by repeat (first | exact Sels.nil | apply Sels.cons | exact Sel.keep | exact Sel.here | apply Sel.there)))) (Nat.zero_le _) ?_
      intro j hj
      show SG _ _ _ _ _ [(0, .slice aa an ac), (1, .slice ba bn bc), (2, .int .i64 kk), (7, .int .i64 ((szR ib bn + szI ia (i + 1) : Nat) : Int)), (8, .int .i64 (byR 0 ib)), (9, .int .i64 (fE (seF 0 (ia.take i)) (x.At'.take j))), (55, .slice aa an ac), (56, .int .i64 ((an : Nat) : Int)), (57, .int .i64 ((i : Nat) : Int)), (68, .slice x.At'a x.At'n x.At'c), (69, .int .i64 ((x.At'n : Nat) : Int)), (70, .int .i64 ((j : Nat) : Int))] [sh (fun w => Tab w x.At'a x.At'n 2 (x.At'.map ExtV.cells)), sh (fun w => ItemsOk w aa an ia), sh (fun w => RecsOk w ba bn ib)] _
      refine SG.seq ?_
      refine SG.region ?_
      refine SL.val rfl rfl (fun w9 F9 S9 s => R.lss rfl rfl) ?_
      refine SL.nil ?_
      refine SN.seq ?_
      refine SG.seq ?_
      refine SG.condP rfl (fun h4 => ?_) (fun h4 => ?_)
      · obtain ⟨e, he⟩ : ∃ e, x.At'[j]? = some e := ⟨_, List.getElem?_eq_getElem (by omega)⟩
        have heR : (x.At'.map ExtV.cells)[j]? = some e.cells := by rw [List.getElem?_map, he]; rfl
        refine SG.fact (fun w9 F9 S9 s => tabR_pt (s.sh (p := fun w => Tab w x.At'a x.At'n 2 (x.At'.map ExtV.cells)) (by repeat (first | exact Sel.keep | exact Sel.here | apply Sel.there))) (by decide) heR) (fun hf9 => ?_)
        obtain ⟨q2, hq2⟩ := hf9
        refine SG.skip ?_
        refine SN.seq ?_
        refine SG.seq ?_
        refine SG.block ?_
        refine SG.seq ?_
        refine SG.region ?_
        refine SL.val rfl rfl (fun w9 F9 S9 s => R.idx rfl rfl (by omega) (by omega) q2 hq2) ?_
        refine SL.val rfl rfl (fun w9 F9 S9 s => R.ldN (vs := e.cells) rfl (tabR_ld (s.sh (p := fun w => Tab w x.At'a x.At'n 2 (x.At'.map ExtV.cells)) (by repeat (first | exact Sel.keep | exact Sel.here | apply Sel.there))) (by decide) hq2 heR) rfl) ?_
        refine SL.step rfl rfl (CS.alloc [.int .i64 0, .int .i64 0] rfl) ?_
        rintro _ _ ⟨b17, rfl, rfl⟩
        refine SL.step0 rfl (CS.stA (vs := e.cells) rfl rfl (by repeat (first | exact Sel.keep | exact Sel.here | apply Sel.there)) rfl (by rfl) (ExtV.cells.one e)) ?_
        rintro _ _ rfl
        refine SL.nil ?_
        refine SN.seq ?_
        refine SG.region ?_
        refine SL.val rfl rfl (fun w9 F9 S9 s => R.mv rfl) ?_
        refine SL.val rfl rfl (fun w9 F9 S9 s => R.fld rfl) ?_
        refine SL.val rfl rfl (fun w9 F9 S9 s => R.ldB (v := .int .i64 e.N') rfl (s.cel (by repeat (first | exact SelB.blk | exact SelB.fz | apply SelB.there))) (by rfl)) ?_
        refine SL.val rfl rfl (fun w9 F9 S9 s => R.addW rfl rfl (fE (seF 0 (ia.take i)) (x.At'.take (j + 1))) (fE_step he).symm) ?_
        refine SL.val rfl rfl (fun w9 F9 S9 s => R.as rfl) ?_
        refine SL.nil ?_
        refine SN.block ?_
        refine SN.seq ?_
        refine SG.region ?_
        refine SL.val rfl rfl (fun w9 F9 S9 s => R.add rfl rfl (by omega)) ?_
        refine SL.val rfl rfl (fun w9 F9 S9 s => R.mv rfl) ?_
        refine SL.nil ?_
        exact SN.again (j + 1) (by show x.At'n - (j + 1) < x.At'n - j; omega) (Sub.cons rfl (Sub.cons rfl (Sub.cons rfl (Sub.cons rfl (Sub.cons rfl (Sub.cons rfl (Sub.cons rfl (Sub.cons rfl (Sub.cons rfl (Sub.cons rfl (Sub.cons rfl (Sub.cons rfl (Sub.nil _))))))))))))) ((Imp.sels (by repeat (first | exact Sels.nil | apply Sels.cons | exact Sel.keep | exact Sel.here | apply Sel.there)))) (by show j + 1 ≤ x.At'n; omega)
      · rw [List.take_of_length_le (show x.At'.length ≤ j by omega), seF_step hx]
        refine SG.exit _ rfl ?_
        refine SN.block ?_
        refine SN.seq ?_
        refine SG.region ?_
        refine SL.val rfl rfl (fun w9 F9 S9 s => R.add rfl rfl (by omega)) ?_
        refine SL.val rfl rfl (fun w9 F9 S9 s => R.mv rfl) ?_
        refine SL.nil ?_
        exact SN.again (i + 1) (by show an - (i + 1) < an - i; omega) (Sub.cons rfl (Sub.cons rfl (Sub.cons rfl (Sub.cons rfl (Sub.cons rfl (Sub.cons rfl (Sub.cons rfl (Sub.cons rfl (Sub.cons rfl (Sub.nil _)))))))))) ((Imp.sels (by repeat (first | exact Sels.nil | apply Sels.cons | exact Sel.keep | exact Sel.here | apply Sel.there)))) (by show i + 1 ≤ an; omega)
    · obtain rfl : an = i := by omega
      rw [List.take_of_length_le (show ia.length ≤ an by omega), seF_sec]
      refine SG.exit _ rfl ?_
      refine SN.seq ?_
      refine SG.seq ?_
      refine SG.seq ?_
      refine SG.region ?_
      refine SL.val rfl rfl (fun w9 F9 S9 s => R.mv rfl) ?_
      refine SL.val rfl rfl (fun w9 F9 S9 s => R.gtr rfl rfl) ?_
      refine SL.nil ?_
      refine SN.seq ?_
      refine SG.condP rfl (fun h5 => ?_) (fun h5 => ?_)
      · refine SG.seq ?_
        refine SG.region ?_
        refine SL.val rfl rfl (fun w9 F9 S9 s => R.as rfl) ?_
        refine SL.nil ?_
        refine SN.seq ?_
        exact SG.ret1 rfl rfl ((Imp.sels (by repeat (first | exact Sels.nil | apply Sels.cons | exact Sel.keep | exact Sel.here | apply Sel.there)))) (rfl)
      · have has : szI ia an = szI ia ia.length := by rw [hla]
        have hua := usT_len ia
        have hub := bzT_len ib
        refine SG.skip ?_
        refine SN.seq ?_
        refine SG.seq ?_
        refine SG.region ?_
        refine SL.val rfl rfl (fun w9 F9 S9 s => R.mv rfl) ?_
        refine SL.step rfl rfl (CS.call rfl go5 (Usages_ok aa an ac ia (by omega)) (by repeat (first | exact Sels.nil | apply Sels.cons | exact Sel.keep | exact Sel.here | apply Sel.there))) ?_
        rintro _ _ ⟨_, ⟨a83, c83, rfl, rfl⟩, rfl⟩
        refine SL.n1 ?_
        refine SL.val rfl rfl (fun w9 F9 S9 s => R.mv rfl) ?_
        refine SL.step rfl rfl (CS.call rfl go6 (rUsages_ok aa an ac ia (by omega)) (by repeat (first | exact Sels.nil | apply Sels.cons | exact Sel.keep | exact Sel.here | apply Sel.there))) ?_
        rintro _ _ ⟨_, ⟨a85, c85, rfl, rfl⟩, rfl⟩
        refine SL.n1 ?_
        refine SL.val rfl rfl (fun w9 F9 S9 s => R.as rfl) ?_
        refine SL.val rfl rfl (fun w9 F9 S9 s => R.as rfl) ?_
        refine SL.nil ?_
        refine SN.seq ?_
        refine SG.seq ?_
        refine SG.region ?_
        refine SL.val rfl rfl (fun w9 F9 S9 s => R.mv rfl) ?_
        refine SL.step rfl rfl (CS.call rfl go7 (Blocks_ok ba bn bc ib (by omega) (by omega)) (by repeat (first | exact Sels.nil | apply Sels.cons | exact Sel.keep | exact Sel.here | apply Sel.there))) ?_
        rintro _ _ ⟨_, ⟨a87, c87, rfl, rfl⟩, rfl⟩
        refine SL.n1 ?_
        refine SL.val rfl rfl (fun w9 F9 S9 s => R.mv rfl) ?_
        refine SL.step rfl rfl (CS.call rfl go8 (rBlocks_ok ba bn bc ib (by omega) (by omega)) (by repeat (first | exact Sels.nil | apply Sels.cons | exact Sel.keep | exact Sel.here | apply Sel.there))) ?_
        rintro _ _ ⟨_, ⟨a89, c89, rfl, rfl⟩, rfl⟩
        refine SL.n1 ?_
        refine SL.val rfl rfl (fun w9 F9 S9 s => R.as rfl) ?_
        refine SL.val rfl rfl (fun w9 F9 S9 s => R.as rfl) ?_
        refine SL.nil ?_
        refine SN.seq ?_
        refine SG.seq ?_
        refine SG.region ?_
        refine SL.val rfl rfl (fun w9 F9 S9 s => R.mv rfl) ?_
        refine SL.val rfl rfl (fun w9 F9 S9 s => R.mv rfl) ?_
        refine SL.step rfl rfl (CS.call rfl go9 (hot_ok ba bn bc ib kk (by omega) (by omega) hkk) (by repeat (first | exact Sels.nil | apply Sels.cons | exact Sel.keep | exact Sel.here | apply Sel.there))) ?_
        rintro _ _ ⟨_, ⟨ys, a92, c92, rfl, hys, rfl, rfl⟩, rfl⟩
        refine SL.n1 ?_
        refine SL.val rfl rfl (fun w9 F9 S9 s => R.mv rfl) ?_
        refine SL.val rfl rfl (fun w9 F9 S9 s => R.mv rfl) ?_
        refine SL.step rfl rfl (CS.call rfl go10 (rHot_ok ba bn bc ib kk ys hys (by omega) (by omega) hkk) (by repeat (first | exact Sels.nil | apply Sels.cons | exact Sel.keep | exact Sel.here | apply Sel.there))) ?_
        rintro _ _ ⟨_, ⟨a95, c95, rfl, rfl⟩, rfl⟩
        refine SL.n1 ?_
        refine SL.val rfl rfl (fun w9 F9 S9 s => R.as rfl) ?_
        refine SL.val rfl rfl (fun w9 F9 S9 s => R.as rfl) ?_
        refine SL.nil ?_
        refine SN.seq ?_
        refine SG.seq ?_
        refine SG.seq ?_
        refine SG.region ?_
        refine SL.val rfl rfl (fun w9 F9 S9 s => R.mv rfl) ?_
        refine SL.val rfl rfl (fun w9 F9 S9 s => R.lenS rfl) ?_
        refine SL.val rfl rfl (fun w9 F9 S9 s => R.mv rfl) ?_
        refine SL.val rfl rfl (fun w9 F9 S9 s => R.lenS rfl) ?_
        refine SL.val rfl rfl (fun w9 F9 S9 s => R.neI rfl rfl) ?_
        refine SL.val rfl rfl (fun w9 F9 S9 s => R.mv rfl) ?_
        refine SL.isF 101 rfl (by simp) ?_
        refine SL.val rfl rfl (fun w9 F9 S9 s => R.mv rfl) ?_
        refine SL.val rfl rfl (fun w9 F9 S9 s => R.lenS rfl) ?_
        refine SL.val rfl rfl (fun w9 F9 S9 s => R.mv rfl) ?_
        refine SL.val rfl rfl (fun w9 F9 S9 s => R.lenS rfl) ?_
        refine SL.val rfl rfl (fun w9 F9 S9 s => R.neI rfl rfl) ?_
        first | refine SL.val rfl rfl (fun w9 F9 S9 s => R.pickT rfl rfl) ?_ | refine SL.val rfl rfl (fun w9 F9 S9 s => R.pickF rfl rfl) ?_
        refine SL.val rfl rfl (fun w9 F9 S9 s => R.mv rfl) ?_
        refine SL.isF 108 rfl (by simp) ?_
        refine SL.val rfl rfl (fun w9 F9 S9 s => R.mv rfl) ?_
        refine SL.val rfl rfl (fun w9 F9 S9 s => R.lenS rfl) ?_
        refine SL.val rfl rfl (fun w9 F9 S9 s => R.mv rfl) ?_
        refine SL.val rfl rfl (fun w9 F9 S9 s => R.lenS rfl) ?_
        refine SL.val rfl rfl (fun w9 F9 S9 s => R.neI rfl rfl) ?_
        first | refine SL.val rfl rfl (fun w9 F9 S9 s => R.pickT rfl rfl) ?_ | refine SL.val rfl rfl (fun w9 F9 S9 s => R.pickF rfl rfl) ?_
        refine SL.nil ?_
        refine SN.seq ?_
        refine SG.condP rfl (fun h6 => ?_) (fun h6 => ?_)
        · exact absurd rfl h6
        · refine SG.skip ?_
          refine SN.seq ?_
          refine SG.seq ?_
          refine SG.seq ?_
          refine SG.region ?_
          refine SL.val rfl rfl (fun w9 F9 S9 s => R.mv rfl) ?_
          refine SL.val rfl rfl (fun w9 F9 S9 s => R.lenS rfl) ?_
          refine SL.val rfl rfl (fun w9 F9 S9 s => R.mv rfl) ?_
          refine SL.nil ?_
          refine SN.seq ?_
          refine SG.block ?_
          refine SG.loop (X := Nat) (fun i => [(0, .slice aa an ac), (1, .slice ba bn bc), (2, .int .i64 kk), (8, .int .i64 (byR 0 ib)), (9, .int .i64 (secL ia)), (18, .slice a83 (usT ia).length c83), (19, .slice a85 (usT ia).length c85), (20, .slice a87 (bzT ib).length c87), (21, .slice a89 (bzT ib).length c89), (22, .slice a92 (manyB (bzT ib).length kk) c92), (23, .slice a95 (manyB (bzT ib).length kk) c95), (115, .slice a83 (usT ia).length c83), (116, .int .i64 (((usT ia).length : Nat) : Int)), (117, .int .i64 ((i : Nat) : Int))]) (fun i => [own 43 4 a83 ((usT ia).length) c83 (uCells (usT ia)).flatten, own 43 4 a85 ((usT ia).length) c85 (uCells (usT ia)).flatten, own 45 3 a87 ((bzT ib).length) c87 (bCells (bzT ib)).flatten, own 45 3 a89 ((bzT ib).length) c89 (bCells (bzT ib)).flatten, own 3 1 a92 (manyB (bzT ib).length kk) c92 (intsB (ys.take (manyB (bzT ib).length kk))), own 3 1 a95 (manyB (bzT ib).length kk) c95 (intsB (ys.take (manyB (bzT ib).length kk))), sh (fun w => ItemsOk w aa an ia), sh (fun w => RecsOk w ba bn ib)]) (fun i => i ≤ (usT ia).length) (fun i => (usT ia).length - i) (0) (Sub.cons rfl (Sub.cons rfl (Sub.cons rfl (Sub.cons rfl (Sub.cons rfl (Sub.cons rfl (Sub.cons rfl (Sub.cons rfl (Sub.cons rfl (Sub.cons rfl (Sub.cons rfl (Sub.cons rfl (Sub.cons rfl (Sub.cons rfl (Sub.nil _))))))))))))))) ((Imp.sels (by repeat (first | exact Sels.nil | apply Sels.cons | exact Sel.keep | exact Sel.here | apply Sel.there)))) (Nat.zero_le _) ?_
          intro i hi
          show SG _ _ _ _ _ [(0, .slice aa an ac), (1, .slice ba bn bc), (2, .int .i64 kk), (8, .int .i64 (byR 0 ib)), (9, .int .i64 (secL ia)), (18, .slice a83 (usT ia).length c83), (19, .slice a85 (usT ia).length c85), (20, .slice a87 (bzT ib).length c87), (21, .slice a89 (bzT ib).length c89), (22, .slice a92 (manyB (bzT ib).length kk) c92), (23, .slice a95 (manyB (bzT ib).length kk) c95), (115, .slice a83 (usT ia).length c83), (116, .int .i64 (((usT ia).length : Nat) : Int)), (117, .int .i64 ((i : Nat) : Int))] [own 43 4 a83 ((usT ia).length) c83 (uCells (usT ia)).flatten, own 43 4 a85 ((usT ia).length) c85 (uCells (usT ia)).flatten, own 45 3 a87 ((bzT ib).length) c87 (bCells (bzT ib)).flatten, own 45 3 a89 ((bzT ib).length) c89 (bCells (bzT ib)).flatten, own 3 1 a92 (manyB (bzT ib).length kk) c92 (intsB (ys.take (manyB (bzT ib).length kk))), own 3 1 a95 (manyB (bzT ib).length kk) c95 (intsB (ys.take (manyB (bzT ib).length kk))), sh (fun w => ItemsOk w aa an ia), sh (fun w => RecsOk w ba bn ib)] _
          refine SG.seq ?_
          refine SG.region ?_
          refine SL.val rfl rfl (fun w9 F9 S9 s => R.lss rfl rfl) ?_
          refine SL.nil ?_
          refine SN.seq ?_
          refine SG.seq ?_
          refine SG.condP rfl (fun h7 => ?_) (fun h7 => ?_)
          · obtain ⟨p, hp⟩ : ∃ p, (usT ia)[i]? = some p := ⟨_, List.getElem?_eq_getElem (by omega)⟩
            refine SG.fact (fun w9 F9 S9 s => s.ownG (show Sel _ (own 43 4 a83 ((usT ia).length) c83 (uCells (usT ia)).flatten) _ from (by repeat (first | exact Sel.keep | exact Sel.here | apply Sel.there))) (by omega)) (fun hf9 => ?_)
            obtain ⟨g1, rfl⟩ := hf9
            refine SG.fact (fun w9 F9 S9 s => s.ownG (show Sel _ (own 43 4 a85 ((usT ia).length) c85 (uCells (usT ia)).flatten) _ from (by repeat (first | exact Sel.keep | exact Sel.here | apply Sel.there))) (by omega)) (fun hf9 => ?_)
            obtain ⟨g2, rfl⟩ := hf9
            refine SG.skip ?_
            refine SN.seq ?_
            refine SG.seq ?_
            refine SG.block ?_
            refine SG.seq ?_
            refine SG.region ?_
            refine SL.val rfl rfl (fun w9 F9 S9 s => R.mv rfl) ?_
            refine SL.val rfl rfl (fun w9 F9 S9 s => R.as rfl) ?_
            refine SL.nil ?_
            refine SN.seq ?_
            refine SG.seq ?_
            refine SG.draw [] [0, 1, 2, 3, 4, 5, 6, 7, 8] (by decide +kernel) rfl ?_
            refine SW.pure rfl rfl rfl rfl (fun w9 => R.mv rfl) ?_
            refine SW.pure rfl rfl rfl rfl (fun w9 => R.mv rfl) ?_
            refine SW.pure rfl rfl rfl rfl (fun w9 => R.idxO rfl rfl (by omega) (by omega) rfl (i * 4) (by omega)) ?_
            refine SW.read rfl rfl rfl rfl (fun w9 F9 S9 s => R.ldN (vs := us4 p.1 p.2) rfl (row_ld (f := (fun p : Int × V3 => us4 p.1 p.2)) (fun _ => rfl) (s.ownC (show Sel _ (own 43 4 (some ⟨g1, 0, none⟩) ((usT ia).length) c83 (uCells (usT ia)).flatten) _ from (by repeat (first | exact Sel.keep | exact Sel.here | apply Sel.there)))) hp) rfl) ?_
            refine SW.pure rfl rfl rfl rfl (fun w9 => R.mv rfl) ?_
            refine SW.pure rfl rfl rfl rfl (fun w9 => R.mv rfl) ?_
            refine SW.pure rfl rfl rfl rfl (fun w9 => R.idxO rfl rfl (by omega) (by omega) rfl (i * 4) (by omega)) ?_
            refine SW.read rfl rfl rfl rfl (fun w9 F9 S9 s => R.ldN (vs := us4 p.1 p.2) rfl (row_ld (f := (fun p : Int × V3 => us4 p.1 p.2)) (fun _ => rfl) (s.ownC (show Sel _ (own 43 4 (some ⟨g2, 0, none⟩) ((usT ia).length) c85 (uCells (usT ia)).flatten) _ from (by repeat (first | exact Sel.keep | exact Sel.here | apply Sel.there)))) hp) rfl) ?_
            refine SW.pure rfl rfl rfl rfl (fun w9 => R.neS rfl rfl rfl rfl (b := false) (us4_eq _ _)) ?_
            refine SW.nil ?_
            refine SN.seq ?_
            refine SG.condF rfl ?_
            refine SG.skip ?_
            refine SN.block ?_
            refine SN.seq ?_
            refine SG.region ?_
            refine SL.val rfl rfl (fun w9 F9 S9 s => R.add rfl rfl (by omega)) ?_
            refine SL.val rfl rfl (fun w9 F9 S9 s => R.mv rfl) ?_
            refine SL.nil ?_
            exact SN.again (i + 1) (by show (usT ia).length - (i + 1) < (usT ia).length - i; omega) (Sub.cons rfl (Sub.cons rfl (Sub.cons rfl (Sub.cons rfl (Sub.cons rfl (Sub.cons rfl (Sub.cons rfl (Sub.cons rfl (Sub.cons rfl (Sub.cons rfl (Sub.cons rfl (Sub.cons rfl (Sub.cons rfl (Sub.cons rfl (Sub.nil _))))))))))))))) ((Imp.sels (by repeat (first | exact Sels.nil | apply Sels.cons | exact Sel.keep | exact Sel.here | apply Sel.there)))) (by show i + 1 ≤ (usT ia).length; omega)
          · refine SG.exit _ rfl ?_
            refine SN.seq ?_
            refine SG.seq ?_
            refine SG.seq ?_
            refine SG.region ?_
            refine SL.val rfl rfl (fun w9 F9 S9 s => R.mv rfl) ?_
            refine SL.val rfl rfl (fun w9 F9 S9 s => R.lenS rfl) ?_
            refine SL.val rfl rfl (fun w9 F9 S9 s => R.mv rfl) ?_
            refine SL.nil ?_
            refine SN.seq ?_
            refine SG.block ?_
            refine SG.loop (X := Nat) (fun i => [(0, .slice aa an ac), (1, .slice ba bn bc), (2, .int .i64 kk), (8, .int .i64 (byR 0 ib)), (9, .int .i64 (secL ia)), (18, .slice a83 (usT ia).length c83), (19, .slice a85 (usT ia).length c85), (20, .slice a87 (bzT ib).length c87), (21, .slice a89 (bzT ib).length c89), (22, .slice a92 (manyB (bzT ib).length kk) c92), (23, .slice a95 (manyB (bzT ib).length kk) c95), (130, .slice a87 (bzT ib).length c87), (131, .int .i64 (((bzT ib).length : Nat) : Int)), (132, .int .i64 ((i : Nat) : Int))]) (fun i => [own 43 4 a83 ((usT ia).length) c83 (uCells (usT ia)).flatten, own 43 4 a85 ((usT ia).length) c85 (uCells (usT ia)).flatten, own 45 3 a87 ((bzT ib).length) c87 (bCells (bzT ib)).flatten, own 45 3 a89 ((bzT ib).length) c89 (bCells (bzT ib)).flatten, own 3 1 a92 (manyB (bzT ib).length kk) c92 (intsB (ys.take (manyB (bzT ib).length kk))), own 3 1 a95 (manyB (bzT ib).length kk) c95 (intsB (ys.take (manyB (bzT ib).length kk))), sh (fun w => ItemsOk w aa an ia), sh (fun w => RecsOk w ba bn ib)]) (fun i => i ≤ (bzT ib).length) (fun i => (bzT ib).length - i) (0) (Sub.cons rfl (Sub.cons rfl (Sub.cons rfl (Sub.cons rfl (Sub.cons rfl (Sub.cons rfl (Sub.cons rfl (Sub.cons rfl (Sub.cons rfl (Sub.cons rfl (Sub.cons rfl (Sub.cons rfl (Sub.cons rfl (Sub.cons rfl (Sub.nil _))))))))))))))) ((Imp.sels (by repeat (first | exact Sels.nil | apply Sels.cons | exact Sel.keep | exact Sel.here | apply Sel.there)))) (Nat.zero_le _) ?_
            intro i hi
            show SG _ _ _ _ _ [(0, .slice aa an ac), (1, .slice ba bn bc), (2, .int .i64 kk), (8, .int .i64 (byR 0 ib)), (9, .int .i64 (secL ia)), (18, .slice a83 (usT ia).length c83), (19, .slice a85 (usT ia).length c85), (20, .slice a87 (bzT ib).length c87), (21, .slice a89 (bzT ib).length c89), (22, .slice a92 (manyB (bzT ib).length kk) c92), (23, .slice a95 (manyB (bzT ib).length kk) c95), (130, .slice a87 (bzT ib).length c87), (131, .int .i64 (((bzT ib).length : Nat) : Int)), (132, .int .i64 ((i : Nat) : Int))] [own 43 4 a83 ((usT ia).length) c83 (uCells (usT ia)).flatten, own 43 4 a85 ((usT ia).length) c85 (uCells (usT ia)).flatten, own 45 3 a87 ((bzT ib).length) c87 (bCells (bzT ib)).flatten, own 45 3 a89 ((bzT ib).length) c89 (bCells (bzT ib)).flatten, own 3 1 a92 (manyB (bzT ib).length kk) c92 (intsB (ys.take (manyB (bzT ib).length kk))), own 3 1 a95 (manyB (bzT ib).length kk) c95 (intsB (ys.take (manyB (bzT ib).length kk))), sh (fun w => ItemsOk w aa an ia), sh (fun w => RecsOk w ba bn ib)] _
            refine SG.seq ?_
            refine SG.region ?_
            refine SL.val rfl rfl (fun w9 F9 S9 s => R.lss rfl rfl) ?_
            refine SL.nil ?_
            refine SN.seq ?_
            refine SG.seq ?_
            refine SG.condP rfl (fun h9 => ?_) (fun h9 => ?_)
            · obtain ⟨p, hp⟩ : ∃ p, (bzT ib)[i]? = some p := ⟨_, List.getElem?_eq_getElem (by omega)⟩
              refine SG.fact (fun w9 F9 S9 s => s.ownG (show Sel _ (own 45 3 a87 ((bzT ib).length) c87 (bCells (bzT ib)).flatten) _ from (by repeat (first | exact Sel.keep | exact Sel.here | apply Sel.there))) (by omega)) (fun hf9 => ?_)
              obtain ⟨g1, rfl⟩ := hf9
              refine SG.fact (fun w9 F9 S9 s => s.ownG (show Sel _ (own 45 3 a89 ((bzT ib).length) c89 (bCells (bzT ib)).flatten) _ from (by repeat (first | exact Sel.keep | exact Sel.here | apply Sel.there))) (by omega)) (fun hf9 => ?_)
              obtain ⟨g2, rfl⟩ := hf9
              refine SG.skip ?_
              refine SN.seq ?_
              refine SG.seq ?_
              refine SG.block ?_
              refine SG.seq ?_
              refine SG.region ?_
              refine SL.val rfl rfl (fun w9 F9 S9 s => R.mv rfl) ?_
              refine SL.val rfl rfl (fun w9 F9 S9 s => R.as rfl) ?_
              refine SL.nil ?_
              refine SN.seq ?_
              refine SG.seq ?_
              refine SG.draw [] [0, 1, 2, 3, 4, 5, 6, 7, 8] (by decide +kernel) rfl ?_
              refine SW.pure rfl rfl rfl rfl (fun w9 => R.mv rfl) ?_
              refine SW.pure rfl rfl rfl rfl (fun w9 => R.mv rfl) ?_
              refine SW.pure rfl rfl rfl rfl (fun w9 => R.idxO rfl rfl (by omega) (by omega) rfl (i * 3) (by omega)) ?_
              refine SW.read rfl rfl rfl rfl (fun w9 F9 S9 s => R.ldN (vs := bz3 p.1 p.2) rfl (row_ld (f := (fun p : Int × V2 => bz3 p.1 p.2)) (fun _ => rfl) (s.ownC (show Sel _ (own 45 3 (some ⟨g1, 0, none⟩) ((bzT ib).length) c87 (bCells (bzT ib)).flatten) _ from (by repeat (first | exact Sel.keep | exact Sel.here | apply Sel.there)))) hp) rfl) ?_
              refine SW.pure rfl rfl rfl rfl (fun w9 => R.mv rfl) ?_
              refine SW.pure rfl rfl rfl rfl (fun w9 => R.mv rfl) ?_
              refine SW.pure rfl rfl rfl rfl (fun w9 => R.idxO rfl rfl (by omega) (by omega) rfl (i * 3) (by omega)) ?_
              refine SW.read rfl rfl rfl rfl (fun w9 F9 S9 s => R.ldN (vs := bz3 p.1 p.2) rfl (row_ld (f := (fun p : Int × V2 => bz3 p.1 p.2)) (fun _ => rfl) (s.ownC (show Sel _ (own 45 3 (some ⟨g2, 0, none⟩) ((bzT ib).length) c89 (bCells (bzT ib)).flatten) _ from (by repeat (first | exact Sel.keep | exact Sel.here | apply Sel.there)))) hp) rfl) ?_
              refine SW.pure rfl rfl rfl rfl (fun w9 => R.neS rfl rfl rfl rfl (b := false) (bz3_eq _ _)) ?_
              refine SW.nil ?_
              refine SN.seq ?_
              refine SG.condF rfl ?_
              refine SG.skip ?_
              refine SN.block ?_
              refine SN.seq ?_
              refine SG.region ?_
              refine SL.val rfl rfl (fun w9 F9 S9 s => R.add rfl rfl (by omega)) ?_
              refine SL.val rfl rfl (fun w9 F9 S9 s => R.mv rfl) ?_
              refine SL.nil ?_
              exact SN.again (i + 1) (by show (bzT ib).length - (i + 1) < (bzT ib).length - i; omega) (Sub.cons rfl (Sub.cons rfl (Sub.cons rfl (Sub.cons rfl (Sub.cons rfl (Sub.cons rfl (Sub.cons rfl (Sub.cons rfl (Sub.cons rfl (Sub.cons rfl (Sub.cons rfl (Sub.cons rfl (Sub.cons rfl (Sub.cons rfl (Sub.nil _))))))))))))))) ((Imp.sels (by repeat (first | exact Sels.nil | apply Sels.cons | exact Sel.keep | exact Sel.here | apply Sel.there)))) (by show i + 1 ≤ (bzT ib).length; omega)
            · refine SG.exit _ rfl ?_
              refine SN.seq ?_
              refine SG.seq ?_
              refine SG.seq ?_
              refine SG.region ?_
              refine SL.val rfl rfl (fun w9 F9 S9 s => R.mv rfl) ?_
              refine SL.val rfl rfl (fun w9 F9 S9 s => R.lenS rfl) ?_
              refine SL.val rfl rfl (fun w9 F9 S9 s => R.mv rfl) ?_
              refine SL.nil ?_
              refine SN.seq ?_
              refine SG.block ?_
              refine SG.loop (X := Nat) (fun i => [(0, .slice aa an ac), (1, .slice ba bn bc), (2, .int .i64 kk), (8, .int .i64 (byR 0 ib)), (9, .int .i64 (secL ia)), (18, .slice a83 (usT ia).length c83), (19, .slice a85 (usT ia).length c85), (20, .slice a87 (bzT ib).length c87), (21, .slice a89 (bzT ib).length c89), (22, .slice a92 (manyB (bzT ib).length kk) c92), (23, .slice a95 (manyB (bzT ib).length kk) c95), (145, .slice a92 (manyB (bzT ib).length kk) c92), (146, .int .i64 (((manyB (bzT ib).length kk) : Nat) : Int)), (147, .int .i64 ((i : Nat) : Int))]) (fun i => [own 43 4 a83 ((usT ia).length) c83 (uCells (usT ia)).flatten, own 43 4 a85 ((usT ia).length) c85 (uCells (usT ia)).flatten, own 45 3 a87 ((bzT ib).length) c87 (bCells (bzT ib)).flatten, own 45 3 a89 ((bzT ib).length) c89 (bCells (bzT ib)).flatten, own 3 1 a92 (manyB (bzT ib).length kk) c92 (intsB (ys.take (manyB (bzT ib).length kk))), own 3 1 a95 (manyB (bzT ib).length kk) c95 (intsB (ys.take (manyB (bzT ib).length kk))), sh (fun w => ItemsOk w aa an ia), sh (fun w => RecsOk w ba bn ib)]) (fun i => i ≤ (manyB (bzT ib).length kk)) (fun i => (manyB (bzT ib).length kk) - i) (0) (Sub.cons rfl (Sub.cons rfl (Sub.cons rfl (Sub.cons rfl (Sub.cons rfl (Sub.cons rfl (Sub.cons rfl (Sub.cons rfl (Sub.cons rfl (Sub.cons rfl (Sub.cons rfl (Sub.cons rfl (Sub.cons rfl (Sub.cons rfl (Sub.nil _))))))))))))))) ((Imp.sels (by repeat (first | exact Sels.nil | apply Sels.cons | exact Sel.keep | exact Sel.here | apply Sel.there)))) (Nat.zero_le _) ?_
              intro i hi
              show SG _ _ _ _ _ [(0, .slice aa an ac), (1, .slice ba bn bc), (2, .int .i64 kk), (8, .int .i64 (byR 0 ib)), (9, .int .i64 (secL ia)), (18, .slice a83 (usT ia).length c83), (19, .slice a85 (usT ia).length c85), (20, .slice a87 (bzT ib).length c87), (21, .slice a89 (bzT ib).length c89), (22, .slice a92 (manyB (bzT ib).length kk) c92), (23, .slice a95 (manyB (bzT ib).length kk) c95), (145, .slice a92 (manyB (bzT ib).length kk) c92), (146, .int .i64 (((manyB (bzT ib).length kk) : Nat) : Int)), (147, .int .i64 ((i : Nat) : Int))] [own 43 4 a83 ((usT ia).length) c83 (uCells (usT ia)).flatten, own 43 4 a85 ((usT ia).length) c85 (uCells (usT ia)).flatten, own 45 3 a87 ((bzT ib).length) c87 (bCells (bzT ib)).flatten, own 45 3 a89 ((bzT ib).length) c89 (bCells (bzT ib)).flatten, own 3 1 a92 (manyB (bzT ib).length kk) c92 (intsB (ys.take (manyB (bzT ib).length kk))), own 3 1 a95 (manyB (bzT ib).length kk) c95 (intsB (ys.take (manyB (bzT ib).length kk))), sh (fun w => ItemsOk w aa an ia), sh (fun w => RecsOk w ba bn ib)] _
              refine SG.seq ?_
              refine SG.region ?_
              refine SL.val rfl rfl (fun w9 F9 S9 s => R.lss rfl rfl) ?_
              refine SL.nil ?_
              refine SN.seq ?_
              refine SG.seq ?_
              refine SG.condP rfl (fun h11 => ?_) (fun h11 => ?_)
              · have hyl := hys.len
                have hmb := manyB_le (bzT ib).length kk
                obtain ⟨x, hx⟩ : ∃ x, (ys.take (manyB (bzT ib).length kk))[i]? = some x := ⟨_, List.getElem?_eq_getElem (by rw [List.length_take]; omega)⟩
                refine SG.fact (fun w9 F9 S9 s => s.ownG (show Sel _ (own 3 1 a92 (manyB (bzT ib).length kk) c92 (intsB (ys.take (manyB (bzT ib).length kk)))) _ from (by repeat (first | exact Sel.keep | exact Sel.here | apply Sel.there))) (by omega)) (fun hf9 => ?_)
                obtain ⟨g1, rfl⟩ := hf9
                refine SG.fact (fun w9 F9 S9 s => s.ownG (show Sel _ (own 3 1 a95 (manyB (bzT ib).length kk) c95 (intsB (ys.take (manyB (bzT ib).length kk)))) _ from (by repeat (first | exact Sel.keep | exact Sel.here | apply Sel.there))) (by omega)) (fun hf9 => ?_)
                obtain ⟨g2, rfl⟩ := hf9
                refine SG.skip ?_
                refine SN.seq ?_
                refine SG.seq ?_
                refine SG.block ?_
                refine SG.seq ?_
                refine SG.region ?_
                refine SL.val rfl rfl (fun w9 F9 S9 s => R.mv rfl) ?_
                refine SL.val rfl rfl (fun w9 F9 S9 s => R.as rfl) ?_
                refine SL.nil ?_
                refine SN.seq ?_
                refine SG.seq ?_
                refine SG.draw [] [0, 1, 2, 3, 4, 5, 6, 7, 8] (by decide +kernel) rfl ?_
                refine SW.pure rfl rfl rfl rfl (fun w9 => R.mv rfl) ?_
                refine SW.pure rfl rfl rfl rfl (fun w9 => R.mv rfl) ?_
                refine SW.pure rfl rfl rfl rfl (fun w9 => R.idxO rfl rfl (by omega) (by omega) rfl i (by omega)) ?_
                refine SW.read rfl rfl rfl rfl (fun w9 F9 S9 s => R.ld (v := .int .i64 x.1) rfl (cell_lit ((s.ownC (show Sel _ (own 3 1 (some ⟨g1, 0, none⟩) (manyB (bzT ib).length kk) c92 (intsB (ys.take (manyB (bzT ib).length kk)))) _ from (by repeat (first | exact Sel.keep | exact Sel.here | apply Sel.there)))).load (intsB_at hx)))) ?_
                refine SW.pure rfl rfl rfl rfl (fun w9 => R.mv rfl) ?_
                refine SW.pure rfl rfl rfl rfl (fun w9 => R.mv rfl) ?_
                refine SW.pure rfl rfl rfl rfl (fun w9 => R.idxO rfl rfl (by omega) (by omega) rfl i (by omega)) ?_
                refine SW.read rfl rfl rfl rfl (fun w9 F9 S9 s => R.ld (v := .int .i64 x.1) rfl (cell_lit ((s.ownC (show Sel _ (own 3 1 (some ⟨g2, 0, none⟩) (manyB (bzT ib).length kk) c95 (intsB (ys.take (manyB (bzT ib).length kk)))) _ from (by repeat (first | exact Sel.keep | exact Sel.here | apply Sel.there)))).load (intsB_at hx)))) ?_
                refine SW.pure rfl rfl rfl rfl (fun w9 => R.neI rfl rfl) ?_
                refine SW.nil ?_
                refine SN.seq ?_
                refine SG.condP rfl (fun h12 => ?_) (fun h12 => ?_)
                · exact absurd rfl h12
                · refine SG.skip ?_
                  refine SN.block ?_
                  refine SN.seq ?_
                  refine SG.region ?_
                  refine SL.val rfl rfl (fun w9 F9 S9 s => R.add rfl rfl (by omega)) ?_
                  refine SL.val rfl rfl (fun w9 F9 S9 s => R.mv rfl) ?_
                  refine SL.nil ?_
                  exact SN.again (i + 1) (by show (manyB (bzT ib).length kk) - (i + 1) < (manyB (bzT ib).length kk) - i; omega) (Sub.cons rfl (Sub.cons rfl (Sub.cons rfl (Sub.cons rfl (Sub.cons rfl (Sub.cons rfl (Sub.cons rfl (Sub.cons rfl (Sub.cons rfl (Sub.cons rfl (Sub.cons rfl (Sub.cons rfl (Sub.cons rfl (Sub.cons rfl (Sub.nil _))))))))))))))) ((Imp.sels (by repeat (first | exact Sels.nil | apply Sels.cons | exact Sel.keep | exact Sel.here | apply Sel.there)))) (by show i + 1 ≤ (manyB (bzT ib).length kk); omega)
              · refine SG.exit _ rfl ?_
                refine SN.seq ?_
                refine SG.seq ?_
                refine SG.region ?_
                refine SL.val rfl rfl (fun w9 F9 S9 s => R.mv rfl) ?_
                refine SL.step rfl rfl (CS.call rfl go11 (Secs_ok aa an ac ia (by omega)) (by repeat (first | exact Sels.nil | apply Sels.cons | exact Sel.keep | exact Sel.here | apply Sel.there))) ?_
                rintro _ _ ⟨_, ⟨rfl, rfl⟩, rfl⟩
                refine SL.n0 ?_
                refine SL.val rfl rfl (fun w9 F9 S9 s => R.mv rfl) ?_
                refine SL.val rfl rfl (fun w9 F9 S9 s => R.eqI rfl rfl) ?_
                refine SL.val rfl rfl (fun w9 F9 S9 s => R.mv rfl) ?_
                refine SL.isT 164 rfl (decide_eq_true rfl) ?_
                refine SL.val rfl rfl (fun w9 F9 S9 s => R.mv rfl) ?_
                refine SL.step rfl rfl (CS.call rfl go12 (Bytes_ok ba bn bc ib (by omega)) (by repeat (first | exact Sels.nil | apply Sels.cons | exact Sel.keep | exact Sel.here | apply Sel.there))) ?_
                rintro _ _ ⟨_, ⟨rfl, rfl⟩, rfl⟩
                refine SL.n0 ?_
                refine SL.val rfl rfl (fun w9 F9 S9 s => R.mv rfl) ?_
                refine SL.val rfl rfl (fun w9 F9 S9 s => R.eqI rfl rfl) ?_
                first | refine SL.val rfl rfl (fun w9 F9 S9 s => R.pickT rfl rfl) ?_ | refine SL.val rfl rfl (fun w9 F9 S9 s => R.pickF rfl rfl) ?_
                refine SL.val rfl rfl (fun w9 F9 S9 s => R.as rfl) ?_
                refine SL.nil ?_
                refine SN.seq ?_
                exact SG.ret1 rfl rfl ((Imp.sels (by repeat (first | exact Sels.nil | apply Sels.cons | exact Sel.keep | exact Sel.here | apply Sel.there)))) (congrArg Value.bool (decide_eq_true rfl))

end Go.Proofs.YtlhkpakbenghgaaGreat
/-
  Laws where what is read is small: the row, and the arguments' sizes.
-/
set_option linter.unusedVariables false
set_option linter.unusedSimpArgs false
namespace Go.Proofs.YtlhkpakbenghgaaGreat
open Go Brv
namespace Upt
section
variable {H : Type} {enc : TypeId × Value → H}
def X (enc : TypeId × Value → H) (P : Program) (fn : Func) (s : ChangeSpec) (apart : Bool) (k : (H : Type) → List (DataW H) → Bool) : World → Array Value → Prop :=
  fun w args => ∃ ds gs before, DataW.Whole enc P fn.params.toList s.vars apart w args.toList ds gs before ∧ k H (ds ++ gs) = true
def smallB (enc : TypeId × Value → H) (P : Program) (f : Func) (s : ChangeSpec) (apart : Bool) (k : (H : Type) → List (DataW H) → Bool) (w : World) (args : Array Value) (fuel : Nat) : Bool :=
  match DataW.whole enc P w f.params.toList s.vars apart args.toList fuel with
  | some x => k H (x.1 ++ x.2.1)
  | none => false
theorem X_of {P : Program} {f : Func} {s : ChangeSpec} {apart : Bool} {k : (H : Type) → List (DataW H) → Bool} {w : World} {args : Array Value} {fuel : Nat} (h : smallB enc P f s apart k w args fuel = true) : X enc P f s apart k w args := by
  unfold smallB at h
  split at h
  · rename_i x hx
    exact ⟨x.1, x.2.1, x.2.2, DataW.Whole_of_whole hx, h⟩
  · cases h
theorem X_heap {P : Program} {f : Func} {s : ChangeSpec} {apart : Bool} {k : (H : Type) → List (DataW H) → Bool} (w w' : World) (args : Array Value) (hh : w.heap = w'.heap) (h : X enc P f s apart k w args) : X enc P f s apart k w' args :=
  let ⟨ds, gs, before, h1, h2⟩ := h
  ⟨ds, gs, before, h1.of_heap hh, h2⟩
theorem witness {C : Checked} {os : Os} {f : FuncId} {fn : Func} {s : ChangeSpec} {conds : List PathCond} {apart : Bool} {k : (H : Type) → List (DataW H) → Bool} (modest : Bool) (i : Input) (fuel : Nat)
    (hv : (World.plainHolding C.prog os i).variablesB C.prog = true)
    (hr : ((World.plainHolding C.prog os i).heap.toList.drop C.prog.globals.size).take ((begin C.prog (fun _ _ => 0) default).world.heap.size - C.prog.globals.size) =
      (begin C.prog (fun _ _ => 0) default).world.heap.toList.drop C.prog.globals.size)
    (hok : Input.okWideB C.prog (World.plainHolding C.prog os i) f ⟨#[], i.args, []⟩ = true)
    (hpre : s.preB enc C.prog fn conds apart (World.plainHolding C.prog os i).memory i.args fuel = true)
    (hk : smallB enc C.prog fn s apart k (World.plainHolding C.prog os i).memory i.args fuel = true)
    (hsz : s.sizedB enc C.prog fn apart (World.plainHolding C.prog os i).memory i.args fuel = true := by kernel_rfl) :
    ∃ (w : World) (tape : Tape) (i : Input), w.os = os ∧ (w.forCall tape i).Shaped C.prog ∧ i.vars = [] ∧ Input.okWide C.prog (w.forCall tape i) .any w.heap.size f i ∧
      ((s.pre enc C.prog fn conds apart (w.forCall tape i).memory i.args ∧ X enc C.prog fn s apart k (w.forCall tape i).memory i.args) ∧ sizedMet enc C.prog fn (OpenSpec.ofChange s) apart (w.forCall tape i).memory i.args) ∧ ({ modest := modest } : Assume).holds C.prog (lone (Frame.enter C.prog f i.args .normal) [] (w.forCall tape i)) :=
  ⟨World.holding C.prog os i, fun _ _ => 0, ⟨#[], i.args, []⟩, rfl, World.shaped_of_B hv hr, (Input.okWide_of_okWideB (base := 0) hok).1, (Input.okWide_of_okWideB hok).2, ⟨⟨ChangeSpec.pre_of_preB hpre, X_of hk⟩, sizedMet_of_sizedB hsz⟩, by
    simp only [Assume.holds]
    exact ⟨by simp, by simp, fun _ => Modest.zero, by simp, by simp⟩⟩
end
theorem holds {p : Pinned} {s : ChangeSpec} {c : OpenClaim} {k : (H : Type) → List (DataW H) → Bool} (f : FuncId) (fn : Func)
    (hn : c.program = p.name) (hs : c.sum = p.sum) (hsp : c.spec = s.name)
    (hstart : c.start = .entering) (hout : c.outside = []) (hin : c.inits = []) (hun : c.under = none) (hi4 : c.initsInPlace = [] ∧ c.initsUnfollowed = false ∧ c.initsRecurse = false ∧ c.initsNamed = [] ∧ c.initsPassed = []) (hnb : c.noBlocks = false) (hlv : c.leaving = false) (hfo : c.followed = none) (hnar : c.narrowed = true) (hstill : c.still = false) (hlaid : c.laid = [])
    (hfn : p.checked.prog.funcNamed c.func = some f) (hf : p.checked.prog.funcs[f]? = some fn)
    (closed : joinedFacts p.checked.prog f fn s c = true)
    (hinst : fn.isInstance p.checked.prog c.origin c.targs) (hwrap : fn.isWrapper p.checked.prog c.wrapper c.mainSum)
    (h : ∀ os : Os, os.Started → ∀ (H : Type) (enc : TypeId × Value → H), (∀ a b, enc a = enc b → a = b) →
      ReturnsInHanded c.assume p.checked os f .any (fun w args => (s.pre enc p.checked.prog fn c.domain c.apart w args ∧ X enc p.checked.prog fn s c.apart k w args) ∧ sizedMet enc p.checked.prog fn (OpenSpec.ofChange s) c.apart w args) (s.post enc p.checked.prog fn c.apart c.fresh c.handsOn c.again)) :
    c.holds p { OpenSpec.ofChange s with cond := some k } := by
  simp only [joinedFacts, Bool.and_eq_true, beq_iff_eq, Array.all_eq_true_iff_forall_mem, List.all_eq_true, decide_eq_true_eq] at closed
  obtain ⟨⟨⟨⟨⟨⟨⟨⟨⟨⟨⟨⟨⟨⟨⟨⟨⟨⟨⟨⟨⟨⟨⟨⟨⟨⟨⟨⟨⟨⟨⟨k1, k2⟩, k3⟩, k4⟩, k5⟩, k6⟩, k7⟩, k8⟩, k9⟩, k10⟩, k11⟩, k12⟩, k13⟩, k14⟩, k15⟩, k16⟩, k17⟩, k17b⟩, k18⟩, k19⟩, k20⟩, k21⟩, k22⟩, k23⟩, k23b⟩, k24⟩, k24b⟩, k24c⟩, k25⟩, k26⟩, k27⟩, k28⟩ := closed
  have hq : ∀ os : Os, Stop.quiet p.checked.prog os := fun os k hk => by rw [k9] at hk; cases hk
  refine ⟨k1, hn, hs, hsp, k2, k3, by unfold OpenClaim.startFits; rw [hstart]; exact k24, by unfold OpenClaim.startTold; rw [hstart]; exact ⟨hin, hun, hi4⟩, f, fn, hfn, hf, ⟨k4, k19⟩, (fun hb => by rw [hnb] at hb; cases hb), by unfold OpenClaim.namedList; rw [hfo]; exact k5, hinst, hwrap,
    k6.trans k7.symm, ⟨k8.trans k9.symm, by unfold Program.envWorded; rw [k9]; rfl, k23b⟩, k10, k11, k12, k13, k14, ⟨k15, k27, k28⟩, ⟨k16, k20⟩, ⟨k17, k21, k25, k26⟩, ⟨k22, k24b, k24c, k17b⟩, (by rw [hout, hnar]; rfl), fun n hn' => varReadable_some (k18 n hn'),
    ⟨_, by unfold OpenClaim.world; rw [hout, hstart]; exact WideRow.started_initial, hq _⟩, [], by unfold OpenClaim.lists; rw [hfo], fun os st _ H enc inj => ?_⟩
  have st' : os.Started := by unfold OpenClaim.world at st; rw [hout, hstart] at st; exact st
  rw [OpenClaim.post_not_still hstill]
  unfold OpenClaim.form
  rw [hstart, k6]
  intro F
  have e1 : c.okInput = Input.okWide := by unfold OpenClaim.okInput; rw [hnb]
  have e2 : c.atReturn p.checked.prog = aloneAtReturn p.checked.prog := by unfold OpenClaim.atReturn; rw [hlv]
  have e3 : c.always p.checked.prog [] = nothingAlways := by unfold OpenClaim.always; rw [hfo]
  have e4 : ({ OpenSpec.ofChange s with cond := some k } : OpenSpec).post enc p.checked.prog fn F c.outside c.apart c.fresh c.handsOn c.again = s.post enc p.checked.prog fn c.apart c.fresh c.handsOn c.again := by rw [hout]; rfl
  have e5 : c.pre enc p.checked.prog fn { OpenSpec.ofChange s with cond := some k } = (fun w args => (s.pre enc p.checked.prog fn c.domain c.apart w args ∧ X enc p.checked.prog fn s c.apart k w args) ∧ sizedMet enc p.checked.prog fn (OpenSpec.ofChange s) c.apart w args) := by
    funext w args
    unfold OpenClaim.pre OpenClaim.preLaid
    rw [hlaid]
    refine propext ⟨fun ⟨⟨ds, gs, before, h1, h2, h3⟩, h4⟩ => ⟨⟨⟨ds, gs, before, h1, h2⟩, ⟨ds, gs, before, h1, h3⟩⟩, h4⟩, fun ⟨⟨⟨ds, gs, before, h1, h2⟩, ⟨ds', gs', before', h1', h3⟩⟩, h4⟩ => ?_⟩
    obtain ⟨rfl, rfl, _⟩ := h1.unique h1'
    exact ⟨⟨ds, gs, before, h1, h2, h3⟩, h4⟩
  rw [e1, e2, e3]
  show ReturnsInOpen _ _ _ _ _ _ _ _ (({ OpenSpec.ofChange s with cond := some k } : OpenSpec).post enc p.checked.prog fn F c.outside c.apart c.fresh c.handsOn c.again) _ _
  rw [e4, e5]
  exact h os st' H enc inj k24
end Upt

/-- The cells cs read as plain data of type t, of bulk at most m. -/
def RdM (P : Program) (w : World) : Nat → TypeId → List Value → Nat → Prop
  | 0, _, _, _ => False
  | f + 1, t, cs, m => match P.underlying t with
    | some .bool => (∃ b, cs = [.bool b]) ∧ 1 ≤ m
    | some (.int k) => (∃ n, cs = [.int k n] ∧ (Lit.int k n).wf = true) ∧ 1 ≤ m
    | some .string => ∃ l : List UInt8, cs = [.string (str l)] ∧ l.length ≤ 140737488351232 ∧ l.length + 1 ≤ m
    | some (.slice e) => ∃ a n c, cs = [.slice a n c] ∧ n ≤ c ∧ (a = none → c = 0) ∧ c * P.bytesOf e ≤ 140737488351232 ∧
        ∃ (vss : List (List Value)) (ms : List Nat), vss.length = n ∧ ms.length = n ∧ Cells w a vss.flatten ∧ (∀ (i : Nat) (vs : List Value), vss[i]? = some vs → vs.length = P.cellsOf e ∧ ∃ k : Nat, ms[i]? = some k ∧ RdM P w f e vs k) ∧ ms.sum + 1 ≤ m
    | some (.struct fs) => cs.length = P.cellsOf t ∧ ∃ ms : List Nat, ms.length = fs.size ∧ (∀ (i : Nat) (f' : Field), fs[i]? = some f' → ∃ k, ms[i]? = some k ∧ RdM P w f f'.type ((cs.drop f'.offset).take (P.cellsOf f'.type)) k) ∧ ms.sum ≤ m
    | some (.array l e) => cs.length = P.cellsOf t ∧ ∀ i, i < l → ∃ k, RdM P w f e ((cs.drop (i * P.cellsOf e)).take (P.cellsOf e)) k
    | _ => True
theorem RdM.rd {P : Program} {w : World} : ∀ {f : Nat} {t : TypeId} {cs : List Value} {m : Nat}, RdM P w f t cs m → Rd P w f t cs
  | 0, _, _, _, h => h.elim
  | f + 1, t, cs, m, h => by
    unfold RdM at h
    unfold Rd
    cases hu : P.underlying t with
    | none => trivial
    | some dsc =>
      rw [hu] at h
      cases dsc with
      | bool => exact h.1
      | int k => exact h.1
      | string => obtain ⟨l, h1, h2, _⟩ := h; exact ⟨l, h1, h2⟩
      | slice e =>
        obtain ⟨a, n, c, rfl, h1, h2, h3, vss, ms, h4, _, h6, h7, _⟩ := h
        refine ⟨a, n, c, rfl, h1, h2, h3, vss, h4, h6, fun vs hvs => ?_⟩
        obtain ⟨i, hi⟩ := List.getElem?_of_mem hvs
        obtain ⟨q1, k, _, q2⟩ := h7 i vs hi
        exact ⟨q1, q2.rd⟩
      | struct fs =>
        obtain ⟨h1, ms, _, h2, _⟩ := h
        exact ⟨h1, fun i f' hf' => let ⟨k, _, q⟩ := h2 i f' hf'; q.rd⟩
      | array l e => exact ⟨h.1, fun i hi => let ⟨k, q⟩ := h.2 i hi; q.rd⟩
      | _ => trivial
theorem bulkAll_sum {H : Type} : ∀ (l : List (DataW H)), Rows.uptoBulkAll l = (l.map Rows.uptoBulk).sum
  | [] => rfl
  | d :: r => by simp only [Rows.uptoBulkAll, List.map_cons, List.sum_cons]; rw [bulkAll_sum r]
theorem rdM_of_trod {H : Type} {enc : TypeId × Value → H} {P : Program} {w : World} {base : Nat} {sp : Nat → Bool} (hsp : ∀ b, sp b = true) : ∀ (fuel : Nat) (t : TypeId) (cs : List Value) (x : DataW H × List MemPlace), DataW.trod enc P w base sp true fuel t cs = some x →
    (∀ n ∈ x.1.weights P t, n ≤ 140737488351232) → ∀ m, Rows.uptoBulk x.1 ≤ m → RdM P w fuel t cs m
  | 0, t, cs, x, h, _ => by simp [DataW.trod] at h
  | fuel + 1, t, cs, x, h, hw => by
    intro m hm
    unfold RdM
    cases hu : P.underlying t with
    | none => trivial
    | some dsc =>
      cases dsc with
      | bool => obtain ⟨b, rfl, rfl⟩ := DataW.trod_bool hu h; exact ⟨⟨b, rfl⟩, by simpa [Rows.uptoBulk] using hm⟩
      | int k => obtain ⟨n, rfl, rfl, hwf⟩ := DataW.trod_int hu h; exact ⟨⟨n, rfl, hwf⟩, by simpa [Rows.uptoBulk] using hm⟩
      | string =>
        obtain ⟨s, rfl, rfl, _⟩ := DataW.trod_string hu h
        refine ⟨s.data.toList, by rw [str_toList], ?_, by simpa [Rows.uptoBulk] using hm⟩
        exact hw _ (by simp [DataW.weights])
      | slice e =>
        rcases DataW.trod_slice hu h with ⟨rfl, rfl⟩ | ⟨a, len, cap, elems, rest, n, hf, rfl, rfl, _, hlc, _, hel, hcell, hsr, _⟩
        · exact ⟨none, 0, 0, rfl, Nat.le_refl _, fun _ => rfl, by simp, [], [], rfl, rfl, Cells.nil _ _, by simp, by simpa [Rows.uptoBulk] using hm⟩
        · cases hf
          have hrest := (hsr (hsp _)).1
          have hget : ∀ i, i < len → ∃ vs y, w.cells? base (a.add (i * P.cellsOf e)) (P.cellsOf e) = some vs ∧ DataW.trod enc P w base sp true fuel e vs = some y ∧ elems[i]? = some y := by
            intro i hi
            have := hcell i hi
            rw [List.getElem?_eq_getElem (by omega)] at this
            obtain ⟨vs, h1, h2⟩ := Option.bind_eq_some_iff.1 this
            exact ⟨vs, _, h1, h2, List.getElem?_eq_getElem (by omega)⟩
          refine ⟨some a, len, cap, rfl, hlc, (fun h => by cases h), ?_, ?_⟩
          · have := hw ((elems.length + rest.length) * P.bytesOf e) (by simp [DataW.weights, hu])
            rw [hel, hrest, show len + (cap - len) = cap by omega] at this
            exact this
          · let vss : List (List Value) := (List.range len).map fun i => (w.cells? base (a.add (i * P.cellsOf e)) (P.cellsOf e)).getD []
            have hvget : ∀ i vs, vss[i]? = some vs → i < len ∧ w.cells? base (a.add (i * P.cellsOf e)) (P.cellsOf e) = some vs := by
              intro i vs hi
              have hlt : i < len := by have := (List.getElem?_eq_some_iff.1 hi).1; simpa [vss] using this
              obtain ⟨vs', _, h1, _⟩ := hget i hlt
              simp [vss, hlt, h1] at hi
              subst hi
              exact ⟨hlt, h1⟩
            refine ⟨vss, elems.map (fun y => Rows.uptoBulk y.1), by simp [vss], by simpa using hel, ?_, ?_, ?_⟩
            · intro j v hj
              refine ⟨a, rfl, ?_⟩
              have := flatten_cells (w := w) (p := a) (size := P.cellsOf e) vss 0 (fun i vs hi => by
                obtain ⟨_, h1⟩ := hvget i vs hi
                obtain ⟨hl, hc⟩ := cells?_get h1
                refine ⟨hl, fun j v hj => ?_⟩
                rw [Nat.zero_add]; exact hc j v hj) j v hj
              simpa using this
            · intro i vs hi
              obtain ⟨hlt, h1⟩ := hvget i vs hi
              obtain ⟨vs', y, h1', h2, h3⟩ := hget i hlt
              rw [h1] at h1'; cases h1'
              refine ⟨(cells?_get h1).1, Rows.uptoBulk y.1, by rw [List.getElem?_map, h3]; rfl, rdM_of_trod hsp fuel e vs y h2 (fun m hm => ?_) _ (Nat.le_refl _)⟩
              refine hw m ?_
              simp only [DataW.weights, hu, List.mem_cons, List.mem_append]
              refine .inr (.inl (mem_weightsAll (List.mem_map.2 ⟨y, List.mem_of_getElem? h3, rfl⟩) hm))
            · simp only [Rows.uptoBulk, bulkAll_sum, List.map_map] at hm
              have : (elems.map (Rows.uptoBulk ∘ fun x => x.1)).sum = (elems.map fun y => Rows.uptoBulk y.1).sum := rfl
              omega
      | struct fs =>
        obtain ⟨xs, n, hf, rfl, hl, hxl, hget⟩ := DataW.trod_struct hu h
        cases hf
        refine ⟨hl, xs.map (fun y => Rows.uptoBulk y.1), by simpa using hxl, fun i f' hf' => ?_, ?_⟩
        · have := hget i f' hf'
          have hlt : i < xs.length := by have := (Array.getElem?_eq_some_iff.1 hf').1; omega
          rw [List.getElem?_eq_getElem hlt] at this
          refine ⟨Rows.uptoBulk xs[i].1, by simp [List.getElem?_eq_getElem hlt], rdM_of_trod hsp fuel f'.type _ _ this (fun m hm => ?_) _ (Nat.le_refl _)⟩
          refine hw m ?_
          simp only [DataW.weights, hu]
          exact DataW.weights_mem_each (j := i) (by simp [hf']) (by simp [List.getElem?_eq_getElem hlt]) m hm
        · simp only [Rows.uptoBulk, bulkAll_sum, List.map_map] at hm
          have : (xs.map (Rows.uptoBulk ∘ fun x => x.1)).sum = (xs.map fun y => Rows.uptoBulk y.1).sum := rfl
          omega
      | array l e =>
        obtain ⟨xs, n, hf, rfl, hl, hxl, hget⟩ := DataW.trod_array hu h
        cases hf
        refine ⟨hl, fun i hi => ?_⟩
        have := hget i hi
        rw [List.getElem?_eq_getElem (by omega)] at this
        refine ⟨_, rdM_of_trod hsp fuel e _ _ this (fun q hm => ?_) _ (Nat.le_refl _)⟩
        refine hw q ?_
        simp only [DataW.weights, hu]
        exact mem_weightsAll (List.mem_map.2 ⟨_, List.getElem_mem (by omega), rfl⟩) hm
      | _ => trivial
theorem RdM.of {H : Type} {enc : TypeId × Value → H} {P : Program} {w : World} {t : TypeId} {v : Value} {d : DataW H} {ps : List MemPlace} {ts : List TypeId} {ds : List (DataW H)} {j : Nat}
    (h : DataW.Trod enc P w 0 (fun _ => true) true t v d ps) (hsz : (DataW.weightsEach P ts ds).all (· ≤ reachBytes) = true) (ht : ts[j]? = some t) (hd : ds[j]? = some d) : ∃ f, RdM P w f t v.cells.toList (Rows.uptoBulk d) := by
  obtain ⟨fuel, hf⟩ := h
  refine ⟨fuel, rdM_of_trod (fun _ => rfl) fuel t _ _ hf (fun n hn => ?_) _ (Nat.le_refl _)⟩
  have := List.all_eq_true.1 hsz n (DataW.weights_mem_each ht hd n hn)
  exact of_decide_eq_true this
theorem sum_ge : ∀ (ms : List Nat), (∀ k ∈ ms, 1 ≤ k) → ms.length ≤ ms.sum
  | [], _ => Nat.zero_le _
  | k :: ms, h => by
    have := h k (by simp)
    have := sum_ge ms (fun x hx => h x (by simp [hx]))
    simp only [List.length_cons, List.sum_cons]; omega
/-- A slice of bytes, and its bulk. -/
theorem RdM.bytes {P : Program} {w : World} {f : Nat} {T E : TypeId} [t : TyBytes P T E] (hc : P.cellsOf E = 1) (hby : P.bytesOf E = 1) {cs : List Value} {m : Nat} (h : RdM P w f T cs m) :
    ∃ a n c l, cs = [.slice a n c] ∧ n ≤ c ∧ (a = none → c = 0) ∧ c ≤ 140737488351232 ∧ Bs w a n l ∧ l.length + 1 ≤ m := by
  obtain ⟨a, n, c, l, rfl, h1, h2, h3, h4⟩ := h.rd.bytes hc hby
  refine ⟨a, n, c, l, rfl, h1, h2, h3, h4, ?_⟩
  cases f with
  | zero => exact h.elim
  | succ f =>
    unfold RdM at h
    rw [t.h] at h
    obtain ⟨a', n', c', he, _, _, _, vss, ms, hl, hml, hcell, hv, hm⟩ := h
    cases he
    have := sum_ge ms (fun k hk => by
      obtain ⟨i, hi⟩ := List.getElem?_of_mem hk
      have hil : i < vss.length := by have := (List.getElem?_eq_some_iff.1 hi).1; omega
      obtain ⟨_, k', hk', hr⟩ := hv i _ (List.getElem?_eq_getElem hil)
      rw [hi] at hk'; cases hk'
      cases f with
      | zero => exact hr.elim
      | succ f => unfold RdM at hr; rw [t.e] at hr; exact hr.2)
    rw [← h4.len]; omega
theorem RdM.int {P : Program} {w : World} {f : Nat} {T : TypeId} {k : IntKind} [t : TyInt P T k] {cs : List Value} {m : Nat} (h : RdM P w f T cs m) : ∃ n, cs = [.int k n] ∧ (Lit.int k n).wf = true ∧ 1 ≤ m := by
  cases f with
  | zero => exact h.elim
  | succ f => unfold RdM at h; rw [t.h] at h; obtain ⟨⟨n, h1, h2⟩, h3⟩ := h; exact ⟨n, h1, h2, h3⟩
/-- The rows of a slice, each of which reads as data of a kind. -/
theorem RdM.rows {P : Program} {w : World} {f : Nat} {T E size : TypeId} {α : Type} {cells : α → List Value} {ok : α → Prop} {bulk : α → Nat} (hT : P.underlying T = some (.slice E)) (hs : P.cellsOf E = size)
    (hof : ∀ f cs m, RdM P w f E cs m → ∃ o, cs = cells o ∧ ok o ∧ bulk o ≤ m) {cs : List Value} {m : Nat} (h : RdM P w f T cs m) :
    ∃ a n c, ∃ os : List α, cs = [.slice a n c] ∧ n ≤ c ∧ c * P.bytesOf E ≤ 140737488351232 ∧ Tab w a n size (os.map cells) ∧ (∀ o ∈ os, ok o) ∧ (os.map bulk).sum + 1 ≤ m := by
  cases f with
  | zero => exact h.elim
  | succ f =>
    unfold RdM at h
    rw [hT] at h
    obtain ⟨a, n, c, rfl, h1, _, h3, vss, ms, hl, hml, hcell, hv, hm⟩ := h
    have hex : ∀ (vss : List (List Value)) (ms : List Nat), vss.length = ms.length → (∀ (i : Nat) (vs : List Value), vss[i]? = some vs → vs.length = P.cellsOf E ∧ ∃ k : Nat, ms[i]? = some k ∧ RdM P w f E vs k) → ∃ os : List α, vss = os.map cells ∧ (∀ o ∈ os, ok o) ∧ (os.map bulk).sum ≤ ms.sum := by
      intro vss
      induction vss with
      | nil => exact fun ms _ _ => ⟨[], rfl, by simp, by simp⟩
      | cons vs r ih =>
        intro ms hl hv
        cases ms with
        | nil => simp at hl
        | cons k ms =>
          obtain ⟨_, k', hk', hr⟩ := hv 0 vs rfl
          simp only [List.getElem?_cons_zero, Option.some.injEq] at hk'
          subst hk'
          obtain ⟨o, rfl, ho, hb⟩ := hof f vs k hr
          obtain ⟨os, rfl, hos, hbs⟩ := ih ms (by simpa using hl) (fun i vs hi => hv (i + 1) vs hi)
          refine ⟨o :: os, rfl, fun x hx => (List.mem_cons.1 hx).elim (fun e => e ▸ ho) (hos x), ?_⟩
          simp only [List.map_cons, List.sum_cons]; omega
    obtain ⟨os, rfl, hos, hbs⟩ := hex vss ms (by omega) hv
    refine ⟨a, n, c, os, rfl, h1, h3, ⟨hcell, hl.symm, fun vs hvs => ?_⟩, hos, by omega⟩
    obtain ⟨i, hi⟩ := List.getElem?_of_mem hvs
    rw [← hs]; exact (hv i vs hi).1
end Go.Proofs.YtlhkpakbenghgaaGreat
/-
  Items and records among the arguments, and their bulk.
-/
set_option linter.unusedVariables false
namespace Go.Proofs.YtlhkpakbenghgaaGreat
open Go Brv Brv.Stats
def ExtV.bulk (o : ExtV) : Nat := 1 + 1
set_option maxRecDepth 100000 in
theorem extV_ofM {w : World} (f : Nat) (cs : List Value) (m : Nat) (h : RdM Tryz.prog w f 35 cs m) : ∃ o : ExtV, cs = o.cells ∧ o.ok w ∧ o.bulk ≤ m := by
  cases f with
  | zero => exact h.elim
  | succ f =>
    unfold RdM at h
    rw [Tryz.underlying35] at h
    obtain ⟨hl, ms, hml, hf, hsum⟩ := h
    rw [show Tryz.prog.cellsOf 35 = 2 from by kernel_rfl] at hl
    obtain ⟨v0, v1, rfl⟩ : ∃ v0 v1, cs = [v0, v1] := by
      match cs, hl with
      | [v0, v1], _ => exact ⟨v0, v1, rfl⟩
    obtain ⟨k0, k1, rfl⟩ : ∃ k0 k1, ms = [k0, k1] := by
      match ms, hml with
      | [k0, k1], _ => exact ⟨k0, k1, rfl⟩
    obtain ⟨k, hk0, r0⟩ := hf 0 _ rfl
    cases hk0
    replace r0 : RdM Tryz.prog w f 3 (List.take (Tryz.prog.cellsOf 3) (List.drop 0 [v0, v1])) k0 := r0
    rw [show Tryz.prog.cellsOf 3 = 1 from by kernel_rfl] at r0
    replace r0 : RdM Tryz.prog w f 3 [v0] k0 := r0
    obtain ⟨k, hk1, r1⟩ := hf 1 _ rfl
    cases hk1
    replace r1 : RdM Tryz.prog w f 3 (List.take (Tryz.prog.cellsOf 3) (List.drop 1 [v0, v1])) k1 := r1
    rw [show Tryz.prog.cellsOf 3 = 1 from by kernel_rfl] at r1
    replace r1 : RdM Tryz.prog w f 3 [v1] k1 := r1
    obtain ⟨x0, e0, w0, d0⟩ := r0.int
    cases e0
    obtain ⟨x1, e1, w1, d1⟩ := r1.int
    cases e1
    simp only [List.sum_cons, List.sum_nil] at hsum
    exact ⟨⟨x0, x1⟩, rfl, ⟨w0, w1⟩, by show 1 + 1 ≤ m; omega⟩
set_option maxRecDepth 100000 in
theorem extV_rowsM31 {w : World} {f : Nat} {cs : List Value} {m : Nat} (h : RdM Tryz.prog w f 31 cs m) : ∃ a n c, ∃ os : List ExtV, cs = [.slice a n c] ∧ n ≤ c ∧ c * 16 ≤ 140737488351232 ∧ Tab w a n 2 (os.map ExtV.cells) ∧ (∀ o ∈ os, o.ok w) ∧ (os.map ExtV.bulk).sum + 1 ≤ m := by
  have := RdM.rows (α := ExtV) (cells := ExtV.cells) (ok := fun o => o.ok w) (bulk := ExtV.bulk) (size := 2) Tryz.underlying31 (by kernel_rfl) (fun f cs m h => extV_ofM f cs m h) h
  rw [show Tryz.prog.bytesOf 35 = 16 from by kernel_rfl] at this
  exact this

def ItemV.bulk (o : ItemV) : Nat := 1 + 1 + 1 + 1 + 1 + 1 + 1 + 1 + ((o.At'.map ExtV.bulk).sum + 1)
set_option maxRecDepth 100000 in
theorem itemV_ofM {w : World} (f : Nat) (cs : List Value) (m : Nat) (h : RdM Tryz.prog w f 33 cs m) : ∃ o : ItemV, cs = o.cells ∧ o.ok w ∧ o.bulk ≤ m := by
  cases f with
  | zero => exact h.elim
  | succ f =>
    unfold RdM at h
    rw [Tryz.underlying33] at h
    obtain ⟨hl, ms, hml, hf, hsum⟩ := h
    rw [show Tryz.prog.cellsOf 33 = 9 from by kernel_rfl] at hl
    obtain ⟨v0, v1, v2, v3, v4, v5, v6, v7, v8, rfl⟩ : ∃ v0 v1 v2 v3 v4 v5 v6 v7 v8, cs = [v0, v1, v2, v3, v4, v5, v6, v7, v8] := by
      match cs, hl with
      | [v0, v1, v2, v3, v4, v5, v6, v7, v8], _ => exact ⟨v0, v1, v2, v3, v4, v5, v6, v7, v8, rfl⟩
    obtain ⟨k0, k1, k2, k3, k4, k5, k6, k7, k8, rfl⟩ : ∃ k0 k1 k2 k3 k4 k5 k6 k7 k8, ms = [k0, k1, k2, k3, k4, k5, k6, k7, k8] := by
      match ms, hml with
      | [k0, k1, k2, k3, k4, k5, k6, k7, k8], _ => exact ⟨k0, k1, k2, k3, k4, k5, k6, k7, k8, rfl⟩
    obtain ⟨k, hk0, r0⟩ := hf 0 _ rfl
    cases hk0
    replace r0 : RdM Tryz.prog w f 3 (List.take (Tryz.prog.cellsOf 3) (List.drop 0 [v0, v1, v2, v3, v4, v5, v6, v7, v8])) k0 := r0
    rw [show Tryz.prog.cellsOf 3 = 1 from by kernel_rfl] at r0
    replace r0 : RdM Tryz.prog w f 3 [v0] k0 := r0
    obtain ⟨k, hk1, r1⟩ := hf 1 _ rfl
    cases hk1
    replace r1 : RdM Tryz.prog w f 3 (List.take (Tryz.prog.cellsOf 3) (List.drop 1 [v0, v1, v2, v3, v4, v5, v6, v7, v8])) k1 := r1
    rw [show Tryz.prog.cellsOf 3 = 1 from by kernel_rfl] at r1
    replace r1 : RdM Tryz.prog w f 3 [v1] k1 := r1
    obtain ⟨k, hk2, r2⟩ := hf 2 _ rfl
    cases hk2
    replace r2 : RdM Tryz.prog w f 3 (List.take (Tryz.prog.cellsOf 3) (List.drop 2 [v0, v1, v2, v3, v4, v5, v6, v7, v8])) k2 := r2
    rw [show Tryz.prog.cellsOf 3 = 1 from by kernel_rfl] at r2
    replace r2 : RdM Tryz.prog w f 3 [v2] k2 := r2
    obtain ⟨k, hk3, r3⟩ := hf 3 _ rfl
    cases hk3
    replace r3 : RdM Tryz.prog w f 3 (List.take (Tryz.prog.cellsOf 3) (List.drop 3 [v0, v1, v2, v3, v4, v5, v6, v7, v8])) k3 := r3
    rw [show Tryz.prog.cellsOf 3 = 1 from by kernel_rfl] at r3
    replace r3 : RdM Tryz.prog w f 3 [v3] k3 := r3
    obtain ⟨k, hk4, r4⟩ := hf 4 _ rfl
    cases hk4
    replace r4 : RdM Tryz.prog w f 3 (List.take (Tryz.prog.cellsOf 3) (List.drop 4 [v0, v1, v2, v3, v4, v5, v6, v7, v8])) k4 := r4
    rw [show Tryz.prog.cellsOf 3 = 1 from by kernel_rfl] at r4
    replace r4 : RdM Tryz.prog w f 3 [v4] k4 := r4
    obtain ⟨k, hk5, r5⟩ := hf 5 _ rfl
    cases hk5
    replace r5 : RdM Tryz.prog w f 3 (List.take (Tryz.prog.cellsOf 3) (List.drop 5 [v0, v1, v2, v3, v4, v5, v6, v7, v8])) k5 := r5
    rw [show Tryz.prog.cellsOf 3 = 1 from by kernel_rfl] at r5
    replace r5 : RdM Tryz.prog w f 3 [v5] k5 := r5
    obtain ⟨k, hk6, r6⟩ := hf 6 _ rfl
    cases hk6
    replace r6 : RdM Tryz.prog w f 3 (List.take (Tryz.prog.cellsOf 3) (List.drop 6 [v0, v1, v2, v3, v4, v5, v6, v7, v8])) k6 := r6
    rw [show Tryz.prog.cellsOf 3 = 1 from by kernel_rfl] at r6
    replace r6 : RdM Tryz.prog w f 3 [v6] k6 := r6
    obtain ⟨k, hk7, r7⟩ := hf 7 _ rfl
    cases hk7
    replace r7 : RdM Tryz.prog w f 3 (List.take (Tryz.prog.cellsOf 3) (List.drop 7 [v0, v1, v2, v3, v4, v5, v6, v7, v8])) k7 := r7
    rw [show Tryz.prog.cellsOf 3 = 1 from by kernel_rfl] at r7
    replace r7 : RdM Tryz.prog w f 3 [v7] k7 := r7
    obtain ⟨k, hk8, r8⟩ := hf 8 _ rfl
    cases hk8
    replace r8 : RdM Tryz.prog w f 31 (List.take (Tryz.prog.cellsOf 31) (List.drop 8 [v0, v1, v2, v3, v4, v5, v6, v7, v8])) k8 := r8
    rw [show Tryz.prog.cellsOf 31 = 1 from by kernel_rfl] at r8
    replace r8 : RdM Tryz.prog w f 31 [v8] k8 := r8
    obtain ⟨x0, e0, w0, d0⟩ := r0.int
    cases e0
    obtain ⟨x1, e1, w1, d1⟩ := r1.int
    cases e1
    obtain ⟨x2, e2, w2, d2⟩ := r2.int
    cases e2
    obtain ⟨x3, e3, w3, d3⟩ := r3.int
    cases e3
    obtain ⟨x4, e4, w4, d4⟩ := r4.int
    cases e4
    obtain ⟨x5, e5, w5, d5⟩ := r5.int
    cases e5
    obtain ⟨x6, e6, w6, d6⟩ := r6.int
    cases e6
    obtain ⟨x7, e7, w7, d7⟩ := r7.int
    cases e7
    obtain ⟨a8, n8, c8, l8, e8, z8, y8, b8, q8, d8⟩ := extV_rowsM31 r8
    cases e8
    simp only [List.sum_cons, List.sum_nil] at hsum
    exact ⟨⟨x0, x1, x2, x3, x4, x5, x6, x7, a8, n8, c8, l8⟩, rfl, ⟨w0, w1, w2, w3, w4, w5, w6, w7, ⟨z8, y8, b8, q8⟩⟩, by show 1 + 1 + 1 + 1 + 1 + 1 + 1 + 1 + ((l8.map ExtV.bulk).sum + 1) ≤ m; omega⟩
set_option maxRecDepth 100000 in
theorem itemV_rowsM22 {w : World} {f : Nat} {cs : List Value} {m : Nat} (h : RdM Tryz.prog w f 22 cs m) : ∃ a n c, ∃ os : List ItemV, cs = [.slice a n c] ∧ n ≤ c ∧ c * 88 ≤ 140737488351232 ∧ Tab w a n 9 (os.map ItemV.cells) ∧ (∀ o ∈ os, o.ok w) ∧ (os.map ItemV.bulk).sum + 1 ≤ m := by
  have := RdM.rows (α := ItemV) (cells := ItemV.cells) (ok := fun o => o.ok w) (bulk := ItemV.bulk) (size := 9) Tryz.underlying22 (by kernel_rfl) (fun f cs m h => itemV_ofM f cs m h) h
  rw [show Tryz.prog.bytesOf 33 = 88 from by kernel_rfl] at this
  exact this

def WriteV.bulk (o : WriteV) : Nat := 1 + (o.B'.length + 1)
set_option maxRecDepth 100000 in
theorem writeV_ofM {w : World} (f : Nat) (cs : List Value) (m : Nat) (h : RdM Tryz.prog w f 30 cs m) : ∃ o : WriteV, cs = o.cells ∧ o.ok w ∧ o.bulk ≤ m := by
  cases f with
  | zero => exact h.elim
  | succ f =>
    unfold RdM at h
    rw [Tryz.underlying30] at h
    obtain ⟨hl, ms, hml, hf, hsum⟩ := h
    rw [show Tryz.prog.cellsOf 30 = 2 from by kernel_rfl] at hl
    obtain ⟨v0, v1, rfl⟩ : ∃ v0 v1, cs = [v0, v1] := by
      match cs, hl with
      | [v0, v1], _ => exact ⟨v0, v1, rfl⟩
    obtain ⟨k0, k1, rfl⟩ : ∃ k0 k1, ms = [k0, k1] := by
      match ms, hml with
      | [k0, k1], _ => exact ⟨k0, k1, rfl⟩
    obtain ⟨k, hk0, r0⟩ := hf 0 _ rfl
    cases hk0
    replace r0 : RdM Tryz.prog w f 3 (List.take (Tryz.prog.cellsOf 3) (List.drop 0 [v0, v1])) k0 := r0
    rw [show Tryz.prog.cellsOf 3 = 1 from by kernel_rfl] at r0
    replace r0 : RdM Tryz.prog w f 3 [v0] k0 := r0
    obtain ⟨k, hk1, r1⟩ := hf 1 _ rfl
    cases hk1
    replace r1 : RdM Tryz.prog w f 28 (List.take (Tryz.prog.cellsOf 28) (List.drop 1 [v0, v1])) k1 := r1
    rw [show Tryz.prog.cellsOf 28 = 1 from by kernel_rfl] at r1
    replace r1 : RdM Tryz.prog w f 28 [v1] k1 := r1
    obtain ⟨x0, e0, w0, d0⟩ := r0.int
    cases e0
    obtain ⟨a1, n1, c1, l1, e1, z1, _, y1, b1, d1⟩ := r1.bytes (by kernel_rfl) (by kernel_rfl)
    cases e1
    simp only [List.sum_cons, List.sum_nil] at hsum
    exact ⟨⟨x0, a1, n1, c1, l1⟩, rfl, ⟨w0, ⟨z1, y1, b1⟩⟩, by show 1 + (l1.length + 1) ≤ m; omega⟩
set_option maxRecDepth 100000 in
theorem writeV_rowsM25 {w : World} {f : Nat} {cs : List Value} {m : Nat} (h : RdM Tryz.prog w f 25 cs m) : ∃ a n c, ∃ os : List WriteV, cs = [.slice a n c] ∧ n ≤ c ∧ c * 32 ≤ 140737488351232 ∧ Tab w a n 2 (os.map WriteV.cells) ∧ (∀ o ∈ os, o.ok w) ∧ (os.map WriteV.bulk).sum + 1 ≤ m := by
  have := RdM.rows (α := WriteV) (cells := WriteV.cells) (ok := fun o => o.ok w) (bulk := WriteV.bulk) (size := 2) Tryz.underlying25 (by kernel_rfl) (fun f cs m h => writeV_ofM f cs m h) h
  rw [show Tryz.prog.bytesOf 30 = 32 from by kernel_rfl] at this
  exact this

def RecV.bulk (o : RecV) : Nat := 1 + 1 + 1 + ((o.Writes'.map WriteV.bulk).sum + 1)
set_option maxRecDepth 100000 in
theorem recV_ofM {w : World} (f : Nat) (cs : List Value) (m : Nat) (h : RdM Tryz.prog w f 27 cs m) : ∃ o : RecV, cs = o.cells ∧ o.ok w ∧ o.bulk ≤ m := by
  cases f with
  | zero => exact h.elim
  | succ f =>
    unfold RdM at h
    rw [Tryz.underlying27] at h
    obtain ⟨hl, ms, hml, hf, hsum⟩ := h
    rw [show Tryz.prog.cellsOf 27 = 4 from by kernel_rfl] at hl
    obtain ⟨v0, v1, v2, v3, rfl⟩ : ∃ v0 v1 v2 v3, cs = [v0, v1, v2, v3] := by
      match cs, hl with
      | [v0, v1, v2, v3], _ => exact ⟨v0, v1, v2, v3, rfl⟩
    obtain ⟨k0, k1, k2, k3, rfl⟩ : ∃ k0 k1 k2 k3, ms = [k0, k1, k2, k3] := by
      match ms, hml with
      | [k0, k1, k2, k3], _ => exact ⟨k0, k1, k2, k3, rfl⟩
    obtain ⟨k, hk0, r0⟩ := hf 0 _ rfl
    cases hk0
    replace r0 : RdM Tryz.prog w f 3 (List.take (Tryz.prog.cellsOf 3) (List.drop 0 [v0, v1, v2, v3])) k0 := r0
    rw [show Tryz.prog.cellsOf 3 = 1 from by kernel_rfl] at r0
    replace r0 : RdM Tryz.prog w f 3 [v0] k0 := r0
    obtain ⟨k, hk1, r1⟩ := hf 1 _ rfl
    cases hk1
    replace r1 : RdM Tryz.prog w f 3 (List.take (Tryz.prog.cellsOf 3) (List.drop 1 [v0, v1, v2, v3])) k1 := r1
    rw [show Tryz.prog.cellsOf 3 = 1 from by kernel_rfl] at r1
    replace r1 : RdM Tryz.prog w f 3 [v1] k1 := r1
    obtain ⟨k, hk2, r2⟩ := hf 2 _ rfl
    cases hk2
    replace r2 : RdM Tryz.prog w f 3 (List.take (Tryz.prog.cellsOf 3) (List.drop 2 [v0, v1, v2, v3])) k2 := r2
    rw [show Tryz.prog.cellsOf 3 = 1 from by kernel_rfl] at r2
    replace r2 : RdM Tryz.prog w f 3 [v2] k2 := r2
    obtain ⟨k, hk3, r3⟩ := hf 3 _ rfl
    cases hk3
    replace r3 : RdM Tryz.prog w f 25 (List.take (Tryz.prog.cellsOf 25) (List.drop 3 [v0, v1, v2, v3])) k3 := r3
    rw [show Tryz.prog.cellsOf 25 = 1 from by kernel_rfl] at r3
    replace r3 : RdM Tryz.prog w f 25 [v3] k3 := r3
    obtain ⟨x0, e0, w0, d0⟩ := r0.int
    cases e0
    obtain ⟨x1, e1, w1, d1⟩ := r1.int
    cases e1
    obtain ⟨x2, e2, w2, d2⟩ := r2.int
    cases e2
    obtain ⟨a3, n3, c3, l3, e3, z3, y3, b3, q3, d3⟩ := writeV_rowsM25 r3
    cases e3
    simp only [List.sum_cons, List.sum_nil] at hsum
    exact ⟨⟨x0, x1, x2, a3, n3, c3, l3⟩, rfl, ⟨w0, w1, w2, ⟨z3, y3, b3, q3⟩⟩, by show 1 + 1 + 1 + ((l3.map WriteV.bulk).sum + 1) ≤ m; omega⟩
set_option maxRecDepth 100000 in
theorem recV_rowsM23 {w : World} {f : Nat} {cs : List Value} {m : Nat} (h : RdM Tryz.prog w f 23 cs m) : ∃ a n c, ∃ os : List RecV, cs = [.slice a n c] ∧ n ≤ c ∧ c * 48 ≤ 140737488351232 ∧ Tab w a n 4 (os.map RecV.cells) ∧ (∀ o ∈ os, o.ok w) ∧ (os.map RecV.bulk).sum + 1 ≤ m := by
  have := RdM.rows (α := RecV) (cells := RecV.cells) (ok := fun o => o.ok w) (bulk := RecV.bulk) (size := 4) Tryz.underlying23 (by kernel_rfl) (fun f cs m h => recV_ofM f cs m h) h
  rw [show Tryz.prog.bytesOf 27 = 48 from by kernel_rfl] at this
  exact this

theorem ws_bulk (ws : List WriteV) : 2 * ws.length ≤ (ws.map WriteV.bulk).sum := by
  induction ws with
  | nil => simp
  | cons z ws ih => rw [List.map_cons, List.sum_cons, List.length_cons]; have : WriteV.bulk z = 1 + (z.B'.length + 1) := rfl; omega
end Go.Proofs.YtlhkpakbenghgaaGreat
/-
  Sizes and bulk.
-/
set_option linter.unusedVariables false
namespace Go.Proofs.YtlhkpakbenghgaaGreat
open Go Brv Brv.Stats
theorem es_bulk (es : List ExtV) : es.length ≤ (es.map ExtV.bulk).sum := by
  induction es with
  | nil => simp
  | cons z es ih => rw [List.map_cons, List.sum_cons, List.length_cons]; have : ExtV.bulk z = 1 + 1 := rfl; omega
theorem szR_bulk (l : List RecV) : szR l l.length ≤ (l.map RecV.bulk).sum := by
  unfold szR
  rw [List.take_length]
  induction l with
  | nil => simp
  | cons r l ih =>
    rw [List.map_cons, List.sum_cons, List.map_cons, List.sum_cons]
    have h := ws_bulk r.Writes'
    have : RecV.bulk r = 1 + 1 + 1 + ((r.Writes'.map WriteV.bulk).sum + 1) := rfl
    omega
theorem szI_bulk (l : List ItemV) : szI l l.length ≤ (l.map ItemV.bulk).sum := by
  unfold szI
  rw [List.take_length]
  induction l with
  | nil => simp
  | cons x l ih =>
    rw [List.map_cons, List.sum_cons, List.map_cons, List.sum_cons]
    have h := es_bulk x.At'
    have : ItemV.bulk x = 1 + 1 + 1 + 1 + 1 + 1 + 1 + 1 + ((x.At'.map ExtV.bulk).sum + 1) := rfl
    omega
end Go.Proofs.YtlhkpakbenghgaaGreat
