/-
  The walks of package shrink: pieces, Grow, what is laid over.
-/
import Derived.Test.YtjmlcodlnohgdaaShr
import Derived.Test.YtjmlcodlnohgdaaCrcPure
set_option linter.unusedVariables false
set_option linter.unusedSimpArgs false
namespace Go.Proofs.Ytjmlcodlnohgdaa
open Go Brv Brv.Crc Brv.Shrink
theorem piece_ok (a : Option Addr) (n c : Nat) (l : List UInt8) (w : World) (hb : Bs w a n l) (hc : n ≤ c) (hn : n ≤ 1000000) (h0 : 0 < n) : Meets Try.prog 85 [.slice a n c] w (fun v w' => Ext [] w w' ∧ ∃ a1 n1 c1 a2 n2 c2 p q, v = .tuple #[.slice a1 n1 c1, .slice a2 n2 c2, .bool (pieceF l).isSome] ∧ ((pieceF l).isSome = true → pieceF l = some (p, q) ∧ Bs w' a1 n1 p ∧ (∀ w0, Bs w0 a n l → Bs w0 a2 n2 q) ∧ n2 ≤ c2)) := by
  refine Meets.enter Try.func85 rfl 44 rfl (Nat.le_of_ble_eq_true rfl) ?_
  have E := Ext.refl [] w
  have hl := hb.len
  obtain ⟨nb, r, rfl⟩ : ∃ x q, l = x :: q := by cases l with | nil => simp at hl; omega | cons x q => exact ⟨x, q, rfl⟩
  rw [List.length_cons] at hl
  have hnb := nb.toNat_lt
  obtain ⟨p0, hp0, hc0⟩ := hb.at 0 (by simp)
  refine G.seq ?_
  refine G.region ?_
  refine L.val rfl rfl (R.as rfl) ?_
  refine L.val rfl rfl (R.as rfl) ?_
  refine L.val rfl rfl (R.as rfl) ?_
  refine L.nil ?_
  refine N.seq ?_
  refine G.seq ?_
  refine G.seq ?_
  refine G.region ?_
  refine L.val rfl rfl (R.mv rfl) ?_
  refine L.val rfl rfl (R.idx rfl rfl (by omega) (by omega) p0 hp0) ?_
  refine L.val rfl rfl (R.ld rfl (cell?_ext0' hc0 E)) ?_
  refine L.be 8 rfl (show vb (nb :: r)[0] = vb nb from rfl) ?_
  refine L.val rfl rfl (R.conv rfl _ (wrap_i64 (by omega))) ?_
  refine L.val rfl rfl (R.as rfl) ?_
  refine L.nil ?_
  refine N.seq ?_
  refine G.block ?_
  refine G.seq ?_
  refine G.region ?_
  refine L.val rfl rfl (R.mv rfl) ?_
  refine L.val rfl rfl (R.geq rfl rfl) ?_
  refine L.val rfl rfl (R.mv rfl) ?_
  refine L.caseP 13 rfl (fun hg2_2 => ?_) (fun hg2_2 => ?_)
  · refine L.val rfl rfl (R.mv rfl) ?_
    refine L.val rfl rfl (R.lenS rfl) ?_
    refine L.val rfl rfl (R.geq rfl rfl) ?_
    first | refine L.val rfl rfl (R.pickT rfl rfl) ?_ | refine L.val rfl rfl (R.pickF rfl rfl) ?_
    refine L.val rfl rfl (R.as rfl) ?_
    refine L.nil ?_
    refine N.seq ?_
    refine G.condP rfl (fun h0 => ?_) (fun h0 => ?_)
    · obtain ⟨x, r, rfl⟩ : ∃ x q, r = x :: q := by cases r with | nil => simp at hl; omega | cons x q => exact ⟨x, q, rfl⟩
      rw [List.length_cons] at hl
      have hb1 : Bs w (subA a 1 c 1) 1 [x] := by have := hb.sub 1 c 1 (by omega) (by omega); simpa using this
      refine G.seq ?_
      refine G.quiet (by decide +kernel) rfl ?_
      refine Q.val rfl rfl rfl rfl (fun w1 hE => R.mv rfl) ?_
      refine Q.val rfl rfl rfl rfl (fun w1 hE => R.slLH rfl rfl rfl (by decide) (by decide) (by omega)) ?_
      refine Q.be 19 rfl (show _ = Value.slice (subA a 1 c 1) 1 (c - 1) from rfl) ?_
      refine Q.val rfl rfl rfl rfl (fun w1 hE => R.mv rfl) ?_
      refine Q.val rfl rfl rfl rfl (fun w1 hE => R.sub' rfl rfl (by omega)) ?_
      refine Q.val rfl rfl rfl rfl (fun w1 hE => R.add rfl rfl (by omega)) ?_
      refine Q.be 22 rfl (congrArg (Value.int .i64) (show (nb.toNat : Int) - 128 + 3 = ((nb.toNat - 125 : Nat) : Int) by omega)) ?_
      refine Q.callR (A := IsBs (nb.toNat - 125) (List.replicate (nb.toNat - 125) x)) (IsBs.keep _ _) rfl rfl go112 (fun w1 hE => ⟨_, rfl, (brepeat_ok _ _ x _ _ (hb1.ext0 (E.trans0 hE)) (by omega) (by omega)).mono (fun _ _ h => ⟨h.is, h.ext⟩)⟩) ?_
      refine Q.val rfl rfl rfl rfl (fun w1 hE => R.mv rfl) ?_
      refine Q.val rfl rfl rfl rfl (fun w1 hE => R.slL rfl rfl (by decide) (by show (2 : Int) ≤ _; omega)) ?_
      refine Q.valR (A := IsBs (nb.toNat - 125) (List.replicate (nb.toNat - 125) x)) (IsBs.keep _ _) rfl rfl rfl (fun w1 hE => fun v hv => ⟨v, R.as rfl, hv⟩) ?_
      refine Q.val rfl rfl rfl rfl (fun w1 hE => R.as rfl) ?_
      refine Q.val rfl rfl rfl rfl (fun w1 hE => R.as rfl) ?_
      refine Q.nil (fun w1 e1 => ?_)
      intro v2 h2 v23 _
      obtain ⟨a2, c2, rfl, hc2, hb2⟩ := h2
      replace E := E.trans0 e1
      refine N.seq ?_
      refine G.ret3 rfl rfl rfl rfl ?_
      have hp := pieceF_hi nb (by omega) x r
      exact ⟨E, a2, _, c2, subA a 2 c 1, n - 2, c - 2, _, r, by rw [hp]; rfl, fun _ => ⟨hp, hb2, fun w0 hb0 => by have := hb0.drop 2 c (by omega) hc; simpa using this, by omega⟩⟩
    · refine G.seq ?_
      refine G.region ?_
      refine L.val rfl rfl (R.mv rfl) ?_
      refine L.val rfl rfl (R.lss rfl rfl) ?_
      refine L.val rfl rfl (R.mv rfl) ?_
      refine L.isF 29 rfl (decide_eq_false (by omega)) ?_
      refine L.pass rfl rfl ?_
      refine L.pass rfl rfl ?_
      refine L.pass rfl rfl ?_
      refine L.pass rfl rfl ?_
      refine L.pass rfl rfl ?_
      first | refine L.val rfl rfl (R.pickT rfl rfl) ?_ | refine L.val rfl rfl (R.pickF rfl rfl) ?_
      refine L.val rfl rfl (R.as rfl) ?_
      refine L.nil ?_
      refine N.seq ?_
      refine G.condF rfl ?_
      refine G.skip ?_
      refine N.block ?_
      refine N.seq ?_
      refine G.seq ?_
      refine G.region ?_
      refine L.val rfl rfl (R.as rfl) ?_
      refine L.val rfl rfl (R.as rfl) ?_
      refine L.val rfl rfl (R.as rfl) ?_
      refine L.nil ?_
      refine N.seq ?_
      refine G.ret3 rfl rfl rfl rfl ?_
      obtain rfl : r = [] := List.eq_nil_of_length_eq_zero (by omega)
      have hp := pieceF_hi0 nb (by omega)
      exact ⟨E, none, 0, 0, none, 0, 0, [], [], by rw [hp]; rfl, fun h => by rw [hp] at h; cases h⟩
  · refine L.pass rfl rfl ?_
    refine L.pass rfl rfl ?_
    refine L.pass rfl rfl ?_
    first | refine L.val rfl rfl (R.pickT rfl rfl) ?_ | refine L.val rfl rfl (R.pickF rfl rfl) ?_
    refine L.val rfl rfl (R.as rfl) ?_
    refine L.nil ?_
    refine N.seq ?_
    refine G.condF rfl ?_
    refine G.seq ?_
    refine G.region ?_
    refine L.val rfl rfl (R.mv rfl) ?_
    refine L.val rfl rfl (R.lss rfl rfl) ?_
    refine L.val rfl rfl (R.mv rfl) ?_
    refine L.isT 29 rfl (decide_eq_true (by omega)) ?_
    refine L.val rfl rfl (R.mv rfl) ?_
    refine L.val rfl rfl (R.lenS rfl) ?_
    refine L.val rfl rfl (R.mv rfl) ?_
    refine L.val rfl rfl (R.add rfl rfl (by omega)) ?_
    refine L.val rfl rfl (R.geq rfl rfl) ?_
    first | refine L.val rfl rfl (R.pickT rfl rfl) ?_ | refine L.val rfl rfl (R.pickF rfl rfl) ?_
    refine L.val rfl rfl (R.as rfl) ?_
    refine L.nil ?_
    refine N.seq ?_
    refine G.condP rfl (fun h1 => ?_) (fun h1 => ?_)
    · refine G.seq ?_
      refine G.quiet (by decide +kernel) rfl ?_
      refine Q.val rfl rfl rfl rfl (fun w1 hE => R.mv rfl) ?_
      refine Q.val rfl rfl rfl rfl (fun w1 hE => R.mv rfl) ?_
      refine Q.val rfl rfl rfl rfl (fun w1 hE => R.add rfl rfl (by omega)) ?_
      refine Q.val rfl rfl rfl rfl (fun w1 hE => R.slLH rfl rfl rfl (by decide) (by omega) (by omega)) ?_
      refine Q.val rfl rfl rfl rfl (fun w1 hE => R.mv rfl) ?_
      refine Q.val rfl rfl rfl rfl (fun w1 hE => R.mv rfl) ?_
      refine Q.val rfl rfl rfl rfl (fun w1 hE => R.add rfl rfl (by omega)) ?_
      refine Q.val rfl rfl rfl rfl (fun w1 hE => R.slL rfl rfl (by omega) (by omega)) ?_
      refine Q.val rfl rfl rfl rfl (fun w1 hE => R.as rfl) ?_
      refine Q.val rfl rfl rfl rfl (fun w1 hE => R.as rfl) ?_
      refine Q.val rfl rfl rfl rfl (fun w1 hE => R.as rfl) ?_
      refine Q.nil (fun w1 e1 => ?_)
      replace E := E.trans0 e1
      refine N.seq ?_
      refine G.ret3 rfl rfl rfl rfl ?_
      have hp := pieceF_lo nb (by omega) r
      rw [if_pos (by omega)] at hp
      have e1 : ((nb.toNat : Int) + 2).toNat = nb.toNat + 2 := by omega
      refine ⟨E, subA a 1 c 1, nb.toNat + 1, c - 1, subA a (nb.toNat + 2) c 1, n - (nb.toNat + 2), c - (nb.toNat + 2), _, _, by rw [hp, e1]; rfl, fun _ => ⟨hp, ?_, ?_, by omega⟩⟩
      · have := hb.sub 1 c (nb.toNat + 1) (by omega) (by omega)
        exact (by simpa using this : Bs w (subA a 1 c 1) (nb.toNat + 1) (r.take (nb.toNat + 1))).ext0 E
      · intro w0 hb0
        have := hb0.drop (nb.toNat + 2) c (by omega) hc
        simpa using this
    · refine G.skip ?_
      refine N.block ?_
      refine N.seq ?_
      refine G.seq ?_
      refine G.region ?_
      refine L.val rfl rfl (R.as rfl) ?_
      refine L.val rfl rfl (R.as rfl) ?_
      refine L.val rfl rfl (R.as rfl) ?_
      refine L.nil ?_
      refine N.seq ?_
      refine G.ret3 rfl rfl rfl rfl ?_
      have hp := pieceF_lo nb (by omega) r
      rw [if_neg (by omega)] at hp
      exact ⟨E, none, 0, 0, none, 0, 0, [], [], by rw [hp]; rfl, fun h => by rw [hp] at h; cases h⟩

theorem grow_ok (a : Option Addr) (n c : Nat) (l : List UInt8) (most : Int) (w : World) (hb : Bs w a n l) (hc : n ≤ c) (hn : n ≤ 1000000) : Meets Try.prog 52 [.slice a n c, .int .i64 most] w (fun v w' => ∃ a1 c1 M', v = .tuple #[.slice a1 (growF most l).1.length c1, .int .i64 (growF most l).2] ∧ Ext [] w w' ∧ Own w' 5 1 a1 (growF most l).1.length c1 (vbs (growF most l).1) M' ∧ ∀ g ∈ M', w.heap.size ≤ g) := by
  refine Meets.enter Try.func52 rfl 36 rfl (Nat.le_of_ble_eq_true rfl) ?_
  have E := Ext.refl [] w
  have hl := hb.len
  refine G.seq ?_
  refine G.region ?_
  refine L.val rfl rfl (R.as rfl) ?_
  refine L.val rfl rfl (R.as rfl) ?_
  refine L.nil ?_
  refine N.seq ?_
  refine G.seq ?_
  refine G.region ?_
  refine L.val rfl rfl (R.as rfl) ?_
  refine L.nil ?_
  refine N.seq ?_
  refine G.seq ?_
  refine G.block ?_
  refine G.loop (X := ShSt) (fun x => [(0, .slice x.a0 x.n0 x.c0), (1, .int .i64 most), (6, .slice x.a1 x.n1 x.c1)]) (fun x w' => Bs w x.a0 x.n0 x.r ∧ (x.n0 ≤ x.c0 ∧ x.n0 ≤ n ∧ x.n1 ≤ 130 * (n - x.n0)) ∧ Own w' 5 1 x.a1 x.n1 x.c1 (vbs x.acc) x.M ∧ (∀ g ∈ x.M, w.heap.size ≤ g) ∧ growN most.toNat x.r.length x.acc x.r = growF most l ∧ Ext [] w w') (fun x => x.r.length) (⟨a, n, c, l, none, 0, 0, [], []⟩) (Sub.cons rfl (Sub.cons rfl (Sub.cons rfl (Sub.nil _)))) ⟨hb, ⟨hc, Nat.le_refl _, Nat.zero_le _⟩, Own.nil _ _ _, by simp, rfl, Ext.refl _ _⟩ ?_
  rintro ⟨a0, n0, c0, r, a1, n1, c1, acc, M⟩ w1 ⟨hbr, ⟨hcr, hcn, hn1⟩, o1, hM, hacc, E⟩
  dsimp only at hbr hcr hcn hn1 o1 hM hacc
  refine G.sub [(0, .slice a0 n0 c0), (1, .int .i64 most), (6, .slice a1 n1 c1)] (Sub.cons rfl (Sub.cons rfl (Sub.cons rfl (Sub.nil _)))) ?_
  have hrl := hbr.len
  have ho1 := o1.len
  rw [vbs_length, Nat.mul_one] at ho1
  refine G.seq ?_
  refine G.seq ?_
  refine G.region ?_
  refine L.val rfl rfl (R.mv rfl) ?_
  refine L.val rfl rfl (R.lenS rfl) ?_
  refine L.val rfl rfl (R.gtr rfl rfl) ?_
  refine L.nil ?_
  refine N.seq ?_
  refine G.condP rfl (fun h0 => ?_) (fun h0 => ?_)
  · refine G.skip ?_
    refine N.seq ?_
    refine G.block ?_
    refine G.seq ?_
    refine G.region ?_
    refine L.val rfl rfl (R.mv rfl) ?_
    refine L.callF rfl rfl rfl go85 (piece_ok _ _ _ _ _ (hbr.ext0 E) hcr (by omega) (by omega)) ?_
    rintro _ w2 ⟨e2, a3, n3, c3, a4, n4, c4, p, q, rfl, hpp⟩
    have o1 := o1.ext0 e2
    have E1 := E
    replace E := E.trans0 e2
    refine L.val rfl rfl (R.mv rfl) ?_
    refine L.val rfl rfl (R.ext rfl rfl) ?_
    refine L.val rfl rfl (R.ext rfl rfl) ?_
    refine L.val rfl rfl (R.ext rfl rfl) ?_
    refine L.val rfl rfl (R.as rfl) ?_
    refine L.val rfl rfl (R.as rfl) ?_
    refine L.val rfl rfl (R.as rfl) ?_
    refine L.nil ?_
    refine N.seq ?_
    refine G.seq ?_
    refine G.block ?_
    refine G.seq ?_
    refine G.region ?_
    refine L.val rfl rfl (R.mv rfl) ?_
    refine L.val rfl rfl (R.not rfl) ?_
    refine L.val rfl rfl (R.as rfl) ?_
    refine L.nil ?_
    refine N.seq ?_
    refine G.condB rfl (fun h1 => ?_) (fun h1 => ?_)
    · have hpn : pieceF r = none := by cases h : pieceF r with | none => rfl | some x => rw [h] at h1; simp at h1
      have hg0 := growN_bad most.toNat r.length acc r (by intro e; subst e; simp at hrl; omega) (Nat.le_refl _) hpn
      rw [hg0] at hacc
      refine G.seq ?_
      refine G.region ?_
      refine L.val rfl rfl (R.as rfl) ?_
      refine L.val rfl rfl (R.as rfl) ?_
      refine L.nil ?_
      refine N.seq ?_
      refine G.ret2 rfl rfl rfl ?_
      rw [← hacc]; exact ⟨none, 0, [], rfl, E, Own.nil _ _ _, by simp⟩
    · have hps : (pieceF r).isSome = true := by cases h : pieceF r with | none => rw [h] at h1; simp at h1 | some x => rfl
      obtain ⟨hpc, hb3, hb4, hc4⟩ := hpp hps
      have hpz := pieceF_size hpc
      have hpl := pieceF_less hpc
      have hl3 := hb3.len
      replace hb4 : Bs w a4 n4 q := hb4 w hbr
      have hl4 := hb4.len
      refine G.seq ?_
      refine G.region ?_
      refine L.val rfl rfl (R.mv rfl) ?_
      refine L.val rfl rfl (R.lenS rfl) ?_
      refine L.val rfl rfl (R.mv rfl) ?_
      refine L.val rfl rfl (R.lenS rfl) ?_
      refine L.val rfl rfl (R.add rfl rfl (by omega)) ?_
      refine L.val rfl rfl (R.mv rfl) ?_
      refine L.val rfl rfl (R.max rfl rfl ((most.toNat : Nat) : Int) (by split <;> omega)) ?_
      refine L.val rfl rfl (R.gtr rfl rfl) ?_
      refine L.val rfl rfl (R.as rfl) ?_
      refine L.nil ?_
      refine N.seq ?_
      refine G.condP rfl (fun h2 => ?_) (fun h2 => ?_)
      · rw [growN_step _ _ _ _ _ _ (Nat.le_refl _) hpc, if_pos (by omega)] at hacc
        refine G.seq ?_
        refine G.region ?_
        refine L.val rfl rfl (R.as rfl) ?_
        refine L.val rfl rfl (R.as rfl) ?_
        refine L.nil ?_
        refine N.seq ?_
        refine G.ret2 rfl rfl rfl ?_
        rw [← hacc]; exact ⟨none, 0, [], rfl, E, Own.nil _ _ _, by simp⟩
      · refine G.skip ?_
        refine N.block ?_
        refine N.seq ?_
        refine G.region ?_
        refine L.val rfl rfl (R.mv rfl) ?_
        refine L.val rfl rfl (R.mv rfl) ?_
        refine L.do rfl rfl (R.app rfl rfl o1 hb3.cells (by rw [vbs_length, Nat.mul_one]; exact hb3.len.symm) (vbs_one _) (by simp [maxLen]; omega) (by omega)) ?_
        rintro _ w3 ⟨a5, c5, M5, rfl, e3, hM5, o5⟩
        have hE1 := E.size
        have E : Ext [] w w3 := E.trans e3 (by simp) (fun g hg => .inr (hM g hg))
        refine L.val rfl rfl (R.mv rfl) ?_
        refine L.val rfl rfl (R.as rfl) ?_
        refine L.val rfl rfl (R.as rfl) ?_
        refine L.nil ?_
        refine N.block ?_
        exact N.again (X := ShSt) ⟨a4, n4, c4, q, a5, n1 + n3, c5, acc ++ p, M5⟩ (by show q.length < r.length; omega) (Sub.cons rfl (Sub.cons rfl (Sub.cons rfl (Sub.nil _)))) ⟨hb4, ⟨hc4, by show n4 ≤ n; omega, by show n1 + n3 ≤ 130 * (n - n4); omega⟩, by rw [vbs_append]; exact o5, fun g hg => (hM5 g hg).elim (hM g) (Nat.le_trans hE1), by show growN _ _ (acc ++ p) q = _; rw [← hacc, growN_step _ _ _ _ _ _ (Nat.le_refl _) hpc, if_neg (by omega)], E⟩
  · refine G.exit _ rfl ?_
    refine N.seq ?_
    refine G.seq ?_
    refine G.region ?_
    refine L.val rfl rfl (R.mv rfl) ?_
    refine L.val rfl rfl (R.as rfl) ?_
    refine L.val rfl rfl (R.as rfl) ?_
    refine L.nil ?_
    refine N.seq ?_
    refine G.ret2 rfl rfl rfl ?_
    obtain rfl : r = [] := List.eq_nil_of_length_eq_zero (by omega)
    rw [growN_nil] at hacc
    rw [← hacc]
    subst ho1
    exact ⟨a1, c1, M, rfl, E, o1, hM⟩

theorem laid_ok (ao : Option Addr) (no co : Nat) (lo : List UInt8) (a : Option Addr) (n c : Nat) (l : List UInt8) (w : World) (hbo : Bs w ao no lo) (hb : Bs w a n l) (hno : no ≤ 1000000) (hc : n ≤ c) (hn : n ≤ 1000000) : Meets Try.prog 89 [.slice ao no co, .slice a n c] w (Cloned w 5 1 n (vbs (laidF lo l))) := by
  refine Meets.enter Try.func89 rfl 29 rfl (Nat.le_of_ble_eq_true rfl) ?_
  have E := Ext.refl [] w
  have hl := hb.len
  have hlo := hbo.len
  refine G.seq ?_
  refine G.region ?_
  refine L.val rfl rfl (R.as rfl) ?_
  refine L.nil ?_
  refine N.seq ?_
  refine G.seq ?_
  refine G.region ?_
  refine L.val rfl rfl (R.mv rfl) ?_
  refine L.callF rfl rfl rfl go73 (bclone_ok _ _ _ _ _ hb (by omega)) ?_
  rintro _ w1 ⟨a1, c1, M1, rfl, e1, o1, hM1⟩
  refine L.val rfl rfl (R.as rfl) ?_
  refine L.nil ?_
  refine N.seq ?_
  refine G.seq ?_
  refine G.seq ?_
  refine G.region ?_
  refine L.val rfl rfl (R.mv rfl) ?_
  refine L.val rfl rfl (R.lenS rfl) ?_
  refine L.val rfl rfl (R.mv rfl) ?_
  refine L.val rfl rfl (R.lenS rfl) ?_
  refine L.val rfl rfl (R.min rfl rfl ((min no n : Nat) : Int) (by split <;> omega)) ?_
  refine L.val rfl rfl (R.mv rfl) ?_
  refine L.nil ?_
  refine N.seq ?_
  refine G.block ?_
  refine G.loop (X := Nat) (fun i => [(0, .slice ao no co), (5, .slice a1 n c1), (13, .int .i64 ((min no n : Nat) : Int)), (14, .int .i64 (i : Int))]) (fun i w' => i ≤ min no n ∧ Own w' 5 1 a1 n c1 (vbs ((laidF lo l).take i ++ l.drop i)) M1 ∧ Ext [] w w') (fun i => n - i) (0) (Sub.cons rfl (Sub.cons rfl (Sub.cons rfl (Sub.cons rfl (Sub.nil _))))) ⟨Nat.zero_le _, by simpa using o1, e1⟩ ?_
  rintro i w2 ⟨hi, o2, E⟩
  refine G.seq ?_
  refine G.region ?_
  refine L.val rfl rfl (R.lss rfl rfl) ?_
  refine L.nil ?_
  refine N.seq ?_
  refine G.seq ?_
  refine G.condP rfl (fun h0 => ?_) (fun h0 => ?_)
  · obtain ⟨g, cur, ha, hM, hB, hlt, hset⟩ := o2.set i (by omega)
    obtain ⟨p, hp, hcl⟩ := (Bs.of_own o2).at i (by simp [laidF_length]; omega)
    rw [ha] at hp
    cases hp
    have hgi : ((laidF lo l).take i ++ l.drop i)[i]? = some l[i] := by rw [List.getElem?_append_right (by rw [List.length_take]; omega), List.getElem?_drop, List.length_take, laidF_length, Nat.min_eq_left (by omega), Nat.sub_self, Nat.add_zero]; exact List.getElem?_eq_getElem (by omega)
    replace hcl : w2.cell? ⟨g, i, none⟩ = some (vb l[i]) := by rw [Go.Addr.add_lit, Nat.zero_add, Nat.mul_one] at hcl; rw [hcl]; have := (List.getElem?_eq_some_iff.1 hgi).2; rw [this]
    obtain ⟨po, hpo, hco⟩ := hbo.at i (by omega)
    refine G.skip ?_
    refine N.seq ?_
    refine G.seq ?_
    refine G.block ?_
    refine G.seq ?_
    refine G.region ?_
    refine L.val rfl rfl (R.mv rfl) ?_
    refine L.val rfl rfl (R.as rfl) ?_
    refine L.nil ?_
    refine N.seq ?_
    refine G.staged [10] [.blocks ([g])] [Ext [] w2, fun w' => Ext [g] w2 w' ∧ Blk w' g (cur.setIfInBounds i (vb (l[i] ^^^ lo[i]))) 5 (0, 0)] [] (by decide +kernel) (by decide +kernel) rfl rfl rfl (fun _ h => h) ?_
    refine Z.val rfl rfl rfl rfl rfl (fun w3 => R.mv rfl) ?_
    refine Z.val rfl rfl rfl rfl rfl (fun w3 => R.mv rfl) ?_
    refine Z.val rfl rfl rfl rfl rfl (fun w3 => R.idxO rfl rfl (by omega) (by omega) ha i (by omega)) ?_
    refine Z.read 0 (by decide +kernel) rfl rfl rfl rfl rfl rfl (fun w3 hJ => R.ld rfl (cell?_ext0' hcl hJ)) ?_
    refine Z.val rfl rfl rfl rfl rfl (fun w3 => R.mv rfl) ?_
    refine Z.val rfl rfl rfl rfl rfl (fun w3 => R.mv rfl) ?_
    refine Z.val rfl rfl rfl rfl rfl (fun w3 => R.idx rfl rfl (by omega) (by omega) po hpo) ?_
    refine Z.read 0 (by decide +kernel) rfl rfl rfl rfl rfl rfl (fun w3 hJ => R.ld rfl (cell?_ext0' hco (E.trans0 hJ))) ?_
    refine Z.val rfl rfl rfl rfl rfl (fun w3 => R.xorW rfl rfl _ (xorI_u8 _ _)) ?_
    refine Z.val rfl rfl rfl rfl rfl (fun w3 => R.idxO rfl rfl (by omega) (by omega) ha i (by omega)) ?_
    refine Z.set 0 (by decide +kernel) rfl rfl rfl rfl rfl rfl (fun w3 hJ => (R.st rfl rfl (hB.ext0 hJ) hlt rfl).mono (fun _ h => ⟨h.1, h.1.after hJ, h.2.2⟩)) ?_
    refine Z.nil rfl rfl (fun w3 hJ => ?_)
    have o3 := hset _ _ hJ.1 hJ.2
    rw [vbs_set, laidF_steps lo l i (by omega) (by omega)] at o3
    have E : Ext [] w w3 := E.trans hJ.1 (by simp) (by intro x hx; obtain rfl := List.mem_singleton.1 hx; exact .inr (hM1 x (by simp [hM])))
    refine N.block ?_
    refine N.seq ?_
    refine G.region ?_
    refine L.val rfl rfl (R.add rfl rfl (by omega)) ?_
    refine L.val rfl rfl (R.mv rfl) ?_
    refine L.nil ?_
    exact N.again (i + 1) (by omega) (Sub.cons rfl (Sub.cons rfl (Sub.cons rfl (Sub.cons rfl (Sub.nil _))))) ⟨by omega, o3, E⟩
  · refine G.exit _ rfl ?_
    refine N.seq ?_
    refine G.seq ?_
    refine G.region ?_
    refine L.val rfl rfl (R.mv rfl) ?_
    refine L.val rfl rfl (R.as rfl) ?_
    refine L.nil ?_
    refine N.seq ?_
    refine G.ret1 rfl rfl ?_
    rw [laidF_done lo l i (by omega)] at o2
    exact ⟨a1, c1, M1, rfl, E, o2, hM1⟩

theorem delta_ok (ao : Option Addr) (no co : Nat) (lo : List UInt8) (a : Option Addr) (n c : Nat) (l : List UInt8) (w : World) (hbo : Bs w ao no lo) (hb : Bs w a n l) (hno : no ≤ 1000000) (hc : n ≤ c) (hn : n ≤ 1000000) : Meets Try.prog 57 [.slice ao no co, .slice a n c] w (Cloned w 5 1 (shrinkF (laidF lo l)).length (vbs (shrinkF (laidF lo l)))) := by
  refine Meets.enter Try.func57 rfl 9 rfl (Nat.le_of_ble_eq_true rfl) ?_
  refine G.seq ?_
  refine G.region ?_
  refine L.val rfl rfl (R.as rfl) ?_
  refine L.nil ?_
  refine N.seq ?_
  refine G.seq ?_
  refine G.region ?_
  refine L.val rfl rfl (R.mv rfl) ?_
  refine L.val rfl rfl (R.mv rfl) ?_
  refine L.callF rfl rfl rfl go89 (laid_ok _ _ _ _ _ _ _ _ _ hbo hb hno hc hn) ?_
  rintro _ w1 ⟨a1, c1, M1, rfl, e1, o1, hM1⟩
  refine L.callF rfl rfl rfl go54 (shrink_ok _ _ _ _ _ (Bs.of_own o1) o1.le hn) ?_
  rintro _ w2 ⟨a2, c2, M2, rfl, e2, o2, hM2⟩
  refine L.val rfl rfl (R.as rfl) ?_
  refine L.nil ?_
  refine N.seq ?_
  refine G.ret1 rfl rfl ?_
  exact ⟨a2, c2, M2, rfl, e1.trans0 e2, o2, fun g hg => Nat.le_trans e1.size (hM2 g hg)⟩

def undoF (most : Int) (lo l : List UInt8) : List UInt8 := if (growF most l).2 = 0 then laidF lo (growF most l).1 else []

theorem undo_ok (ao : Option Addr) (no co : Nat) (lo : List UInt8) (a : Option Addr) (n c : Nat) (l : List UInt8) (most : Int) (w : World) (hbo : Bs w ao no lo) (hb : Bs w a n l) (hno : no ≤ 1000000) (hc : n ≤ c) (hn : n ≤ 1000000) (hgl : (growF most l).1.length ≤ 1000000) : Meets Try.prog 56 [.slice ao no co, .slice a n c, .int .i64 most] w (fun v w' => ∃ a1 c1, v = .tuple #[.slice a1 (undoF most lo l).length c1, .int .i64 (growF most l).2] ∧ Ext [] w w' ∧ Bs w' a1 (undoF most lo l).length (undoF most lo l) ∧ (undoF most lo l).length ≤ c1) := by
  refine Meets.enter Try.func56 rfl 22 rfl (Nat.le_of_ble_eq_true rfl) ?_
  have E := Ext.refl [] w
  refine G.seq ?_
  refine G.region ?_
  refine L.val rfl rfl (R.as rfl) ?_
  refine L.val rfl rfl (R.as rfl) ?_
  refine L.nil ?_
  refine N.seq ?_
  refine G.seq ?_
  refine G.region ?_
  refine L.val rfl rfl (R.mv rfl) ?_
  refine L.val rfl rfl (R.mv rfl) ?_
  refine L.callF rfl rfl rfl go52 (grow_ok _ _ _ _ _ _ hb hc hn) ?_
  rintro _ w1 ⟨a1, c1, M1, rfl, e1, o1, hM1⟩
  replace E := E.trans0 e1
  refine L.val rfl rfl (R.mv rfl) ?_
  refine L.val rfl rfl (R.ext rfl rfl) ?_
  refine L.val rfl rfl (R.ext rfl rfl) ?_
  refine L.val rfl rfl (R.as rfl) ?_
  refine L.val rfl rfl (R.as rfl) ?_
  refine L.nil ?_
  refine N.seq ?_
  refine G.seq ?_
  refine G.seq ?_
  refine G.region ?_
  refine L.val rfl rfl (R.mv rfl) ?_
  refine L.val rfl rfl (R.neI rfl rfl) ?_
  refine L.nil ?_
  refine N.seq ?_
  refine G.condB rfl (fun h0 => ?_) (fun h0 => ?_)
  · have hz : ¬ (growF most l).2 = 0 := by simpa using h0
    have hu : undoF most lo l = [] := if_neg hz
    refine G.seq ?_
    refine G.region ?_
    refine L.val rfl rfl (R.mv rfl) ?_
    refine L.val rfl rfl (R.as rfl) ?_
    refine L.val rfl rfl (R.as rfl) ?_
    refine L.nil ?_
    refine N.seq ?_
    refine G.ret2 rfl rfl rfl ?_
    rw [hu]; exact ⟨none, 0, rfl, E, Bs.nil _, Nat.le_refl _⟩
  · have hz : (growF most l).2 = 0 := by simpa using h0
    have hu : undoF most lo l = laidF lo (growF most l).1 := if_pos hz
    refine G.skip ?_
    refine N.seq ?_
    refine G.seq ?_
    refine G.region ?_
    refine L.val rfl rfl (R.mv rfl) ?_
    refine L.val rfl rfl (R.mv rfl) ?_
    refine L.callF rfl rfl rfl go89 (laid_ok _ _ _ _ _ _ _ _ _ (hbo.ext0 E) (Bs.of_own o1) hno o1.le hgl) ?_
    rintro _ w2 ⟨a2, c2, M2, rfl, e2, o2, hM2⟩
    replace E := E.trans0 e2
    refine L.val rfl rfl (R.as rfl) ?_
    refine L.val rfl rfl (R.as rfl) ?_
    refine L.nil ?_
    refine N.seq ?_
    refine G.ret2 rfl rfl rfl ?_
    rw [hu, hz]; rw [laidF_length]; exact ⟨a2, c2, rfl, E, by have := Bs.of_own o2; exact this, o2.le⟩

theorem refsame_ok (a : Option Addr) (n c : Nat) (l : List UInt8) (k : Nat) (w : World) (hb : Bs w a n l) (hk : k ≤ n) (hn : n ≤ 140737488355328) : Meets Try.prog 88 [.slice a n c, .int .i64 (k : Int)] w (fun v w' => v = .int .i64 ((alikeF (l.drop k) : Nat) : Int) ∧ Ext [] w w') := by
  refine Meets.enter Try.func88 rfl 32 rfl (Nat.le_of_ble_eq_true rfl) ?_
  have E := Ext.refl [] w
  have hl := hb.len
  refine G.seq ?_
  refine G.region ?_
  refine L.val rfl rfl (R.as rfl) ?_
  refine L.nil ?_
  refine N.seq ?_
  refine G.seq ?_
  refine G.region ?_
  refine L.val rfl rfl (R.as rfl) ?_
  refine L.nil ?_
  refine N.seq ?_
  refine G.seq ?_
  refine G.block ?_
  refine G.loop (X := Nat) (fun j => [(0, .slice a n c), (1, .int .i64 (k : Int)), (5, .int .i64 (j : Int))]) (fun j w' => k + j ≤ n ∧ j ≤ 130 ∧ (∀ i, i < j → (l.drop k)[i]? = (l.drop k)[0]?) ∧ Ext [] w w') (fun j => n - j) (0) (Sub.cons rfl (Sub.cons rfl (Sub.cons rfl (Sub.nil _)))) ⟨by omega, by omega, fun j hj => by omega, Ext.refl _ _⟩ ?_
  rintro j w1 ⟨hj, hj2, hall, E⟩
  refine G.seq ?_
  refine G.seq ?_
  refine G.quiet (by decide +kernel) rfl ?_
  refine Q.val rfl rfl rfl rfl (fun w2 hE => R.mv rfl) ?_
  refine Q.val rfl rfl rfl rfl (fun w2 hE => R.mv rfl) ?_
  refine Q.val rfl rfl rfl rfl (fun w2 hE => R.add rfl rfl (by omega)) ?_
  refine Q.val rfl rfl rfl rfl (fun w2 hE => R.mv rfl) ?_
  refine Q.val rfl rfl rfl rfl (fun w2 hE => R.lenS rfl) ?_
  refine Q.val rfl rfl rfl rfl (fun w2 hE => R.lss rfl rfl) ?_
  refine Q.val rfl rfl rfl rfl (fun w2 hE => R.mv rfl) ?_
  refine Q.caseP 12 rfl (fun hg2_6 => ?_) (fun hg2_6 => ?_)
  · refine Q.val rfl rfl rfl rfl (fun w2 hE => R.mv rfl) ?_
    refine Q.val rfl rfl rfl rfl (fun w2 hE => R.lss rfl rfl) ?_
    first | refine Q.val rfl rfl rfl rfl (fun w2 hE => R.pickT rfl rfl) ?_ | refine Q.val rfl rfl rfl rfl (fun w2 hE => R.pickF rfl rfl) ?_
    refine Q.val rfl rfl rfl rfl (fun w2 hE => R.mv rfl) ?_
    refine Q.caseP 16 rfl (fun hg2_10 => ?_) (fun hg2_10 => ?_)
    · obtain ⟨p, hpa, hcl⟩ := hb.at (k + j) (by omega)
      obtain ⟨p0, hpa0, hcl0⟩ := hb.at k (by omega)
      refine Q.val rfl rfl rfl rfl (fun w2 hE => R.mv rfl) ?_
      refine Q.val rfl rfl rfl rfl (fun w2 hE => R.mv rfl) ?_
      refine Q.val rfl rfl rfl rfl (fun w2 hE => R.mv rfl) ?_
      refine Q.val rfl rfl rfl rfl (fun w2 hE => R.add rfl rfl (by omega)) ?_
      refine Q.val rfl rfl rfl rfl (fun w2 hE => R.idx rfl rfl (by omega) (by omega) p hpa) ?_
      refine Q.val rfl rfl rfl rfl (fun w2 hE => R.ld rfl (cell?_ext0' hcl (E.trans0 hE))) ?_
      refine Q.val rfl rfl rfl rfl (fun w2 hE => R.mv rfl) ?_
      refine Q.val rfl rfl rfl rfl (fun w2 hE => R.mv rfl) ?_
      refine Q.val rfl rfl rfl rfl (fun w2 hE => R.idx rfl rfl (by omega) (by omega) p0 hpa0) ?_
      refine Q.val rfl rfl rfl rfl (fun w2 hE => R.ld rfl (cell?_ext0' hcl0 (E.trans0 hE))) ?_
      refine Q.val rfl rfl rfl rfl (fun w2 hE => R.eqI rfl rfl) ?_
      first | refine Q.val rfl rfl rfl rfl (fun w2 hE => R.pickT rfl rfl) ?_ | refine Q.val rfl rfl rfl rfl (fun w2 hE => R.pickF rfl rfl) ?_
      refine Q.nil (fun w2 e2 => ?_)
      replace E := E.trans0 e2
      refine N.seq ?_
      refine G.condP rfl (fun h0 => ?_) (fun h0 => ?_)
      · have hkk : (l.drop k)[j]? = (l.drop k)[0]? := by rw [List.getElem?_drop, List.getElem?_drop, Nat.add_zero, List.getElem?_eq_getElem (by omega), List.getElem?_eq_getElem (by omega)]; exact congrArg some (UInt8.toNat_inj.1 (by omega))
        refine G.skip ?_
        refine N.seq ?_
        refine G.block ?_
        refine G.region ?_
        refine L.val rfl rfl (R.mv rfl) ?_
        refine L.val rfl rfl (R.add rfl rfl (by omega)) ?_
        refine L.val rfl rfl (R.as rfl) ?_
        refine L.nil ?_
        refine N.block ?_
        exact N.again (j + 1) (by omega) (Sub.cons rfl (Sub.cons rfl (Sub.cons rfl (Sub.nil _)))) ⟨by omega, by omega, fun i hi => by rcases Nat.lt_or_ge i j with h | h; exact hall i h; rw [show i = j by omega]; exact hkk, E⟩
      · have hkk : (l.drop k)[j]? ≠ (l.drop k)[0]? := by rw [List.getElem?_drop, List.getElem?_drop, Nat.add_zero, List.getElem?_eq_getElem (by omega), List.getElem?_eq_getElem (by omega)]; intro e; have e2 := Option.some.inj e; rw [e2] at h0; exact h0 rfl
        refine G.exit _ rfl ?_
        refine N.seq ?_
        refine G.seq ?_
        refine G.region ?_
        refine L.val rfl rfl (R.mv rfl) ?_
        refine L.val rfl rfl (R.as rfl) ?_
        refine L.nil ?_
        refine N.seq ?_
        refine G.ret1 rfl rfl ?_
        exact ⟨congrArg (fun z : Nat => Value.int .i64 (z : Int)) (alikeF_is (by rw [List.length_drop]; omega) (by omega) hall (.inr (.inr hkk))).symm, E⟩
    · refine Q.pass rfl rfl rfl ?_
      refine Q.pass rfl rfl rfl ?_
      refine Q.pass rfl rfl rfl ?_
      refine Q.pass rfl rfl rfl ?_
      refine Q.pass rfl rfl rfl ?_
      refine Q.pass rfl rfl rfl ?_
      refine Q.pass rfl rfl rfl ?_
      refine Q.pass rfl rfl rfl ?_
      refine Q.pass rfl rfl rfl ?_
      refine Q.pass rfl rfl rfl ?_
      refine Q.pass rfl rfl rfl ?_
      first | refine Q.val rfl rfl rfl rfl (fun w2 hE => R.pickT rfl rfl) ?_ | refine Q.val rfl rfl rfl rfl (fun w2 hE => R.pickF rfl rfl) ?_
      refine Q.nil (fun w2 e2 => ?_)
      replace E := E.trans0 e2
      refine N.seq ?_
      refine G.condF rfl ?_
      refine G.exit _ rfl ?_
      refine N.seq ?_
      refine G.seq ?_
      refine G.region ?_
      refine L.val rfl rfl (R.mv rfl) ?_
      refine L.val rfl rfl (R.as rfl) ?_
      refine L.nil ?_
      refine N.seq ?_
      refine G.ret1 rfl rfl ?_
      exact ⟨congrArg (fun z : Nat => Value.int .i64 (z : Int)) (alikeF_is (by rw [List.length_drop]; omega) (by omega) hall (.inr (.inl (by omega)))).symm, E⟩
  · refine Q.pass rfl rfl rfl ?_
    refine Q.pass rfl rfl rfl ?_
    first | refine Q.val rfl rfl rfl rfl (fun w2 hE => R.pickT rfl rfl) ?_ | refine Q.val rfl rfl rfl rfl (fun w2 hE => R.pickF rfl rfl) ?_
    refine Q.val rfl rfl rfl rfl (fun w2 hE => R.mv rfl) ?_
    refine Q.pass rfl rfl rfl ?_
    refine Q.pass rfl rfl rfl ?_
    refine Q.pass rfl rfl rfl ?_
    refine Q.pass rfl rfl rfl ?_
    refine Q.pass rfl rfl rfl ?_
    refine Q.pass rfl rfl rfl ?_
    refine Q.pass rfl rfl rfl ?_
    refine Q.pass rfl rfl rfl ?_
    refine Q.pass rfl rfl rfl ?_
    refine Q.pass rfl rfl rfl ?_
    refine Q.pass rfl rfl rfl ?_
    first | refine Q.val rfl rfl rfl rfl (fun w2 hE => R.pickT rfl rfl) ?_ | refine Q.val rfl rfl rfl rfl (fun w2 hE => R.pickF rfl rfl) ?_
    refine Q.nil (fun w2 e2 => ?_)
    replace E := E.trans0 e2
    refine N.seq ?_
    refine G.condF rfl ?_
    refine G.exit _ rfl ?_
    refine N.seq ?_
    refine G.seq ?_
    refine G.region ?_
    refine L.val rfl rfl (R.mv rfl) ?_
    refine L.val rfl rfl (R.as rfl) ?_
    refine L.nil ?_
    refine N.seq ?_
    refine G.ret1 rfl rfl ?_
    exact ⟨congrArg (fun z : Nat => Value.int .i64 (z : Int)) (alikeF_is (by rw [List.length_drop]; omega) (by omega) hall (.inl (by rw [List.length_drop]; omega))).symm, E⟩

theorem reflaid_ok (ao : Option Addr) (no co : Nat) (lo l : List UInt8) (w : World) (hbo : Bs w ao no lo) (hn : l.length ≤ 1000000) : Meets Try.prog 58 [.slice ao no co, .string (str l)] w (fun v w' => ∃ a1 c1, v = .slice a1 l.length c1 ∧ Ext [] w w' ∧ Bs w' a1 l.length (laidF lo l) ∧ l.length ≤ c1) := by
  refine Meets.enter Try.func58 rfl 32 rfl (Nat.le_of_ble_eq_true rfl) ?_
  have E := Ext.refl [] w
  have hlo := hbo.len
  refine G.seq ?_
  refine G.region ?_
  refine L.val rfl rfl (R.as rfl) ?_
  refine L.nil ?_
  refine N.seq ?_
  refine G.seq ?_
  refine G.region ?_
  refine L.val rfl rfl (R.mv rfl) ?_
  refine L.do rfl rfl (R.strBytesO rfl) ?_
  rintro _ w1 ⟨b8, cs, fz, rfl, hb8, hs8, e1, B8, hf8, hl8, ht8⟩
  obtain ⟨z, hz⟩ : ∃ z, z = cs.size := ⟨_, rfl⟩
  rw [← hz] at hf8 hl8
  refine L.be 8 rfl (show _ = Value.slice (some ⟨b8, 0, none⟩) l.length z by rw [hz]) ?_
  replace E := E.trans0 e1
  refine L.val rfl rfl (R.as rfl) ?_
  refine L.nil ?_
  refine N.seq ?_
  refine G.seq ?_
  refine G.seq ?_
  refine G.region ?_
  refine L.val rfl rfl (R.mv rfl) ?_
  refine L.val rfl rfl (R.lenS rfl) ?_
  refine L.val rfl rfl (R.mv rfl) ?_
  refine L.nil ?_
  refine N.seq ?_
  refine G.block ?_
  refine G.loop (X := Nat) (fun i => [(0, .slice ao no co), (5, .slice (some ⟨b8, 0, none⟩) l.length z), (10, .int .i64 (l.length : Int)), (11, .int .i64 (i : Int))]) (fun i w' => i ≤ l.length ∧ (∃ cur, Blk w' b8 cur 5 fz ∧ cur.size = z ∧ cur.toList.take l.length = vbs ((laidF lo l).take (i) ++ l.drop (i))) ∧ Ext [] w w') (fun i => l.length - i) (0) (Sub.cons rfl (Sub.cons rfl (Sub.cons rfl (Sub.cons rfl (Sub.nil _))))) ⟨Nat.zero_le _, ⟨cs, B8, hz.symm, by simpa using ht8⟩, E⟩ ?_
  rintro i w2 ⟨hi, ⟨cur, B, hcz, hct⟩, E⟩
  refine G.seq ?_
  refine G.region ?_
  refine L.val rfl rfl (R.lss rfl rfl) ?_
  refine L.nil ?_
  refine N.seq ?_
  refine G.seq ?_
  refine G.condP rfl (fun h0 => ?_) (fun h0 => ?_)
  · refine G.skip ?_
    refine N.seq ?_
    refine G.seq ?_
    refine G.block ?_
    refine G.seq ?_
    refine G.region ?_
    refine L.val rfl rfl (R.mv rfl) ?_
    refine L.val rfl rfl (R.as rfl) ?_
    refine L.nil ?_
    refine N.seq ?_
    refine G.seq ?_
    refine G.region ?_
    refine L.val rfl rfl (R.mv rfl) ?_
    refine L.val rfl rfl (R.mv rfl) ?_
    refine L.val rfl rfl (R.lenS rfl) ?_
    refine L.val rfl rfl (R.lss rfl rfl) ?_
    refine L.nil ?_
    refine N.seq ?_
    refine G.condP rfl (fun h1 => ?_) (fun h1 => ?_)
    · have hgi : ((laidF lo l).take i ++ l.drop i)[i]? = some l[i] := by rw [List.getElem?_append_right (by rw [List.length_take]; omega), List.getElem?_drop, List.length_take, laidF_length, Nat.min_eq_left (by omega), Nat.sub_self, Nat.add_zero]; exact List.getElem?_eq_getElem (by omega)
      have hci : cur[i]? = some (vb l[i]) := by have h := vbs_get ((laidF lo l).take i ++ l.drop i) i; rw [hgi, ← hct, List.getElem?_take, if_pos (by omega)] at h; simpa using h
      have hcl : w2.cell? ⟨b8, i, none⟩ = some (vb l[i]) := (B.cell i).trans hci
      obtain ⟨po, hpo, hco⟩ := hbo.at i (by omega)
      refine G.staged [12] [.blocks ([b8])] [Ext [] w2, fun w' => Ext [b8] w2 w' ∧ Blk w' b8 (cur.setIfInBounds i (vb (l[i] ^^^ lo[i]))) 5 fz] [] (by decide +kernel) (by decide +kernel) rfl rfl rfl (fun _ h => h) ?_
      refine Z.val rfl rfl rfl rfl rfl (fun w3 => R.mv rfl) ?_
      refine Z.val rfl rfl rfl rfl rfl (fun w3 => R.mv rfl) ?_
      refine Z.val rfl rfl rfl rfl rfl (fun w3 => R.mv rfl) ?_
      refine Z.val rfl rfl rfl rfl rfl (fun w3 => R.mv rfl) ?_
      refine Z.val rfl rfl rfl rfl rfl (fun w3 => R.idxO rfl rfl (by omega) (by omega) rfl i (by omega)) ?_
      refine Z.read 0 (by decide +kernel) rfl rfl rfl rfl rfl rfl (fun w3 hJ => R.ld rfl (cell?_ext0' hcl hJ)) ?_
      refine Z.val rfl rfl rfl rfl rfl (fun w3 => R.mv rfl) ?_
      refine Z.val rfl rfl rfl rfl rfl (fun w3 => R.mv rfl) ?_
      refine Z.val rfl rfl rfl rfl rfl (fun w3 => R.idx rfl rfl (by omega) (by omega) po hpo) ?_
      refine Z.read 0 (by decide +kernel) rfl rfl rfl rfl rfl rfl (fun w3 hJ => R.ld rfl (cell?_ext0' hco (E.trans0 hJ))) ?_
      refine Z.val rfl rfl rfl rfl rfl (fun w3 => R.xorW rfl rfl _ (xorI_u8 _ _)) ?_
      refine Z.val rfl rfl rfl rfl rfl (fun w3 => R.idxO rfl rfl (by omega) (by omega) rfl i (by omega)) ?_
      refine Z.set 0 (by decide +kernel) rfl rfl rfl rfl rfl rfl (fun w3 hJ => (R.stF rfl rfl (B.ext0 hJ) (by omega) (by omega) rfl).mono (fun _ h => ⟨h.1, h.1.after hJ, h.2.2⟩)) ?_
      refine Z.nil rfl rfl (fun w3 hJ => ?_)
      have B3 := hJ.2
      have ht3 : (cur.setIfInBounds i (vb (l[i] ^^^ lo[i]))).toList.take l.length = vbs ((laidF lo l).take (i + 1) ++ l.drop (i + 1)) := by rw [Array.toList_setIfInBounds, List.take_set, hct, vbs_set, laidF_steps lo l i (by omega) (by omega)]
      have E : Ext [] w w3 := E.trans hJ.1 (by simp) (by intro x hx; obtain rfl := List.mem_singleton.1 hx; exact .inr (by omega))
      refine N.block ?_
      refine N.seq ?_
      refine G.region ?_
      refine L.val rfl rfl (R.add rfl rfl (by omega)) ?_
      refine L.val rfl rfl (R.mv rfl) ?_
      refine L.nil ?_
      exact N.again (i + 1) (by omega) (Sub.cons rfl (Sub.cons rfl (Sub.cons rfl (Sub.cons rfl (Sub.nil _))))) ⟨by omega, ⟨_, B3, by simp [hcz], ht3⟩, E⟩
    · refine G.skip ?_
      refine N.block ?_
      refine N.seq ?_
      refine G.region ?_
      refine L.val rfl rfl (R.add rfl rfl (by omega)) ?_
      refine L.val rfl rfl (R.mv rfl) ?_
      refine L.nil ?_
      exact N.again (i + 1) (by omega) (Sub.cons rfl (Sub.cons rfl (Sub.cons rfl (Sub.cons rfl (Sub.nil _))))) ⟨by omega, ⟨cur, B, hcz, by rw [laidF_done lo l (i + 1) (.inl (by omega)), ← laidF_done lo l i (.inl (by omega))]; exact hct⟩, E⟩
  · refine G.exit _ rfl ?_
    refine N.seq ?_
    refine G.seq ?_
    refine G.region ?_
    refine L.val rfl rfl (R.mv rfl) ?_
    refine L.val rfl rfl (R.as rfl) ?_
    refine L.nil ?_
    refine N.seq ?_
    refine G.ret1 rfl rfl ?_
    rw [laidF_done lo l i (.inr (by omega))] at hct
    have hcells := Cells.of_blk B 0 _ (take_get hct)
    exact ⟨_, z, rfl, E, ⟨hcells, (laidF_length lo l).symm⟩, hl8⟩

structure ShRf where
  acc : List UInt8
  a1 : Option Addr
  n1 : Nat
  c1 : Nat
  rw : List UInt8
  M : List Nat

theorem refshrink_ok (a : Option Addr) (n c : Nat) (l : List UInt8) (w : World) (hb : Bs w a n l) (hc : n ≤ c) (hn : n ≤ 1000000) : Meets Try.prog 55 [.slice a n c] w (fun v w' => v = .string (str (shrinkF l)) ∧ Ext [] w w') := by
  refine Meets.enter Try.func55 rfl 77 rfl (Nat.le_of_ble_eq_true rfl) ?_
  have E := Ext.refl [] w
  have hl := hb.len
  have hwo := shrink_worst l.length l (Nat.le_refl _)
  unfold worstF at hwo
  refine G.seq ?_
  refine G.region ?_
  refine L.val rfl rfl (R.as rfl) ?_
  refine L.nil ?_
  refine N.seq ?_
  refine G.seq ?_
  refine G.region ?_
  refine L.val rfl rfl (R.as rfl) ?_
  refine L.nil ?_
  refine N.seq ?_
  refine G.seq ?_
  refine G.region ?_
  refine L.val rfl rfl (R.as rfl) ?_
  refine L.nil ?_
  refine N.seq ?_
  refine G.seq ?_
  refine G.seq ?_
  refine G.region ?_
  refine L.val rfl rfl (R.as rfl) ?_
  refine L.nil ?_
  refine N.seq ?_
  refine G.block ?_
  refine G.loop (X := Nat × ShRf) (fun x => [(0, .slice a n c), (3, .string (str x.2.acc)), (4, .slice x.2.a1 x.2.n1 x.2.c1), (5, .int .i64 (x.1 : Int))]) (fun x w' => (x.1 ≤ l.length ∧ x.2.rw.length ≤ 128) ∧ (Own w' 5 1 x.2.a1 x.2.n1 x.2.c1 (vbs x.2.rw) x.2.M ∧ (∀ g ∈ x.2.M, w.heap.size ≤ g)) ∧ x.2.acc ++ refN (l.length - x.1 + 1) x.2.rw (l.drop x.1) = shrinkF l ∧ Ext [] w w') (fun x => l.length + 1 - x.1) ((0, ⟨[], none, 0, 0, [], []⟩)) (Sub.cons rfl (Sub.cons rfl (Sub.cons rfl (Sub.cons rfl (Sub.nil _))))) ⟨⟨Nat.zero_le _, by simp⟩, ⟨Own.nil _ _ _, by simp⟩, by simpa using refN_eq l (l.length + 1) (Nat.le_refl _), Ext.refl _ _⟩ ?_
  rintro ⟨i, acc, a1, n1, c1, rw, M⟩ w1 ⟨⟨hi, hrw⟩, ⟨o1, hM⟩, hacc, E⟩
  dsimp only at hi hrw o1 hM hacc
  refine G.sub [(0, .slice a n c), (3, .string (str acc)), (4, .slice a1 n1 c1), (5, .int .i64 (i : Int))] (Sub.cons rfl (Sub.cons rfl (Sub.cons rfl (Sub.cons rfl (Sub.nil _))))) ?_
  have ho1 := o1.len
  rw [vbs_length, Nat.mul_one] at ho1
  have hal := congrArg List.length hacc
  rw [List.length_append] at hal
  have hak := alikeF_le (l.drop i)
  rw [List.length_drop] at hak
  have hak2 := alikeF_most (l.drop i)
  have hdn : l.drop i = [] ↔ i = l.length := by rw [List.drop_eq_nil_iff]; omega
  refine G.seq ?_
  refine G.seq ?_
  refine G.region ?_
  refine L.val rfl rfl (R.mv rfl) ?_
  refine L.val rfl rfl (R.mv rfl) ?_
  refine L.val rfl rfl (R.lenS rfl) ?_
  refine L.val rfl rfl (R.leq rfl rfl) ?_
  refine L.nil ?_
  refine N.seq ?_
  refine G.condP rfl (fun h0 => ?_) (fun h0 => ?_)
  · refine G.skip ?_
    refine N.seq ?_
    refine G.block ?_
    refine G.seq ?_
    refine G.region ?_
    refine L.val rfl rfl (R.as rfl) ?_
    refine L.nil ?_
    refine N.seq ?_
    refine G.seq ?_
    refine G.seq ?_
    refine G.region ?_
    refine L.val rfl rfl (R.mv rfl) ?_
    refine L.val rfl rfl (R.mv rfl) ?_
    refine L.val rfl rfl (R.lenS rfl) ?_
    refine L.val rfl rfl (R.lss rfl rfl) ?_
    refine L.nil ?_
    refine N.seq ?_
    refine G.cut (X := Unit) (fun _ => [(0, .slice a n c), (3, .string (str acc)), (4, .slice a1 n1 c1), (5, .int .i64 (i : Int)), (6, .int .i64 ((alikeF (l.drop i) : Nat) : Int))]) (fun _ w' => Ext [] w1 w') ?_ ?_
    · refine G.condP rfl (fun h1 => ?_) (fun h1 => ?_)
      · refine G.region ?_
        refine L.val rfl rfl (R.mv rfl) ?_
        refine L.val rfl rfl (R.mv rfl) ?_
        refine L.callF rfl rfl rfl go88 (refsame_ok _ _ _ _ _ _ (hb.ext0 E) (by omega) (by omega)) ?_
        rintro _ w2 ⟨rfl, e2⟩
        refine L.val rfl rfl (R.as rfl) ?_
        refine L.nil ?_
        exact N.handX () (Sub.cons rfl (Sub.cons rfl (Sub.cons rfl (Sub.cons rfl (Sub.cons rfl (Sub.nil _)))))) e2
      · have hin : i = l.length := by omega
        refine G.be 6 rfl (show Value.int .i64 0 = .int .i64 ((alikeF (l.drop i) : Nat) : Int) by rw [hin, List.drop_length]; rfl) ?_
        refine G.skip ?_
        exact N.handX () (Sub.cons rfl (Sub.cons rfl (Sub.cons rfl (Sub.cons rfl (Sub.cons rfl (Sub.nil _)))))) (Ext.refl _ _)
    · rintro _ w2 e2
      have o1 := o1.ext0 e2
      replace E := E.trans0 e2
      refine N.seq ?_
      refine G.seq ?_
      refine G.seq ?_
      refine G.region ?_
      refine L.val rfl rfl (R.mv rfl) ?_
      refine L.val rfl rfl (R.lenS rfl) ?_
      refine L.val rfl rfl (R.eqI rfl rfl) ?_
      refine L.val rfl rfl (R.mv rfl) ?_
      refine L.caseP 21 rfl (fun hg8_3 => ?_) (fun hg8_3 => ?_)
      · refine L.pass rfl rfl ?_
        refine L.pass rfl rfl ?_
        refine L.pass rfl rfl ?_
        refine L.pass rfl rfl ?_
        refine L.pass rfl rfl ?_
        refine L.pass rfl rfl ?_
        refine L.pass rfl rfl ?_
        refine L.pass rfl rfl ?_
        refine L.pass rfl rfl ?_
        refine L.pass rfl rfl ?_
        refine L.pass rfl rfl ?_
        refine L.pass rfl rfl ?_
        refine L.pass rfl rfl ?_
        first | refine L.val rfl rfl (R.pickT rfl rfl) ?_ | refine L.val rfl rfl (R.pickF rfl rfl) ?_
        refine L.nil ?_
        refine N.seq ?_
        refine G.cut (X := ShRf) (fun x => [(0, .slice a n c), (3, .string (str x.acc)), (4, .slice x.a1 x.n1 x.c1), (5, .int .i64 (i : Int)), (6, .int .i64 ((alikeF (l.drop i) : Nat) : Int))]) (fun x w' => (Own w' 5 1 x.a1 x.n1 x.c1 (vbs x.rw) x.M ∧ (∀ g ∈ x.M, w.heap.size ≤ g)) ∧ x.acc = flA rw (l.drop i) acc ∧ x.rw = flR rw (l.drop i) ∧ Ext [] w w') ?_ ?_
        · refine G.condT rfl ?_
          have hfl : fl rw (l.drop i) := .inl (by omega)
          refine G.seq ?_
          refine G.region ?_
          refine L.val rfl rfl (R.mv rfl) ?_
          refine L.val rfl rfl (R.mv rfl) ?_
          refine L.val rfl rfl (R.lenS rfl) ?_
          refine L.val rfl rfl (R.sub' rfl rfl (by omega)) ?_
          refine L.val rfl rfl (R.conv rfl ((UInt8.ofNat (rw.length - 1)).toNat : Int) (by rw [wrap_u8 (by omega), ofNat_toNat _ (by omega)]; omega)) ?_
          refine L.do rfl rfl (R.buildA rfl rfl rfl rfl rfl) ?_
          rintro _ w3 h3
          obtain ⟨⟨b41, c41, rfl, _, hb41⟩, e3⟩ := h3.bs (l := [UInt8.ofNat (rw.length - 1)]) rfl rfl
          have o1 := o1.ext0 e3
          replace E := E.trans0 e3
          refine L.val rfl rfl (R.bytesStr rfl hb41.cells rfl) ?_
          refine L.val rfl rfl (R.mv rfl) ?_
          refine L.val rfl rfl (R.bytesStr rfl o1.cells (by omega)) ?_
          refine L.val rfl rfl (R.addStr (a := [UInt8.ofNat (rw.length - 1)]) (b := rw) rfl rfl (by simp; omega)) ?_
          refine L.val rfl rfl (R.addStr rfl rfl (by simp; omega)) ?_
          refine L.val rfl rfl (R.as rfl) ?_
          refine L.be 3 rfl (show _ = Value.string (str (acc ++ enc rw)) from rfl) ?_
          refine L.nil ?_
          refine N.seq ?_
          refine G.region ?_
          refine L.val rfl rfl (R.as rfl) ?_
          refine L.nil ?_
          exact N.handX (X := ShRf) ⟨acc ++ enc rw, none, 0, 0, [], []⟩ (Sub.cons rfl (Sub.cons rfl (Sub.cons rfl (Sub.cons rfl (Sub.cons rfl (Sub.nil _)))))) ⟨⟨Own.nil _ _ _, by simp⟩, (fl_y hfl).1.symm, (fl_y (acc := acc) hfl).2.symm, E⟩
        · rintro ⟨acc2, a2, n2, c2, rw2, M2⟩ w4 ⟨⟨o2, hM2⟩, ha2, hr2, E⟩
          dsimp only at o2 hM2 ha2 hr2
          refine N.sub [(0, .slice a n c), (3, .string (str acc2)), (4, .slice a2 n2 c2), (5, .int .i64 (i : Int)), (6, .int .i64 ((alikeF (l.drop i) : Nat) : Int))] (Sub.cons rfl (Sub.cons rfl (Sub.cons rfl (Sub.cons rfl (Sub.cons rfl (Sub.nil _)))))) ?_
          have ho2 := o2.len
          rw [vbs_length, Nat.mul_one] at ho2
          refine N.seq ?_
          refine G.seq ?_
          refine G.seq ?_
          refine G.region ?_
          refine L.val rfl rfl (R.mv rfl) ?_
          refine L.val rfl rfl (R.mv rfl) ?_
          refine L.val rfl rfl (R.lenS rfl) ?_
          refine L.val rfl rfl (R.eqI rfl rfl) ?_
          refine L.nil ?_
          refine N.seq ?_
          refine G.condP rfl (fun h3 => ?_) (fun h3 => ?_)
          · refine G.exit _ rfl ?_
            refine N.seq ?_
            refine G.seq ?_
            refine G.region ?_
            refine L.val rfl rfl (R.mv rfl) ?_
            refine L.val rfl rfl (R.as rfl) ?_
            refine L.nil ?_
            refine N.seq ?_
            refine G.ret1 rfl rfl ?_
            have hin : i = l.length := by omega
            have hd0 := hdn.2 hin
            rw [hd0] at hacc ha2
            rw [fl_nil, ← ha2] at hacc
            exact ⟨by rw [hacc], E⟩
          · have hin : i < l.length := by omega
            have hdr := List.drop_eq_getElem_cons hin
            obtain ⟨p, hp, hcl⟩ := hb.at i hin
            refine G.skip ?_
            refine N.seq ?_
            refine G.seq ?_
            refine G.region ?_
            refine L.val rfl rfl (R.mv rfl) ?_
            refine L.val rfl rfl (R.geq rfl rfl) ?_
            refine L.nil ?_
            refine N.seq ?_
            refine G.condP rfl (fun h4 => ?_) (fun h4 => ?_)
            · obtain ⟨h6, h7⟩ := fl_run (l.length - i) rw acc l[i] (l.drop (i + 1)) (by rw [← hdr]; omega)
              rw [← hdr] at h6 h7
              rw [hacc, ← ha2] at h6
              rw [h7] at hr2
              have hal2 := congrArg List.length h6
              simp only [List.length_append] at hal2
              refine G.seq ?_
              refine G.region ?_
              refine L.val rfl rfl (R.mv rfl) ?_
              refine L.val rfl rfl (R.mv rfl) ?_
              refine L.val rfl rfl (R.add rfl rfl (by omega)) ?_
              refine L.val rfl rfl (R.conv rfl ((UInt8.ofNat (125 + alikeF (l.drop i))).toNat : Int) (by rw [wrap_u8 (by omega), ofNat_toNat _ (by omega)]; omega)) ?_
              refine L.val rfl rfl (R.mv rfl) ?_
              refine L.val rfl rfl (R.mv rfl) ?_
              refine L.val rfl rfl (R.idx rfl rfl (by omega) (by omega) p hp) ?_
              refine L.val rfl rfl (R.ld rfl (cell?_ext0' hcl E)) ?_
              refine L.do rfl rfl (R.buildA rfl rfl rfl rfl rfl) ?_
              rintro _ w5 h5
              obtain ⟨⟨b61, c61, rfl, _, hb61⟩, e5⟩ := h5.bs (l := [UInt8.ofNat (125 + alikeF (l.drop i)), l[i]]) rfl rfl
              have o2 := o2.ext0 e5
              replace E := E.trans0 e5
              refine L.val rfl rfl (R.bytesStr rfl hb61.cells rfl) ?_
              refine L.val rfl rfl (R.addStr rfl rfl (by simp; omega)) ?_
              refine L.val rfl rfl (R.as rfl) ?_
              refine L.nil ?_
              refine N.seq ?_
              refine G.region ?_
              refine L.val rfl rfl (R.mv rfl) ?_
              refine L.val rfl rfl (R.mv rfl) ?_
              refine L.val rfl rfl (R.add rfl rfl (by omega)) ?_
              refine L.val rfl rfl (R.as rfl) ?_
              refine L.nil ?_
              have hnx : acc2 ++ [UInt8.ofNat (125 + alikeF (l.drop i)), l[i]] ++ refN (l.length - (i + alikeF (l.drop i)) + 1) rw2 (l.drop (i + alikeF (l.drop i))) = shrinkF l := by rw [h6, hr2, List.drop_drop]; congr 1; exact refN_fuel (by rw [List.length_drop]; omega) (by rw [List.length_drop]; omega) (by simp)
              refine N.block ?_
              exact N.again (X := Nat × ShRf) (i + alikeF (l.drop i), ⟨acc2 ++ [UInt8.ofNat (125 + alikeF (l.drop i)), l[i]], a2, n2, c2, rw2, M2⟩) (by show l.length + 1 - (i + alikeF (l.drop i)) < l.length + 1 - i; omega) (Sub.cons rfl (Sub.cons rfl (Sub.cons rfl (Sub.cons rfl (Sub.nil _))))) ⟨⟨by show i + alikeF (l.drop i) ≤ l.length; omega, by show rw2.length ≤ 128; rw [hr2]; simp⟩, ⟨o2, hM2⟩, hnx, E⟩
            · obtain ⟨h6, h7⟩ := fl_raw (l.length - i) rw acc l[i] (l.drop (i + 1)) (by rw [← hdr]; omega) hrw
              rw [← hdr] at h6 h7
              rw [hacc, ← ha2, ← hr2] at h6
              rw [← hr2] at h7
              refine G.seq ?_
              refine G.region ?_
              refine L.val rfl rfl (R.mv rfl) ?_
              refine L.val rfl rfl (R.mv rfl) ?_
              refine L.val rfl rfl (R.mv rfl) ?_
              refine L.val rfl rfl (R.idx rfl rfl (by omega) (by omega) p hp) ?_
              refine L.val rfl rfl (R.ld rfl (cell?_ext0' hcl E)) ?_
              refine L.do rfl rfl (R.buildA rfl rfl rfl rfl rfl) ?_
              rintro _ w5 h5
              obtain ⟨⟨b72, c72, rfl, _, hb72⟩, e5⟩ := h5.bs (l := [l[i]]) rfl rfl
              have o2 := o2.ext0 e5
              replace E := E.trans0 e5
              refine L.do rfl rfl (R.app rfl rfl o2 hb72.cells rfl (vbs_one _) (by simp [maxLen]; omega) (by omega)) ?_
              rintro _ w6 ⟨a3, c3, M3, rfl, e6, hM6, o3⟩
              have hM3 : ∀ g ∈ M3, w.heap.size ≤ g := fun g hg => (hM6 g hg).elim (hM2 g) (Nat.le_trans E.size)
              have E : Ext [] w w6 := E.trans e6 (by simp) (fun g hg => .inr (hM2 g hg))
              refine L.val rfl rfl (R.as rfl) ?_
              refine L.nil ?_
              refine N.seq ?_
              refine G.region ?_
              refine L.val rfl rfl (R.mv rfl) ?_
              refine L.val rfl rfl (R.add rfl rfl (by omega)) ?_
              refine L.val rfl rfl (R.as rfl) ?_
              refine L.nil ?_
              have hnx : acc2 ++ refN (l.length - (i + 1) + 1) (rw2 ++ [l[i]]) (l.drop (i + 1)) = shrinkF l := by rw [h6]; congr 1; exact refN_fuel (by rw [List.length_drop]; omega) (by rw [List.length_drop]; omega) (by rw [List.length_append]; simp only [List.length_cons, List.length_nil]; omega)
              refine N.block ?_
              exact N.again (X := Nat × ShRf) (i + 1, ⟨acc2, a3, n2 + 1, c3, rw2 ++ [l[i]], M3⟩) (by show l.length + 1 - (i + 1) < l.length + 1 - i; omega) (Sub.cons rfl (Sub.cons rfl (Sub.cons rfl (Sub.cons rfl (Sub.nil _))))) ⟨⟨by show i + 1 ≤ l.length; omega, by show (rw2 ++ [l[i]]).length ≤ 128; rw [List.length_append]; simp only [List.length_cons, List.length_nil]; omega⟩, ⟨by rw [vbs_append]; exact o3, hM3⟩, hnx, E⟩
      · refine L.val rfl rfl (R.mv rfl) ?_
        refine L.val rfl rfl (R.lenS rfl) ?_
        refine L.val rfl rfl (R.gtr rfl rfl) ?_
        refine L.val rfl rfl (R.mv rfl) ?_
        refine L.caseP 25 rfl (fun hg8_7 => ?_) (fun hg8_7 => ?_)
        · refine L.val rfl rfl (R.mv rfl) ?_
          refine L.val rfl rfl (R.geq rfl rfl) ?_
          refine L.val rfl rfl (R.mv rfl) ?_
          refine L.caseP 28 rfl (fun hg8_10 => ?_) (fun hg8_10 => ?_)
          · refine L.pass rfl rfl ?_
            refine L.pass rfl rfl ?_
            refine L.pass rfl rfl ?_
            refine L.pass rfl rfl ?_
            first | refine L.val rfl rfl (R.pickT rfl rfl) ?_ | refine L.val rfl rfl (R.pickF rfl rfl) ?_
            first | refine L.val rfl rfl (R.pickT rfl rfl) ?_ | refine L.val rfl rfl (R.pickF rfl rfl) ?_
            first | refine L.val rfl rfl (R.pickT rfl rfl) ?_ | refine L.val rfl rfl (R.pickF rfl rfl) ?_
            refine L.nil ?_
            refine N.seq ?_
            refine G.cut (X := ShRf) (fun x => [(0, .slice a n c), (3, .string (str x.acc)), (4, .slice x.a1 x.n1 x.c1), (5, .int .i64 (i : Int)), (6, .int .i64 ((alikeF (l.drop i) : Nat) : Int))]) (fun x w' => (Own w' 5 1 x.a1 x.n1 x.c1 (vbs x.rw) x.M ∧ (∀ g ∈ x.M, w.heap.size ≤ g)) ∧ x.acc = flA rw (l.drop i) acc ∧ x.rw = flR rw (l.drop i) ∧ Ext [] w w') ?_ ?_
            · refine G.condT rfl ?_
              have hfl : fl rw (l.drop i) := .inr ⟨by omega, .inl (by omega)⟩
              refine G.seq ?_
              refine G.region ?_
              refine L.val rfl rfl (R.mv rfl) ?_
              refine L.val rfl rfl (R.mv rfl) ?_
              refine L.val rfl rfl (R.lenS rfl) ?_
              refine L.val rfl rfl (R.sub' rfl rfl (by omega)) ?_
              refine L.val rfl rfl (R.conv rfl ((UInt8.ofNat (rw.length - 1)).toNat : Int) (by rw [wrap_u8 (by omega), ofNat_toNat _ (by omega)]; omega)) ?_
              refine L.do rfl rfl (R.buildA rfl rfl rfl rfl rfl) ?_
              rintro _ w3 h3
              obtain ⟨⟨b41, c41, rfl, _, hb41⟩, e3⟩ := h3.bs (l := [UInt8.ofNat (rw.length - 1)]) rfl rfl
              have o1 := o1.ext0 e3
              replace E := E.trans0 e3
              refine L.val rfl rfl (R.bytesStr rfl hb41.cells rfl) ?_
              refine L.val rfl rfl (R.mv rfl) ?_
              refine L.val rfl rfl (R.bytesStr rfl o1.cells (by omega)) ?_
              refine L.val rfl rfl (R.addStr (a := [UInt8.ofNat (rw.length - 1)]) (b := rw) rfl rfl (by simp; omega)) ?_
              refine L.val rfl rfl (R.addStr rfl rfl (by simp; omega)) ?_
              refine L.val rfl rfl (R.as rfl) ?_
              refine L.be 3 rfl (show _ = Value.string (str (acc ++ enc rw)) from rfl) ?_
              refine L.nil ?_
              refine N.seq ?_
              refine G.region ?_
              refine L.val rfl rfl (R.as rfl) ?_
              refine L.nil ?_
              exact N.handX (X := ShRf) ⟨acc ++ enc rw, none, 0, 0, [], []⟩ (Sub.cons rfl (Sub.cons rfl (Sub.cons rfl (Sub.cons rfl (Sub.cons rfl (Sub.nil _)))))) ⟨⟨Own.nil _ _ _, by simp⟩, (fl_y hfl).1.symm, (fl_y (acc := acc) hfl).2.symm, E⟩
            · rintro ⟨acc2, a2, n2, c2, rw2, M2⟩ w4 ⟨⟨o2, hM2⟩, ha2, hr2, E⟩
              dsimp only at o2 hM2 ha2 hr2
              refine N.sub [(0, .slice a n c), (3, .string (str acc2)), (4, .slice a2 n2 c2), (5, .int .i64 (i : Int)), (6, .int .i64 ((alikeF (l.drop i) : Nat) : Int))] (Sub.cons rfl (Sub.cons rfl (Sub.cons rfl (Sub.cons rfl (Sub.cons rfl (Sub.nil _)))))) ?_
              have ho2 := o2.len
              rw [vbs_length, Nat.mul_one] at ho2
              refine N.seq ?_
              refine G.seq ?_
              refine G.seq ?_
              refine G.region ?_
              refine L.val rfl rfl (R.mv rfl) ?_
              refine L.val rfl rfl (R.mv rfl) ?_
              refine L.val rfl rfl (R.lenS rfl) ?_
              refine L.val rfl rfl (R.eqI rfl rfl) ?_
              refine L.nil ?_
              refine N.seq ?_
              refine G.condP rfl (fun h3 => ?_) (fun h3 => ?_)
              · refine G.exit _ rfl ?_
                refine N.seq ?_
                refine G.seq ?_
                refine G.region ?_
                refine L.val rfl rfl (R.mv rfl) ?_
                refine L.val rfl rfl (R.as rfl) ?_
                refine L.nil ?_
                refine N.seq ?_
                refine G.ret1 rfl rfl ?_
                have hin : i = l.length := by omega
                have hd0 := hdn.2 hin
                rw [hd0] at hacc ha2
                rw [fl_nil, ← ha2] at hacc
                exact ⟨by rw [hacc], E⟩
              · have hin : i < l.length := by omega
                have hdr := List.drop_eq_getElem_cons hin
                obtain ⟨p, hp, hcl⟩ := hb.at i hin
                refine G.skip ?_
                refine N.seq ?_
                refine G.seq ?_
                refine G.region ?_
                refine L.val rfl rfl (R.mv rfl) ?_
                refine L.val rfl rfl (R.geq rfl rfl) ?_
                refine L.nil ?_
                refine N.seq ?_
                refine G.condP rfl (fun h4 => ?_) (fun h4 => ?_)
                · obtain ⟨h6, h7⟩ := fl_run (l.length - i) rw acc l[i] (l.drop (i + 1)) (by rw [← hdr]; omega)
                  rw [← hdr] at h6 h7
                  rw [hacc, ← ha2] at h6
                  rw [h7] at hr2
                  have hal2 := congrArg List.length h6
                  simp only [List.length_append] at hal2
                  refine G.seq ?_
                  refine G.region ?_
                  refine L.val rfl rfl (R.mv rfl) ?_
                  refine L.val rfl rfl (R.mv rfl) ?_
                  refine L.val rfl rfl (R.add rfl rfl (by omega)) ?_
                  refine L.val rfl rfl (R.conv rfl ((UInt8.ofNat (125 + alikeF (l.drop i))).toNat : Int) (by rw [wrap_u8 (by omega), ofNat_toNat _ (by omega)]; omega)) ?_
                  refine L.val rfl rfl (R.mv rfl) ?_
                  refine L.val rfl rfl (R.mv rfl) ?_
                  refine L.val rfl rfl (R.idx rfl rfl (by omega) (by omega) p hp) ?_
                  refine L.val rfl rfl (R.ld rfl (cell?_ext0' hcl E)) ?_
                  refine L.do rfl rfl (R.buildA rfl rfl rfl rfl rfl) ?_
                  rintro _ w5 h5
                  obtain ⟨⟨b61, c61, rfl, _, hb61⟩, e5⟩ := h5.bs (l := [UInt8.ofNat (125 + alikeF (l.drop i)), l[i]]) rfl rfl
                  have o2 := o2.ext0 e5
                  replace E := E.trans0 e5
                  refine L.val rfl rfl (R.bytesStr rfl hb61.cells rfl) ?_
                  refine L.val rfl rfl (R.addStr rfl rfl (by simp; omega)) ?_
                  refine L.val rfl rfl (R.as rfl) ?_
                  refine L.nil ?_
                  refine N.seq ?_
                  refine G.region ?_
                  refine L.val rfl rfl (R.mv rfl) ?_
                  refine L.val rfl rfl (R.mv rfl) ?_
                  refine L.val rfl rfl (R.add rfl rfl (by omega)) ?_
                  refine L.val rfl rfl (R.as rfl) ?_
                  refine L.nil ?_
                  have hnx : acc2 ++ [UInt8.ofNat (125 + alikeF (l.drop i)), l[i]] ++ refN (l.length - (i + alikeF (l.drop i)) + 1) rw2 (l.drop (i + alikeF (l.drop i))) = shrinkF l := by rw [h6, hr2, List.drop_drop]; congr 1; exact refN_fuel (by rw [List.length_drop]; omega) (by rw [List.length_drop]; omega) (by simp)
                  refine N.block ?_
                  exact N.again (X := Nat × ShRf) (i + alikeF (l.drop i), ⟨acc2 ++ [UInt8.ofNat (125 + alikeF (l.drop i)), l[i]], a2, n2, c2, rw2, M2⟩) (by show l.length + 1 - (i + alikeF (l.drop i)) < l.length + 1 - i; omega) (Sub.cons rfl (Sub.cons rfl (Sub.cons rfl (Sub.cons rfl (Sub.nil _))))) ⟨⟨by show i + alikeF (l.drop i) ≤ l.length; omega, by show rw2.length ≤ 128; rw [hr2]; simp⟩, ⟨o2, hM2⟩, hnx, E⟩
                · obtain ⟨h6, h7⟩ := fl_raw (l.length - i) rw acc l[i] (l.drop (i + 1)) (by rw [← hdr]; omega) hrw
                  rw [← hdr] at h6 h7
                  rw [hacc, ← ha2, ← hr2] at h6
                  rw [← hr2] at h7
                  refine G.seq ?_
                  refine G.region ?_
                  refine L.val rfl rfl (R.mv rfl) ?_
                  refine L.val rfl rfl (R.mv rfl) ?_
                  refine L.val rfl rfl (R.mv rfl) ?_
                  refine L.val rfl rfl (R.idx rfl rfl (by omega) (by omega) p hp) ?_
                  refine L.val rfl rfl (R.ld rfl (cell?_ext0' hcl E)) ?_
                  refine L.do rfl rfl (R.buildA rfl rfl rfl rfl rfl) ?_
                  rintro _ w5 h5
                  obtain ⟨⟨b72, c72, rfl, _, hb72⟩, e5⟩ := h5.bs (l := [l[i]]) rfl rfl
                  have o2 := o2.ext0 e5
                  replace E := E.trans0 e5
                  refine L.do rfl rfl (R.app rfl rfl o2 hb72.cells rfl (vbs_one _) (by simp [maxLen]; omega) (by omega)) ?_
                  rintro _ w6 ⟨a3, c3, M3, rfl, e6, hM6, o3⟩
                  have hM3 : ∀ g ∈ M3, w.heap.size ≤ g := fun g hg => (hM6 g hg).elim (hM2 g) (Nat.le_trans E.size)
                  have E : Ext [] w w6 := E.trans e6 (by simp) (fun g hg => .inr (hM2 g hg))
                  refine L.val rfl rfl (R.as rfl) ?_
                  refine L.nil ?_
                  refine N.seq ?_
                  refine G.region ?_
                  refine L.val rfl rfl (R.mv rfl) ?_
                  refine L.val rfl rfl (R.add rfl rfl (by omega)) ?_
                  refine L.val rfl rfl (R.as rfl) ?_
                  refine L.nil ?_
                  have hnx : acc2 ++ refN (l.length - (i + 1) + 1) (rw2 ++ [l[i]]) (l.drop (i + 1)) = shrinkF l := by rw [h6]; congr 1; exact refN_fuel (by rw [List.length_drop]; omega) (by rw [List.length_drop]; omega) (by rw [List.length_append]; simp only [List.length_cons, List.length_nil]; omega)
                  refine N.block ?_
                  exact N.again (X := Nat × ShRf) (i + 1, ⟨acc2, a3, n2 + 1, c3, rw2 ++ [l[i]], M3⟩) (by show l.length + 1 - (i + 1) < l.length + 1 - i; omega) (Sub.cons rfl (Sub.cons rfl (Sub.cons rfl (Sub.cons rfl (Sub.nil _))))) ⟨⟨by show i + 1 ≤ l.length; omega, by show (rw2 ++ [l[i]]).length ≤ 128; rw [List.length_append]; simp only [List.length_cons, List.length_nil]; omega⟩, ⟨by rw [vbs_append]; exact o3, hM3⟩, hnx, E⟩
          · refine L.val rfl rfl (R.mv rfl) ?_
            refine L.val rfl rfl (R.mv rfl) ?_
            refine L.val rfl rfl (R.lenS rfl) ?_
            refine L.val rfl rfl (R.eqI rfl rfl) ?_
            first | refine L.val rfl rfl (R.pickT rfl rfl) ?_ | refine L.val rfl rfl (R.pickF rfl rfl) ?_
            first | refine L.val rfl rfl (R.pickT rfl rfl) ?_ | refine L.val rfl rfl (R.pickF rfl rfl) ?_
            first | refine L.val rfl rfl (R.pickT rfl rfl) ?_ | refine L.val rfl rfl (R.pickF rfl rfl) ?_
            refine L.nil ?_
            refine N.seq ?_
            refine G.cut (X := ShRf) (fun x => [(0, .slice a n c), (3, .string (str x.acc)), (4, .slice x.a1 x.n1 x.c1), (5, .int .i64 (i : Int)), (6, .int .i64 ((alikeF (l.drop i) : Nat) : Int))]) (fun x w' => (Own w' 5 1 x.a1 x.n1 x.c1 (vbs x.rw) x.M ∧ (∀ g ∈ x.M, w.heap.size ≤ g)) ∧ x.acc = flA rw (l.drop i) acc ∧ x.rw = flR rw (l.drop i) ∧ Ext [] w w') ?_ ?_
            · refine G.condP rfl (fun h2 => ?_) (fun h2 => ?_)
              · have hfl : fl rw (l.drop i) := .inr ⟨by omega, .inr (hdn.2 (by omega))⟩
                refine G.seq ?_
                refine G.region ?_
                refine L.val rfl rfl (R.mv rfl) ?_
                refine L.val rfl rfl (R.mv rfl) ?_
                refine L.val rfl rfl (R.lenS rfl) ?_
                refine L.val rfl rfl (R.sub' rfl rfl (by omega)) ?_
                refine L.val rfl rfl (R.conv rfl ((UInt8.ofNat (rw.length - 1)).toNat : Int) (by rw [wrap_u8 (by omega), ofNat_toNat _ (by omega)]; omega)) ?_
                refine L.do rfl rfl (R.buildA rfl rfl rfl rfl rfl) ?_
                rintro _ w3 h3
                obtain ⟨⟨b41, c41, rfl, _, hb41⟩, e3⟩ := h3.bs (l := [UInt8.ofNat (rw.length - 1)]) rfl rfl
                have o1 := o1.ext0 e3
                replace E := E.trans0 e3
                refine L.val rfl rfl (R.bytesStr rfl hb41.cells rfl) ?_
                refine L.val rfl rfl (R.mv rfl) ?_
                refine L.val rfl rfl (R.bytesStr rfl o1.cells (by omega)) ?_
                refine L.val rfl rfl (R.addStr (a := [UInt8.ofNat (rw.length - 1)]) (b := rw) rfl rfl (by simp; omega)) ?_
                refine L.val rfl rfl (R.addStr rfl rfl (by simp; omega)) ?_
                refine L.val rfl rfl (R.as rfl) ?_
                refine L.be 3 rfl (show _ = Value.string (str (acc ++ enc rw)) from rfl) ?_
                refine L.nil ?_
                refine N.seq ?_
                refine G.region ?_
                refine L.val rfl rfl (R.as rfl) ?_
                refine L.nil ?_
                exact N.handX (X := ShRf) ⟨acc ++ enc rw, none, 0, 0, [], []⟩ (Sub.cons rfl (Sub.cons rfl (Sub.cons rfl (Sub.cons rfl (Sub.cons rfl (Sub.nil _)))))) ⟨⟨Own.nil _ _ _, by simp⟩, (fl_y hfl).1.symm, (fl_y (acc := acc) hfl).2.symm, E⟩
              · have hfl : ¬ fl rw (l.drop i) := by rintro (h | ⟨_, h | h⟩); omega; omega; exact absurd (hdn.1 h) (by omega)
                refine G.skip ?_
                exact N.handX (X := ShRf) ⟨acc, a1, n1, c1, rw, M⟩ (Sub.cons rfl (Sub.cons rfl (Sub.cons rfl (Sub.cons rfl (Sub.cons rfl (Sub.nil _)))))) ⟨⟨o1, hM⟩, (fl_n hfl).1.symm, (fl_n (acc := acc) hfl).2.symm, E⟩
            · rintro ⟨acc2, a2, n2, c2, rw2, M2⟩ w4 ⟨⟨o2, hM2⟩, ha2, hr2, E⟩
              dsimp only at o2 hM2 ha2 hr2
              refine N.sub [(0, .slice a n c), (3, .string (str acc2)), (4, .slice a2 n2 c2), (5, .int .i64 (i : Int)), (6, .int .i64 ((alikeF (l.drop i) : Nat) : Int))] (Sub.cons rfl (Sub.cons rfl (Sub.cons rfl (Sub.cons rfl (Sub.cons rfl (Sub.nil _)))))) ?_
              have ho2 := o2.len
              rw [vbs_length, Nat.mul_one] at ho2
              refine N.seq ?_
              refine G.seq ?_
              refine G.seq ?_
              refine G.region ?_
              refine L.val rfl rfl (R.mv rfl) ?_
              refine L.val rfl rfl (R.mv rfl) ?_
              refine L.val rfl rfl (R.lenS rfl) ?_
              refine L.val rfl rfl (R.eqI rfl rfl) ?_
              refine L.nil ?_
              refine N.seq ?_
              refine G.condP rfl (fun h3 => ?_) (fun h3 => ?_)
              · refine G.exit _ rfl ?_
                refine N.seq ?_
                refine G.seq ?_
                refine G.region ?_
                refine L.val rfl rfl (R.mv rfl) ?_
                refine L.val rfl rfl (R.as rfl) ?_
                refine L.nil ?_
                refine N.seq ?_
                refine G.ret1 rfl rfl ?_
                have hin : i = l.length := by omega
                have hd0 := hdn.2 hin
                rw [hd0] at hacc ha2
                rw [fl_nil, ← ha2] at hacc
                exact ⟨by rw [hacc], E⟩
              · have hin : i < l.length := by omega
                have hdr := List.drop_eq_getElem_cons hin
                obtain ⟨p, hp, hcl⟩ := hb.at i hin
                refine G.skip ?_
                refine N.seq ?_
                refine G.seq ?_
                refine G.region ?_
                refine L.val rfl rfl (R.mv rfl) ?_
                refine L.val rfl rfl (R.geq rfl rfl) ?_
                refine L.nil ?_
                refine N.seq ?_
                refine G.condP rfl (fun h4 => ?_) (fun h4 => ?_)
                · obtain ⟨h6, h7⟩ := fl_run (l.length - i) rw acc l[i] (l.drop (i + 1)) (by rw [← hdr]; omega)
                  rw [← hdr] at h6 h7
                  rw [hacc, ← ha2] at h6
                  rw [h7] at hr2
                  have hal2 := congrArg List.length h6
                  simp only [List.length_append] at hal2
                  refine G.seq ?_
                  refine G.region ?_
                  refine L.val rfl rfl (R.mv rfl) ?_
                  refine L.val rfl rfl (R.mv rfl) ?_
                  refine L.val rfl rfl (R.add rfl rfl (by omega)) ?_
                  refine L.val rfl rfl (R.conv rfl ((UInt8.ofNat (125 + alikeF (l.drop i))).toNat : Int) (by rw [wrap_u8 (by omega), ofNat_toNat _ (by omega)]; omega)) ?_
                  refine L.val rfl rfl (R.mv rfl) ?_
                  refine L.val rfl rfl (R.mv rfl) ?_
                  refine L.val rfl rfl (R.idx rfl rfl (by omega) (by omega) p hp) ?_
                  refine L.val rfl rfl (R.ld rfl (cell?_ext0' hcl E)) ?_
                  refine L.do rfl rfl (R.buildA rfl rfl rfl rfl rfl) ?_
                  rintro _ w5 h5
                  obtain ⟨⟨b61, c61, rfl, _, hb61⟩, e5⟩ := h5.bs (l := [UInt8.ofNat (125 + alikeF (l.drop i)), l[i]]) rfl rfl
                  have o2 := o2.ext0 e5
                  replace E := E.trans0 e5
                  refine L.val rfl rfl (R.bytesStr rfl hb61.cells rfl) ?_
                  refine L.val rfl rfl (R.addStr rfl rfl (by simp; omega)) ?_
                  refine L.val rfl rfl (R.as rfl) ?_
                  refine L.nil ?_
                  refine N.seq ?_
                  refine G.region ?_
                  refine L.val rfl rfl (R.mv rfl) ?_
                  refine L.val rfl rfl (R.mv rfl) ?_
                  refine L.val rfl rfl (R.add rfl rfl (by omega)) ?_
                  refine L.val rfl rfl (R.as rfl) ?_
                  refine L.nil ?_
                  have hnx : acc2 ++ [UInt8.ofNat (125 + alikeF (l.drop i)), l[i]] ++ refN (l.length - (i + alikeF (l.drop i)) + 1) rw2 (l.drop (i + alikeF (l.drop i))) = shrinkF l := by rw [h6, hr2, List.drop_drop]; congr 1; exact refN_fuel (by rw [List.length_drop]; omega) (by rw [List.length_drop]; omega) (by simp)
                  refine N.block ?_
                  exact N.again (X := Nat × ShRf) (i + alikeF (l.drop i), ⟨acc2 ++ [UInt8.ofNat (125 + alikeF (l.drop i)), l[i]], a2, n2, c2, rw2, M2⟩) (by show l.length + 1 - (i + alikeF (l.drop i)) < l.length + 1 - i; omega) (Sub.cons rfl (Sub.cons rfl (Sub.cons rfl (Sub.cons rfl (Sub.nil _))))) ⟨⟨by show i + alikeF (l.drop i) ≤ l.length; omega, by show rw2.length ≤ 128; rw [hr2]; simp⟩, ⟨o2, hM2⟩, hnx, E⟩
                · obtain ⟨h6, h7⟩ := fl_raw (l.length - i) rw acc l[i] (l.drop (i + 1)) (by rw [← hdr]; omega) hrw
                  rw [← hdr] at h6 h7
                  rw [hacc, ← ha2, ← hr2] at h6
                  rw [← hr2] at h7
                  refine G.seq ?_
                  refine G.region ?_
                  refine L.val rfl rfl (R.mv rfl) ?_
                  refine L.val rfl rfl (R.mv rfl) ?_
                  refine L.val rfl rfl (R.mv rfl) ?_
                  refine L.val rfl rfl (R.idx rfl rfl (by omega) (by omega) p hp) ?_
                  refine L.val rfl rfl (R.ld rfl (cell?_ext0' hcl E)) ?_
                  refine L.do rfl rfl (R.buildA rfl rfl rfl rfl rfl) ?_
                  rintro _ w5 h5
                  obtain ⟨⟨b72, c72, rfl, _, hb72⟩, e5⟩ := h5.bs (l := [l[i]]) rfl rfl
                  have o2 := o2.ext0 e5
                  replace E := E.trans0 e5
                  refine L.do rfl rfl (R.app rfl rfl o2 hb72.cells rfl (vbs_one _) (by simp [maxLen]; omega) (by omega)) ?_
                  rintro _ w6 ⟨a3, c3, M3, rfl, e6, hM6, o3⟩
                  have hM3 : ∀ g ∈ M3, w.heap.size ≤ g := fun g hg => (hM6 g hg).elim (hM2 g) (Nat.le_trans E.size)
                  have E : Ext [] w w6 := E.trans e6 (by simp) (fun g hg => .inr (hM2 g hg))
                  refine L.val rfl rfl (R.as rfl) ?_
                  refine L.nil ?_
                  refine N.seq ?_
                  refine G.region ?_
                  refine L.val rfl rfl (R.mv rfl) ?_
                  refine L.val rfl rfl (R.add rfl rfl (by omega)) ?_
                  refine L.val rfl rfl (R.as rfl) ?_
                  refine L.nil ?_
                  have hnx : acc2 ++ refN (l.length - (i + 1) + 1) (rw2 ++ [l[i]]) (l.drop (i + 1)) = shrinkF l := by rw [h6]; congr 1; exact refN_fuel (by rw [List.length_drop]; omega) (by rw [List.length_drop]; omega) (by rw [List.length_append]; simp only [List.length_cons, List.length_nil]; omega)
                  refine N.block ?_
                  exact N.again (X := Nat × ShRf) (i + 1, ⟨acc2, a3, n2 + 1, c3, rw2 ++ [l[i]], M3⟩) (by show l.length + 1 - (i + 1) < l.length + 1 - i; omega) (Sub.cons rfl (Sub.cons rfl (Sub.cons rfl (Sub.cons rfl (Sub.nil _))))) ⟨⟨by show i + 1 ≤ l.length; omega, by show (rw2 ++ [l[i]]).length ≤ 128; rw [List.length_append]; simp only [List.length_cons, List.length_nil]; omega⟩, ⟨by rw [vbs_append]; exact o3, hM3⟩, hnx, E⟩
        · refine L.pass rfl rfl ?_
          refine L.pass rfl rfl ?_
          refine L.pass rfl rfl ?_
          refine L.pass rfl rfl ?_
          refine L.pass rfl rfl ?_
          refine L.pass rfl rfl ?_
          refine L.pass rfl rfl ?_
          refine L.pass rfl rfl ?_
          first | refine L.val rfl rfl (R.pickT rfl rfl) ?_ | refine L.val rfl rfl (R.pickF rfl rfl) ?_
          first | refine L.val rfl rfl (R.pickT rfl rfl) ?_ | refine L.val rfl rfl (R.pickF rfl rfl) ?_
          refine L.nil ?_
          refine N.seq ?_
          refine G.cut (X := ShRf) (fun x => [(0, .slice a n c), (3, .string (str x.acc)), (4, .slice x.a1 x.n1 x.c1), (5, .int .i64 (i : Int)), (6, .int .i64 ((alikeF (l.drop i) : Nat) : Int))]) (fun x w' => (Own w' 5 1 x.a1 x.n1 x.c1 (vbs x.rw) x.M ∧ (∀ g ∈ x.M, w.heap.size ≤ g)) ∧ x.acc = flA rw (l.drop i) acc ∧ x.rw = flR rw (l.drop i) ∧ Ext [] w w') ?_ ?_
          · refine G.condF rfl ?_
            have hfl : ¬ fl rw (l.drop i) := by rintro (h | ⟨h, _⟩) <;> omega
            refine G.skip ?_
            exact N.handX (X := ShRf) ⟨acc, a1, n1, c1, rw, M⟩ (Sub.cons rfl (Sub.cons rfl (Sub.cons rfl (Sub.cons rfl (Sub.cons rfl (Sub.nil _)))))) ⟨⟨o1, hM⟩, (fl_n hfl).1.symm, (fl_n (acc := acc) hfl).2.symm, E⟩
          · rintro ⟨acc2, a2, n2, c2, rw2, M2⟩ w4 ⟨⟨o2, hM2⟩, ha2, hr2, E⟩
            dsimp only at o2 hM2 ha2 hr2
            refine N.sub [(0, .slice a n c), (3, .string (str acc2)), (4, .slice a2 n2 c2), (5, .int .i64 (i : Int)), (6, .int .i64 ((alikeF (l.drop i) : Nat) : Int))] (Sub.cons rfl (Sub.cons rfl (Sub.cons rfl (Sub.cons rfl (Sub.cons rfl (Sub.nil _)))))) ?_
            have ho2 := o2.len
            rw [vbs_length, Nat.mul_one] at ho2
            refine N.seq ?_
            refine G.seq ?_
            refine G.seq ?_
            refine G.region ?_
            refine L.val rfl rfl (R.mv rfl) ?_
            refine L.val rfl rfl (R.mv rfl) ?_
            refine L.val rfl rfl (R.lenS rfl) ?_
            refine L.val rfl rfl (R.eqI rfl rfl) ?_
            refine L.nil ?_
            refine N.seq ?_
            refine G.condP rfl (fun h3 => ?_) (fun h3 => ?_)
            · refine G.exit _ rfl ?_
              refine N.seq ?_
              refine G.seq ?_
              refine G.region ?_
              refine L.val rfl rfl (R.mv rfl) ?_
              refine L.val rfl rfl (R.as rfl) ?_
              refine L.nil ?_
              refine N.seq ?_
              refine G.ret1 rfl rfl ?_
              have hin : i = l.length := by omega
              have hd0 := hdn.2 hin
              rw [hd0] at hacc ha2
              rw [fl_nil, ← ha2] at hacc
              exact ⟨by rw [hacc], E⟩
            · have hin : i < l.length := by omega
              have hdr := List.drop_eq_getElem_cons hin
              obtain ⟨p, hp, hcl⟩ := hb.at i hin
              refine G.skip ?_
              refine N.seq ?_
              refine G.seq ?_
              refine G.region ?_
              refine L.val rfl rfl (R.mv rfl) ?_
              refine L.val rfl rfl (R.geq rfl rfl) ?_
              refine L.nil ?_
              refine N.seq ?_
              refine G.condP rfl (fun h4 => ?_) (fun h4 => ?_)
              · obtain ⟨h6, h7⟩ := fl_run (l.length - i) rw acc l[i] (l.drop (i + 1)) (by rw [← hdr]; omega)
                rw [← hdr] at h6 h7
                rw [hacc, ← ha2] at h6
                rw [h7] at hr2
                have hal2 := congrArg List.length h6
                simp only [List.length_append] at hal2
                refine G.seq ?_
                refine G.region ?_
                refine L.val rfl rfl (R.mv rfl) ?_
                refine L.val rfl rfl (R.mv rfl) ?_
                refine L.val rfl rfl (R.add rfl rfl (by omega)) ?_
                refine L.val rfl rfl (R.conv rfl ((UInt8.ofNat (125 + alikeF (l.drop i))).toNat : Int) (by rw [wrap_u8 (by omega), ofNat_toNat _ (by omega)]; omega)) ?_
                refine L.val rfl rfl (R.mv rfl) ?_
                refine L.val rfl rfl (R.mv rfl) ?_
                refine L.val rfl rfl (R.idx rfl rfl (by omega) (by omega) p hp) ?_
                refine L.val rfl rfl (R.ld rfl (cell?_ext0' hcl E)) ?_
                refine L.do rfl rfl (R.buildA rfl rfl rfl rfl rfl) ?_
                rintro _ w5 h5
                obtain ⟨⟨b61, c61, rfl, _, hb61⟩, e5⟩ := h5.bs (l := [UInt8.ofNat (125 + alikeF (l.drop i)), l[i]]) rfl rfl
                have o2 := o2.ext0 e5
                replace E := E.trans0 e5
                refine L.val rfl rfl (R.bytesStr rfl hb61.cells rfl) ?_
                refine L.val rfl rfl (R.addStr rfl rfl (by simp; omega)) ?_
                refine L.val rfl rfl (R.as rfl) ?_
                refine L.nil ?_
                refine N.seq ?_
                refine G.region ?_
                refine L.val rfl rfl (R.mv rfl) ?_
                refine L.val rfl rfl (R.mv rfl) ?_
                refine L.val rfl rfl (R.add rfl rfl (by omega)) ?_
                refine L.val rfl rfl (R.as rfl) ?_
                refine L.nil ?_
                have hnx : acc2 ++ [UInt8.ofNat (125 + alikeF (l.drop i)), l[i]] ++ refN (l.length - (i + alikeF (l.drop i)) + 1) rw2 (l.drop (i + alikeF (l.drop i))) = shrinkF l := by rw [h6, hr2, List.drop_drop]; congr 1; exact refN_fuel (by rw [List.length_drop]; omega) (by rw [List.length_drop]; omega) (by simp)
                refine N.block ?_
                exact N.again (X := Nat × ShRf) (i + alikeF (l.drop i), ⟨acc2 ++ [UInt8.ofNat (125 + alikeF (l.drop i)), l[i]], a2, n2, c2, rw2, M2⟩) (by show l.length + 1 - (i + alikeF (l.drop i)) < l.length + 1 - i; omega) (Sub.cons rfl (Sub.cons rfl (Sub.cons rfl (Sub.cons rfl (Sub.nil _))))) ⟨⟨by show i + alikeF (l.drop i) ≤ l.length; omega, by show rw2.length ≤ 128; rw [hr2]; simp⟩, ⟨o2, hM2⟩, hnx, E⟩
              · obtain ⟨h6, h7⟩ := fl_raw (l.length - i) rw acc l[i] (l.drop (i + 1)) (by rw [← hdr]; omega) hrw
                rw [← hdr] at h6 h7
                rw [hacc, ← ha2, ← hr2] at h6
                rw [← hr2] at h7
                refine G.seq ?_
                refine G.region ?_
                refine L.val rfl rfl (R.mv rfl) ?_
                refine L.val rfl rfl (R.mv rfl) ?_
                refine L.val rfl rfl (R.mv rfl) ?_
                refine L.val rfl rfl (R.idx rfl rfl (by omega) (by omega) p hp) ?_
                refine L.val rfl rfl (R.ld rfl (cell?_ext0' hcl E)) ?_
                refine L.do rfl rfl (R.buildA rfl rfl rfl rfl rfl) ?_
                rintro _ w5 h5
                obtain ⟨⟨b72, c72, rfl, _, hb72⟩, e5⟩ := h5.bs (l := [l[i]]) rfl rfl
                have o2 := o2.ext0 e5
                replace E := E.trans0 e5
                refine L.do rfl rfl (R.app rfl rfl o2 hb72.cells rfl (vbs_one _) (by simp [maxLen]; omega) (by omega)) ?_
                rintro _ w6 ⟨a3, c3, M3, rfl, e6, hM6, o3⟩
                have hM3 : ∀ g ∈ M3, w.heap.size ≤ g := fun g hg => (hM6 g hg).elim (hM2 g) (Nat.le_trans E.size)
                have E : Ext [] w w6 := E.trans e6 (by simp) (fun g hg => .inr (hM2 g hg))
                refine L.val rfl rfl (R.as rfl) ?_
                refine L.nil ?_
                refine N.seq ?_
                refine G.region ?_
                refine L.val rfl rfl (R.mv rfl) ?_
                refine L.val rfl rfl (R.add rfl rfl (by omega)) ?_
                refine L.val rfl rfl (R.as rfl) ?_
                refine L.nil ?_
                have hnx : acc2 ++ refN (l.length - (i + 1) + 1) (rw2 ++ [l[i]]) (l.drop (i + 1)) = shrinkF l := by rw [h6]; congr 1; exact refN_fuel (by rw [List.length_drop]; omega) (by rw [List.length_drop]; omega) (by rw [List.length_append]; simp only [List.length_cons, List.length_nil]; omega)
                refine N.block ?_
                exact N.again (X := Nat × ShRf) (i + 1, ⟨acc2, a3, n2 + 1, c3, rw2 ++ [l[i]], M3⟩) (by show l.length + 1 - (i + 1) < l.length + 1 - i; omega) (Sub.cons rfl (Sub.cons rfl (Sub.cons rfl (Sub.cons rfl (Sub.nil _))))) ⟨⟨by show i + 1 ≤ l.length; omega, by show (rw2 ++ [l[i]]).length ≤ 128; rw [List.length_append]; simp only [List.length_cons, List.length_nil]; omega⟩, ⟨by rw [vbs_append]; exact o3, hM3⟩, hnx, E⟩
  · exfalso
    omega

end Go.Proofs.Ytjmlcodlnohgdaa
