/-
  The walks of package shrink.
-/
import Derived.Test.YtjmlcodlnohgdaaStd2
import Derived.Test.YtjmlcodlnohgdaaShrinkPure
set_option linter.unusedVariables false
set_option linter.unusedSimpArgs false
namespace Go.Proofs.Ytjmlcodlnohgdaa
open Go Brv Brv.Shrink
theorem alike_ok (a : Option Addr) (n c : Nat) (l : List UInt8) (w : World) (hb : Bs w a n l) (hn : n ≤ 140737488355328) : Meets Try.prog 86 [.slice a n c] w (fun v w' => v = .int .i64 ((alikeF l : Nat) : Int) ∧ Ext [] w w') := by
  refine Meets.enter Try.func86 rfl 25 rfl (Nat.le_of_ble_eq_true rfl) ?_
  have E := Ext.refl [] w
  have hl := hb.len
  refine G.seq ?_
  refine G.region ?_
  refine L.val rfl rfl (R.as rfl) ?_
  refine L.nil ?_
  refine N.seq ?_
  refine G.seq ?_
  refine G.region ?_
  refine L.val rfl rfl (R.as rfl) ?_
  refine L.nil ?_
  refine N.seq ?_
  refine G.seq ?_
  refine G.block ?_
  refine G.loop (X := Nat) (fun k => [(0, .slice a n c), (3, .int .i64 (k : Int))]) (fun k w' => k ≤ n ∧ k ≤ 130 ∧ (∀ j, j < k → l[j]? = l[0]?) ∧ Ext [] w w') (fun k => n - k) (0) (Sub.cons rfl (Sub.cons rfl (Sub.nil _))) ⟨by omega, by omega, fun j hj => by omega, Ext.refl _ _⟩ ?_
  rintro k w1 ⟨hk, hk2, hall, E⟩
  refine G.seq ?_
  refine G.seq ?_
  refine G.quiet (by decide +kernel) rfl ?_
  refine Q.val rfl rfl rfl rfl (fun w2 hE => R.mv rfl) ?_
  refine Q.val rfl rfl rfl rfl (fun w2 hE => R.mv rfl) ?_
  refine Q.val rfl rfl rfl rfl (fun w2 hE => R.lenS rfl) ?_
  refine Q.val rfl rfl rfl rfl (fun w2 hE => R.lss rfl rfl) ?_
  refine Q.val rfl rfl rfl rfl (fun w2 hE => R.mv rfl) ?_
  refine Q.caseP 8 rfl (fun hg2_4 => ?_) (fun hg2_4 => ?_)
  · refine Q.val rfl rfl rfl rfl (fun w2 hE => R.mv rfl) ?_
    refine Q.val rfl rfl rfl rfl (fun w2 hE => R.lss rfl rfl) ?_
    first | refine Q.val rfl rfl rfl rfl (fun w2 hE => R.pickT rfl rfl) ?_ | refine Q.val rfl rfl rfl rfl (fun w2 hE => R.pickF rfl rfl) ?_
    refine Q.val rfl rfl rfl rfl (fun w2 hE => R.mv rfl) ?_
    refine Q.caseP 12 rfl (fun hg2_8 => ?_) (fun hg2_8 => ?_)
    · obtain ⟨p, hpa, hcl⟩ := hb.at k (by omega)
      obtain ⟨p0, hpa0, hcl0⟩ := hb.at 0 (by omega)
      refine Q.val rfl rfl rfl rfl (fun w2 hE => R.mv rfl) ?_
      refine Q.val rfl rfl rfl rfl (fun w2 hE => R.mv rfl) ?_
      refine Q.val rfl rfl rfl rfl (fun w2 hE => R.idx rfl rfl (by omega) (by omega) p hpa) ?_
      refine Q.val rfl rfl rfl rfl (fun w2 hE => R.ld rfl (cell?_ext0' hcl (E.trans0 hE))) ?_
      refine Q.val rfl rfl rfl rfl (fun w2 hE => R.mv rfl) ?_
      refine Q.val rfl rfl rfl rfl (fun w2 hE => R.idx rfl rfl (by omega) (by omega) p0 hpa0) ?_
      refine Q.val rfl rfl rfl rfl (fun w2 hE => R.ld rfl (cell?_ext0' hcl0 (E.trans0 hE))) ?_
      refine Q.val rfl rfl rfl rfl (fun w2 hE => R.eqI rfl rfl) ?_
      first | refine Q.val rfl rfl rfl rfl (fun w2 hE => R.pickT rfl rfl) ?_ | refine Q.val rfl rfl rfl rfl (fun w2 hE => R.pickF rfl rfl) ?_
      refine Q.nil (fun w2 e2 => ?_)
      replace E := E.trans0 e2
      refine N.seq ?_
      refine G.condP rfl (fun h0 => ?_) (fun h0 => ?_)
      · have hkk : l[k]? = l[0]? := by rw [List.getElem?_eq_getElem (by omega), List.getElem?_eq_getElem (by omega)]; exact congrArg some (UInt8.toNat_inj.1 (by omega))
        refine G.skip ?_
        refine N.seq ?_
        refine G.block ?_
        refine G.region ?_
        refine L.val rfl rfl (R.mv rfl) ?_
        refine L.val rfl rfl (R.add rfl rfl (by omega)) ?_
        refine L.val rfl rfl (R.as rfl) ?_
        refine L.nil ?_
        refine N.block ?_
        exact N.again (k + 1) (by omega) (Sub.cons rfl (Sub.cons rfl (Sub.nil _))) ⟨by omega, by omega, fun j hj => by rcases Nat.lt_or_ge j k with h | h; exact hall j h; rw [show j = k by omega]; exact hkk, E⟩
      · have hkk : l[k]? ≠ l[0]? := by rw [List.getElem?_eq_getElem (by omega), List.getElem?_eq_getElem (by omega)]; intro e; have e2 := Option.some.inj e; rw [e2] at h0; exact h0 rfl
        refine G.exit _ rfl ?_
        refine N.seq ?_
        refine G.seq ?_
        refine G.region ?_
        refine L.val rfl rfl (R.mv rfl) ?_
        refine L.val rfl rfl (R.as rfl) ?_
        refine L.nil ?_
        refine N.seq ?_
        refine G.ret1 rfl rfl ?_
        exact ⟨congrArg (fun z : Nat => Value.int .i64 (z : Int)) (alikeF_is (by omega) (by omega) hall (.inr (.inr hkk))).symm, E⟩
    · refine Q.pass rfl rfl rfl ?_
      refine Q.pass rfl rfl rfl ?_
      refine Q.pass rfl rfl rfl ?_
      refine Q.pass rfl rfl rfl ?_
      refine Q.pass rfl rfl rfl ?_
      refine Q.pass rfl rfl rfl ?_
      refine Q.pass rfl rfl rfl ?_
      refine Q.pass rfl rfl rfl ?_
      first | refine Q.val rfl rfl rfl rfl (fun w2 hE => R.pickT rfl rfl) ?_ | refine Q.val rfl rfl rfl rfl (fun w2 hE => R.pickF rfl rfl) ?_
      refine Q.nil (fun w2 e2 => ?_)
      replace E := E.trans0 e2
      refine N.seq ?_
      refine G.condF rfl ?_
      refine G.exit _ rfl ?_
      refine N.seq ?_
      refine G.seq ?_
      refine G.region ?_
      refine L.val rfl rfl (R.mv rfl) ?_
      refine L.val rfl rfl (R.as rfl) ?_
      refine L.nil ?_
      refine N.seq ?_
      refine G.ret1 rfl rfl ?_
      exact ⟨congrArg (fun z : Nat => Value.int .i64 (z : Int)) (alikeF_is (by omega) (by omega) hall (.inr (.inl (by omega)))).symm, E⟩
  · refine Q.pass rfl rfl rfl ?_
    refine Q.pass rfl rfl rfl ?_
    first | refine Q.val rfl rfl rfl rfl (fun w2 hE => R.pickT rfl rfl) ?_ | refine Q.val rfl rfl rfl rfl (fun w2 hE => R.pickF rfl rfl) ?_
    refine Q.val rfl rfl rfl rfl (fun w2 hE => R.mv rfl) ?_
    refine Q.pass rfl rfl rfl ?_
    refine Q.pass rfl rfl rfl ?_
    refine Q.pass rfl rfl rfl ?_
    refine Q.pass rfl rfl rfl ?_
    refine Q.pass rfl rfl rfl ?_
    refine Q.pass rfl rfl rfl ?_
    refine Q.pass rfl rfl rfl ?_
    refine Q.pass rfl rfl rfl ?_
    first | refine Q.val rfl rfl rfl rfl (fun w2 hE => R.pickT rfl rfl) ?_ | refine Q.val rfl rfl rfl rfl (fun w2 hE => R.pickF rfl rfl) ?_
    refine Q.nil (fun w2 e2 => ?_)
    replace E := E.trans0 e2
    refine N.seq ?_
    refine G.condF rfl ?_
    refine G.exit _ rfl ?_
    refine N.seq ?_
    refine G.seq ?_
    refine G.region ?_
    refine L.val rfl rfl (R.mv rfl) ?_
    refine L.val rfl rfl (R.as rfl) ?_
    refine L.nil ?_
    refine N.seq ?_
    refine G.ret1 rfl rfl ?_
    exact ⟨congrArg (fun z : Nat => Value.int .i64 (z : Int)) (alikeF_is (by omega) (by omega) hall (.inl (by omega))).symm, E⟩

theorem raw_ok (a : Option Addr) (n c : Nat) (l : List UInt8) (w : World) (hb : Bs w a n l) (hc : n ≤ c) (hn : n ≤ 140737488355328) : Meets Try.prog 87 [.slice a n c] w (fun v w' => v = .int .i64 ((rawF 128 l : Nat) : Int) ∧ Ext [] w w') := by
  refine Meets.enter Try.func87 rfl 22 rfl (Nat.le_of_ble_eq_true rfl) ?_
  have E := Ext.refl [] w
  have hl := hb.len
  refine G.seq ?_
  refine G.region ?_
  refine L.val rfl rfl (R.as rfl) ?_
  refine L.nil ?_
  refine N.seq ?_
  refine G.seq ?_
  refine G.region ?_
  refine L.val rfl rfl (R.as rfl) ?_
  refine L.nil ?_
  refine N.seq ?_
  refine G.seq ?_
  refine G.block ?_
  refine G.loop (X := Nat) (fun k => [(0, .slice a n c), (3, .int .i64 (k : Int))]) (fun k w' => k ≤ n ∧ k ≤ 128 ∧ rawF 128 l = k + rawF (128 - k) (l.drop k) ∧ Ext [] w w') (fun k => n - k) (0) (Sub.cons rfl (Sub.cons rfl (Sub.nil _))) ⟨by omega, by omega, by simp, Ext.refl _ _⟩ ?_
  rintro k w1 ⟨hk, hk2, hraw, E⟩
  refine G.seq ?_
  refine G.seq ?_
  refine G.region ?_
  refine L.val rfl rfl (R.mv rfl) ?_
  refine L.val rfl rfl (R.mv rfl) ?_
  refine L.val rfl rfl (R.lenS rfl) ?_
  refine L.val rfl rfl (R.lss rfl rfl) ?_
  refine L.val rfl rfl (R.mv rfl) ?_
  refine L.caseP 8 rfl (fun hg2_4 => ?_) (fun hg2_4 => ?_)
  · refine L.val rfl rfl (R.mv rfl) ?_
    refine L.val rfl rfl (R.lss rfl rfl) ?_
    first | refine L.val rfl rfl (R.pickT rfl rfl) ?_ | refine L.val rfl rfl (R.pickF rfl rfl) ?_
    refine L.val rfl rfl (R.mv rfl) ?_
    refine L.caseP 12 rfl (fun hg2_8 => ?_) (fun hg2_8 => ?_)
    · refine L.val rfl rfl (R.mv rfl) ?_
      refine L.val rfl rfl (R.mv rfl) ?_
      refine L.val rfl rfl (R.slL rfl rfl (by omega) (by omega)) ?_
      refine L.callF rfl rfl rfl go86 (alike_ok _ _ _ _ _ ((hb.drop k c hk hc).ext0 E) (by omega)) ?_
      rintro _ w2 ⟨rfl, e2⟩
      replace E := E.trans0 e2
      refine L.val rfl rfl (R.lss rfl rfl) ?_
      first | refine L.val rfl rfl (R.pickT rfl rfl) ?_ | refine L.val rfl rfl (R.pickF rfl rfl) ?_
      refine L.nil ?_
      refine N.seq ?_
      refine G.condP rfl (fun h0 => ?_) (fun h0 => ?_)
      · refine G.skip ?_
        refine N.seq ?_
        refine G.block ?_
        refine G.region ?_
        refine L.val rfl rfl (R.mv rfl) ?_
        refine L.val rfl rfl (R.add rfl rfl (by omega)) ?_
        refine L.val rfl rfl (R.as rfl) ?_
        refine L.nil ?_
        refine N.block ?_
        exact N.again (k + 1) (by omega) (Sub.cons rfl (Sub.cons rfl (Sub.nil _))) ⟨by omega, by omega, by rw [hraw, raw_step (by omega) (by omega) (by omega)]; omega, E⟩
      · refine G.exit _ rfl ?_
        refine N.seq ?_
        refine G.seq ?_
        refine G.region ?_
        refine L.val rfl rfl (R.mv rfl) ?_
        refine L.val rfl rfl (R.as rfl) ?_
        refine L.nil ?_
        refine N.seq ?_
        refine G.ret1 rfl rfl ?_
        exact ⟨congrArg (fun z : Nat => Value.int .i64 (z : Int)) (by rw [hraw, raw_end (.inr (.inr (by omega)))]; rfl), E⟩
    · refine L.pass rfl rfl ?_
      refine L.pass rfl rfl ?_
      refine L.pass rfl rfl ?_
      refine L.pass rfl rfl ?_
      refine L.pass rfl rfl ?_
      first | refine L.val rfl rfl (R.pickT rfl rfl) ?_ | refine L.val rfl rfl (R.pickF rfl rfl) ?_
      refine L.nil ?_
      refine N.seq ?_
      refine G.condF rfl ?_
      refine G.exit _ rfl ?_
      refine N.seq ?_
      refine G.seq ?_
      refine G.region ?_
      refine L.val rfl rfl (R.mv rfl) ?_
      refine L.val rfl rfl (R.as rfl) ?_
      refine L.nil ?_
      refine N.seq ?_
      refine G.ret1 rfl rfl ?_
      exact ⟨congrArg (fun z : Nat => Value.int .i64 (z : Int)) (by rw [hraw, raw_end (.inr (.inl (by omega)))]; rfl), E⟩
  · refine L.pass rfl rfl ?_
    refine L.pass rfl rfl ?_
    first | refine L.val rfl rfl (R.pickT rfl rfl) ?_ | refine L.val rfl rfl (R.pickF rfl rfl) ?_
    refine L.val rfl rfl (R.mv rfl) ?_
    refine L.pass rfl rfl ?_
    refine L.pass rfl rfl ?_
    refine L.pass rfl rfl ?_
    refine L.pass rfl rfl ?_
    refine L.pass rfl rfl ?_
    first | refine L.val rfl rfl (R.pickT rfl rfl) ?_ | refine L.val rfl rfl (R.pickF rfl rfl) ?_
    refine L.nil ?_
    refine N.seq ?_
    refine G.condF rfl ?_
    refine G.exit _ rfl ?_
    refine N.seq ?_
    refine G.seq ?_
    refine G.region ?_
    refine L.val rfl rfl (R.mv rfl) ?_
    refine L.val rfl rfl (R.as rfl) ?_
    refine L.nil ?_
    refine N.seq ?_
    refine G.ret1 rfl rfl ?_
    exact ⟨congrArg (fun z : Nat => Value.int .i64 (z : Int)) (by rw [hraw, raw_end (.inl (by omega))]; rfl), E⟩

structure ShSt where
  a0 : Option Addr
  n0 : Nat
  c0 : Nat
  r : List UInt8
  a1 : Option Addr
  n1 : Nat
  c1 : Nat
  acc : List UInt8
  M : List Nat

theorem shrink_ok (a : Option Addr) (n c : Nat) (l : List UInt8) (w : World) (hb : Bs w a n l) (hc : n ≤ c) (hn : n ≤ 1000000) : Meets Try.prog 54 [.slice a n c] w (Cloned w 5 1 (shrinkF l).length (vbs (shrinkF l))) := by
  refine Meets.enter Try.func54 rfl 42 rfl (Nat.le_of_ble_eq_true rfl) ?_
  have E := Ext.refl [] w
  have hl := hb.len
  have hwo := shrink_worst l.length l (Nat.le_refl _)
  unfold worstF at hwo
  refine G.seq ?_
  refine G.region ?_
  refine L.val rfl rfl (R.as rfl) ?_
  refine L.nil ?_
  refine N.seq ?_
  refine G.seq ?_
  refine G.region ?_
  refine L.val rfl rfl (R.as rfl) ?_
  refine L.nil ?_
  refine N.seq ?_
  refine G.seq ?_
  refine G.block ?_
  refine G.loop (X := ShSt) (fun x => [(0, .slice x.a0 x.n0 x.c0), (3, .slice x.a1 x.n1 x.c1)]) (fun x w' => Bs w x.a0 x.n0 x.r ∧ (x.n0 ≤ x.c0 ∧ x.n0 ≤ n) ∧ Own w' 5 1 x.a1 x.n1 x.c1 (vbs x.acc) x.M ∧ (∀ g ∈ x.M, w.heap.size ≤ g) ∧ x.acc ++ shrinkF x.r = shrinkF l ∧ Ext [] w w') (fun x => x.r.length) (⟨a, n, c, l, none, 0, 0, [], []⟩) (Sub.cons rfl (Sub.cons rfl (Sub.nil _))) ⟨hb, ⟨hc, Nat.le_refl _⟩, Own.nil _ _ _, by simp, rfl, Ext.refl _ _⟩ ?_
  rintro ⟨a0, n0, c0, r, a1, n1, c1, acc, M⟩ w1 ⟨hbr, ⟨hcr, hcn⟩, o1, hM, hacc, E⟩
  dsimp only at hbr hcr hcn o1 hM hacc
  refine G.sub [(0, .slice a0 n0 c0), (3, .slice a1 n1 c1)] (Sub.cons rfl (Sub.cons rfl (Sub.nil _))) ?_
  have hrl := hbr.len
  have ho1 := o1.len
  rw [vbs_length, Nat.mul_one] at ho1
  have hal := congrArg List.length hacc
  rw [List.length_append] at hal
  refine G.seq ?_
  refine G.seq ?_
  refine G.region ?_
  refine L.val rfl rfl (R.mv rfl) ?_
  refine L.val rfl rfl (R.lenS rfl) ?_
  refine L.val rfl rfl (R.gtr rfl rfl) ?_
  refine L.nil ?_
  refine N.seq ?_
  refine G.condP rfl (fun h0 => ?_) (fun h0 => ?_)
  · obtain ⟨x, q, rfl⟩ : ∃ x q, r = x :: q := by cases r with | nil => simp at hrl; omega | cons x q => exact ⟨x, q, rfl⟩
    have ha0 := alikeF_pos x q
    have ha := alikeF_most (x :: q)
    have hal2 := alikeF_le (x :: q)
    refine G.skip ?_
    refine N.seq ?_
    refine G.block ?_
    refine G.seq ?_
    refine G.seq ?_
    refine G.region ?_
    refine L.val rfl rfl (R.mv rfl) ?_
    refine L.callF rfl rfl rfl go86 (alike_ok _ _ _ _ _ (hbr.ext0 E) (by omega)) ?_
    rintro _ w2 ⟨rfl, e2⟩
    have o1 := o1.ext0 e2
    replace E := E.trans0 e2
    refine L.val rfl rfl (R.as rfl) ?_
    refine L.nil ?_
    refine N.seq ?_
    refine G.seq ?_
    refine G.region ?_
    refine L.val rfl rfl (R.mv rfl) ?_
    refine L.val rfl rfl (R.geq rfl rfl) ?_
    refine L.nil ?_
    refine N.seq ?_
    refine G.condP rfl (fun h1 => ?_) (fun h1 => ?_)
    · obtain ⟨p0, hp0, hc0⟩ := hbr.at 0 (by simp)
      refine G.seq ?_
      refine G.staged [9] [.above w.heap.size] [Ext [] w2, Above w.heap.size w2] [(9, 21)] (by decide +kernel) (by decide +kernel) rfl rfl rfl (fun _ h => h) ?_
      refine Z.val rfl rfl rfl rfl rfl (fun w3 => R.mv rfl) ?_
      refine Z.val rfl rfl rfl rfl rfl (fun w3 => R.mv rfl) ?_
      refine Z.val rfl rfl rfl rfl rfl (fun w3 => R.add rfl rfl (by omega)) ?_
      refine Z.val rfl rfl rfl rfl rfl (fun w3 => R.sub' rfl rfl (by omega)) ?_
      refine Z.val rfl rfl rfl rfl rfl (fun w3 => R.conv rfl ((UInt8.ofNat (125 + alikeF (x :: q))).toNat : Int) (by rw [wrap_u8 (by omega), ofNat_toNat _ (by omega)]; omega)) ?_
      refine Z.val rfl rfl rfl rfl rfl (fun w3 => R.mv rfl) ?_
      refine Z.val rfl rfl rfl rfl rfl (fun w3 => R.idx rfl rfl (by omega) (by omega) p0 hp0) ?_
      refine Z.read 0 (by decide +kernel) rfl rfl rfl rfl rfl rfl (fun w3 hJ => R.ld rfl (cell?_ext0' hc0 (E.trans0 hJ))) ?_
      refine Z.be 20 rfl (show vb (x :: q)[0] = vb x from rfl) ?_
      refine Z.new (A := IsBs 2 [UInt8.ofNat (125 + alikeF (x :: q)), x]) (Lasts.kill (IsBs.keep _ _) (by decide +kernel)) 0 (by decide +kernel) rfl rfl rfl rfl rfl (fun w3 hJ => (R.buildA rfl rfl rfl rfl rfl).mono (fun _ _ h => have qq := h.bs (l := [UInt8.ofNat (125 + alikeF (x :: q)), x]) rfl rfl; ⟨qq.1, qq.2, hJ.trans0 qq.2⟩)) ?_
      refine Z.put (A := Mine w.heap.size 5 1 (n1 + 2) (vbs (acc ++ [UInt8.ofNat (125 + alikeF (x :: q)), x]))) (Lasts.kill (Mine.keep _ _ _ _ _) (by decide +kernel)) 0 (by decide +kernel) rfl rfl rfl rfl rfl rfl rfl (fun w3 hJ => by rintro v ⟨a2, c2, rfl, _, hb2⟩; exact (R.app rfl rfl (o1.ext0 hJ) hb2.cells rfl (vbs_one _) (by simp [maxLen]; omega) (by omega)).mono (fun _ _ h => have g := Mine.grow h hM (Nat.le_trans E.size hJ.size) rfl (by simp [vbs]); ⟨g.1, g.2, (Above.of hJ (by simp)).trans g.2⟩)) ?_
      refine Z.val rfl rfl rfl rfl rfl (fun w3 => R.mv rfl) ?_
      refine Z.val rfl rfl rfl rfl rfl (fun w3 => R.mv rfl) ?_
      refine Z.val rfl rfl rfl rfl rfl (fun w3 => R.slL rfl rfl (by omega) (by omega)) ?_
      refine Z.valR (A := Mine w.heap.size 5 1 (n1 + 2) (vbs (acc ++ [UInt8.ofNat (125 + alikeF (x :: q)), x]))) (Lasts.kill (Mine.keep _ _ _ _ _) (by decide +kernel)) rfl rfl rfl rfl (fun w3 => fun v hv => ⟨v, R.as rfl, hv⟩) ?_
      refine Z.val rfl rfl rfl rfl rfl (fun w3 => R.as rfl) ?_
      refine Z.nil rfl rfl (fun w3 hJ => ?_)
      intro v3 h3 v22 _
      obtain ⟨a2, c2, M2, rfl, o2, hM2⟩ := h3
      have E := Above.ext E rfl hJ
      refine N.seq ?_
      refine G.exit _ rfl ?_
      exact N.again (X := ShSt) ⟨subA a0 (alikeF (x :: q)) c0 1, n0 - alikeF (x :: q), c0 - alikeF (x :: q), (x :: q).drop (alikeF (x :: q)), a2, n1 + 2, c2, acc ++ [UInt8.ofNat (125 + alikeF (x :: q)), x], M2⟩ (by show ((x :: q).drop (alikeF (x :: q))).length < (x :: q).length; rw [List.length_drop]; omega) (Sub.cons rfl (Sub.cons rfl (Sub.nil _))) ⟨hbr.drop _ c0 (by omega) hcr, ⟨by show n0 - _ ≤ c0 - _; omega, by show n0 - _ ≤ n; omega⟩, o2, hM2, by show (acc ++ _) ++ shrinkF ((x :: q).drop _) = _; rw [← hacc, shrinkF_run x q (by omega)]; simp, E⟩
    · refine G.skip ?_
      refine N.seq ?_
      refine G.seq ?_
      refine G.region ?_
      refine L.val rfl rfl (R.mv rfl) ?_
      refine L.callF rfl rfl rfl go87 (raw_ok _ _ _ _ _ (hbr.ext0 E) hcr (by omega)) ?_
      rintro _ w3 ⟨rfl, e3⟩
      have o1 := o1.ext0 e3
      replace E := E.trans0 e3
      have h1' : alikeF (x :: q) < 3 := by omega
      have hr1 := rawF_pos x q 127 h1'
      have hr2 := rawF_le 128 (x :: q)
      have hr3 := rawF_most 128 (x :: q)
      have hr4 : 1 ≤ rawF 128 (x :: q) := by rw [hr1]; omega
      have henc : enc ((x :: q).take (rawF 128 (x :: q))) = UInt8.ofNat (rawF 128 (x :: q) - 1) :: (x :: q).take (rawF 128 (x :: q)) := by unfold enc; rw [List.length_take, Nat.min_eq_left hr2]
      refine L.val rfl rfl (R.as rfl) ?_
      refine L.nil ?_
      refine N.seq ?_
      refine G.staged [5, 9] [.above w.heap.size, .above w.heap.size] [Ext [] w3, Above w.heap.size w3, Above w.heap.size w3] [(5, 32), (9, 32), (9, 33)] (by decide +kernel) (by decide +kernel) rfl rfl rfl (fun _ h => h) ?_
      refine Z.val rfl rfl rfl rfl rfl (fun w4 => R.mv rfl) ?_
      refine Z.val rfl rfl rfl rfl rfl (fun w4 => R.mv rfl) ?_
      refine Z.val rfl rfl rfl rfl rfl (fun w4 => R.sub' rfl rfl (by omega)) ?_
      refine Z.val rfl rfl rfl rfl rfl (fun w4 => R.conv rfl ((UInt8.ofNat (rawF 128 (x :: q) - 1)).toNat : Int) (by rw [wrap_u8 (by omega), ofNat_toNat _ (by omega)]; omega)) ?_
      refine Z.new (A := IsBs 1 [UInt8.ofNat (rawF 128 (x :: q) - 1)]) (Lasts.kill (IsBs.keep _ _) (by decide +kernel)) 0 (by decide +kernel) rfl rfl rfl rfl rfl (fun w4 hJ => (R.buildA rfl rfl rfl rfl rfl).mono (fun _ _ h => have qq := h.bs (l := [UInt8.ofNat (rawF 128 (x :: q) - 1)]) rfl rfl; ⟨qq.1, qq.2, hJ.trans0 qq.2⟩)) ?_
      refine Z.put (A := Mine w.heap.size 5 1 (n1 + 1) (vbs (acc ++ [UInt8.ofNat (rawF 128 (x :: q) - 1)]))) (Lasts.kill (Mine.keep _ _ _ _ _) (by decide +kernel)) 0 (by decide +kernel) rfl rfl rfl rfl rfl rfl rfl (fun w4 hJ => by rintro v ⟨a2, c2, rfl, _, hb2⟩; exact (R.app rfl rfl (o1.ext0 hJ) hb2.cells rfl (vbs_one _) (by simp [maxLen]; omega) (by omega)).mono (fun _ _ h => have g := Mine.grow h hM (Nat.le_trans E.size hJ.size) rfl (by simp [vbs]); ⟨g.1, g.2, (Above.of hJ (by simp)).trans g.2⟩)) ?_
      refine Z.val rfl rfl rfl rfl rfl (fun w4 => R.mv rfl) ?_
      refine Z.val rfl rfl rfl rfl rfl (fun w4 => R.mv rfl) ?_
      refine Z.val rfl rfl rfl rfl rfl (fun w4 => R.slH rfl rfl (by omega) (by omega)) ?_
      refine Z.be 36 rfl (show Value.slice (subA a0 0 c0 1) ((rawF 128 (x :: q) : Nat) : Int).toNat c0 = .slice a0 (rawF 128 (x :: q)) c0 by rw [subA_zero]; rfl) ?_
      refine Z.put (A := Mine w.heap.size 5 1 (n1 + 1 + rawF 128 (x :: q)) (vbs (acc ++ [UInt8.ofNat (rawF 128 (x :: q) - 1)] ++ (x :: q).take (rawF 128 (x :: q))))) (Lasts.kill (Mine.keep _ _ _ _ _) (by decide +kernel)) 1 (by decide +kernel) rfl rfl rfl rfl rfl rfl rfl (fun w4 hJ => by rintro v ⟨a2, c2, M2, rfl, o2, hM2⟩; exact (R.app rfl rfl o2 ((hbr.ext0 (Above.ext E rfl hJ)).pre (rawF 128 (x :: q)) (by omega)).cells (by rw [vbs_length, List.length_take]; omega) (vbs_one _) (by simp [maxLen]; omega) (by omega)).mono (fun _ _ h => have g := Mine.grow h hM2 (Nat.le_trans E.size hJ.size) rfl (by simp [vbs]); ⟨g.1, g.2, hJ.trans g.2⟩)) ?_
      refine Z.val rfl rfl rfl rfl rfl (fun w4 => R.mv rfl) ?_
      refine Z.val rfl rfl rfl rfl rfl (fun w4 => R.mv rfl) ?_
      refine Z.val rfl rfl rfl rfl rfl (fun w4 => R.slL rfl rfl (by omega) (by omega)) ?_
      refine Z.valR (A := Mine w.heap.size 5 1 (n1 + 1 + rawF 128 (x :: q)) (vbs (acc ++ [UInt8.ofNat (rawF 128 (x :: q) - 1)] ++ (x :: q).take (rawF 128 (x :: q))))) (Lasts.kill (Mine.keep _ _ _ _ _) (by decide +kernel)) rfl rfl rfl rfl (fun w4 => fun v hv => ⟨v, R.as rfl, hv⟩) ?_
      refine Z.val rfl rfl rfl rfl rfl (fun w4 => R.as rfl) ?_
      refine Z.nil rfl rfl (fun w4 hJ => ?_)
      intro v3 h3 v37 _
      obtain ⟨a2, c2, M2, rfl, o2, hM2⟩ := h3
      have E := Above.ext E rfl hJ
      refine N.block ?_
      exact N.again (X := ShSt) ⟨subA a0 (rawF 128 (x :: q)) c0 1, n0 - rawF 128 (x :: q), c0 - rawF 128 (x :: q), (x :: q).drop (rawF 128 (x :: q)), a2, n1 + 1 + rawF 128 (x :: q), c2, acc ++ [UInt8.ofNat (rawF 128 (x :: q) - 1)] ++ (x :: q).take (rawF 128 (x :: q)), M2⟩ (by show ((x :: q).drop (rawF 128 (x :: q))).length < (x :: q).length; rw [List.length_drop]; omega) (Sub.cons rfl (Sub.cons rfl (Sub.nil _))) ⟨hbr.drop _ c0 (by omega) hcr, ⟨by show n0 - _ ≤ c0 - _; omega, by show n0 - _ ≤ n; omega⟩, o2, hM2, by show (acc ++ _ ++ _) ++ shrinkF ((x :: q).drop _) = _; rw [← hacc, shrinkF_raw x q h1', henc]; simp, E⟩
  · refine G.exit _ rfl ?_
    refine N.seq ?_
    refine G.seq ?_
    refine G.region ?_
    refine L.val rfl rfl (R.mv rfl) ?_
    refine L.val rfl rfl (R.as rfl) ?_
    refine L.nil ?_
    refine N.seq ?_
    refine G.ret1 rfl rfl ?_
    obtain rfl : r = [] := List.eq_nil_of_length_eq_zero (by omega)
    rw [shrinkF_nil, List.append_nil] at hacc
    subst hacc
    subst ho1
    exact ⟨a1, c1, M, rfl, E, o1, hM⟩

theorem worst_ok (x : Int) (w : World) (hx : -140737488355328 ≤ x ∧ x ≤ 140737488355328) : Meets Try.prog 59 [.int .i64 x] w (fun v w' => v = .int .i64 (if x < 1 then 0 else x + (x + 127) / 128) ∧ w' = w) := by
  refine Meets.enter Try.func59 rfl 11 rfl (Nat.le_of_ble_eq_true rfl) ?_
  refine G.seq ?_
  refine G.region ?_
  refine L.val rfl rfl (R.as rfl) ?_
  refine L.nil ?_
  refine N.seq ?_
  refine G.seq ?_
  refine G.seq ?_
  refine G.region ?_
  refine L.val rfl rfl (R.mv rfl) ?_
  refine L.val rfl rfl (R.lss rfl rfl) ?_
  refine L.nil ?_
  refine N.seq ?_
  refine G.condP rfl (fun h0 => ?_) (fun h0 => ?_)
  · refine G.seq ?_
    refine G.region ?_
    refine L.val rfl rfl (R.as rfl) ?_
    refine L.nil ?_
    refine N.seq ?_
    refine G.ret1 rfl rfl ?_
    exact ⟨by rw [if_pos h0], rfl⟩
  · refine G.skip ?_
    refine N.seq ?_
    refine G.seq ?_
    refine G.region ?_
    refine L.val rfl rfl (R.mv rfl) ?_
    refine L.val rfl rfl (R.mv rfl) ?_
    refine L.val rfl rfl (R.add rfl rfl (by omega)) ?_
    refine L.val rfl rfl (R.sub' rfl rfl (by omega)) ?_
    refine L.val rfl rfl (R.quo rfl rfl (by omega) (by omega)) ?_
    refine L.val rfl rfl (R.add rfl rfl (by omega)) ?_
    refine L.val rfl rfl (R.as rfl) ?_
    refine L.nil ?_
    refine N.seq ?_
    refine G.ret1 rfl rfl ?_
    exact ⟨by rw [if_neg h0, show x + 128 - 1 = x + 127 by omega], rfl⟩

end Go.Proofs.Ytjmlcodlnohgdaa
