/-
  The walks of package frame: Spread, Gather.
-/
import Derived.Test.YtjmlcodlnohgdaaFrame2
import Derived.Test.YtjmlcodlnohgdaaC11
set_option linter.unusedVariables false
set_option linter.unusedSimpArgs false
namespace Go.Proofs.Ytjmlcodlnohgdaa
open Go Brv Brv.Crc Brv.Pack Brv.Frame
theorem fsecN_ok (l : List UInt8) (w : World) (hl : l.length ≤ 2621400) : Meets Try.prog 90 [.int .i64 (l.length : Int)] w (fun v w' => v = .int .i64 ((secN l : Nat) : Int) ∧ w' = w) := by
  refine Meets.enter Try.func90 rfl 20 rfl (Nat.le_of_ble_eq_true rfl) ?_
  have hs : secN l ≤ 65535 := by unfold secN; split <;> omega
  refine G.seq ?_
  refine G.region ?_
  refine L.val rfl rfl (R.as rfl) ?_
  refine L.nil ?_
  refine N.seq ?_
  refine G.seq ?_
  refine G.region ?_
  refine L.val rfl rfl (R.mv rfl) ?_
  refine L.val rfl rfl (R.add rfl rfl (by omega)) ?_
  refine L.val rfl rfl (R.sub' rfl rfl (by omega)) ?_
  refine L.val rfl rfl (R.quo rfl rfl (by omega) (by omega)) ?_
  refine L.val rfl rfl (R.max rfl rfl ((secN l : Nat) : Int) (by unfold secN; split <;> split <;> omega)) ?_
  refine L.val rfl rfl (R.as rfl) ?_
  refine L.nil ?_
  refine N.seq ?_
  refine G.seq ?_
  refine G.seq ?_
  refine G.region ?_
  refine L.val rfl rfl (R.mv rfl) ?_
  refine L.val rfl rfl (R.lss rfl rfl) ?_
  refine L.val rfl rfl (R.mv rfl) ?_
  refine L.caseP 11 rfl (fun hg2_2 => ?_) (fun hg2_2 => ?_)
  · refine L.pass rfl rfl ?_
    refine L.pass rfl rfl ?_
    first | refine L.val rfl rfl (R.pickT rfl rfl) ?_ | refine L.val rfl rfl (R.pickF rfl rfl) ?_
    refine L.val rfl rfl (R.mv rfl) ?_
    refine L.pass rfl rfl ?_
    refine L.pass rfl rfl ?_
    first | refine L.val rfl rfl (R.pickT rfl rfl) ?_ | refine L.val rfl rfl (R.pickF rfl rfl) ?_
    refine L.nil ?_
    refine N.seq ?_
    refine G.condT rfl ?_
    refine G.seq ?_
    refine G.region ?_
    refine L.val rfl rfl (R.as rfl) ?_
    refine L.nil ?_
    refine N.seq ?_
    refine G.ret1 rfl rfl ?_
    first
      | exact ⟨rfl, rfl⟩
      | (exfalso; omega)
  · refine L.val rfl rfl (R.mv rfl) ?_
    refine L.val rfl rfl (R.gtr rfl rfl) ?_
    first | refine L.val rfl rfl (R.pickT rfl rfl) ?_ | refine L.val rfl rfl (R.pickF rfl rfl) ?_
    refine L.val rfl rfl (R.mv rfl) ?_
    refine L.caseP 15 rfl (fun hg2_6 => ?_) (fun hg2_6 => ?_)
    · refine L.pass rfl rfl ?_
      refine L.pass rfl rfl ?_
      first | refine L.val rfl rfl (R.pickT rfl rfl) ?_ | refine L.val rfl rfl (R.pickF rfl rfl) ?_
      refine L.nil ?_
      refine N.seq ?_
      refine G.condT rfl ?_
      refine G.seq ?_
      refine G.region ?_
      refine L.val rfl rfl (R.as rfl) ?_
      refine L.nil ?_
      refine N.seq ?_
      refine G.ret1 rfl rfl ?_
      first
        | exact ⟨rfl, rfl⟩
        | (exfalso; omega)
    · refine L.val rfl rfl (R.mv rfl) ?_
      refine L.val rfl rfl (R.gtr rfl rfl) ?_
      first | refine L.val rfl rfl (R.pickT rfl rfl) ?_ | refine L.val rfl rfl (R.pickF rfl rfl) ?_
      refine L.nil ?_
      refine N.seq ?_
      refine G.condP rfl (fun h0 => ?_) (fun h0 => ?_)
      · refine G.seq ?_
        refine G.region ?_
        refine L.val rfl rfl (R.as rfl) ?_
        refine L.nil ?_
        refine N.seq ?_
        refine G.ret1 rfl rfl ?_
        first
          | exact ⟨rfl, rfl⟩
          | (exfalso; omega)
      · refine G.skip ?_
        refine N.seq ?_
        refine G.seq ?_
        refine G.region ?_
        refine L.val rfl rfl (R.mv rfl) ?_
        refine L.val rfl rfl (R.as rfl) ?_
        refine L.nil ?_
        refine N.seq ?_
        refine G.ret1 rfl rfl ?_
        first
          | exact ⟨rfl, rfl⟩
          | (exfalso; omega)

structure SpSt where
  i : Nat
  a1 : Option Addr
  c1 : Nat
  M : List Nat

theorem spread_ok (p q : Int) (a : Option Addr) (n c : Nat) (l : List UInt8) (w : World) (hb : Bs w a n l) (hc : n ≤ c) (hn : l.length ≤ 2621400) (hp0 : 0 ≤ p) (hpn : p + secN l ≤ 4611686018427387904) (hq : 0 ≤ q ∧ q ≤ 4294967295) : Meets Try.prog 68 [.int .i64 p, .int .i64 q, .slice a n c] w (Cloned w 5 1 (64 * secN l) (vbs (spreadN p q l (secN l)))) := by
  refine Meets.enter Try.func68 rfl 55 rfl (Nat.le_of_ble_eq_true rfl) ?_
  have E := Ext.refl [] w
  have hl := hb.len
  subst hl
  have hs : secN l ≤ 65535 := by unfold secN; split <;> omega
  obtain ⟨sb1, sb2, sb3, sb4⟩ := secN_body l
  refine G.seq ?_
  refine G.region ?_
  refine L.val rfl rfl (R.as rfl) ?_
  refine L.nil ?_
  refine N.seq ?_
  refine G.seq ?_
  refine G.region ?_
  refine L.val rfl rfl (R.mv rfl) ?_
  refine L.val rfl rfl (R.lenS rfl) ?_
  refine L.callF rfl rfl rfl go90 (fsecN_ok l _ hn) ?_
  rintro _ _ ⟨rfl, hw⟩
  obtain rfl := hw.symm
  refine L.val rfl rfl (R.as rfl) ?_
  refine L.nil ?_
  refine N.seq ?_
  refine G.seq ?_
  refine G.seq ?_
  refine G.region ?_
  refine L.val rfl rfl (R.mv rfl) ?_
  refine L.val rfl rfl (R.mv rfl) ?_
  refine L.val rfl rfl (R.sub' rfl rfl (by omega)) ?_
  refine L.val rfl rfl (R.add rfl rfl (by omega)) ?_
  refine L.callF rfl rfl rfl go103 (fbetween_ok _ _ _ _) ?_
  rintro _ _ ⟨rfl, hw⟩
  obtain rfl := hw.symm
  refine L.val rfl rfl (R.not rfl) ?_
  refine L.val rfl rfl (R.mv rfl) ?_
  refine L.isF 21 rfl (by rw [decide_eq_true (show 0 ≤ p ∧ p ≤ 4611686018427387903 - ((secN l : Nat) : Int) + 1 by omega)]; rfl) ?_
  refine L.val rfl rfl (R.mv rfl) ?_
  refine L.val rfl rfl (R.eqI rfl rfl) ?_
  first | refine L.val rfl rfl (R.pickT rfl rfl) ?_ | refine L.val rfl rfl (R.pickF rfl rfl) ?_
  refine L.nil ?_
  refine N.seq ?_
  refine G.condP rfl (fun h0 => ?_) (fun h0 => ?_)
  · exfalso; omega
  · refine G.skip ?_
    refine N.seq ?_
    refine G.seq ?_
    refine G.region ?_
    refine L.val rfl rfl (R.as rfl) ?_
    refine L.nil ?_
    refine N.seq ?_
    refine G.seq ?_
    refine G.seq ?_
    refine G.region ?_
    refine L.val rfl rfl (R.mv rfl) ?_
    refine L.val rfl rfl (R.mv rfl) ?_
    refine L.nil ?_
    refine N.seq ?_
    refine G.block ?_
    refine G.loop (X := SpSt) (fun x => [(0, .int .i64 p), (1, .int .i64 q), (2, .slice a l.length c), (7, .int .i64 ((secN l : Nat) : Int)), (8, .slice x.a1 (64 * x.i) x.c1), (25, .int .i64 ((secN l : Nat) : Int)), (26, .int .i64 (x.i : Int))]) (fun x w' => x.i ≤ secN l ∧ Own w' 5 1 x.a1 (64 * x.i) x.c1 (vbs (spreadN p q l x.i)) x.M ∧ (∀ g ∈ x.M, w.heap.size ≤ g) ∧ Ext [] w w') (fun x => secN l - x.i) (⟨0, none, 0, []⟩) (Sub.cons rfl (Sub.cons rfl (Sub.cons rfl (Sub.cons rfl (Sub.cons rfl (Sub.cons rfl (Sub.cons rfl (Sub.nil _)))))))) ⟨Nat.zero_le _, Own.nil _ _ _, by simp, Ext.refl _ _⟩ ?_
    rintro ⟨i, a1, c1, M⟩ w1 ⟨hi, o1, hM, E⟩
    dsimp only at hi o1 hM
    refine G.sub [(0, .int .i64 p), (1, .int .i64 q), (2, .slice a l.length c), (7, .int .i64 ((secN l : Nat) : Int)), (8, .slice a1 (64 * i) c1), (25, .int .i64 ((secN l : Nat) : Int)), (26, .int .i64 (i : Int))] (Sub.cons rfl (Sub.cons rfl (Sub.cons rfl (Sub.cons rfl (Sub.cons rfl (Sub.cons rfl (Sub.cons rfl (Sub.nil _)))))))) ?_
    refine G.seq ?_
    refine G.region ?_
    refine L.val rfl rfl (R.lss rfl rfl) ?_
    refine L.nil ?_
    refine N.seq ?_
    refine G.seq ?_
    refine G.condP rfl (fun h1 => ?_) (fun h1 => ?_)
    · have hil : i < secN l := by omega
      have hok := okV_frV hp0 hpn hq hn hil
      have hpl := part_length l i
      have h64 := secV_length hok
      have hle : 40 * i ≤ l.length := by omega
      have hpb : Bs w (subA a (40 * i) c 1) (bodyF l i).length (bodyF l i) := by have := hb.sub (40 * i) c (bodyF l i).length (by omega) (by omega); rw [part_eq] at this; exact this
      refine G.skip ?_
      refine N.seq ?_
      refine G.seq ?_
      refine G.block ?_
      refine G.seq ?_
      refine G.region ?_
      refine L.val rfl rfl (R.mv rfl) ?_
      refine L.val rfl rfl (R.as rfl) ?_
      refine L.nil ?_
      refine N.seq ?_
      refine G.seq ?_
      refine G.region ?_
      refine L.val rfl rfl (R.mv rfl) ?_
      refine L.val rfl rfl (R.mv rfl) ?_
      refine L.val rfl rfl (R.mul rfl rfl (by omega)) ?_
      refine L.val rfl rfl (R.mv rfl) ?_
      refine L.val rfl rfl (R.add rfl rfl (by omega)) ?_
      refine L.val rfl rfl (R.mul rfl rfl (by omega)) ?_
      refine L.val rfl rfl (R.mv rfl) ?_
      refine L.val rfl rfl (R.lenS rfl) ?_
      refine L.val rfl rfl (R.min rfl rfl ((40 * i + (bodyF l i).length : Nat) : Int) (by split <;> omega)) ?_
      refine L.val rfl rfl (R.slLH rfl rfl rfl (by omega) (by omega) (by omega)) ?_
      refine L.be 38 rfl (show _ = Value.slice (subA a (40 * i) c 1) (bodyF l i).length (c - 40 * i) by rw [show ((i : Int) * 40).toNat = 40 * i by omega, Int.toNat_natCast, Nat.add_sub_cancel_left]) ?_
      refine L.val rfl rfl (R.as rfl) ?_
      refine L.nil ?_
      refine N.seq ?_
      refine G.seq ?_
      refine G.region ?_
      refine L.val rfl rfl (R.mv rfl) ?_
      refine L.val rfl rfl (R.mv rfl) ?_
      refine L.val rfl rfl (R.add rfl rfl (by omega)) ?_
      refine L.val rfl rfl (R.mv rfl) ?_
      refine L.val rfl rfl (R.mv rfl) ?_
      refine L.val rfl rfl (R.mv rfl) ?_
      refine L.val rfl rfl (R.mv rfl) ?_
      refine L.val rfl rfl (R.build (cs := frC (frV p q l i) (subA a (40 * i) c 1) (c - 40 * i)) rfl rfl) ?_
      refine L.callF rfl rfl rfl go66 (fputV_ok (frV p q l i) _ _ _ (hpb.ext0 E) (InV.of hok)) ?_
      rintro _ w2 ⟨a2, c2, rfl, e2, hb2, hc2⟩
      have o1 := o1.ext0 e2
      replace E := E.trans0 e2
      rw [show putV (frV p q l i) = secV (frV p q l i) from if_pos hok] at hb2 hc2 ⊢
      rw [h64] at hb2 hc2 ⊢
      refine L.val rfl rfl (R.as rfl) ?_
      refine L.nil ?_
      refine N.seq ?_
      refine G.seq ?_
      refine G.seq ?_
      refine G.region ?_
      refine L.val rfl rfl (R.mv rfl) ?_
      refine L.val rfl rfl (R.eqNilS rfl rfl) ?_
      refine L.nil ?_
      refine N.seq ?_
      refine G.condB rfl (fun h2 => ?_) (fun h2 => ?_)
      · obtain rfl : a2 = none := by simpa using h2
        exfalso
        have := hb2.none.2
        omega
      · refine G.skip ?_
        refine N.seq ?_
        refine G.region ?_
        refine L.val rfl rfl (R.mv rfl) ?_
        refine L.val rfl rfl (R.mv rfl) ?_
        refine L.do rfl rfl (R.app rfl rfl o1 hb2.cells (by rw [vbs_length, h64]) (vbs_one _) (by simp [maxLen]; omega) (by omega)) ?_
        rintro _ w3 ⟨a3, c3, M3, rfl, e3, hM3, o3⟩
        have hE2 := E.size
        have E : Ext [] w w3 := E.trans e3 (by simp) (fun g hg => .inr (hM g hg))
        refine L.val rfl rfl (R.as rfl) ?_
        refine L.nil ?_
        refine N.block ?_
        refine N.seq ?_
        refine G.region ?_
        refine L.val rfl rfl (R.add rfl rfl (by omega)) ?_
        refine L.val rfl rfl (R.mv rfl) ?_
        refine L.nil ?_
        exact N.again (X := SpSt) ⟨i + 1, a3, c3, M3⟩ (by show secN l - (i + 1) < secN l - i; omega) (Sub.cons rfl (Sub.cons rfl (Sub.cons rfl (Sub.cons rfl (Sub.cons rfl (Sub.cons rfl (Sub.cons rfl (Sub.nil _)))))))) ⟨by show i + 1 ≤ _; omega, by show Own w3 _ 1 a3 (64 * (i + 1)) c3 (vbs (spreadN p q l (i + 1))) M3; rw [spreadN_succ, vbs_append]; exact o3, fun g hg => (hM3 g hg).elim (hM g) (Nat.le_trans hE2), E⟩
    · refine G.exit _ rfl ?_
      refine N.seq ?_
      refine G.seq ?_
      refine G.region ?_
      refine L.val rfl rfl (R.mv rfl) ?_
      refine L.val rfl rfl (R.as rfl) ?_
      refine L.nil ?_
      refine N.seq ?_
      refine G.ret1 rfl rfl ?_
      first
        | (obtain rfl : i = secN l := by omega
           exact ⟨a1, c1, M, rfl, E, o1, hM⟩)
        | (exfalso; omega)

end Go.Proofs.Ytjmlcodlnohgdaa
