/-
  The walks of package crc.
-/
import Derived.Test.YthpolibakkmmeaaStd
import Derived.Test.YthpolibakkmmeaaCrcPure
set_option linter.unusedVariables false
namespace Go.Proofs.Ythpolibakkmmeaa
open Go Brv Brv.Crc
theorem step_ok (r : UInt32) (c : UInt8) (w : World) : Meets Try.prog 248 [v32 r, vb c] w (fun v w' => v = v32 (stepF r c) ∧ w' = w) := by
  refine Meets.enter Try.func248 rfl 21 rfl (Nat.le_of_ble_eq_true rfl) ?_
  have hc := lt_u8 c
  refine G.seq ?_
  refine G.region ?_
  refine L.val rfl rfl (R.as rfl) ?_
  refine L.nil ?_
  refine N.seq ?_
  refine G.seq ?_
  refine G.region ?_
  refine L.val rfl rfl (R.mv rfl) ?_
  refine L.val rfl rfl (R.mv rfl) ?_
  refine L.val rfl rfl (R.conv rfl ((c.toUInt32.toNat : Nat) : Int) ((wrap_u32 (by omega)).trans (by simp))) ?_
  refine L.val rfl rfl (R.xorW rfl rfl _ (xorI_u32 _ _)) ?_
  refine L.val rfl rfl (R.as rfl) ?_
  refine L.nil ?_
  refine N.seq ?_
  refine G.seq ?_
  refine G.seq ?_
  refine G.region ?_
  refine L.val rfl rfl (R.mv rfl) ?_
  refine L.nil ?_
  refine N.seq ?_
  refine G.block ?_
  refine G.loop (X := Nat) (fun k => [(0, v32 (halves k (r ^^^ c.toUInt32))), (9, .int .i64 k)]) (fun k w' => k ≤ 8 ∧ w' = w) (fun k => 8 - k) (0) (Sub.cons rfl (Sub.cons rfl (Sub.nil _))) ⟨by omega, rfl⟩ ?_
  rintro k w' ⟨hk, rfl⟩
  refine G.seq ?_
  refine G.region ?_
  refine L.val rfl rfl (R.lss rfl rfl) ?_
  refine L.nil ?_
  refine N.seq ?_
  refine G.seq ?_
  refine G.condP rfl (fun h0 => ?_) (fun h0 => ?_)
  · refine G.skip ?_
    refine N.seq ?_
    refine G.seq ?_
    refine G.block ?_
    refine G.seq ?_
    refine G.region ?_
    refine L.val rfl rfl (R.mv rfl) ?_
    refine L.val rfl rfl (R.rem rfl rfl (by omega) (by omega)) ?_
    refine L.val rfl rfl (R.eqI rfl rfl) ?_
    refine L.nil ?_
    refine N.seq ?_
    refine G.condP rfl (fun h1 => ?_) (fun h1 => ?_)
    · have hh := half_t h1
      refine G.region ?_
      refine L.val rfl rfl (R.mv rfl) ?_
      refine L.val rfl rfl (R.shrW rfl rfl (by omega) _ (shr1_u32 _)) ?_
      refine L.val rfl rfl (R.xorW rfl rfl _ (xorI_u32 _ 0xedb88320)) ?_
      refine L.val rfl rfl (R.as rfl) ?_
      refine L.be 0 rfl (congrArg v32 hh.symm) ?_
      refine L.nil ?_
      refine N.block ?_
      refine N.seq ?_
      refine G.region ?_
      refine L.val rfl rfl (R.add rfl rfl (by omega)) ?_
      refine L.val rfl rfl (R.mv rfl) ?_
      refine L.nil ?_
      exact N.again (k + 1) (by omega) (Sub.cons rfl (Sub.cons rfl (Sub.nil _))) ⟨by omega, rfl⟩
    · have hh := half_f h1
      refine G.region ?_
      refine L.val rfl rfl (R.mv rfl) ?_
      refine L.val rfl rfl (R.shrW rfl rfl (by omega) _ (shr1_u32 _)) ?_
      refine L.val rfl rfl (R.as rfl) ?_
      refine L.be 0 rfl (congrArg v32 hh.symm) ?_
      refine L.nil ?_
      refine N.block ?_
      refine N.seq ?_
      refine G.region ?_
      refine L.val rfl rfl (R.add rfl rfl (by omega)) ?_
      refine L.val rfl rfl (R.mv rfl) ?_
      refine L.nil ?_
      exact N.again (k + 1) (by omega) (Sub.cons rfl (Sub.cons rfl (Sub.nil _))) ⟨by omega, rfl⟩
  · obtain rfl : k = 8 := by omega
    refine G.exit _ rfl ?_
    refine N.seq ?_
    refine G.seq ?_
    refine G.region ?_
    refine L.val rfl rfl (R.mv rfl) ?_
    refine L.val rfl rfl (R.as rfl) ?_
    refine L.nil ?_
    refine N.seq ?_
    refine G.ret1 rfl rfl ?_
    exact ⟨rfl, rfl⟩

theorem join_ok (r : UInt32) (a : Option Addr) (n c : Nat) (l : List UInt8) (w : World) (hb : Bs w a n l) (hn : n ≤ 140737488355328) : Meets Try.prog 245 [v32 r, .slice a n c] w (fun v w' => v = v32 (joinF r l) ∧ w' = w) := by
  refine Meets.enter Try.func245 rfl 22 rfl (Nat.le_of_ble_eq_true rfl) ?_
  have hl := hb.len
  refine G.seq ?_
  refine G.region ?_
  refine L.val rfl rfl (R.as rfl) ?_
  refine L.nil ?_
  refine N.seq ?_
  refine G.seq ?_
  refine G.region ?_
  refine L.val rfl rfl (R.mv rfl) ?_
  refine L.val rfl rfl (R.complW rfl _ (compl_u32 _)) ?_
  refine L.val rfl rfl (R.as rfl) ?_
  refine L.nil ?_
  refine N.seq ?_
  refine G.seq ?_
  refine G.seq ?_
  refine G.region ?_
  refine L.val rfl rfl (R.mv rfl) ?_
  refine L.val rfl rfl (R.lenS rfl) ?_
  refine L.val rfl rfl (R.mv rfl) ?_
  refine L.nil ?_
  refine N.seq ?_
  refine G.block ?_
  refine G.loop (X := Nat) (fun k => [(5, v32 (restF (~~~ r) (l.take k))), (10, .slice a n c), (11, .int .i64 n), (12, .int .i64 k)]) (fun k w' => k ≤ n ∧ w' = w) (fun k => n - k) (0) (Sub.cons rfl (Sub.cons rfl (Sub.cons rfl (Sub.cons rfl (Sub.nil _))))) ⟨by omega, rfl⟩ ?_
  rintro k w' ⟨hk, rfl⟩
  refine G.seq ?_
  refine G.region ?_
  refine L.val rfl rfl (R.lss rfl rfl) ?_
  refine L.nil ?_
  refine N.seq ?_
  refine G.seq ?_
  refine G.condP rfl (fun h0 => ?_) (fun h0 => ?_)
  · obtain ⟨p, hp, hcl⟩ := hb.at k (by omega)
    refine G.skip ?_
    refine N.seq ?_
    refine G.seq ?_
    refine G.block ?_
    refine G.seq ?_
    refine G.region ?_
    refine L.val rfl rfl (R.idx rfl rfl (by omega) (by omega) p hp) ?_
    refine L.val rfl rfl (R.ld rfl hcl) ?_
    refine L.val rfl rfl (R.as rfl) ?_
    refine L.nil ?_
    refine N.seq ?_
    refine G.region ?_
    refine L.val rfl rfl (R.mv rfl) ?_
    refine L.val rfl rfl (R.mv rfl) ?_
    refine L.callF rfl rfl rfl go248 (step_ok _ _ _) ?_
    rintro _ _ ⟨rfl, hw⟩
    obtain rfl := hw.symm
    refine L.val rfl rfl (R.as rfl) ?_
    refine L.be 5 rfl (congrArg v32 (restF_snoc _ _ _ (by omega)).symm) ?_
    refine L.nil ?_
    refine N.block ?_
    refine N.seq ?_
    refine G.region ?_
    refine L.val rfl rfl (R.add rfl rfl (by omega)) ?_
    refine L.val rfl rfl (R.mv rfl) ?_
    refine L.nil ?_
    exact N.again (k + 1) (by omega) (Sub.cons rfl (Sub.cons rfl (Sub.cons rfl (Sub.cons rfl (Sub.nil _))))) ⟨by omega, rfl⟩
  · refine G.be 5 rfl (congrArg v32 (by rw [List.take_of_length_le (by omega)])) ?_
    refine G.exit _ rfl ?_
    refine N.seq ?_
    refine G.seq ?_
    refine G.region ?_
    refine L.val rfl rfl (R.mv rfl) ?_
    refine L.val rfl rfl (R.complW rfl _ (compl_u32 _)) ?_
    refine L.val rfl rfl (R.as rfl) ?_
    refine L.nil ?_
    refine N.seq ?_
    refine G.ret1 rfl rfl ?_
    exact ⟨rfl, rfl⟩

theorem sum_ok (a : Option Addr) (n c : Nat) (l : List UInt8) (w : World) (hb : Bs w a n l) (hn : n ≤ 140737488355328) : Meets Try.prog 229 [.slice a n c] w (fun v w' => v = v32 (joinF 0 l) ∧ w' = w) := by
  refine Meets.enter Try.func229 rfl 5 rfl (Nat.le_of_ble_eq_true rfl) ?_
  refine G.seq ?_
  refine G.region ?_
  refine L.val rfl rfl (R.as rfl) ?_
  refine L.nil ?_
  refine N.seq ?_
  refine G.seq ?_
  refine G.region ?_
  refine L.val rfl rfl (R.mv rfl) ?_
  refine L.callF rfl rfl rfl go245 (join_ok 0 _ _ _ _ _ hb hn) ?_
  rintro _ _ ⟨rfl, hw⟩
  obtain rfl := hw.symm
  refine L.val rfl rfl (R.as rfl) ?_
  refine L.nil ?_
  refine N.seq ?_
  refine G.ret1 rfl rfl ?_
  exact ⟨rfl, rfl⟩

theorem mark_ok (a : Option Addr) (n c : Nat) (l : List UInt8) (w : World) (hb : Bs w a n l) (hn : n ≤ 140737488355328) : Meets Try.prog 197 [.slice a n c] w (Cloned w 5 1 n (vbs (markF l))) := by
  refine Meets.enter Try.func197 rfl 34 rfl (Nat.le_of_ble_eq_true rfl) ?_
  have hl := hb.len
  refine G.seq ?_
  refine G.region ?_
  refine L.val rfl rfl (R.as rfl) ?_
  refine L.nil ?_
  refine N.seq ?_
  refine G.seq ?_
  refine G.region ?_
  refine L.val rfl rfl (R.mv rfl) ?_
  refine L.callF rfl rfl rfl go143 (clone_ok a n c l _ hb hn) ?_
  rintro _ w1 ⟨a1, c1, M1, rfl, e1, o1, hM1⟩
  refine L.val rfl rfl (R.as rfl) ?_
  refine L.nil ?_
  refine N.seq ?_
  refine G.seq ?_
  refine G.region ?_
  refine L.val rfl rfl (R.mv rfl) ?_
  refine L.val rfl rfl (R.lenS rfl) ?_
  refine L.val rfl rfl (R.sub' rfl rfl (by omega)) ?_
  refine L.val rfl rfl (R.as rfl) ?_
  refine L.nil ?_
  refine N.seq ?_
  refine G.seq ?_
  refine G.seq ?_
  refine G.region ?_
  refine L.val rfl rfl (R.mv rfl) ?_
  refine L.val rfl rfl (R.lss rfl rfl) ?_
  refine L.nil ?_
  refine N.seq ?_
  refine G.condP rfl (fun h0 => ?_) (fun h0 => ?_)
  · refine G.seq ?_
    refine G.region ?_
    refine L.val rfl rfl (R.mv rfl) ?_
    refine L.val rfl rfl (R.as rfl) ?_
    refine L.nil ?_
    refine N.seq ?_
    refine G.ret1 rfl rfl ?_
    exact ⟨a1, c1, M1, rfl, e1, by unfold markF; rw [if_pos (by omega)]; exact o1, hM1⟩
  · have hcn := o1.le
    refine G.be 4 rfl (congrArg (Value.int .i64) (show ((n : Int) - 4) = ((n - 4 : Nat) : Int) by omega)) ?_
    refine G.skip ?_
    refine N.seq ?_
    refine G.seq ?_
    refine G.region ?_
    refine L.val rfl rfl (R.mv rfl) ?_
    refine L.val rfl rfl (R.mv rfl) ?_
    refine L.val rfl rfl (R.slH rfl rfl (by omega) (by omega)) ?_
    refine L.callF rfl rfl rfl go229 (sum_ok _ _ _ _ _ ((Bs.of_own o1).take c1 (n - 4) (by omega) hcn) (by omega)) ?_
    rintro _ _ ⟨rfl, rfl⟩
    refine L.val rfl rfl (R.as rfl) ?_
    refine L.nil ?_
    refine N.seq ?_
    refine G.seq ?_
    refine G.seq ?_
    refine G.region ?_
    refine L.val rfl rfl (R.mv rfl) ?_
    refine L.nil ?_
    refine N.seq ?_
    refine G.block ?_
    refine G.loop (X := Nat) (fun k => [(3, .slice a1 n c1), (4, .int .i64 ((n - 4 : Nat) : Int)), (5, v32 (joinF 0 (l.take (n - 4)))), (19, .int .i64 k)]) (fun k w' => k ≤ 4 ∧ Own w' 5 1 a1 n c1 (vbs (partF l (n - 4) (joinF 0 (l.take (n - 4))) k)) M1 ∧ Ext [] w w') (fun k => 4 - k) (0) (Sub.cons rfl (Sub.cons rfl (Sub.cons rfl (Sub.cons rfl (Sub.nil _))))) ⟨by omega, by rw [partF_zero]; exact o1, e1⟩ ?_
    rintro k w2 ⟨hk, o2, e2⟩
    refine G.seq ?_
    refine G.region ?_
    refine L.val rfl rfl (R.lss rfl rfl) ?_
    refine L.nil ?_
    refine N.seq ?_
    refine G.seq ?_
    refine G.condP rfl (fun h1 => ?_) (fun h1 => ?_)
    · obtain ⟨g, cur, ha, hM, hB, hlt, hset⟩ := o2.set (n - 4 + k) (by omega)
      refine G.skip ?_
      refine N.seq ?_
      refine G.seq ?_
      refine G.block ?_
      refine G.seq ?_
      refine G.region ?_
      refine L.val rfl rfl (R.mv rfl) ?_
      refine L.val rfl rfl (R.as rfl) ?_
      refine L.nil ?_
      refine N.seq ?_
      refine G.region ?_
      refine L.val rfl rfl (R.mv rfl) ?_
      refine L.val rfl rfl (R.mv rfl) ?_
      refine L.val rfl rfl (R.mv rfl) ?_
      refine L.val rfl rfl (R.add rfl rfl (by omega)) ?_
      refine L.val rfl rfl (R.mv rfl) ?_
      refine L.val rfl rfl (R.mv rfl) ?_
      refine L.val rfl rfl (R.mul rfl rfl (by omega)) ?_
      refine L.val rfl rfl (R.shrW rfl rfl (by omega) _ rfl) ?_
      refine L.val rfl rfl (R.conv rfl _ (byte_shift _ k (by omega))) ?_
      refine L.val rfl rfl (R.idxO rfl rfl (by omega) (by omega) ha (n - 4 + k) (by omega)) ?_
      refine L.set rfl (R.st rfl rfl hB hlt rfl) ?_
      rintro w3 ⟨e3, hs3, B3⟩
      have o3 := hset _ w3 e3 B3
      rw [show (Value.int IntKind.u8 (((fourF (joinF 0 (l.take (n - 4)))).getD k 0).toNat : Int)) = vb ((fourF (joinF 0 (l.take (n - 4)))).getD k 0) from rfl, vbs_set, partF_next _ _ _ _ (by omega) (by omega)] at o3
      have hg := hM1 g (by rw [hM]; simp)
      have e3 : Ext [] w w3 := e2.trans e3 (by simp) (by simp; omega)
      refine L.nil ?_
      refine N.block ?_
      refine N.seq ?_
      refine G.region ?_
      refine L.val rfl rfl (R.add rfl rfl (by omega)) ?_
      refine L.val rfl rfl (R.mv rfl) ?_
      refine L.nil ?_
      exact N.again (k + 1) (by omega) (Sub.cons rfl (Sub.cons rfl (Sub.cons rfl (Sub.cons rfl (Sub.nil _))))) ⟨by omega, o3, e3⟩
    · obtain rfl : k = 4 := by omega
      refine G.exit _ rfl ?_
      refine N.seq ?_
      refine G.seq ?_
      refine G.region ?_
      refine L.val rfl rfl (R.mv rfl) ?_
      refine L.val rfl rfl (R.as rfl) ?_
      refine L.nil ?_
      refine N.seq ?_
      refine G.ret1 rfl rfl ?_
      exact ⟨a1, c1, M1, rfl, e2, by rw [← partF_end l _ (by omega) rfl, ← hl]; exact o2, hM1⟩

theorem good_ok (a : Option Addr) (n c : Nat) (l : List UInt8) (w : World) (hb : Bs w a n l) (hn : n ≤ 140737488355328) : Meets Try.prog 188 [.slice a n c] w (fun v w' => v = .bool (goodF l) ∧ Ext [] w w') := by
  refine Meets.enter Try.func188 rfl 12 rfl (Nat.le_of_ble_eq_true rfl) ?_
  have hl := hb.len
  refine G.seq ?_
  refine G.region ?_
  refine L.val rfl rfl (R.as rfl) ?_
  refine L.nil ?_
  refine N.seq ?_
  refine G.seq ?_
  refine G.region ?_
  refine L.val rfl rfl (R.mv rfl) ?_
  refine L.val rfl rfl (R.lenS rfl) ?_
  refine L.val rfl rfl (R.geq rfl rfl) ?_
  refine L.val rfl rfl (R.mv rfl) ?_
  refine L.caseP 6 rfl (fun hg1_3 => ?_) (fun hg1_3 => ?_)
  · refine L.val rfl rfl (R.mv rfl) ?_
    refine L.callF rfl rfl rfl go197 (mark_ok a n c l _ hb hn) ?_
    rintro _ w1 ⟨a1, c1, M1, rfl, e1, o1, hM1⟩
    refine L.val rfl rfl (R.mv rfl) ?_
    refine L.callF rfl rfl rfl go190 (equal_ok _ _ _ _ _ _ _ _ _ (Bs.of_own o1) (hb.ext0 e1) hn) ?_
    rintro _ w2 ⟨rfl, e2⟩
    first | refine L.val rfl rfl (R.pickT rfl rfl) ?_ | refine L.val rfl rfl (R.pickF rfl rfl) ?_
    refine L.val rfl rfl (R.as rfl) ?_
    refine L.nil ?_
    refine N.seq ?_
    refine G.ret1 rfl rfl ?_
    exact ⟨congrArg Value.bool (by unfold goodF; rw [decide_eq_true (by omega : 4 ≤ l.length)]; rfl), e1.trans0 e2⟩
  · refine L.pass rfl rfl ?_
    refine L.pass rfl rfl ?_
    refine L.pass rfl rfl ?_
    refine L.pass rfl rfl ?_
    first | refine L.val rfl rfl (R.pickT rfl rfl) ?_ | refine L.val rfl rfl (R.pickF rfl rfl) ?_
    refine L.val rfl rfl (R.as rfl) ?_
    refine L.nil ?_
    refine N.seq ?_
    refine G.ret1 rfl rfl ?_
    exact ⟨congrArg Value.bool (by unfold goodF; rw [decide_eq_false (by omega : ¬ 4 ≤ l.length)]; rfl), Ext.refl _ _⟩

theorem refjoin_ok (r : UInt32) (a : Option Addr) (n c : Nat) (l : List UInt8) (w : World) (hb : Bs w a n l) (hn : n ≤ 140737488355328) : Meets Try.prog 227 [v32 r, .slice a n c] w (fun v w' => v = v32 (joinF r l) ∧ w' = w) := by
  refine Meets.enter Try.func227 rfl 39 rfl (Nat.le_of_ble_eq_true rfl) ?_
  have hl := hb.len
  have hr := lt_u32 r
  refine G.seq ?_
  refine G.region ?_
  refine L.val rfl rfl (R.as rfl) ?_
  refine L.nil ?_
  refine N.seq ?_
  refine G.seq ?_
  refine G.region ?_
  refine L.val rfl rfl (R.mv rfl) ?_
  refine L.val rfl rfl (R.subW rfl rfl _ (compl_sub r)) ?_
  refine L.val rfl rfl (R.as rfl) ?_
  refine L.nil ?_
  refine N.seq ?_
  refine G.seq ?_
  refine G.seq ?_
  refine G.region ?_
  refine L.val rfl rfl (R.as rfl) ?_
  refine L.nil ?_
  refine N.seq ?_
  refine G.block ?_
  refine G.loop (X := Nat) (fun i => [(1, .slice a n c), (5, v32 (refR (~~~ r) l i)), (6, .int .i64 i)]) (fun i w' => i ≤ 8 * n ∧ w' = w) (fun i => 8 * n - i) (0) (Sub.cons rfl (Sub.cons rfl (Sub.cons rfl (Sub.nil _)))) ⟨by omega, rfl⟩ ?_
  rintro i w' ⟨hi, rfl⟩
  refine G.seq ?_
  refine G.seq ?_
  refine G.region ?_
  refine L.val rfl rfl (R.mv rfl) ?_
  refine L.val rfl rfl (R.mv rfl) ?_
  refine L.val rfl rfl (R.lenS rfl) ?_
  refine L.val rfl rfl (R.mul rfl rfl (by omega)) ?_
  refine L.val rfl rfl (R.lss rfl rfl) ?_
  refine L.nil ?_
  refine N.seq ?_
  refine G.condP rfl (fun h0 => ?_) (fun h0 => ?_)
  · obtain ⟨p, hp, hcl⟩ := hb.at (i / 8) (by omega)
    have hcx := lt_u8 l[i / 8]
    have hqx := lt_u32 (refR (~~~ r) l i)
    have hnx := refR_next (~~~ r) l i (by omega)
    have hgd : l.getD (i / 8) 0 = l[i / 8] := by simp [List.getD, (show i / 8 < l.length by omega)]
    rw [hgd] at hnx
    refine G.skip ?_
    refine N.seq ?_
    refine G.seq ?_
    refine G.block ?_
    refine G.seq ?_
    refine G.region ?_
    refine L.val rfl rfl (R.mv rfl) ?_
    refine L.val rfl rfl (R.rem rfl rfl (by omega) (by omega)) ?_
    refine L.val rfl rfl (R.eqI rfl rfl) ?_
    refine L.val rfl rfl (R.mv rfl) ?_
    refine L.val rfl rfl (R.mv rfl) ?_
    refine L.val rfl rfl (R.quo rfl rfl (by omega) (by omega)) ?_
    refine L.val rfl rfl (R.idx rfl rfl (by omega) (by omega) p hp) ?_
    refine L.val rfl rfl (R.ld rfl (v := vb l[i / 8]) (by rw [show ((i : Int) / 8).toNat = i / 8 by omega]; exact hcl)) ?_
    refine L.val rfl rfl (R.mv rfl) ?_
    refine L.val rfl rfl (R.rem rfl rfl (by omega) (by omega)) ?_
    refine L.val rfl rfl (R.conv rfl ((i % 8 : Nat) : Int) (wrap_u64 (by omega) |>.trans (by omega))) ?_
    refine L.val rfl rfl (R.shrW rfl rfl (by omega) ((l[i / 8].toNat : Int) / 2 ^ (i % 8)) (shr_u8 _ _ (by omega))) ?_
    refine L.val rfl rfl (R.rem rfl rfl (by apply Int.ediv_nonneg (by omega); apply Int.le_of_lt; apply Int.pow_pos; decide) (by omega)) ?_
    refine L.val rfl rfl (R.eqI rfl rfl) ?_
    refine L.val rfl rfl (R.neB rfl rfl) ?_
    refine L.val rfl rfl (R.as rfl) ?_
    refine L.be 7 rfl (show Value.bool _ = Value.bool (oneF (refR (~~~ r) l i) l[i / 8] (i % 8)) from rfl) ?_
    refine L.nil ?_
    refine N.seq ?_
    refine G.seq ?_
    refine G.region ?_
    refine L.val rfl rfl (R.mv rfl) ?_
    refine L.val rfl rfl (R.quoW rfl rfl (by omega) _ (four_k _ 1 2 (by omega) rfl)) ?_
    refine L.val rfl rfl (R.as rfl) ?_
    refine L.nil ?_
    refine N.seq ?_
    refine G.seq ?_
    refine G.region ?_
    refine L.val rfl rfl (R.mv rfl) ?_
    refine L.nil ?_
    refine N.seq ?_
    refine G.condB rfl (fun h1 => ?_) (fun h1 => ?_)
    · have hnx2 : refR (~~~ r) l (i + 1) = (refR (~~~ r) l i >>> 1) ^^^ 0xedb88320 := by rw [hnx]; unfold bitF; rw [if_pos h1]
      refine G.region ?_
      refine L.val rfl rfl (R.mv rfl) ?_
      refine L.val rfl rfl (R.xorW rfl rfl _ (xorI_u32 _ 0xedb88320)) ?_
      refine L.val rfl rfl (R.as rfl) ?_
      refine L.be 5 rfl (congrArg v32 hnx2.symm) ?_
      refine L.nil ?_
      refine N.block ?_
      refine N.seq ?_
      refine G.region ?_
      refine L.val rfl rfl (R.mv rfl) ?_
      refine L.val rfl rfl (R.add rfl rfl (by omega)) ?_
      refine L.val rfl rfl (R.as rfl) ?_
      refine L.nil ?_
      exact N.again (i + 1) (by omega) (Sub.cons rfl (Sub.cons rfl (Sub.cons rfl (Sub.nil _)))) ⟨by omega, rfl⟩
    · have hnx2 : refR (~~~ r) l (i + 1) = (refR (~~~ r) l i >>> 1) := by rw [hnx]; unfold bitF; rw [if_neg (by rw [h1]; decide)]
      refine G.be 5 rfl (congrArg v32 hnx2.symm) ?_
      refine G.skip ?_
      refine N.block ?_
      refine N.seq ?_
      refine G.region ?_
      refine L.val rfl rfl (R.mv rfl) ?_
      refine L.val rfl rfl (R.add rfl rfl (by omega)) ?_
      refine L.val rfl rfl (R.as rfl) ?_
      refine L.nil ?_
      exact N.again (i + 1) (by omega) (Sub.cons rfl (Sub.cons rfl (Sub.cons rfl (Sub.nil _)))) ⟨by omega, rfl⟩
  · obtain rfl : i = 8 * n := by omega
    refine G.be 5 rfl (congrArg v32 (show _ = restF (~~~ r) l by rw [hl]; exact refR_end _ _)) ?_
    refine G.exit _ rfl ?_
    refine N.seq ?_
    refine G.seq ?_
    refine G.region ?_
    refine L.val rfl rfl (R.mv rfl) ?_
    refine L.val rfl rfl (R.subW rfl rfl _ (compl_sub _)) ?_
    refine L.val rfl rfl (R.as rfl) ?_
    refine L.nil ?_
    refine N.seq ?_
    refine G.ret1 rfl rfl ?_
    exact ⟨rfl, rfl⟩

theorem four_ok (v : UInt32) (w : World) : Meets Try.prog 226 [v32 v] w (fun v' w' => v' = .string (str (fourF v)) ∧ Ext [] w w') := by
  refine Meets.enter Try.func226 rfl 19 rfl (Nat.le_of_ble_eq_true rfl) ?_
  have hv := lt_u32 v
  refine G.seq ?_
  refine G.region ?_
  refine L.val rfl rfl (R.as rfl) ?_
  refine L.nil ?_
  refine N.seq ?_
  refine G.seq ?_
  refine G.region ?_
  refine L.val rfl rfl (R.mv rfl) ?_
  refine L.val rfl rfl (R.rem rfl rfl (by omega) (by omega)) ?_
  refine L.val rfl rfl (R.conv rfl _ (four_0 v)) ?_
  refine L.val rfl rfl (R.mv rfl) ?_
  refine L.val rfl rfl (R.quoW rfl rfl (by omega) _ (four_k v 8 256 (by omega) rfl)) ?_
  refine L.val rfl rfl (R.rem rfl rfl (by omega) (by omega)) ?_
  refine L.val rfl rfl (R.conv rfl _ (four_0 _)) ?_
  refine L.val rfl rfl (R.mv rfl) ?_
  refine L.val rfl rfl (R.quoW rfl rfl (by omega) _ (four_k v 16 65536 (by omega) rfl)) ?_
  refine L.val rfl rfl (R.rem rfl rfl (by omega) (by omega)) ?_
  refine L.val rfl rfl (R.conv rfl _ (four_0 _)) ?_
  refine L.val rfl rfl (R.mv rfl) ?_
  refine L.val rfl rfl (R.quoW rfl rfl (by omega) _ (four_k v 24 16777216 (by omega) rfl)) ?_
  refine L.val rfl rfl (R.conv rfl ((v >>> 24).toUInt8.toNat : Int) (four_top v)) ?_
  refine L.do rfl rfl (R.buildA rfl rfl rfl rfl rfl) ?_
  rintro _ w1 ⟨b17, rfl, hb17, hs17, e1, B17⟩
  refine L.val rfl rfl (R.bytesStr rfl (Bs.of_blk B17 (fourF v) rfl 4 rfl).cells rfl) ?_
  refine L.val rfl rfl (R.as rfl) ?_
  refine L.nil ?_
  refine N.seq ?_
  refine G.ret1 rfl rfl ?_
  exact ⟨rfl, e1⟩

theorem refmark_ok (a : Option Addr) (n c : Nat) (l : List UInt8) (w : World) (hb : Bs w a n l) (hc : n ≤ c) (hn : n ≤ 140737488355328) : Meets Try.prog 186 [.slice a n c] w (fun v w' => v = .string (str (markF l)) ∧ Ext [] w w') := by
  refine Meets.enter Try.func186 rfl 22 rfl (Nat.le_of_ble_eq_true rfl) ?_
  have hl := hb.len
  refine G.seq ?_
  refine G.region ?_
  refine L.val rfl rfl (R.as rfl) ?_
  refine L.nil ?_
  refine N.seq ?_
  refine G.seq ?_
  refine G.seq ?_
  refine G.region ?_
  refine L.val rfl rfl (R.mv rfl) ?_
  refine L.val rfl rfl (R.lenS rfl) ?_
  refine L.val rfl rfl (R.lss rfl rfl) ?_
  refine L.nil ?_
  refine N.seq ?_
  refine G.condP rfl (fun h0 => ?_) (fun h0 => ?_)
  · refine G.seq ?_
    refine G.region ?_
    refine L.val rfl rfl (R.mv rfl) ?_
    refine L.val rfl rfl (R.bytesStr rfl hb.cells hb.len) ?_
    refine L.val rfl rfl (R.as rfl) ?_
    refine L.nil ?_
    refine N.seq ?_
    refine G.ret1 rfl rfl ?_
    exact ⟨by unfold markF; rw [if_pos (by omega)], Ext.refl _ _⟩
  · have e0 := Ext.refl [] w
    refine G.skip ?_
    refine N.seq ?_
    refine G.seq ?_
    refine G.region ?_
    refine L.val rfl rfl (R.mv rfl) ?_
    refine L.val rfl rfl (R.lenS rfl) ?_
    refine L.val rfl rfl (R.sub' rfl rfl (by omega)) ?_
    refine L.val rfl rfl (R.as rfl) ?_
    refine L.be 3 rfl (congrArg (Value.int .i64) (show ((n : Int) - 4) = ((n - 4 : Nat) : Int) by omega)) ?_
    refine L.nil ?_
    refine N.seq ?_
    refine G.seq ?_
    refine G.quiet (by decide +kernel) rfl ?_
    refine Q.val rfl rfl rfl rfl (fun w1 hE => R.mv rfl) ?_
    refine Q.val rfl rfl rfl rfl (fun w1 hE => R.mv rfl) ?_
    refine Q.val rfl rfl rfl rfl (fun w1 hE => R.slH rfl rfl (by omega) (by omega)) ?_
    refine Q.val rfl rfl rfl rfl (fun w1 hE => R.bytesStr rfl ((hb.ext0 hE).take c (n - 4) (by omega) hc).cells ((hb.ext0 hE).take c (n - 4) (by omega) hc).len) ?_
    refine Q.val rfl rfl rfl rfl (fun w1 hE => R.mv rfl) ?_
    refine Q.val rfl rfl rfl rfl (fun w1 hE => R.mv rfl) ?_
    refine Q.val rfl rfl rfl rfl (fun w1 hE => R.slH rfl rfl (by omega) (by omega)) ?_
    refine Q.call (v32 (joinF 0 (l.take (n - 4)))) rfl rfl rfl go227 (fun w1 hE => ⟨_, rfl, (refjoin_ok 0 _ _ _ _ _ ((hb.ext0 hE).take c (n - 4) (by omega) hc) (by omega)).mono (by rintro _ _ ⟨rfl, rfl⟩; exact ⟨rfl, Ext.refl _ _⟩)⟩) ?_
    refine Q.call (.string (str (fourF (joinF 0 (l.take (n - 4)))))) rfl rfl rfl go226 (fun w1 hE => ⟨_, rfl, (four_ok _ _).mono (fun _ _ h => h)⟩) ?_
    refine Q.val rfl rfl rfl rfl (fun w1 hE => R.addStr rfl rfl (by simp [fourF]; omega)) ?_
    refine Q.val rfl rfl rfl rfl (fun w1 hE => R.as rfl) ?_
    refine Q.nil (fun w1 e1 => ?_)
    refine N.seq ?_
    refine G.ret1 rfl rfl ?_
    exact ⟨by unfold markF; rw [if_neg (by omega), ← hl], e1⟩

end Go.Proofs.Ythpolibakkmmeaa
