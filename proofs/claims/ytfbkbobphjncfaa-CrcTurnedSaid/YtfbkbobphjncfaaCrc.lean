/-
  The walks of package crc.
-/
import Derived.Test.YtfbkbobphjncfaaTy
import Derived.Test.YtfbkbobphjncfaaCrcPure
set_option linter.unusedVariables false
namespace Go.Proofs.Ytfbkbobphjncfaa
open Go Brv Brv.Crc
theorem go49 : ∀ (vs : Array Value) w, (callFunc 49 vs).run Try.prog w = .ok (.enter 49 vs) w := callFunc_run Try.func49 (by decide) rfl
theorem go14 : ∀ (vs : Array Value) w, (callFunc 14 vs).run Try.prog w = .ok (.enter 14 vs) w := callFunc_run Try.func14 (by decide) rfl
theorem go12 : ∀ (vs : Array Value) w, (callFunc 12 vs).run Try.prog w = .ok (.enter 12 vs) w := callFunc_run Try.func12 (by decide) rfl
theorem go50 : ∀ (vs : Array Value) w, (callFunc 50 vs).run Try.prog w = .ok (.enter 50 vs) w := callFunc_run Try.func50 (by decide) rfl
theorem go52 : ∀ (vs : Array Value) w, (callFunc 52 vs).run Try.prog w = .ok (.enter 52 vs) w := callFunc_run Try.func52 (by decide) rfl
theorem go15 : ∀ (vs : Array Value) w, (callFunc 15 vs).run Try.prog w = .ok (.enter 15 vs) w := callFunc_run Try.func15 (by decide) rfl
theorem go17 : ∀ (vs : Array Value) w, (callFunc 17 vs).run Try.prog w = .ok (.enter 17 vs) w := callFunc_run Try.func17 (by decide) rfl
theorem go13 : ∀ (vs : Array Value) w, (callFunc 13 vs).run Try.prog w = .ok (.enter 13 vs) w := callFunc_run Try.func13 (by decide) rfl
theorem go51 : ∀ (vs : Array Value) w, (callFunc 51 vs).run Try.prog w = .ok (.enter 51 vs) w := callFunc_run Try.func51 (by decide) rfl
theorem go16 : ∀ (vs : Array Value) w, (callFunc 16 vs).run Try.prog w = .ok (.enter 16 vs) w := callFunc_run Try.func16 (by decide) rfl
theorem go11 : ∀ (vs : Array Value) w, (callFunc 11 vs).run Try.prog w = .ok (.enter 11 vs) w := callFunc_run Try.func11 (by decide) rfl

theorem step_ok (r : UInt32) (c : UInt8) (w : World) : Meets Try.prog 49 [v32 r, vb c] w (fun v w' => v = v32 (stepF r c) ∧ w' = w) := by
  refine Meets.enter Try.func49 rfl 21 rfl (Nat.le_of_ble_eq_true rfl) ?_
  have hc := lt_u8 c
  refine G.seq ?_
  refine G.region ?_
  refine L.val rfl rfl (R.as rfl) ?_
  refine L.nil ?_
  refine N.seq ?_
  refine G.seq ?_
  refine G.region ?_
  refine L.val rfl rfl (R.mv rfl) ?_
  refine L.val rfl rfl (R.mv rfl) ?_
  refine L.val rfl rfl (R.conv rfl ((c.toUInt32.toNat : Nat) : Int) ((wrap_u32 (by omega)).trans (by simp))) ?_
  refine L.val rfl rfl (R.xorW rfl rfl _ (xorI_u32 _ _)) ?_
  refine L.val rfl rfl (R.as rfl) ?_
  refine L.nil ?_
  refine N.seq ?_
  refine G.seq ?_
  refine G.seq ?_
  refine G.region ?_
  refine L.val rfl rfl (R.mv rfl) ?_
  refine L.nil ?_
  refine N.seq ?_
  refine G.block ?_
  refine G.loop (X := Nat) (fun k => [(0, v32 (halves k (r ^^^ c.toUInt32))), (9, .int .i64 k)]) (fun k w' => k ≤ 8 ∧ w' = w) (fun k => 8 - k) (0) (Sub.cons rfl (Sub.cons rfl (Sub.nil _))) ⟨by omega, rfl⟩ ?_
  rintro k w' ⟨hk, rfl⟩
  refine G.seq ?_
  refine G.region ?_
  refine L.val rfl rfl (R.lss rfl rfl) ?_
  refine L.nil ?_
  refine N.seq ?_
  refine G.seq ?_
  refine G.condP rfl (fun h0 => ?_) (fun h0 => ?_)
  · refine G.skip ?_
    refine N.seq ?_
    refine G.seq ?_
    refine G.block ?_
    refine G.seq ?_
    refine G.region ?_
    refine L.val rfl rfl (R.mv rfl) ?_
    refine L.val rfl rfl (R.rem rfl rfl (by omega) (by omega)) ?_
    refine L.val rfl rfl (R.eqI rfl rfl) ?_
    refine L.nil ?_
    refine N.seq ?_
    refine G.condP rfl (fun h1 => ?_) (fun h1 => ?_)
    · have hh := half_t h1
      refine G.region ?_
      refine L.val rfl rfl (R.mv rfl) ?_
      refine L.val rfl rfl (R.shrW rfl rfl (by omega) _ (shr1_u32 _)) ?_
      refine L.val rfl rfl (R.xorW rfl rfl _ (xorI_u32 _ 0xedb88320)) ?_
      refine L.val rfl rfl (R.as rfl) ?_
      refine L.be 0 rfl (congrArg v32 hh.symm) ?_
      refine L.nil ?_
      refine N.block ?_
      refine N.seq ?_
      refine G.region ?_
      refine L.val rfl rfl (R.add rfl rfl (by omega)) ?_
      refine L.val rfl rfl (R.mv rfl) ?_
      refine L.nil ?_
      exact N.again (k + 1) (by omega) (Sub.cons rfl (Sub.cons rfl (Sub.nil _))) ⟨by omega, rfl⟩
    · have hh := half_f h1
      refine G.region ?_
      refine L.val rfl rfl (R.mv rfl) ?_
      refine L.val rfl rfl (R.shrW rfl rfl (by omega) _ (shr1_u32 _)) ?_
      refine L.val rfl rfl (R.as rfl) ?_
      refine L.be 0 rfl (congrArg v32 hh.symm) ?_
      refine L.nil ?_
      refine N.block ?_
      refine N.seq ?_
      refine G.region ?_
      refine L.val rfl rfl (R.add rfl rfl (by omega)) ?_
      refine L.val rfl rfl (R.mv rfl) ?_
      refine L.nil ?_
      exact N.again (k + 1) (by omega) (Sub.cons rfl (Sub.cons rfl (Sub.nil _))) ⟨by omega, rfl⟩
  · obtain rfl : k = 8 := by omega
    refine G.exit _ rfl ?_
    refine N.seq ?_
    refine G.seq ?_
    refine G.region ?_
    refine L.val rfl rfl (R.mv rfl) ?_
    refine L.val rfl rfl (R.as rfl) ?_
    refine L.nil ?_
    refine N.seq ?_
    refine G.ret1 rfl rfl ?_
    exact ⟨rfl, rfl⟩

theorem join_ok (r : UInt32) (a : Option Addr) (n c : Nat) (l : List UInt8) (w : World) (hb : Bs w a n l) (hn : n ≤ 140737488355328) : Meets Try.prog 14 [v32 r, .slice a n c] w (fun v w' => v = v32 (joinF r l) ∧ w' = w) := by
  refine Meets.enter Try.func14 rfl 22 rfl (Nat.le_of_ble_eq_true rfl) ?_
  have hl := hb.len
  refine G.seq ?_
  refine G.region ?_
  refine L.val rfl rfl (R.as rfl) ?_
  refine L.nil ?_
  refine N.seq ?_
  refine G.seq ?_
  refine G.region ?_
  refine L.val rfl rfl (R.mv rfl) ?_
  refine L.val rfl rfl (R.complW rfl _ (compl_u32 _)) ?_
  refine L.val rfl rfl (R.as rfl) ?_
  refine L.nil ?_
  refine N.seq ?_
  refine G.seq ?_
  refine G.seq ?_
  refine G.region ?_
  refine L.val rfl rfl (R.mv rfl) ?_
  refine L.val rfl rfl (R.lenS rfl) ?_
  refine L.val rfl rfl (R.mv rfl) ?_
  refine L.nil ?_
  refine N.seq ?_
  refine G.block ?_
  refine G.loop (X := Nat) (fun k => [(5, v32 (restF (~~~ r) (l.take k))), (10, .slice a n c), (11, .int .i64 n), (12, .int .i64 k)]) (fun k w' => k ≤ n ∧ w' = w) (fun k => n - k) (0) (Sub.cons rfl (Sub.cons rfl (Sub.cons rfl (Sub.cons rfl (Sub.nil _))))) ⟨by omega, rfl⟩ ?_
  rintro k w' ⟨hk, rfl⟩
  refine G.seq ?_
  refine G.region ?_
  refine L.val rfl rfl (R.lss rfl rfl) ?_
  refine L.nil ?_
  refine N.seq ?_
  refine G.seq ?_
  refine G.condP rfl (fun h0 => ?_) (fun h0 => ?_)
  · obtain ⟨p, hp, hcl⟩ := hb.at k (by omega)
    refine G.skip ?_
    refine N.seq ?_
    refine G.seq ?_
    refine G.block ?_
    refine G.seq ?_
    refine G.region ?_
    refine L.val rfl rfl (R.idx rfl rfl (by omega) (by omega) p hp) ?_
    refine L.val rfl rfl (R.ld rfl hcl) ?_
    refine L.val rfl rfl (R.as rfl) ?_
    refine L.nil ?_
    refine N.seq ?_
    refine G.region ?_
    refine L.val rfl rfl (R.mv rfl) ?_
    refine L.val rfl rfl (R.mv rfl) ?_
    refine L.callF rfl rfl rfl go49 (step_ok _ _ _) ?_
    rintro _ _ ⟨rfl, rfl⟩
    refine L.val rfl rfl (R.as rfl) ?_
    refine L.be 5 rfl (congrArg v32 (restF_snoc _ _ _ (by omega)).symm) ?_
    refine L.nil ?_
    refine N.block ?_
    refine N.seq ?_
    refine G.region ?_
    refine L.val rfl rfl (R.add rfl rfl (by omega)) ?_
    refine L.val rfl rfl (R.mv rfl) ?_
    refine L.nil ?_
    exact N.again (k + 1) (by omega) (Sub.cons rfl (Sub.cons rfl (Sub.cons rfl (Sub.cons rfl (Sub.nil _))))) ⟨by omega, rfl⟩
  · refine G.be 5 rfl (congrArg v32 (by rw [List.take_of_length_le (by omega)])) ?_
    refine G.exit _ rfl ?_
    refine N.seq ?_
    refine G.seq ?_
    refine G.region ?_
    refine L.val rfl rfl (R.mv rfl) ?_
    refine L.val rfl rfl (R.complW rfl _ (compl_u32 _)) ?_
    refine L.val rfl rfl (R.as rfl) ?_
    refine L.nil ?_
    refine N.seq ?_
    refine G.ret1 rfl rfl ?_
    exact ⟨rfl, rfl⟩

theorem sum_ok (a : Option Addr) (n c : Nat) (l : List UInt8) (w : World) (hb : Bs w a n l) (hn : n ≤ 140737488355328) : Meets Try.prog 12 [.slice a n c] w (fun v w' => v = v32 (joinF 0 l) ∧ w' = w) := by
  refine Meets.enter Try.func12 rfl 5 rfl (Nat.le_of_ble_eq_true rfl) ?_
  refine G.seq ?_
  refine G.region ?_
  refine L.val rfl rfl (R.as rfl) ?_
  refine L.nil ?_
  refine N.seq ?_
  refine G.seq ?_
  refine G.region ?_
  refine L.val rfl rfl (R.mv rfl) ?_
  refine L.callF rfl rfl rfl go14 (join_ok 0 _ _ _ _ _ hb hn) ?_
  rintro _ _ ⟨rfl, rfl⟩
  refine L.val rfl rfl (R.as rfl) ?_
  refine L.nil ?_
  refine N.seq ?_
  refine G.ret1 rfl rfl ?_
  exact ⟨rfl, rfl⟩

theorem clone_ok (a : Option Addr) (n c : Nat) (l : List UInt8) (w : World) (hb : Bs w a n l) (hn : n ≤ 140737488355328) : Meets Try.prog 50 [.slice a n c] w (Cloned w 5 1 n (vbs l)) := by
  refine Meets.enter Try.func50 rfl 8 rfl (Nat.le_of_ble_eq_true rfl) ?_
  refine G.seq ?_
  refine G.region ?_
  refine L.val rfl rfl (R.as rfl) ?_
  refine L.nil ?_
  refine N.seq ?_
  refine G.seq ?_
  refine G.seq ?_
  refine G.region ?_
  refine L.val rfl rfl (R.mv rfl) ?_
  refine L.val rfl rfl (R.eqNilS rfl rfl) ?_
  refine L.nil ?_
  refine N.seq ?_
  refine G.condB rfl (fun h0 => ?_) (fun h0 => ?_)
  · obtain rfl : a = none := by simpa using h0
    obtain ⟨rfl, rfl⟩ := hb.none
    refine G.seq ?_
    refine G.region ?_
    refine L.val rfl rfl (R.as rfl) ?_
    refine L.nil ?_
    refine N.seq ?_
    refine G.ret1 rfl rfl ?_
    exact ⟨none, 0, [], rfl, Ext.refl _ _, Own.nil _ _ _, by simp⟩
  · refine G.skip ?_
    refine N.seq ?_
    refine G.seq ?_
    refine G.region ?_
    refine L.do rfl rfl (R.buildS rfl (by decide) rfl) ?_
    rintro _ w1 ⟨b5, rfl, hb5, hs5, e1, B5⟩
    have hb := hb.ext0 e1
    have o0 := Own.blk (n := 0) (size := 1) B5 (by simp) (by simp [maxLen])
    refine L.val rfl rfl (R.mv rfl) ?_
    refine L.do rfl rfl (R.app rfl rfl o0 hb.cells (by rw [vbs_length, Nat.mul_one]; exact hb.len.symm) (vbs_one _) (by simp [maxLen]; omega) (by omega)) ?_
    rintro _ w2 ⟨a1, c1, M1, rfl, e2, hM1, o1⟩
    refine L.val rfl rfl (R.as rfl) ?_
    refine L.nil ?_
    refine N.seq ?_
    refine G.ret1 rfl rfl ?_
    exact ⟨a1, c1, M1, by rw [Nat.zero_add] , e1.trans e2 (by simp) (by simp; omega), by simpa using o1, by intro g hg; have := hM1 g hg; have := e1.size; simp at *; omega⟩

theorem equal_ok (a a' : Option Addr) (n c n' c' : Nat) (l l' : List UInt8) (w : World) (hb : Bs w a n l) (hb' : Bs w a' n' l') (hn : n ≤ 140737488355328) : Meets Try.prog 52 [.slice a n c, .slice a' n' c'] w (fun v w' => v = .bool (decide (l = l')) ∧ Ext [] w w') := by
  refine Meets.enter Try.func52 rfl 26 rfl (Nat.le_of_ble_eq_true rfl) ?_
  have hl := hb.len
  have hl' := hb'.len
  refine G.seq ?_
  refine G.region ?_
  refine L.val rfl rfl (R.as rfl) ?_
  refine L.nil ?_
  refine N.seq ?_
  refine G.seq ?_
  refine G.seq ?_
  refine G.region ?_
  refine L.val rfl rfl (R.mv rfl) ?_
  refine L.val rfl rfl (R.lenS rfl) ?_
  refine L.val rfl rfl (R.mv rfl) ?_
  refine L.val rfl rfl (R.lenS rfl) ?_
  refine L.val rfl rfl (R.neI rfl rfl) ?_
  refine L.nil ?_
  refine N.seq ?_
  refine G.condP rfl (fun h0 => ?_) (fun h0 => ?_)
  · refine G.seq ?_
    refine G.region ?_
    refine L.val rfl rfl (R.as rfl) ?_
    refine L.nil ?_
    refine N.seq ?_
    refine G.ret1 rfl rfl ?_
    exact ⟨congrArg Value.bool (by rw [eq_comm]; simp; intro e; subst e; omega), Ext.refl _ _⟩
  · refine G.skip ?_
    refine N.seq ?_
    refine G.seq ?_
    refine G.seq ?_
    refine G.region ?_
    refine L.val rfl rfl (R.mv rfl) ?_
    refine L.val rfl rfl (R.lenS rfl) ?_
    refine L.val rfl rfl (R.mv rfl) ?_
    refine L.nil ?_
    refine N.seq ?_
    refine G.block ?_
    refine G.loop (X := Nat) (fun k => [(0, .slice a n c), (1, .slice a' n' c'), (12, .int .i64 n), (13, .int .i64 k)]) (fun k w' => k ≤ n ∧ l.take k = l'.take k ∧ Ext [] w w') (fun k => n - k) (0) (Sub.cons rfl (Sub.cons rfl (Sub.cons rfl (Sub.cons rfl (Sub.nil _))))) ⟨by omega, rfl, Ext.refl _ _⟩ ?_
    rintro k w1 ⟨hk, hp, e0⟩
    refine G.seq ?_
    refine G.region ?_
    refine L.val rfl rfl (R.lss rfl rfl) ?_
    refine L.nil ?_
    refine N.seq ?_
    refine G.seq ?_
    refine G.condP rfl (fun h1 => ?_) (fun h1 => ?_)
    · obtain ⟨p, hpa, hcl⟩ := hb.at k (by omega)
      obtain ⟨p', hpa', hcl'⟩ := hb'.at k (by omega)
      refine G.skip ?_
      refine N.seq ?_
      refine G.seq ?_
      refine G.block ?_
      refine G.seq ?_
      refine G.region ?_
      refine L.val rfl rfl (R.mv rfl) ?_
      refine L.val rfl rfl (R.as rfl) ?_
      refine L.nil ?_
      refine N.seq ?_
      refine G.seq ?_
      refine G.quiet (by decide +kernel) rfl ?_
      refine Q.val rfl rfl rfl rfl (fun w2 hE => R.mv rfl) ?_
      refine Q.val rfl rfl rfl rfl (fun w2 hE => R.mv rfl) ?_
      refine Q.val rfl rfl rfl rfl (fun w2 hE => R.idx rfl rfl (by omega) (by omega) p hpa) ?_
      refine Q.val rfl rfl rfl rfl (fun w2 hE => R.ld rfl (cell?_ext0' hcl (e0.trans0 hE))) ?_
      refine Q.val rfl rfl rfl rfl (fun w2 hE => R.mv rfl) ?_
      refine Q.val rfl rfl rfl rfl (fun w2 hE => R.mv rfl) ?_
      refine Q.val rfl rfl rfl rfl (fun w2 hE => R.idx rfl rfl (by omega) (by omega) p' hpa') ?_
      refine Q.val rfl rfl rfl rfl (fun w2 hE => R.ld rfl (cell?_ext0' hcl' (e0.trans0 hE))) ?_
      refine Q.val rfl rfl rfl rfl (fun w2 hE => R.neI rfl rfl) ?_
      refine Q.nil (fun w2 e1 => ?_)
      refine N.seq ?_
      refine G.condP rfl (fun h2 => ?_) (fun h2 => ?_)
      · refine G.seq ?_
        refine G.region ?_
        refine L.val rfl rfl (R.as rfl) ?_
        refine L.nil ?_
        refine N.seq ?_
        refine G.ret1 rfl rfl ?_
        exact ⟨congrArg Value.bool (by rw [eq_comm]; simp; intro e; subst e; simp at h2), e0.trans0 e1⟩
      · have hx : l[k] = l'[k] := UInt8.toNat_inj.1 (by omega)
        have hp' : l.take (k + 1) = l'.take (k + 1) := by rw [List.take_succ_eq_append_getElem (by omega), List.take_succ_eq_append_getElem (by omega), hp, hx]
        refine G.skip ?_
        refine N.block ?_
        refine N.seq ?_
        refine G.region ?_
        refine L.val rfl rfl (R.add rfl rfl (by omega)) ?_
        refine L.val rfl rfl (R.mv rfl) ?_
        refine L.nil ?_
        exact N.again (k + 1) (by omega) (Sub.cons rfl (Sub.cons rfl (Sub.cons rfl (Sub.cons rfl (Sub.nil _))))) ⟨by omega, hp', e0.trans0 e1⟩
    · refine G.exit _ rfl ?_
      refine N.seq ?_
      refine G.seq ?_
      refine G.region ?_
      refine L.val rfl rfl (R.as rfl) ?_
      refine L.nil ?_
      refine N.seq ?_
      refine G.ret1 rfl rfl ?_
      exact ⟨congrArg Value.bool (by rw [eq_comm]; simp; rw [List.take_of_length_le (by omega), List.take_of_length_le (by omega)] at hp; exact hp), e0⟩

theorem mark_ok (a : Option Addr) (n c : Nat) (l : List UInt8) (w : World) (hb : Bs w a n l) (hn : n ≤ 140737488355328) : Meets Try.prog 15 [.slice a n c] w (Cloned w 5 1 n (vbs (markF l))) := by
  refine Meets.enter Try.func15 rfl 34 rfl (Nat.le_of_ble_eq_true rfl) ?_
  have hl := hb.len
  refine G.seq ?_
  refine G.region ?_
  refine L.val rfl rfl (R.as rfl) ?_
  refine L.nil ?_
  refine N.seq ?_
  refine G.seq ?_
  refine G.region ?_
  refine L.val rfl rfl (R.mv rfl) ?_
  refine L.callF rfl rfl rfl go50 (clone_ok a n c l _ hb hn) ?_
  rintro _ w1 ⟨a1, c1, M1, rfl, e1, o1, hM1⟩
  refine L.val rfl rfl (R.as rfl) ?_
  refine L.nil ?_
  refine N.seq ?_
  refine G.seq ?_
  refine G.region ?_
  refine L.val rfl rfl (R.mv rfl) ?_
  refine L.val rfl rfl (R.lenS rfl) ?_
  refine L.val rfl rfl (R.sub' rfl rfl (by omega)) ?_
  refine L.val rfl rfl (R.as rfl) ?_
  refine L.nil ?_
  refine N.seq ?_
  refine G.seq ?_
  refine G.seq ?_
  refine G.region ?_
  refine L.val rfl rfl (R.mv rfl) ?_
  refine L.val rfl rfl (R.lss rfl rfl) ?_
  refine L.nil ?_
  refine N.seq ?_
  refine G.condP rfl (fun h0 => ?_) (fun h0 => ?_)
  · refine G.seq ?_
    refine G.region ?_
    refine L.val rfl rfl (R.mv rfl) ?_
    refine L.val rfl rfl (R.as rfl) ?_
    refine L.nil ?_
    refine N.seq ?_
    refine G.ret1 rfl rfl ?_
    exact ⟨a1, c1, M1, rfl, e1, by unfold markF; rw [if_pos (by omega)]; exact o1, hM1⟩
  · have hcn := o1.le
    refine G.be 4 rfl (congrArg (Value.int .i64) (show ((n : Int) - 4) = ((n - 4 : Nat) : Int) by omega)) ?_
    refine G.skip ?_
    refine N.seq ?_
    refine G.seq ?_
    refine G.region ?_
    refine L.val rfl rfl (R.mv rfl) ?_
    refine L.val rfl rfl (R.mv rfl) ?_
    refine L.val rfl rfl (R.slH rfl rfl (by omega) (by omega)) ?_
    refine L.callF rfl rfl rfl go12 (sum_ok _ _ _ _ _ ((Bs.of_own o1).take c1 (n - 4) (by omega) hcn) (by omega)) ?_
    rintro _ _ ⟨rfl, rfl⟩
    refine L.val rfl rfl (R.as rfl) ?_
    refine L.nil ?_
    refine N.seq ?_
    refine G.seq ?_
    refine G.seq ?_
    refine G.region ?_
    refine L.val rfl rfl (R.mv rfl) ?_
    refine L.nil ?_
    refine N.seq ?_
    refine G.block ?_
    refine G.loop (X := Nat) (fun k => [(3, .slice a1 n c1), (4, .int .i64 ((n - 4 : Nat) : Int)), (5, v32 (joinF 0 (l.take (n - 4)))), (19, .int .i64 k)]) (fun k w' => k ≤ 4 ∧ Own w' 5 1 a1 n c1 (vbs (partF l (n - 4) (joinF 0 (l.take (n - 4))) k)) M1 ∧ Ext [] w w') (fun k => 4 - k) (0) (Sub.cons rfl (Sub.cons rfl (Sub.cons rfl (Sub.cons rfl (Sub.nil _))))) ⟨by omega, by rw [partF_zero]; exact o1, e1⟩ ?_
    rintro k w2 ⟨hk, o2, e2⟩
    refine G.seq ?_
    refine G.region ?_
    refine L.val rfl rfl (R.lss rfl rfl) ?_
    refine L.nil ?_
    refine N.seq ?_
    refine G.seq ?_
    refine G.condP rfl (fun h1 => ?_) (fun h1 => ?_)
    · obtain ⟨g, cur, ha, hM, hB, hlt, hset⟩ := o2.set (n - 4 + k) (by omega)
      refine G.skip ?_
      refine N.seq ?_
      refine G.seq ?_
      refine G.block ?_
      refine G.seq ?_
      refine G.region ?_
      refine L.val rfl rfl (R.mv rfl) ?_
      refine L.val rfl rfl (R.as rfl) ?_
      refine L.nil ?_
      refine N.seq ?_
      refine G.region ?_
      refine L.val rfl rfl (R.mv rfl) ?_
      refine L.val rfl rfl (R.mv rfl) ?_
      refine L.val rfl rfl (R.mv rfl) ?_
      refine L.val rfl rfl (R.add rfl rfl (by omega)) ?_
      refine L.val rfl rfl (R.mv rfl) ?_
      refine L.val rfl rfl (R.mv rfl) ?_
      refine L.val rfl rfl (R.mul rfl rfl (by omega)) ?_
      refine L.val rfl rfl (R.shrW rfl rfl (by omega) _ rfl) ?_
      refine L.val rfl rfl (R.conv rfl _ (byte_shift _ k (by omega))) ?_
      refine L.val rfl rfl (R.idxO rfl rfl (by omega) (by omega) ha (n - 4 + k) (by omega)) ?_
      refine L.set rfl (R.st rfl rfl hB hlt rfl) ?_
      rintro w3 ⟨e3, hs3, B3⟩
      have o3 := hset _ w3 e3 B3
      rw [show (Value.int IntKind.u8 (((fourF (joinF 0 (l.take (n - 4)))).getD k 0).toNat : Int)) = vb ((fourF (joinF 0 (l.take (n - 4)))).getD k 0) from rfl, vbs_set, partF_next _ _ _ _ (by omega) (by omega)] at o3
      have hg := hM1 g (by rw [hM]; simp)
      have e3 : Ext [] w w3 := e2.trans e3 (by simp) (by simp; omega)
      refine L.nil ?_
      refine N.block ?_
      refine N.seq ?_
      refine G.region ?_
      refine L.val rfl rfl (R.add rfl rfl (by omega)) ?_
      refine L.val rfl rfl (R.mv rfl) ?_
      refine L.nil ?_
      exact N.again (k + 1) (by omega) (Sub.cons rfl (Sub.cons rfl (Sub.cons rfl (Sub.cons rfl (Sub.nil _))))) ⟨by omega, o3, e3⟩
    · obtain rfl : k = 4 := by omega
      refine G.exit _ rfl ?_
      refine N.seq ?_
      refine G.seq ?_
      refine G.region ?_
      refine L.val rfl rfl (R.mv rfl) ?_
      refine L.val rfl rfl (R.as rfl) ?_
      refine L.nil ?_
      refine N.seq ?_
      refine G.ret1 rfl rfl ?_
      exact ⟨a1, c1, M1, rfl, e2, by rw [← partF_end l _ (by omega) rfl, ← hl]; exact o2, hM1⟩

theorem good_ok (a : Option Addr) (n c : Nat) (l : List UInt8) (w : World) (hb : Bs w a n l) (hn : n ≤ 140737488355328) : Meets Try.prog 17 [.slice a n c] w (fun v w' => v = .bool (goodF l) ∧ Ext [] w w') := by
  refine Meets.enter Try.func17 rfl 12 rfl (Nat.le_of_ble_eq_true rfl) ?_
  have hl := hb.len
  refine G.seq ?_
  refine G.region ?_
  refine L.val rfl rfl (R.as rfl) ?_
  refine L.nil ?_
  refine N.seq ?_
  refine G.seq ?_
  refine G.region ?_
  refine L.val rfl rfl (R.mv rfl) ?_
  refine L.val rfl rfl (R.lenS rfl) ?_
  refine L.val rfl rfl (R.geq rfl rfl) ?_
  refine L.val rfl rfl (R.mv rfl) ?_
  refine L.caseP 6 rfl (fun hg1_3 => ?_) (fun hg1_3 => ?_)
  · refine L.val rfl rfl (R.mv rfl) ?_
    refine L.callF rfl rfl rfl go15 (mark_ok a n c l _ hb hn) ?_
    rintro _ w1 ⟨a1, c1, M1, rfl, e1, o1, hM1⟩
    refine L.val rfl rfl (R.mv rfl) ?_
    refine L.callF rfl rfl rfl go52 (equal_ok _ _ _ _ _ _ _ _ _ (Bs.of_own o1) (hb.ext0 e1) hn) ?_
    rintro _ w2 ⟨rfl, e2⟩
    first | refine L.val rfl rfl (R.pickT rfl rfl) ?_ | refine L.val rfl rfl (R.pickF rfl rfl) ?_
    refine L.val rfl rfl (R.as rfl) ?_
    refine L.nil ?_
    refine N.seq ?_
    refine G.ret1 rfl rfl ?_
    exact ⟨congrArg Value.bool (by unfold goodF; rw [decide_eq_true (by omega : 4 ≤ l.length)]; rfl), e1.trans0 e2⟩
  · refine L.pass rfl rfl ?_
    refine L.pass rfl rfl ?_
    refine L.pass rfl rfl ?_
    refine L.pass rfl rfl ?_
    first | refine L.val rfl rfl (R.pickT rfl rfl) ?_ | refine L.val rfl rfl (R.pickF rfl rfl) ?_
    refine L.val rfl rfl (R.as rfl) ?_
    refine L.nil ?_
    refine N.seq ?_
    refine G.ret1 rfl rfl ?_
    exact ⟨congrArg Value.bool (by unfold goodF; rw [decide_eq_false (by omega : ¬ 4 ≤ l.length)]; rfl), Ext.refl _ _⟩

theorem refjoin_ok (r : UInt32) (a : Option Addr) (n c : Nat) (l : List UInt8) (w : World) (hb : Bs w a n l) (hn : n ≤ 140737488355328) : Meets Try.prog 13 [v32 r, .slice a n c] w (fun v w' => v = v32 (joinF r l) ∧ w' = w) := by
  refine Meets.enter Try.func13 rfl 39 rfl (Nat.le_of_ble_eq_true rfl) ?_
  have hl := hb.len
  have hr := lt_u32 r
  refine G.seq ?_
  refine G.region ?_
  refine L.val rfl rfl (R.as rfl) ?_
  refine L.nil ?_
  refine N.seq ?_
  refine G.seq ?_
  refine G.region ?_
  refine L.val rfl rfl (R.mv rfl) ?_
  refine L.val rfl rfl (R.subW rfl rfl _ (compl_sub r)) ?_
  refine L.val rfl rfl (R.as rfl) ?_
  refine L.nil ?_
  refine N.seq ?_
  refine G.seq ?_
  refine G.seq ?_
  refine G.region ?_
  refine L.val rfl rfl (R.as rfl) ?_
  refine L.nil ?_
  refine N.seq ?_
  refine G.block ?_
  refine G.loop (X := Nat) (fun i => [(1, .slice a n c), (5, v32 (refR (~~~ r) l i)), (6, .int .i64 i)]) (fun i w' => i ≤ 8 * n ∧ w' = w) (fun i => 8 * n - i) (0) (Sub.cons rfl (Sub.cons rfl (Sub.cons rfl (Sub.nil _)))) ⟨by omega, rfl⟩ ?_
  rintro i w' ⟨hi, rfl⟩
  refine G.seq ?_
  refine G.seq ?_
  refine G.region ?_
  refine L.val rfl rfl (R.mv rfl) ?_
  refine L.val rfl rfl (R.mv rfl) ?_
  refine L.val rfl rfl (R.lenS rfl) ?_
  refine L.val rfl rfl (R.mul rfl rfl (by omega)) ?_
  refine L.val rfl rfl (R.lss rfl rfl) ?_
  refine L.nil ?_
  refine N.seq ?_
  refine G.condP rfl (fun h0 => ?_) (fun h0 => ?_)
  · obtain ⟨p, hp, hcl⟩ := hb.at (i / 8) (by omega)
    have hcx := lt_u8 l[i / 8]
    have hqx := lt_u32 (refR (~~~ r) l i)
    have hnx := refR_next (~~~ r) l i (by omega)
    have hgd : l.getD (i / 8) 0 = l[i / 8] := by simp [List.getD, (show i / 8 < l.length by omega)]
    rw [hgd] at hnx
    refine G.skip ?_
    refine N.seq ?_
    refine G.seq ?_
    refine G.block ?_
    refine G.seq ?_
    refine G.region ?_
    refine L.val rfl rfl (R.mv rfl) ?_
    refine L.val rfl rfl (R.rem rfl rfl (by omega) (by omega)) ?_
    refine L.val rfl rfl (R.eqI rfl rfl) ?_
    refine L.val rfl rfl (R.mv rfl) ?_
    refine L.val rfl rfl (R.mv rfl) ?_
    refine L.val rfl rfl (R.quo rfl rfl (by omega) (by omega)) ?_
    refine L.val rfl rfl (R.idx rfl rfl (by omega) (by omega) p hp) ?_
    refine L.val rfl rfl (R.ld rfl (v := vb l[i / 8]) (by rw [show ((i : Int) / 8).toNat = i / 8 by omega]; exact hcl)) ?_
    refine L.val rfl rfl (R.mv rfl) ?_
    refine L.val rfl rfl (R.rem rfl rfl (by omega) (by omega)) ?_
    refine L.val rfl rfl (R.conv rfl ((i % 8 : Nat) : Int) (wrap_u64 (by omega) |>.trans (by omega))) ?_
    refine L.val rfl rfl (R.shrW rfl rfl (by omega) ((l[i / 8].toNat : Int) / 2 ^ (i % 8)) (shr_u8 _ _ (by omega))) ?_
    refine L.val rfl rfl (R.rem rfl rfl (by apply Int.ediv_nonneg (by omega); apply Int.le_of_lt; apply Int.pow_pos; decide) (by omega)) ?_
    refine L.val rfl rfl (R.eqI rfl rfl) ?_
    refine L.val rfl rfl (R.neB rfl rfl) ?_
    refine L.val rfl rfl (R.as rfl) ?_
    refine L.be 7 rfl (show Value.bool _ = Value.bool (oneF (refR (~~~ r) l i) l[i / 8] (i % 8)) from rfl) ?_
    refine L.nil ?_
    refine N.seq ?_
    refine G.seq ?_
    refine G.region ?_
    refine L.val rfl rfl (R.mv rfl) ?_
    refine L.val rfl rfl (R.quoW rfl rfl (by omega) _ (four_k _ 1 2 (by omega) rfl)) ?_
    refine L.val rfl rfl (R.as rfl) ?_
    refine L.nil ?_
    refine N.seq ?_
    refine G.seq ?_
    refine G.region ?_
    refine L.val rfl rfl (R.mv rfl) ?_
    refine L.nil ?_
    refine N.seq ?_
    refine G.condB rfl (fun h1 => ?_) (fun h1 => ?_)
    · have hnx2 : refR (~~~ r) l (i + 1) = (refR (~~~ r) l i >>> 1) ^^^ 0xedb88320 := by rw [hnx]; unfold bitF; rw [if_pos h1]
      refine G.region ?_
      refine L.val rfl rfl (R.mv rfl) ?_
      refine L.val rfl rfl (R.xorW rfl rfl _ (xorI_u32 _ 0xedb88320)) ?_
      refine L.val rfl rfl (R.as rfl) ?_
      refine L.be 5 rfl (congrArg v32 hnx2.symm) ?_
      refine L.nil ?_
      refine N.block ?_
      refine N.seq ?_
      refine G.region ?_
      refine L.val rfl rfl (R.mv rfl) ?_
      refine L.val rfl rfl (R.add rfl rfl (by omega)) ?_
      refine L.val rfl rfl (R.as rfl) ?_
      refine L.nil ?_
      exact N.again (i + 1) (by omega) (Sub.cons rfl (Sub.cons rfl (Sub.cons rfl (Sub.nil _)))) ⟨by omega, rfl⟩
    · have hnx2 : refR (~~~ r) l (i + 1) = (refR (~~~ r) l i >>> 1) := by rw [hnx]; unfold bitF; rw [if_neg (by rw [h1]; decide)]
      refine G.be 5 rfl (congrArg v32 hnx2.symm) ?_
      refine G.skip ?_
      refine N.block ?_
      refine N.seq ?_
      refine G.region ?_
      refine L.val rfl rfl (R.mv rfl) ?_
      refine L.val rfl rfl (R.add rfl rfl (by omega)) ?_
      refine L.val rfl rfl (R.as rfl) ?_
      refine L.nil ?_
      exact N.again (i + 1) (by omega) (Sub.cons rfl (Sub.cons rfl (Sub.cons rfl (Sub.nil _)))) ⟨by omega, rfl⟩
  · obtain rfl : i = 8 * n := by omega
    refine G.be 5 rfl (congrArg v32 (show _ = restF (~~~ r) l by rw [hl]; exact refR_end _ _)) ?_
    refine G.exit _ rfl ?_
    refine N.seq ?_
    refine G.seq ?_
    refine G.region ?_
    refine L.val rfl rfl (R.mv rfl) ?_
    refine L.val rfl rfl (R.subW rfl rfl _ (compl_sub _)) ?_
    refine L.val rfl rfl (R.as rfl) ?_
    refine L.nil ?_
    refine N.seq ?_
    refine G.ret1 rfl rfl ?_
    exact ⟨rfl, rfl⟩

theorem four_ok (v : UInt32) (w : World) : Meets Try.prog 51 [v32 v] w (fun v' w' => v' = .string (str (fourF v)) ∧ Ext [] w w') := by
  refine Meets.enter Try.func51 rfl 19 rfl (Nat.le_of_ble_eq_true rfl) ?_
  have hv := lt_u32 v
  refine G.seq ?_
  refine G.region ?_
  refine L.val rfl rfl (R.as rfl) ?_
  refine L.nil ?_
  refine N.seq ?_
  refine G.seq ?_
  refine G.region ?_
  refine L.val rfl rfl (R.mv rfl) ?_
  refine L.val rfl rfl (R.rem rfl rfl (by omega) (by omega)) ?_
  refine L.val rfl rfl (R.conv rfl _ (four_0 v)) ?_
  refine L.val rfl rfl (R.mv rfl) ?_
  refine L.val rfl rfl (R.quoW rfl rfl (by omega) _ (four_k v 8 256 (by omega) rfl)) ?_
  refine L.val rfl rfl (R.rem rfl rfl (by omega) (by omega)) ?_
  refine L.val rfl rfl (R.conv rfl _ (four_0 _)) ?_
  refine L.val rfl rfl (R.mv rfl) ?_
  refine L.val rfl rfl (R.quoW rfl rfl (by omega) _ (four_k v 16 65536 (by omega) rfl)) ?_
  refine L.val rfl rfl (R.rem rfl rfl (by omega) (by omega)) ?_
  refine L.val rfl rfl (R.conv rfl _ (four_0 _)) ?_
  refine L.val rfl rfl (R.mv rfl) ?_
  refine L.val rfl rfl (R.quoW rfl rfl (by omega) _ (four_k v 24 16777216 (by omega) rfl)) ?_
  refine L.val rfl rfl (R.conv rfl ((v >>> 24).toUInt8.toNat : Int) (four_top v)) ?_
  refine L.do rfl rfl (R.buildA rfl rfl rfl rfl rfl) ?_
  rintro _ w1 ⟨b17, rfl, hb17, hs17, e1, B17⟩
  refine L.val rfl rfl (R.bytesStr rfl (Bs.of_blk B17 (fourF v) rfl 4 rfl).cells rfl) ?_
  refine L.val rfl rfl (R.as rfl) ?_
  refine L.nil ?_
  refine N.seq ?_
  refine G.ret1 rfl rfl ?_
  exact ⟨rfl, e1⟩

theorem refmark_ok (a : Option Addr) (n c : Nat) (l : List UInt8) (w : World) (hb : Bs w a n l) (hc : n ≤ c) (hn : n ≤ 140737488355328) : Meets Try.prog 16 [.slice a n c] w (fun v w' => v = .string (str (markF l)) ∧ Ext [] w w') := by
  refine Meets.enter Try.func16 rfl 22 rfl (Nat.le_of_ble_eq_true rfl) ?_
  have hl := hb.len
  refine G.seq ?_
  refine G.region ?_
  refine L.val rfl rfl (R.as rfl) ?_
  refine L.nil ?_
  refine N.seq ?_
  refine G.seq ?_
  refine G.seq ?_
  refine G.region ?_
  refine L.val rfl rfl (R.mv rfl) ?_
  refine L.val rfl rfl (R.lenS rfl) ?_
  refine L.val rfl rfl (R.lss rfl rfl) ?_
  refine L.nil ?_
  refine N.seq ?_
  refine G.condP rfl (fun h0 => ?_) (fun h0 => ?_)
  · refine G.seq ?_
    refine G.region ?_
    refine L.val rfl rfl (R.mv rfl) ?_
    refine L.val rfl rfl (R.bytesStr rfl hb.cells hb.len) ?_
    refine L.val rfl rfl (R.as rfl) ?_
    refine L.nil ?_
    refine N.seq ?_
    refine G.ret1 rfl rfl ?_
    exact ⟨by unfold markF; rw [if_pos (by omega)], Ext.refl _ _⟩
  · have e0 := Ext.refl [] w
    refine G.skip ?_
    refine N.seq ?_
    refine G.seq ?_
    refine G.region ?_
    refine L.val rfl rfl (R.mv rfl) ?_
    refine L.val rfl rfl (R.lenS rfl) ?_
    refine L.val rfl rfl (R.sub' rfl rfl (by omega)) ?_
    refine L.val rfl rfl (R.as rfl) ?_
    refine L.be 3 rfl (congrArg (Value.int .i64) (show ((n : Int) - 4) = ((n - 4 : Nat) : Int) by omega)) ?_
    refine L.nil ?_
    refine N.seq ?_
    refine G.seq ?_
    refine G.quiet (by decide +kernel) rfl ?_
    refine Q.val rfl rfl rfl rfl (fun w1 hE => R.mv rfl) ?_
    refine Q.val rfl rfl rfl rfl (fun w1 hE => R.mv rfl) ?_
    refine Q.val rfl rfl rfl rfl (fun w1 hE => R.slH rfl rfl (by omega) (by omega)) ?_
    refine Q.val rfl rfl rfl rfl (fun w1 hE => R.bytesStr rfl ((hb.ext0 hE).take c (n - 4) (by omega) hc).cells ((hb.ext0 hE).take c (n - 4) (by omega) hc).len) ?_
    refine Q.val rfl rfl rfl rfl (fun w1 hE => R.mv rfl) ?_
    refine Q.val rfl rfl rfl rfl (fun w1 hE => R.mv rfl) ?_
    refine Q.val rfl rfl rfl rfl (fun w1 hE => R.slH rfl rfl (by omega) (by omega)) ?_
    refine Q.call (v32 (joinF 0 (l.take (n - 4)))) rfl rfl rfl go13 (fun w1 hE => ⟨_, rfl, (refjoin_ok 0 _ _ _ _ _ ((hb.ext0 hE).take c (n - 4) (by omega) hc) (by omega)).mono (by rintro _ _ ⟨rfl, rfl⟩; exact ⟨rfl, Ext.refl _ _⟩)⟩) ?_
    refine Q.call (.string (str (fourF (joinF 0 (l.take (n - 4)))))) rfl rfl rfl go51 (fun w1 hE => ⟨_, rfl, (four_ok _ _).mono (fun _ _ h => h)⟩) ?_
    refine Q.val rfl rfl rfl rfl (fun w1 hE => R.addStr rfl rfl (by simp [fourF]; omega)) ?_
    refine Q.val rfl rfl rfl rfl (fun w1 hE => R.as rfl) ?_
    refine Q.nil (fun w1 e1 => ?_)
    refine N.seq ?_
    refine G.ret1 rfl rfl ?_
    exact ⟨by unfold markF; rw [if_neg (by omega), ← hl], e1⟩

theorem first_ok  (w : World) : Meets Try.prog 11 [] w (fun v w' => v = .bool true ∧ Ext [] w w') := by
  refine Meets.enter Try.func11 rfl 38 rfl (Nat.le_of_ble_eq_true rfl) ?_
  have E := Ext.refl [] w
  refine G.seq ?_
  refine G.region ?_
  refine L.val rfl rfl (R.as rfl) ?_
  refine L.nil ?_
  refine N.seq ?_
  refine G.seq ?_
  refine G.region ?_
  refine L.do rfl rfl (R.buildA rfl rfl rfl rfl rfl) ?_
  rintro _ w1 ⟨b2, rfl, hb2, hs2, e1, B2⟩
  refine L.do rfl rfl (R.bytesBytes rfl B2) ?_
  rintro _ w2 ⟨fz2, rfl, e2, hs2, B2⟩
  have e2 := e1.trans (M := []) e2 (by simp) (by simp; omega)
  replace E := E.trans0 e2
  have L2 := Bs.of_blk B2 [97, 98, 48, 48, 48, 48] rfl _ rfl
  refine L.callF rfl rfl rfl go15 (mark_ok _ _ _ _ _ L2 (by omega)) ?_
  rintro _ w3 ⟨a1, c1, M1, rfl, e3, o1, hM1⟩
  replace L2 := L2.ext0 e3
  replace E := E.trans0 e3
  have hm := Bs.of_own o1
  have hc1 := o1.le
  refine L.val rfl rfl (R.as rfl) ?_
  refine L.nil ?_
  refine N.seq ?_
  refine G.seq ?_
  refine G.region ?_
  refine L.do rfl rfl (R.buildA rfl rfl rfl rfl rfl) ?_
  rintro _ w4 ⟨b5, rfl, hb5, hs5, e4, B5⟩
  refine L.do rfl rfl (R.bytesBytes rfl B5) ?_
  rintro _ w5 ⟨fz5, rfl, e5, hs5, B5⟩
  have e5 := e4.trans (M := []) e5 (by simp) (by simp; omega)
  replace L2 := L2.ext0 e5
  replace hm := hm.ext0 e5
  replace E := E.trans0 e5
  have L5 := Bs.of_blk B5 [49, 50, 51, 52, 53, 54, 55, 56, 57] rfl _ rfl
  refine L.callF rfl rfl rfl go12 (sum_ok _ _ _ _ _ L5 (by omega)) ?_
  rintro _ _ ⟨rfl, rfl⟩
  refine L.val rfl rfl (R.eqI rfl rfl) ?_
  refine L.val rfl rfl (R.mv rfl) ?_
  refine L.isT 9 rfl (by decide +kernel) ?_
  refine L.do rfl rfl (R.buildA rfl rfl rfl rfl rfl) ?_
  rintro _ w6 ⟨b10, rfl, hb10, hs10, e6, B10⟩
  replace L2 := L2.ext0 e6
  replace hm := hm.ext0 e6
  replace L5 := L5.ext0 e6
  replace E := E.trans0 e6
  have L10 := Bs.of_blk B10 [49, 50] rfl _ rfl
  refine L.callF rfl rfl rfl go12 (sum_ok _ _ _ _ _ L10 (by omega)) ?_
  rintro _ _ ⟨rfl, rfl⟩
  refine L.do rfl rfl (R.buildA rfl rfl rfl rfl rfl) ?_
  rintro _ w7 ⟨b12, rfl, hb12, hs12, e7, B12⟩
  refine L.do rfl rfl (R.bytesBytes rfl B12) ?_
  rintro _ w8 ⟨fz12, rfl, e8, hs12, B12⟩
  have e8 := e7.trans (M := []) e8 (by simp) (by simp; omega)
  replace L2 := L2.ext0 e8
  replace hm := hm.ext0 e8
  replace L5 := L5.ext0 e8
  replace L10 := L10.ext0 e8
  replace E := E.trans0 e8
  have L12 := Bs.of_blk B12 [51, 52, 53, 54, 55, 56, 57] rfl _ rfl
  refine L.callF rfl rfl rfl go14 (join_ok _ _ _ _ _ _ L12 (by omega)) ?_
  rintro _ _ ⟨rfl, rfl⟩
  refine L.val rfl rfl (R.eqI rfl rfl) ?_
  first | refine L.val rfl rfl (R.pickT rfl rfl) ?_ | refine L.val rfl rfl (R.pickF rfl rfl) ?_
  refine L.val rfl rfl (R.mv rfl) ?_
  refine L.isT 17 rfl (by decide +kernel) ?_
  refine L.val rfl rfl (R.mv rfl) ?_
  refine L.val rfl rfl (R.lenS rfl) ?_
  refine L.val rfl rfl (R.eqI rfl rfl) ?_
  first | refine L.val rfl rfl (R.pickT rfl rfl) ?_ | refine L.val rfl rfl (R.pickF rfl rfl) ?_
  refine L.val rfl rfl (R.mv rfl) ?_
  refine L.isT 22 rfl (by decide) ?_
  refine L.val rfl rfl (R.mv rfl) ?_
  refine L.callF rfl rfl rfl go17 (good_ok _ _ _ _ _ hm (by omega)) ?_
  rintro _ w9 ⟨rfl, e9⟩
  replace L2 := L2.ext0 e9
  replace hm := hm.ext0 e9
  replace L5 := L5.ext0 e9
  replace L10 := L10.ext0 e9
  replace L12 := L12.ext0 e9
  replace E := E.trans0 e9
  first | refine L.val rfl rfl (R.pickT rfl rfl) ?_ | refine L.val rfl rfl (R.pickF rfl rfl) ?_
  refine L.val rfl rfl (R.mv rfl) ?_
  refine L.isT 26 rfl (by decide +kernel) ?_
  refine L.val rfl rfl (R.mv rfl) ?_
  refine L.val rfl rfl (R.slH rfl rfl (by omega) (by omega)) ?_
  refine L.callF rfl rfl rfl go17 (good_ok _ _ _ _ _ (hm.take c1 5 (by omega) hc1) (by omega)) ?_
  rintro _ w10 ⟨rfl, e10⟩
  replace L2 := L2.ext0 e10
  replace hm := hm.ext0 e10
  replace L5 := L5.ext0 e10
  replace L10 := L10.ext0 e10
  replace L12 := L12.ext0 e10
  replace E := E.trans0 e10
  refine L.val rfl rfl (R.not rfl) ?_
  first | refine L.val rfl rfl (R.pickT rfl rfl) ?_ | refine L.val rfl rfl (R.pickF rfl rfl) ?_
  refine L.val rfl rfl (R.mv rfl) ?_
  refine L.isT 32 rfl (by decide +kernel) ?_
  refine L.val rfl rfl (R.mv rfl) ?_
  refine L.val rfl rfl (R.slH rfl rfl (by omega) (by omega)) ?_
  refine L.val rfl rfl (R.bytesStr rfl (hm.take c1 2 (by omega) hc1).cells (hm.take c1 2 (by omega) hc1).len) ?_
  refine L.val rfl rfl (R.eqStr (b := [97, 98]) rfl rfl) ?_
  first | refine L.val rfl rfl (R.pickT rfl rfl) ?_ | refine L.val rfl rfl (R.pickF rfl rfl) ?_
  refine L.val rfl rfl (R.as rfl) ?_
  refine L.nil ?_
  refine N.seq ?_
  refine G.ret1 rfl rfl ?_
  exact ⟨congrArg Value.bool (by decide +kernel), E⟩

end Go.Proofs.Ytfbkbobphjncfaa
