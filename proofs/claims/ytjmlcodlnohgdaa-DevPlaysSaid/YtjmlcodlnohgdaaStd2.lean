/-
  Functions of the library.
-/
import Derived.Test.YtjmlcodlnohgdaaStd
import Derived.Test.YtjmlcodlnohgdaaC10
set_option linter.unusedVariables false
set_option linter.unusedSimpArgs false
namespace Go.Proofs.Ytjmlcodlnohgdaa
open Go Brv
theorem go110 : ∀ (vs : Array Value) w, (callFunc 110 vs).run Try.prog w = .ok (.enter 110 vs) w := callFunc_run Try.func110 (by decide) rfl
theorem go120 : ∀ (vs : Array Value) w, (callFunc 120 vs).run Try.prog w = .ok (.enter 120 vs) w := callFunc_run Try.func120 (by decide) rfl
theorem go121 : ∀ (vs : Array Value) w, (callFunc 121 vs).run Try.prog w = .ok (.enter 121 vs) w := callFunc_run Try.func121 (by decide) rfl

theorem bclone_ok (a : Option Addr) (n c : Nat) (l : List UInt8) (w : World) (hb : Bs w a n l) (hn : n ≤ 140737488355328) : Meets Try.prog 73 [.slice a n c] w (Cloned w 5 1 n (vbs l)) := by
  refine Meets.enter Try.func73 rfl 8 rfl (Nat.le_of_ble_eq_true rfl) ?_
  refine G.seq ?_
  refine G.region ?_
  refine L.val rfl rfl (R.as rfl) ?_
  refine L.nil ?_
  refine N.seq ?_
  refine G.seq ?_
  refine G.seq ?_
  refine G.region ?_
  refine L.val rfl rfl (R.mv rfl) ?_
  refine L.val rfl rfl (R.eqNilS rfl rfl) ?_
  refine L.nil ?_
  refine N.seq ?_
  refine G.condB rfl (fun h0 => ?_) (fun h0 => ?_)
  · obtain rfl : a = none := by simpa using h0
    obtain ⟨rfl, rfl⟩ := hb.none
    refine G.seq ?_
    refine G.region ?_
    refine L.val rfl rfl (R.as rfl) ?_
    refine L.nil ?_
    refine N.seq ?_
    refine G.ret1 rfl rfl ?_
    exact ⟨none, 0, [], rfl, Ext.refl _ _, Own.nil _ _ _, by simp⟩
  · refine G.skip ?_
    refine N.seq ?_
    refine G.seq ?_
    refine G.region ?_
    refine L.do rfl rfl (R.buildS rfl (by decide) rfl) ?_
    rintro _ w1 ⟨b5, rfl, hb5, hs5, e1, B5⟩
    have hb := hb.ext0 e1
    have o0 := Own.blk (n := 0) (size := 1) B5 (by simp) (by simp [maxLen])
    refine L.val rfl rfl (R.mv rfl) ?_
    refine L.do rfl rfl (R.app rfl rfl o0 hb.cells (by rw [vbs_length, Nat.mul_one]; exact hb.len.symm) (vbs_one _) (by simp [maxLen]; omega) (by omega)) ?_
    rintro _ w2 ⟨a1, c1, M1, rfl, e2, hM1, o1⟩
    refine L.val rfl rfl (R.as rfl) ?_
    refine L.nil ?_
    refine N.seq ?_
    refine G.ret1 rfl rfl ?_
    exact ⟨a1, c1, M1, by rw [Nat.zero_add] , e1.trans e2 (by simp) (by simp; omega), by simpa using o1, by intro g hg; have := hM1 g hg; have := e1.size; simp at *; omega⟩

theorem mul64_ok (x y : Int) (w : World) (hx0 : 0 ≤ x) (hx1 : x ≤ 2147483647) (hy0 : 0 ≤ y) (hy1 : y ≤ 2147483647) : Meets Try.prog 121 [.int .u64 x, .int .u64 y] w (fun v w' => v = .tuple #[.int .u64 0, .int .u64 (x * y)] ∧ w' = w) := by
  refine Meets.enter Try.func121 rfl 51 rfl (Nat.le_of_ble_eq_true rfl) ?_
  have p0 : 0 ≤ x * y := Int.mul_nonneg hx0 hy0
  have p1 : x * y ≤ 4611686014132420609 := Int.le_trans (Int.mul_le_mul hx1 hy1 hy0 (by decide)) (by decide)
  refine G.seq ?_
  refine G.region ?_
  refine L.val rfl rfl (R.as rfl) ?_
  refine L.val rfl rfl (R.as rfl) ?_
  refine L.nil ?_
  refine N.seq ?_
  refine G.seq ?_
  refine G.region ?_
  refine L.val rfl rfl (R.mv rfl) ?_
  refine L.val rfl rfl (R.andW rfl rfl x (and32 hx0 (by omega))) ?_
  refine L.val rfl rfl (R.as rfl) ?_
  refine L.nil ?_
  refine N.seq ?_
  refine G.seq ?_
  refine G.region ?_
  refine L.val rfl rfl (R.mv rfl) ?_
  refine L.val rfl rfl (R.shrW rfl rfl (by decide) 0 ((shr32 x).trans (by omega))) ?_
  refine L.val rfl rfl (R.as rfl) ?_
  refine L.nil ?_
  refine N.seq ?_
  refine G.seq ?_
  refine G.region ?_
  refine L.val rfl rfl (R.mv rfl) ?_
  refine L.val rfl rfl (R.andW rfl rfl y (and32 hy0 (by omega))) ?_
  refine L.val rfl rfl (R.as rfl) ?_
  refine L.nil ?_
  refine N.seq ?_
  refine G.seq ?_
  refine G.region ?_
  refine L.val rfl rfl (R.mv rfl) ?_
  refine L.val rfl rfl (R.shrW rfl rfl (by decide) 0 ((shr32 y).trans (by omega))) ?_
  refine L.val rfl rfl (R.as rfl) ?_
  refine L.nil ?_
  refine N.seq ?_
  refine G.seq ?_
  refine G.region ?_
  refine L.val rfl rfl (R.mv rfl) ?_
  refine L.val rfl rfl (R.mv rfl) ?_
  refine L.val rfl rfl (R.mulW rfl rfl (x * y) (wrap_u64 (by omega))) ?_
  refine L.val rfl rfl (R.as rfl) ?_
  refine L.nil ?_
  refine N.seq ?_
  refine G.seq ?_
  refine G.region ?_
  refine L.val rfl rfl (R.mv rfl) ?_
  refine L.val rfl rfl (R.mv rfl) ?_
  refine L.val rfl rfl (R.mulW rfl rfl 0 (by rw [Int.zero_mul]; rfl)) ?_
  refine L.val rfl rfl (R.mv rfl) ?_
  refine L.val rfl rfl (R.shrW rfl rfl (by decide) (x * y / 4294967296) (shr32 _)) ?_
  refine L.val rfl rfl (R.addW rfl rfl (x * y / 4294967296) (by rw [Int.zero_add]; exact wrap_u64 (by omega))) ?_
  refine L.val rfl rfl (R.as rfl) ?_
  refine L.nil ?_
  refine N.seq ?_
  refine G.seq ?_
  refine G.region ?_
  refine L.val rfl rfl (R.mv rfl) ?_
  refine L.val rfl rfl (R.andW rfl rfl (x * y / 4294967296) (and32 (by omega) (by omega))) ?_
  refine L.val rfl rfl (R.as rfl) ?_
  refine L.nil ?_
  refine N.seq ?_
  refine G.seq ?_
  refine G.region ?_
  refine L.val rfl rfl (R.mv rfl) ?_
  refine L.val rfl rfl (R.shrW rfl rfl (by decide) 0 ((shr32 _).trans (by omega))) ?_
  refine L.val rfl rfl (R.as rfl) ?_
  refine L.nil ?_
  refine N.seq ?_
  refine G.seq ?_
  refine G.region ?_
  refine L.val rfl rfl (R.mv rfl) ?_
  refine L.val rfl rfl (R.mv rfl) ?_
  refine L.val rfl rfl (R.mv rfl) ?_
  refine L.val rfl rfl (R.mulW rfl rfl 0 (by rw [Int.mul_zero]; rfl)) ?_
  refine L.val rfl rfl (R.addW rfl rfl (x * y / 4294967296) (by rw [Int.add_zero]; exact wrap_u64 (by omega))) ?_
  refine L.val rfl rfl (R.as rfl) ?_
  refine L.nil ?_
  refine N.seq ?_
  refine G.seq ?_
  refine G.region ?_
  refine L.val rfl rfl (R.mv rfl) ?_
  refine L.val rfl rfl (R.mv rfl) ?_
  refine L.val rfl rfl (R.mulW rfl rfl 0 rfl) ?_
  refine L.val rfl rfl (R.mv rfl) ?_
  refine L.val rfl rfl (R.addW rfl rfl 0 rfl) ?_
  refine L.val rfl rfl (R.mv rfl) ?_
  refine L.val rfl rfl (R.shrW rfl rfl (by decide) 0 ((shr32 _).trans (by omega))) ?_
  refine L.val rfl rfl (R.addW rfl rfl 0 rfl) ?_
  refine L.val rfl rfl (R.as rfl) ?_
  refine L.nil ?_
  refine N.seq ?_
  refine G.seq ?_
  refine G.region ?_
  refine L.val rfl rfl (R.mv rfl) ?_
  refine L.val rfl rfl (R.mv rfl) ?_
  refine L.val rfl rfl (R.mulW rfl rfl (x * y) (wrap_u64 (by omega))) ?_
  refine L.val rfl rfl (R.as rfl) ?_
  refine L.nil ?_
  refine N.seq ?_
  refine G.ret2 rfl rfl rfl ?_
  exact ⟨rfl, rfl⟩
theorem mul_ok (x y : Int) (w : World) (hx0 : 0 ≤ x) (hx1 : x ≤ 2147483647) (hy0 : 0 ≤ y) (hy1 : y ≤ 2147483647) : Meets Try.prog 110 [.int .u64 x, .int .u64 y] w (fun v w' => v = .tuple #[.int .u64 0, .int .u64 (x * y)] ∧ w' = w) := by
  refine Meets.enter Try.func110 rfl 30 rfl (Nat.le_of_ble_eq_true rfl) ?_
  refine G.seq ?_
  refine G.region ?_
  refine L.val rfl rfl (R.as rfl) ?_
  refine L.val rfl rfl (R.as rfl) ?_
  refine L.nil ?_
  refine N.seq ?_
  refine G.seq ?_
  refine G.condF rfl ?_
  refine G.skip ?_
  refine N.seq ?_
  refine G.seq ?_
  refine G.region ?_
  refine L.val rfl rfl (R.mv rfl) ?_
  refine L.val rfl rfl (R.mv rfl) ?_
  refine L.callF rfl rfl rfl go121 (mul64_ok _ _ _ hx0 hx1 hy0 hy1) ?_
  rintro _ _ ⟨rfl, hw⟩
  obtain rfl := hw.symm
  refine L.val rfl rfl (R.mv rfl) ?_
  refine L.val rfl rfl (R.ext rfl rfl) ?_
  refine L.val rfl rfl (R.ext rfl rfl) ?_
  refine L.val rfl rfl (R.as rfl) ?_
  refine L.val rfl rfl (R.as rfl) ?_
  refine L.nil ?_
  refine N.seq ?_
  refine G.seq ?_
  refine G.region ?_
  refine L.val rfl rfl (R.mv rfl) ?_
  refine L.val rfl rfl (R.mv rfl) ?_
  refine L.val rfl rfl (R.as rfl) ?_
  refine L.val rfl rfl (R.as rfl) ?_
  refine L.nil ?_
  refine N.seq ?_
  refine G.ret2 rfl rfl rfl ?_
  exact ⟨rfl, rfl⟩

theorem _root_.Brv.cells_rep {cur : Array Value} {p q : Nat} {y : UInt8} (h : cur.toList.take p = vbs (List.replicate p y)) (hq : q ≤ p) (j : Nat) (v : Value) (hj : (vbs (List.replicate q y))[j]? = some v) : cur[0 + j]? = some v := by
  have hlt : j < q := by have := (List.getElem?_eq_some_iff.1 hj).1; simpa [vbs] using this
  have h1 : (vbs (List.replicate p y))[j]? = some v := by rw [vbs_get] at hj ⊢; rw [List.getElem?_replicate, if_pos (by omega)]; rw [List.getElem?_replicate, if_pos hlt] at hj; exact hj
  rw [← h, List.getElem?_take, if_pos (by omega)] at h1
  simpa using h1
theorem brepeat_ok (a : Option Addr) (c : Nat) (x : UInt8) (k : Nat) (w : World) (hb : Bs w a 1 [x]) (hk0 : 1 ≤ k) (hk : k ≤ 8192) : Meets Try.prog 112 [.slice a 1 c, .int .i64 k] w (Cloned w 5 1 k (vbs (List.replicate k x))) := by
  refine Meets.enter Try.func112 rfl 77 rfl (Nat.le_of_ble_eq_true rfl) ?_
  refine G.seq ?_
  refine G.region ?_
  refine L.val rfl rfl (R.as rfl) ?_
  refine L.nil ?_
  refine N.seq ?_
  refine G.seq ?_
  refine G.seq ?_
  refine G.region ?_
  refine L.val rfl rfl (R.mv rfl) ?_
  refine L.val rfl rfl (R.eqI rfl rfl) ?_
  refine L.nil ?_
  refine N.seq ?_
  refine G.condP rfl (fun h0 => ?_) (fun h0 => ?_)
  · exfalso; omega
  · refine G.skip ?_
    refine N.seq ?_
    refine G.seq ?_
    refine G.seq ?_
    refine G.region ?_
    refine L.val rfl rfl (R.mv rfl) ?_
    refine L.val rfl rfl (R.lss rfl rfl) ?_
    refine L.nil ?_
    refine N.seq ?_
    refine G.condP rfl (fun h1 => ?_) (fun h1 => ?_)
    · exfalso; omega
    · have hkn : 0 < k := by omega
      refine G.skip ?_
      refine N.seq ?_
      refine G.seq ?_
      refine G.region ?_
      refine L.val rfl rfl (R.mv rfl) ?_
      refine L.val rfl rfl (R.lenS rfl) ?_
      refine L.val rfl rfl (R.conv rfl 1 rfl) ?_
      refine L.val rfl rfl (R.mv rfl) ?_
      refine L.val rfl rfl (R.conv rfl (k : Int) (wrap_u64 (by omega))) ?_
      refine L.callF rfl rfl rfl go110 (mul_ok 1 (k : Int) _ (by decide) (by decide) (by omega) (by omega)) ?_
      rintro _ w1 ⟨rfl, hw⟩
      obtain rfl := hw.symm
      refine L.val rfl rfl (R.mv rfl) ?_
      refine L.val rfl rfl (R.ext rfl rfl) ?_
      refine L.val rfl rfl (R.ext rfl rfl) ?_
      refine L.val rfl rfl (R.as rfl) ?_
      refine L.val rfl rfl (R.as rfl) ?_
      refine L.nil ?_
      refine N.seq ?_
      refine G.seq ?_
      refine G.seq ?_
      refine G.region ?_
      refine L.val rfl rfl (R.mv rfl) ?_
      refine L.val rfl rfl (R.gtr rfl rfl) ?_
      refine L.val rfl rfl (R.mv rfl) ?_
      refine L.caseP 29 rfl (fun hg6_2 => ?_) (fun hg6_2 => ?_)
      · omega
      · refine L.val rfl rfl (R.mv rfl) ?_
        refine L.val rfl rfl (R.gtr rfl rfl) ?_
        first | refine L.val rfl rfl (R.pickT rfl rfl) ?_ | refine L.val rfl rfl (R.pickF rfl rfl) ?_
        refine L.nil ?_
        refine N.seq ?_
        refine G.condP rfl (fun h2 => ?_) (fun h2 => ?_)
        · omega
        · refine G.skip ?_
          refine N.seq ?_
          refine G.seq ?_
          refine G.region ?_
          refine L.val rfl rfl (R.mv rfl) ?_
          refine L.val rfl rfl (R.conv rfl (k : Int) (by rw [Int.one_mul]; exact wrap_i64 (by omega))) ?_
          refine L.val rfl rfl (R.as rfl) ?_
          refine L.nil ?_
          refine N.seq ?_
          refine G.seq ?_
          refine G.seq ?_
          refine G.region ?_
          refine L.val rfl rfl (R.mv rfl) ?_
          refine L.val rfl rfl (R.lenS rfl) ?_
          refine L.val rfl rfl (R.eqI rfl rfl) ?_
          refine L.nil ?_
          refine N.seq ?_
          refine G.condP rfl (fun h3 => ?_) (fun h3 => ?_)
          · omega
          · refine G.skip ?_
            refine N.seq ?_
            refine G.seq ?_
            refine G.region ?_
            refine L.val rfl rfl (R.mv rfl) ?_
            refine L.val rfl rfl (R.as rfl) ?_
            refine L.nil ?_
            refine N.seq ?_
            refine G.seq ?_
            refine G.seq ?_
            refine G.region ?_
            refine L.val rfl rfl (R.mv rfl) ?_
            refine L.val rfl rfl (R.gtr rfl rfl) ?_
            refine L.nil ?_
            refine N.seq ?_
            refine G.condP rfl (fun h4 => ?_) (fun h4 => ?_)
            · exfalso; omega
            · refine G.skip ?_
              refine N.seq ?_
              refine G.seq ?_
              refine G.region ?_
              refine L.val rfl rfl (R.mv rfl) ?_
              refine L.do rfl rfl (R.noZero Try.func122 (by decide) rfl rfl rfl rfl (by omega) (by omega)) ?_
              rintro _ w2 ⟨b54, cs, rfl, hb54, hs54, e2, B54, hk1, hk2⟩
              refine L.val rfl rfl (R.mv rfl) ?_
              refine L.val rfl rfl (R.mv rfl) ?_
              refine L.val rfl rfl (R.slHM rfl rfl rfl (by omega) (by omega) (by omega)) ?_
              refine L.be 57 rfl (show Value.slice (subA (some ⟨b54, 0, none⟩) 0 (k : Int).toNat 1) (k : Int).toNat (k : Int).toNat = .slice (some ⟨b54, 0, none⟩) k k by rw [subA_zero, Int.toNat_natCast]) ?_
              refine L.val rfl rfl (R.as rfl) ?_
              refine L.nil ?_
              refine N.seq ?_
              refine G.seq ?_
              refine G.region ?_
              obtain ⟨pa, rfl, hpc⟩ := hb.at 0 (by simp)
              have hc1 : Cells w2 (some pa) (vbs [x]) := hb.cells.ext0 e2
              refine L.val rfl rfl (R.mv rfl) ?_
              refine L.val rfl rfl (R.mv rfl) ?_
              refine L.do rfl rfl (R.copyB rfl rfl B54 hc1 (show (vbs [x]).length = Nat.min 1 k from (Nat.min_eq_left hk0).symm) (by simp [vbs]; omega) (vbs_one _)) ?_
              rintro _ w3 ⟨rfl, P3⟩
              obtain ⟨e3, hs3, B3⟩ := P3
              have hsz3 := Over.size (cur := cs) (o := 0) (cs := vbs [x]) (by simp [vbs]; omega)
              have ht3 := Over.take (cur := cs) (o := 0) (cs := vbs [x]) (Nat.zero_le _)
              refine L.val rfl rfl (R.as rfl) ?_
              refine L.nil ?_
              refine N.seq ?_
              refine G.seq ?_
              refine G.block ?_
              have hy : ∃ y, y = x := ⟨x, rfl⟩
              obtain ⟨y, hyx⟩ := hy
              subst hyx
              refine G.loop (X := Nat × Array Value) (fun x => [(7, .int .i64 k), (8, .int .i64 k), (9, .slice (some ⟨b54, 0, none⟩) k k), (10, .int .i64 (x.1 : Int))]) (fun x w' => 1 ≤ x.1 ∧ x.1 ≤ k ∧ k ≤ x.2.size ∧ x.2.size ≤ maxLen ∧ Blk w' b54 x.2 5 (0, 0) ∧ x.2.toList.take x.1 = vbs (List.replicate x.1 y) ∧ Ext [] w w') (fun x => k - x.1) ((1, Over cs 0 (vbs [y]))) (Sub.cons rfl (Sub.cons rfl (Sub.cons rfl (Sub.cons rfl (Sub.nil _))))) ⟨Nat.le_refl 1, by omega, by rw [hsz3]; omega, by rw [hsz3]; omega, B3, by simpa [vbs] using ht3, e2.trans e3 (by simp) (by simp; omega)⟩ ?_
              rintro ⟨p, cur⟩ w4 ⟨hp1, hp2, hz1, hz2, B4, ht4, e4⟩
              dsimp only at hp1 hp2 hz1 hz2 B4 ht4
              refine G.seq ?_
              refine G.seq ?_
              refine G.region ?_
              refine L.val rfl rfl (R.mv rfl) ?_
              refine L.val rfl rfl (R.mv rfl) ?_
              refine L.val rfl rfl (R.lss rfl rfl) ?_
              refine L.nil ?_
              refine N.seq ?_
              refine G.condP rfl (fun h6 => ?_) (fun h6 => ?_)
              · have hpk : p < k := by omega
                have hmn : (vbs (List.replicate (min p (k - p)) y)).length = min p (k - p) := by simp [vbs]
                have hov : p + (vbs (List.replicate (min p (k - p)) y)).length ≤ cur.size := by rw [hmn]; omega
                refine G.skip ?_
                refine N.seq ?_
                refine G.block ?_
                refine G.seq ?_
                refine G.region ?_
                refine L.val rfl rfl (R.mv rfl) ?_
                refine L.val rfl rfl (R.mv rfl) ?_
                refine L.val rfl rfl (R.min rfl rfl (p : Int) (by rw [if_neg (by omega)])) ?_
                refine L.val rfl rfl (R.as rfl) ?_
                refine L.nil ?_
                refine N.seq ?_
                refine G.staged [7] [.blocks ([b54])] [fun w' => Ext [] w4 w', fun w' => Ext [b54] w4 w' ∧ Blk w' b54 (Over cur p (vbs (List.replicate (min p (k - p)) y))) 5 (0, 0)] [] (by decide +kernel) (by decide +kernel) rfl rfl rfl (fun _ h => h) ?_
                refine Z.val rfl rfl rfl rfl rfl (fun w5 => R.mv rfl) ?_
                refine Z.val rfl rfl rfl rfl rfl (fun w5 => R.mv rfl) ?_
                refine Z.val rfl rfl rfl rfl rfl (fun w5 => R.mv rfl) ?_
                refine Z.val rfl rfl rfl rfl rfl (fun w5 => R.slL rfl rfl (by omega) (by omega)) ?_
                refine Z.be 70 rfl (show Value.slice (subA (some ⟨b54, 0, none⟩) (p : Int).toNat k 1) (k - (p : Int).toNat) (k - (p : Int).toNat) = .slice (some ⟨b54, p, none⟩) (k - p) (k - p) by rw [Int.toNat_natCast, subA_lit (by omega), Nat.zero_add, Nat.mul_one]) ?_
                refine Z.val rfl rfl rfl rfl rfl (fun w5 => R.mv rfl) ?_
                refine Z.val rfl rfl rfl rfl rfl (fun w5 => R.mv rfl) ?_
                refine Z.val rfl rfl rfl rfl rfl (fun w5 => R.slH rfl rfl (by omega) (by omega)) ?_
                refine Z.be 73 rfl (show Value.slice (subA (some ⟨b54, 0, none⟩) 0 k 1) (p : Int).toNat k = .slice (some ⟨b54, 0, none⟩) p k by rw [subA_zero, Int.toNat_natCast]) ?_
                refine Z.put (A := fun v _ => v = .int .i64 ((min p (k - p) : Nat) : Int)) (Lasts.kill (fun _ _ _ _ h => h) (by decide +kernel)) 0 (by decide +kernel) rfl rfl rfl rfl rfl rfl rfl (fun w5 hJ => (R.copyB rfl rfl (B4.ext0 hJ) (Cells.of_blk (B4.ext0 hJ) 0 _ (fun j v hj => cells_rep ht4 (Nat.min_le_left _ _) j v hj)) (by rw [hmn]) hov (vbs_one _)).mono (fun v w' h => by obtain ⟨rfl, h1, h2, h3⟩ := h; rw [hmn]; exact ⟨rfl, h1, h1.after hJ, h3⟩)) ?_
                refine Z.valR (A := fun v _ => v = .int .i64 ((p : Int) + ((min p (k - p) : Nat) : Int))) (Lasts.kill (fun _ _ _ _ h => h) (by decide +kernel)) rfl rfl rfl rfl (fun w5 => by rintro _ rfl; exact ⟨_, R.add rfl rfl (by omega), rfl⟩) ?_
                refine Z.valR (A := fun v _ => v = .int .i64 ((p + min p (k - p) : Nat) : Int)) (Lasts.kill (fun _ _ _ _ h => h) (by decide +kernel)) rfl rfl rfl rfl (fun w5 => by rintro _ rfl; exact ⟨_, R.as rfl, by simp⟩) ?_
                refine Z.nil rfl rfl (fun w5 hJ => ?_)
                obtain ⟨e6, B6⟩ := hJ
                rintro _ rfl _ _ _ _
                have hE6 : Ext [] w w5 := e4.trans e6 (by simp) (by simp; omega)
                have hto := Over.take (cur := cur) (o := p) (cs := vbs (List.replicate (min p (k - p)) y)) (by omega)
                rw [hmn, ht4, ← vbs_append, List.replicate_append_replicate] at hto
                refine N.block ?_
                exact N.again (p + min p (k - p), Over cur p (vbs (List.replicate (min p (k - p)) y))) (by show k - (p + min p (k - p)) < k - p; omega) (Sub.cons rfl (Sub.cons rfl (Sub.cons rfl (Sub.cons rfl (Sub.nil _))))) ⟨by show 1 ≤ p + min p (k - p); omega, by show p + min p (k - p) ≤ k; omega, by show k ≤ (Over cur p _).size; rw [Over.size hov]; exact hz1, by show (Over cur p _).size ≤ maxLen; rw [Over.size hov]; exact hz2, B6, hto, hE6⟩
              · have hpk : p = k := by omega
                subst hpk
                refine G.exit _ rfl ?_
                refine N.seq ?_
                refine G.seq ?_
                refine G.region ?_
                refine L.val rfl rfl (R.mv rfl) ?_
                refine L.val rfl rfl (R.as rfl) ?_
                refine L.nil ?_
                refine N.seq ?_
                refine G.ret1 rfl rfl ?_
                exact ⟨_, _, [b54], rfl, e4, ⟨by simp [vbs], .inr ⟨b54, cur, rfl, rfl, B4, Nat.le_refl _, by omega, by omega, by simpa using ht4⟩⟩, by intro g hg; rw [List.mem_singleton.1 hg]; omega⟩

end Go.Proofs.Ytjmlcodlnohgdaa
