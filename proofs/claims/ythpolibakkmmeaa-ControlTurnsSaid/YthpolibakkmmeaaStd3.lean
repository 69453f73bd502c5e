/-
  Functions of the library, at slices of pointers.
-/
import Derived.Test.YthpolibakkmmeaaTy2
import Derived.Test.YthpolibakkmmeaaStd2
set_option linter.unusedVariables false
namespace Go.Proofs.Ythpolibakkmmeaa
open Go Brv
theorem prepeat_ok (a : Option Addr) (c : Nat) (x : Value) (k : Nat) (w : World) (hb : Cells w a [x]) (hone : x.oneCell' = true) (hk0 : 1 ≤ k) (hk : k ≤ 8192) : Meets Try.prog 159 [.slice a 1 c, .int .i64 k] w (Cloned w 167 1 k (List.replicate k x)) := by
  refine Meets.enter Try.func159 rfl 48 rfl (Nat.le_of_ble_eq_true rfl) ?_
  refine G.seq ?_
  refine G.region ?_
  refine L.val rfl rfl (R.as rfl) ?_
  refine L.nil ?_
  refine N.seq ?_
  refine G.seq ?_
  refine G.seq ?_
  refine G.region ?_
  refine L.val rfl rfl (R.mv rfl) ?_
  refine L.val rfl rfl (R.lss rfl rfl) ?_
  refine L.nil ?_
  refine N.seq ?_
  refine G.condP rfl (fun h0 => ?_) (fun h0 => ?_)
  · exfalso; omega
  · refine G.skip ?_
    refine N.seq ?_
    refine G.seq ?_
    refine G.region ?_
    refine L.val rfl rfl (R.mv rfl) ?_
    refine L.val rfl rfl (R.lenS rfl) ?_
    refine L.val rfl rfl (R.conv rfl 1 rfl) ?_
    refine L.val rfl rfl (R.mv rfl) ?_
    refine L.val rfl rfl (R.conv rfl (k : Int) (wrap_u64 (by omega))) ?_
    refine L.callF rfl rfl rfl go209 (mul_ok 1 (k : Int) _ (by decide) (by decide) (by omega) (by omega)) ?_
    rintro _ w1 ⟨rfl, hw⟩
    obtain rfl := hw.symm
    refine L.val rfl rfl (R.mv rfl) ?_
    refine L.val rfl rfl (R.ext rfl rfl) ?_
    refine L.val rfl rfl (R.ext rfl rfl) ?_
    refine L.val rfl rfl (R.as rfl) ?_
    refine L.val rfl rfl (R.as rfl) ?_
    refine L.nil ?_
    refine N.seq ?_
    refine G.seq ?_
    refine G.seq ?_
    refine G.region ?_
    refine L.val rfl rfl (R.mv rfl) ?_
    refine L.val rfl rfl (R.gtr rfl rfl) ?_
    refine L.val rfl rfl (R.mv rfl) ?_
    refine L.caseP 23 rfl (fun hg4_2 => ?_) (fun hg4_2 => ?_)
    · omega
    · refine L.val rfl rfl (R.mv rfl) ?_
      refine L.val rfl rfl (R.gtr rfl rfl) ?_
      first | refine L.val rfl rfl (R.pickT rfl rfl) ?_ | refine L.val rfl rfl (R.pickF rfl rfl) ?_
      refine L.nil ?_
      refine N.seq ?_
      refine G.condP rfl (fun h1 => ?_) (fun h1 => ?_)
      · omega
      · refine G.skip ?_
        refine N.seq ?_
        refine G.seq ?_
        refine G.region ?_
        refine L.val rfl rfl (R.mv rfl) ?_
        refine L.val rfl rfl (R.conv rfl (k : Int) (by rw [Int.one_mul]; exact wrap_i64 (by omega))) ?_
        refine L.do rfl rfl (R.make rfl rfl (by omega) (by omega) (by omega) (by omega)) ?_
        rintro _ w2 ⟨b30, rfl, hb30, hs30, e2, B30⟩
        obtain ⟨cs, hcs⟩ : ∃ cs, cs = madeCells (Value.pointer none).cells ((k : Int).toNat * 1) := ⟨_, rfl⟩
        have hsz : cs.size = k := by rw [hcs]; simp [madeCells, Value.cells]
        replace B30 : Blk w2 b30 cs 167 (0, 0) := by rw [hcs]; exact B30
        refine L.be 30 rfl (show _ = Value.slice (some ⟨b30, 0, none⟩) k k by rfl) ?_
        refine L.val rfl rfl (R.as rfl) ?_
        refine L.nil ?_
        refine N.seq ?_
        refine G.seq ?_
        refine G.region ?_
        obtain ⟨pa, rfl, _⟩ := hb 0 x rfl
        have hc1 : Cells w2 (some pa) [x] := hb.ext0 e2
        refine L.val rfl rfl (R.mv rfl) ?_
        refine L.val rfl rfl (R.mv rfl) ?_
        refine L.do rfl rfl (R.copyB rfl rfl B30 hc1 (show [x].length = Nat.min 1 k from (Nat.min_eq_left hk0).symm) (by simp; omega) (by simpa using hone)) ?_
        rintro _ w3 ⟨rfl, P3⟩
        obtain ⟨e3, hs3, B3⟩ := P3
        have hsz3 := Over.size (cur := cs) (o := 0) (cs := [x]) (by simp; omega)
        have ht3 := Over.take (cur := cs) (o := 0) (cs := [x]) (Nat.zero_le _)
        refine L.val rfl rfl (R.as rfl) ?_
        refine L.nil ?_
        refine N.seq ?_
        refine G.seq ?_
        refine G.block ?_
        obtain ⟨y, hyx⟩ : ∃ y, y = x := ⟨x, rfl⟩
        subst hyx
        refine G.loop (X := Nat × Array Value) (fun x => [(7, .slice (some ⟨b30, 0, none⟩) k k), (8, .int .i64 (x.1 : Int))]) (fun x w' => 1 ≤ x.1 ∧ x.1 ≤ k ∧ x.2.size = k ∧ Blk w' b30 x.2 167 (0, 0) ∧ x.2.toList.take x.1 = List.replicate x.1 y ∧ Ext [] w w') (fun x => k - x.1) ((1, Over cs 0 [y])) (Sub.cons rfl (Sub.cons rfl (Sub.nil _))) ⟨Nat.le_refl 1, by omega, by rw [hsz3]; exact hsz, B3, by simpa using ht3, e2.trans e3 (by simp) (by simp; omega)⟩ ?_
        rintro ⟨p, cur⟩ w4 ⟨hp1, hp2, hz1, B4, ht4, e4⟩
        dsimp only at hp1 hp2 hz1 B4 ht4
        refine G.seq ?_
        refine G.seq ?_
        refine G.region ?_
        refine L.val rfl rfl (R.mv rfl) ?_
        refine L.val rfl rfl (R.mv rfl) ?_
        refine L.val rfl rfl (R.lenS rfl) ?_
        refine L.val rfl rfl (R.lss rfl rfl) ?_
        refine L.nil ?_
        refine N.seq ?_
        refine G.condP rfl (fun h2 => ?_) (fun h2 => ?_)
        · have hpk : p < k := by omega
          have hmn : (List.replicate (min p (k - p)) y).length = min p (k - p) := by simp
          have hov : p + (List.replicate (min p (k - p)) y).length ≤ cur.size := by rw [hmn]; omega
          refine G.skip ?_
          refine N.seq ?_
          refine G.block ?_
          refine G.staged [7] [.blocks ([b30])] [fun w' => Ext [] w4 w', fun w' => Ext [b30] w4 w' ∧ Blk w' b30 (Over cur p (List.replicate (min p (k - p)) y)) 167 (0, 0)] [] (by decide +kernel) (by decide +kernel) rfl rfl rfl (fun _ h => h) ?_
          refine Z.val rfl rfl rfl rfl rfl (fun w5 => R.mv rfl) ?_
          refine Z.val rfl rfl rfl rfl rfl (fun w5 => R.mv rfl) ?_
          refine Z.val rfl rfl rfl rfl rfl (fun w5 => R.mv rfl) ?_
          refine Z.val rfl rfl rfl rfl rfl (fun w5 => R.slL rfl rfl (by omega) (by omega)) ?_
          refine Z.be 41 rfl (show Value.slice (subA (some ⟨b30, 0, none⟩) (p : Int).toNat k 1) (k - (p : Int).toNat) (k - (p : Int).toNat) = .slice (some ⟨b30, p, none⟩) (k - p) (k - p) by rw [Int.toNat_natCast, subA_lit (by omega), Nat.zero_add, Nat.mul_one]) ?_
          refine Z.val rfl rfl rfl rfl rfl (fun w5 => R.mv rfl) ?_
          refine Z.val rfl rfl rfl rfl rfl (fun w5 => R.mv rfl) ?_
          refine Z.val rfl rfl rfl rfl rfl (fun w5 => R.slH rfl rfl (by omega) (by omega)) ?_
          refine Z.be 44 rfl (show Value.slice (subA (some ⟨b30, 0, none⟩) 0 k 1) (p : Int).toNat k = .slice (some ⟨b30, 0, none⟩) p k by rw [subA_zero, Int.toNat_natCast]) ?_
          refine Z.put (A := fun v _ => v = .int .i64 ((min p (k - p) : Nat) : Int)) (Lasts.kill (fun _ _ _ _ h => h) (by decide +kernel)) 0 (by decide +kernel) rfl rfl rfl rfl rfl rfl rfl (fun w5 hJ => (R.copyB rfl rfl (B4.ext0 hJ) (Cells.of_blk (B4.ext0 hJ) 0 _ (fun j v hj => cells_repV ht4 (Nat.min_le_left _ _) j v hj)) (by rw [hmn]) hov (fun u hu => by rw [(List.mem_replicate.1 hu).2]; exact hone)).mono (fun v w' h => by obtain ⟨rfl, h1, h2, h3⟩ := h; rw [hmn]; exact ⟨rfl, h1, h1.after hJ, h3⟩)) ?_
          refine Z.valR (A := fun v _ => v = .int .i64 ((p : Int) + ((min p (k - p) : Nat) : Int))) (Lasts.kill (fun _ _ _ _ h => h) (by decide +kernel)) rfl rfl rfl rfl (fun w5 => by rintro _ rfl; exact ⟨_, R.add rfl rfl (by omega), rfl⟩) ?_
          refine Z.valR (A := fun v _ => v = .int .i64 ((p + min p (k - p) : Nat) : Int)) (Lasts.kill (fun _ _ _ _ h => h) (by decide +kernel)) rfl rfl rfl rfl (fun w5 => by rintro _ rfl; exact ⟨_, R.as rfl, by simp⟩) ?_
          refine Z.nil rfl rfl (fun w5 hJ => ?_)
          obtain ⟨e6, B6⟩ := hJ
          rintro _ rfl _ _ _ _
          have hE6 : Ext [] w w5 := e4.trans e6 (by simp) (by simp; omega)
          have hto := Over.take (cur := cur) (o := p) (cs := (List.replicate (min p (k - p)) y)) (by omega)
          rw [hmn, ht4, List.replicate_append_replicate] at hto
          refine N.block ?_
          exact N.again (p + min p (k - p), Over cur p (List.replicate (min p (k - p)) y)) (by show k - (p + min p (k - p)) < k - p; omega) (Sub.cons rfl (Sub.cons rfl (Sub.nil _))) ⟨by show 1 ≤ p + min p (k - p); omega, by show p + min p (k - p) ≤ k; omega, by show (Over cur p _).size = k; rw [Over.size hov]; exact hz1, B6, hto, hE6⟩
        · have hpk : p = k := by omega
          subst hpk
          refine G.exit _ rfl ?_
          refine N.seq ?_
          refine G.seq ?_
          refine G.region ?_
          refine L.val rfl rfl (R.mv rfl) ?_
          refine L.val rfl rfl (R.as rfl) ?_
          refine L.nil ?_
          refine N.seq ?_
          refine G.ret1 rfl rfl ?_
          exact ⟨_, _, [b30], rfl, e4, ⟨by simp, .inr ⟨b30, cur, rfl, rfl, B4, Nat.le_refl _, by simp [maxLen]; omega, by omega, by simpa using ht4⟩⟩, by intro g hg; rw [List.mem_singleton.1 hg]; omega⟩

end Go.Proofs.Ythpolibakkmmeaa
