/-
  The walks of package dev.
-/
import Derived.Test.YthpolibakkmmeaaDev3
set_option linter.unusedVariables false
set_option linter.unusedSimpArgs false
namespace Go.Proofs.Ythpolibakkmmeaa
open Go Brv Brv.Image Brv.Dev
theorem dread_ok (d : Nat) (v : DevV) (sz : Nat) (S : List Nat) (p n : Int) (w : World) (hd : DevAt w d v sz S) (hwb : v.wt.length ≤ 1000000) : Meets Try.prog 147 [.pointer (some ⟨d, 0, none⟩), .int .i64 p, .int .i64 n] w (fun r w' => ∃ a c M, r = .tuple #[.slice a (readV v sz p n).1.length c, .int .i64 (readV v sz p n).2] ∧ Ext [] w w' ∧ Own w' 5 1 a (readV v sz p n).1.length c (vbs (readV v sz p n).1) M ∧ ∀ g ∈ M, w.heap.size ≤ g) := by
  refine Meets.enter Try.func147 rfl 67 rfl (Nat.le_of_ble_eq_true rfl) ?_
  have E := Ext.refl [] w
  have hd0 := hd
  obtain ⟨sa, sc, wa, wc, Ms, Mw, D, rfl⟩ := hd
  have hl := D.wf.len
  have hsN := D.hN
  refine G.seq ?_
  refine G.region ?_
  refine L.val rfl rfl (R.as rfl) ?_
  refine L.val rfl rfl (R.as rfl) ?_
  refine L.nil ?_
  refine N.seq ?_
  refine G.seq ?_
  refine G.seq ?_
  refine G.region ?_
  refine L.val rfl rfl (R.mv rfl) ?_
  refine L.callF rfl rfl rfl go199 (dable_ok d v sz _ _ hd0) ?_
  rintro _ _ ⟨rfl, hw⟩
  obtain rfl := hw.symm
  refine L.val rfl rfl (R.as rfl) ?_
  refine L.nil ?_
  refine N.seq ?_
  refine G.seq ?_
  by_cases ho : v.off = true
  · rw [if_pos ho]
    have hf : readV v sz p n = ([], 10) := if_pos ho
    refine G.region ?_
    refine L.val rfl rfl (R.mv rfl) ?_
    refine L.val rfl rfl (R.neI rfl rfl) ?_
    refine L.nil ?_
    refine N.seq ?_
    refine G.condT rfl ?_
    refine G.seq ?_
    refine G.region ?_
    refine L.val rfl rfl (R.mv rfl) ?_
    refine L.val rfl rfl (R.as rfl) ?_
    refine L.val rfl rfl (R.as rfl) ?_
    refine L.nil ?_
    refine N.seq ?_
    refine G.ret2 rfl rfl rfl ?_
    first
      | (rw [hf]; exact ⟨none, 0, [], rfl, E, Own.nil _ _ _, by simp⟩)
      | (rw [hf]; dsimp only; rw [hwl]; exact ⟨a9, c9, M9, rfl, E, o9, hM9⟩)
  · rw [if_neg ho]
    refine G.region ?_
    refine L.val rfl rfl (R.mv rfl) ?_
    refine L.val rfl rfl (R.neI rfl rfl) ?_
    refine L.nil ?_
    refine N.seq ?_
    refine G.condF rfl ?_
    refine G.skip ?_
    refine N.seq ?_
    refine G.seq ?_
    refine G.seq ?_
    refine G.region ?_
    refine L.val rfl rfl (R.mv rfl) ?_
    refine L.val rfl rfl (R.mv rfl) ?_
    refine L.val rfl rfl (R.mv rfl) ?_
    refine L.callF rfl rfl rfl go200 (dthere_ok d v sz _ p n _ hd0) ?_
    rintro _ _ ⟨rfl, hw⟩
    obtain rfl := hw.symm
    refine L.val rfl rfl (R.not rfl) ?_
    refine L.be 21 rfl (show _ = Value.bool (decide (¬ thereP sz p n)) by simp) ?_
    refine L.nil ?_
    refine N.seq ?_
    refine G.condP rfl (fun h1 => ?_) (fun h1 => ?_)
    · have hf : readV v sz p n = ([], 11) := by unfold readV; rw [if_neg ho, if_neg h1]
      refine G.seq ?_
      refine G.region ?_
      refine L.val rfl rfl (R.as rfl) ?_
      refine L.val rfl rfl (R.as rfl) ?_
      refine L.nil ?_
      refine N.seq ?_
      refine G.ret2 rfl rfl rfl ?_
      first
        | (rw [hf]; exact ⟨none, 0, [], rfl, E, Own.nil _ _ _, by simp⟩)
        | (rw [hf]; dsimp only; rw [hwl]; exact ⟨a9, c9, M9, rfl, E, o9, hM9⟩)
    · have ht : thereP sz p n := Classical.not_not.1 h1
      have ht2 := ht
      unfold thereP at ht2
      obtain ⟨i, rfl⟩ := Int.eq_ofNat_of_zero_le ht2.1
      obtain ⟨m, rfl⟩ := Int.eq_ofNat_of_zero_le ht2.2.1
      have him : i + m ≤ sz := by omega
      have hf : readV v sz (i : Int) (m : Int) = (win (laidAll v.stay v.wt) i m, 0) := by unfold readV; rw [if_neg ho, if_pos ht]; rfl
      have hbs : Bs w (subA sa (64 * i) sc 1) (64 * m) (win v.stay i m) := (Bs.of_own D.st).sub (64 * i) sc (64 * m) (by omega) (by have := D.st.le; omega)
      refine G.skip ?_
      refine N.seq ?_
      refine G.seq ?_
      refine G.region ?_
      refine L.val rfl rfl (R.mv rfl) ?_
      refine L.val rfl rfl (R.nilChk rfl) ?_
      refine L.val rfl rfl (R.fld rfl) ?_
      refine L.val rfl rfl (R.ldB rfl D.hd rfl) ?_
      refine L.val rfl rfl (R.mv rfl) ?_
      refine L.val rfl rfl (R.mul rfl rfl (by omega)) ?_
      refine L.val rfl rfl (R.mv rfl) ?_
      refine L.val rfl rfl (R.mv rfl) ?_
      refine L.val rfl rfl (R.add rfl rfl (by omega)) ?_
      refine L.val rfl rfl (R.mul rfl rfl (by omega)) ?_
      refine L.val rfl rfl (R.slLH rfl rfl rfl (by omega) (by omega) (by have := D.st.le; omega)) ?_
      refine L.be 32 rfl (show _ = Value.slice (subA sa (64 * i) sc 1) (64 * m) (sc - 64 * i) by rw [show ((i : Int) * 64).toNat = 64 * i by omega, show (((i : Int) + (m : Int)) * 64).toNat - 64 * i = 64 * m by omega]) ?_
      refine L.callF rfl rfl rfl go143 (clone_ok _ _ _ _ _ hbs (by omega)) ?_
      rintro _ w1 ⟨a9, c9, M9, rfl, e1, o9, hM9⟩
      replace E := E.trans0 e1
      refine L.val rfl rfl (R.as rfl) ?_
      refine L.nil ?_
      refine N.seq ?_
      refine G.seq ?_
      refine G.seq ?_
      refine G.region ?_
      refine L.val rfl rfl (R.mv rfl) ?_
      refine L.val rfl rfl (R.nilChk rfl) ?_
      refine L.val rfl rfl (R.fld rfl) ?_
      refine L.val rfl rfl (R.ldB rfl (D.hd.ext0 E) rfl) ?_
      refine L.val rfl rfl (R.lenS rfl) ?_
      refine L.val rfl rfl (R.mv rfl) ?_
      refine L.nil ?_
      refine N.seq ?_
      refine G.block ?_
      refine G.loop (X := Nat) (fun k => [(0, .pointer (some ⟨d, 0, none⟩)), (1, .int .i64 (i : Int)), (2, .int .i64 (m : Int)), (9, .slice a9 (64 * m) c9), (37, .slice wa v.wt.length wc), (38, .int .i64 (v.wt.length : Int)), (39, .int .i64 (k : Int))]) (fun k w' => k ≤ v.wt.length ∧ Ext [] w w' ∧ Own w' 5 1 a9 (64 * m) c9 (vbs ((v.wt.take k).foldl (rd1 i m) (win v.stay i m))) M9) (fun k => v.wt.length - k) (0) (Sub.cons rfl (Sub.cons rfl (Sub.cons rfl (Sub.cons rfl (Sub.cons rfl (Sub.cons rfl (Sub.cons rfl (Sub.nil _)))))))) ⟨Nat.zero_le _, E, o9⟩ ?_
      rintro k w2 ⟨hk, E, o9⟩
      have D2 := D.ext0 E
      refine G.seq ?_
      refine G.region ?_
      refine L.val rfl rfl (R.lss rfl rfl) ?_
      refine L.nil ?_
      refine N.seq ?_
      refine G.seq ?_
      refine G.condP rfl (fun h2 => ?_) (fun h2 => ?_)
      · have hk2 : k < v.wt.length := by omega
        obtain ⟨x, hx⟩ : ∃ x, v.wt[k]? = some x := ⟨_, List.getElem?_eq_getElem hk2⟩
        obtain ⟨q9, hq9, hcl, hxs, hx64⟩ := D2.elem (x := x) hx
        have hfo : ((v.wt.take (k + 1)).foldl (rd1 i m) (win v.stay i m)) = rd1 i m ((v.wt.take k).foldl (rd1 i m) (win v.stay i m)) x := by rw [List.take_add_one, hx]; simp [List.foldl_append]
        have hfl : ((v.wt.take k).foldl (rd1 i m) (win v.stay i m)).length = 64 * m := rd_length (win_length hl him) (fun y hy => (D.wf.wt y (List.mem_of_mem_take hy)).2)
        have hvs : (vbs x.2).length = 64 := by rw [vbs_length, hx64]
        refine G.skip ?_
        refine N.seq ?_
        refine G.seq ?_
        refine G.block ?_
        refine G.seq ?_
        refine G.region ?_
        refine L.val rfl rfl (R.idx rfl rfl (by omega) (by omega) q9 hq9) ?_
        refine L.val rfl rfl (R.ldN rfl hcl (waitC_length hx64)) ?_
        refine L.do rfl rfl (R.alloc) ?_
        rintro _ w3 ⟨b11, rfl, hb11, hs3, e3, B11⟩
        refine L.set rfl (R.stN rfl rfl B11 (by rw [List.size_toArray, waitC_length hx64]) (by rw [List.size_toArray, waitC_length hx64]; exact Nat.le_refl 65) (waitC_one x)) ?_
        rintro w4 ⟨e4, hs4, B11⟩
        rw [all_stored (Eq.trans (by rfl : _ = 65) (by rw [List.size_toArray, waitC_length hx64]))] at B11
        have n4 := e3.news2 e4 (by omega)
        replace o9 := o9.ext0 n4
        replace E := E.trans0 n4
        refine L.nil ?_
        refine N.seq ?_
        refine G.seq ?_
        refine G.region ?_
        refine L.val rfl rfl (R.fld rfl) ?_
        refine L.val rfl rfl (R.ldB rfl B11 rfl) ?_
        refine L.be 44 rfl (show _ = Value.int .i64 (x.1 : Int) from rfl) ?_
        refine L.val rfl rfl (R.mv rfl) ?_
        refine L.val rfl rfl (R.geq rfl rfl) ?_
        refine L.val rfl rfl (R.mv rfl) ?_
        refine L.caseP 47 rfl (fun hg10_4 => ?_) (fun hg10_4 => ?_)
        · refine L.val rfl rfl (R.fld rfl) ?_
          refine L.val rfl rfl (R.ldB rfl B11 rfl) ?_
          refine L.be 49 rfl (show _ = Value.int .i64 (x.1 : Int) from rfl) ?_
          refine L.val rfl rfl (R.mv rfl) ?_
          refine L.val rfl rfl (R.mv rfl) ?_
          refine L.val rfl rfl (R.add rfl rfl (by omega)) ?_
          refine L.val rfl rfl (R.lss rfl rfl) ?_
          first | refine L.val rfl rfl (R.pickT rfl rfl) ?_ | refine L.val rfl rfl (R.pickF rfl rfl) ?_
          refine L.nil ?_
          refine N.seq ?_
          refine G.condP rfl (fun h3 => ?_) (fun h3 => ?_)
          · have hin : i ≤ x.1 ∧ x.1 < i + m := by omega
            obtain ⟨g7, cur7, rfl, rfl, B7, hz7, hO7⟩ := o9.over (o := (64 * (x.1 - i))) (cs := vbs x.2) (by rw [hvs]; omega) (by omega)
            have hg7 := hM9 g7 (by simp)
            refine G.staged [9] [.blocks ([g7])] [fun w' => Ext [] w4 w', fun w' => Ext [g7] w4 w' ∧ Blk w' g7 (Over cur7 (64 * (x.1 - i)) (vbs x.2)) 5 (0, 0)] [] (by decide +kernel) (by decide +kernel) rfl rfl rfl (fun _ h => h) ?_
            refine Z.val rfl rfl rfl rfl rfl (fun w5 => R.mv rfl) ?_
            refine Z.val rfl rfl rfl rfl rfl (fun w5 => R.fld rfl) ?_
            refine Z.read 0 (by decide +kernel) rfl rfl rfl rfl rfl rfl (fun w5 hJ => R.ldB rfl (B11.ext0 hJ) rfl) ?_
            refine Z.be 57 rfl (show _ = Value.int .i64 (x.1 : Int) from rfl) ?_
            refine Z.val rfl rfl rfl rfl rfl (fun w5 => R.mv rfl) ?_
            refine Z.val rfl rfl rfl rfl rfl (fun w5 => R.sub' rfl rfl (by omega)) ?_
            refine Z.val rfl rfl rfl rfl rfl (fun w5 => R.mul rfl rfl (by omega)) ?_
            refine Z.val rfl rfl rfl rfl rfl (fun w5 => R.slL rfl rfl (by omega) (by omega)) ?_
            refine Z.be 61 rfl (show _ = Value.slice (some ⟨g7, (64 * (x.1 - i)), none⟩) (64 * m - (64 * (x.1 - i))) (c9 - (64 * (x.1 - i))) by rw [show (((x.1 : Int) - (i : Int)) * 64).toNat = (64 * (x.1 - i)) by omega, subA_lit (by have := o9.le; omega), Nat.zero_add, Nat.mul_one]) ?_
            refine Z.val rfl rfl rfl rfl rfl (fun w5 => R.fld rfl) ?_
            refine Z.val rfl rfl rfl rfl rfl (fun w5 => R.slA rfl) ?_
            refine Z.put (A := fun v _ => v = .int .i64 64) (Lasts.kill (fun _ _ _ _ h => h) (by decide +kernel)) 0 (by decide +kernel) rfl rfl rfl rfl rfl rfl rfl (fun w5 hJ => (R.copyB rfl rfl (B7.ext0 hJ) (Cells.of_blk (B11.ext0 hJ) 1 (vbs x.2) (fun j v hj => by rw [Nat.add_comm]; simpa [waitC] using hj)) (by rw [hvs]; exact (Nat.min_eq_left (by omega)).symm) hz7 (vbs_one _)).mono (fun v w' h => by obtain ⟨rfl, h1, h2, h3⟩ := h; rw [hvs]; exact ⟨rfl, h1, h1.after hJ, h3⟩)) ?_
            refine Z.nil rfl rfl (fun w5 hJ => ?_)
            obtain ⟨e12, B7⟩ := hJ
            rintro _ _
            replace o9 := hO7 _ B7
            have hE4 := E.size
            replace E := E.news2 e12 (by have := e1.size; omega)
            rw [show List.take (64 * (x.1 - i)) (vbs ((v.wt.take k).foldl (rd1 i m) (win v.stay i m))) ++ vbs x.2 ++ List.drop ((64 * (x.1 - i)) + (vbs x.2).length) (vbs ((v.wt.take k).foldl (rd1 i m) (win v.stay i m))) = vbs (laid ((v.wt.take k).foldl (rd1 i m) (win v.stay i m)) (x.1 - i) x.2) by rw [hvs]; simp only [laid, vbs, List.map_append, List.map_take, List.map_drop]] at o9
            refine N.block ?_
            refine N.seq ?_
            refine G.region ?_
            refine L.val rfl rfl (R.add rfl rfl (by omega)) ?_
            refine L.val rfl rfl (R.mv rfl) ?_
            refine L.nil ?_
            first
              | exact N.again (k + 1) (by omega) (Sub.cons rfl (Sub.cons rfl (Sub.cons rfl (Sub.cons rfl (Sub.cons rfl (Sub.cons rfl (Sub.cons rfl (Sub.nil _)))))))) ⟨by omega, E, by rw [hfo, show rd1 i m _ x = laid _ (x.1 - i) x.2 from if_pos hin]; exact o9⟩
              | exact N.again (k + 1) (by omega) (Sub.cons rfl (Sub.cons rfl (Sub.cons rfl (Sub.cons rfl (Sub.cons rfl (Sub.cons rfl (Sub.cons rfl (Sub.nil _)))))))) ⟨by omega, E, by rw [hfo, show rd1 i m _ x = _ from if_neg hin]; exact o9⟩
          · have hin : ¬ (i ≤ x.1 ∧ x.1 < i + m) := by omega
            refine G.skip ?_
            refine N.block ?_
            refine N.seq ?_
            refine G.region ?_
            refine L.val rfl rfl (R.add rfl rfl (by omega)) ?_
            refine L.val rfl rfl (R.mv rfl) ?_
            refine L.nil ?_
            first
              | exact N.again (k + 1) (by omega) (Sub.cons rfl (Sub.cons rfl (Sub.cons rfl (Sub.cons rfl (Sub.cons rfl (Sub.cons rfl (Sub.cons rfl (Sub.nil _)))))))) ⟨by omega, E, by rw [hfo, show rd1 i m _ x = laid _ (x.1 - i) x.2 from if_pos hin]; exact o9⟩
              | exact N.again (k + 1) (by omega) (Sub.cons rfl (Sub.cons rfl (Sub.cons rfl (Sub.cons rfl (Sub.cons rfl (Sub.cons rfl (Sub.cons rfl (Sub.nil _)))))))) ⟨by omega, E, by rw [hfo, show rd1 i m _ x = _ from if_neg hin]; exact o9⟩
        · refine L.pass rfl rfl ?_
          refine L.pass rfl rfl ?_
          refine L.pass rfl rfl ?_
          refine L.pass rfl rfl ?_
          refine L.pass rfl rfl ?_
          refine L.pass rfl rfl ?_
          first | refine L.val rfl rfl (R.pickT rfl rfl) ?_ | refine L.val rfl rfl (R.pickF rfl rfl) ?_
          refine L.nil ?_
          refine N.seq ?_
          refine G.condF rfl ?_
          have hin : ¬ (i ≤ x.1 ∧ x.1 < i + m) := by omega
          refine G.skip ?_
          refine N.block ?_
          refine N.seq ?_
          refine G.region ?_
          refine L.val rfl rfl (R.add rfl rfl (by omega)) ?_
          refine L.val rfl rfl (R.mv rfl) ?_
          refine L.nil ?_
          first
            | exact N.again (k + 1) (by omega) (Sub.cons rfl (Sub.cons rfl (Sub.cons rfl (Sub.cons rfl (Sub.cons rfl (Sub.cons rfl (Sub.cons rfl (Sub.nil _)))))))) ⟨by omega, E, by rw [hfo, show rd1 i m _ x = laid _ (x.1 - i) x.2 from if_pos hin]; exact o9⟩
            | exact N.again (k + 1) (by omega) (Sub.cons rfl (Sub.cons rfl (Sub.cons rfl (Sub.cons rfl (Sub.cons rfl (Sub.cons rfl (Sub.cons rfl (Sub.nil _)))))))) ⟨by omega, E, by rw [hfo, show rd1 i m _ x = _ from if_neg hin]; exact o9⟩
      · obtain rfl : k = v.wt.length := by omega
        rw [List.take_length, rd_fold him hl D.wf.wt] at o9
        have hwl := win_length (laidAll_length (s := []) hl D.wf.wt) him
        refine G.exit _ rfl ?_
        refine N.seq ?_
        refine G.seq ?_
        refine G.region ?_
        refine L.val rfl rfl (R.mv rfl) ?_
        refine L.val rfl rfl (R.as rfl) ?_
        refine L.val rfl rfl (R.as rfl) ?_
        refine L.nil ?_
        refine N.seq ?_
        refine G.ret2 rfl rfl rfl ?_
        first
          | (rw [hf]; exact ⟨none, 0, [], rfl, E, Own.nil _ _ _, by simp⟩)
          | (rw [hf]; dsimp only; rw [hwl]; exact ⟨a9, c9, M9, rfl, E, o9, hM9⟩)

theorem dread_nil (x y : Value) (w : World) : Meets Try.prog 147 [.pointer none, x, y] w (fun r w' => r = .tuple #[.slice none 0 0, .int .i64 1] ∧ w' = w) := by
  refine Meets.enter Try.func147 rfl 67 rfl (Nat.le_of_ble_eq_true rfl) ?_
  refine G.seq ?_
  refine G.region ?_
  refine L.val rfl rfl (R.as rfl) ?_
  refine L.val rfl rfl (R.as rfl) ?_
  refine L.nil ?_
  refine N.seq ?_
  refine G.seq ?_
  refine G.seq ?_
  refine G.region ?_
  refine L.val rfl rfl (R.mv rfl) ?_
  refine L.callF rfl rfl rfl go199 (dable_nil _) ?_
  rintro _ _ ⟨rfl, hw⟩
  obtain rfl := hw.symm
  refine L.val rfl rfl (R.as rfl) ?_
  refine L.nil ?_
  refine N.seq ?_
  refine G.seq ?_
  refine G.region ?_
  refine L.val rfl rfl (R.mv rfl) ?_
  refine L.val rfl rfl (R.neI rfl rfl) ?_
  refine L.nil ?_
  refine N.seq ?_
  refine G.condT rfl ?_
  refine G.seq ?_
  refine G.region ?_
  refine L.val rfl rfl (R.mv rfl) ?_
  refine L.val rfl rfl (R.as rfl) ?_
  refine L.val rfl rfl (R.as rfl) ?_
  refine L.nil ?_
  refine N.seq ?_
  refine G.ret2 rfl rfl rfl ?_
  exact ⟨rfl, rfl⟩

end Go.Proofs.Ythpolibakkmmeaa
