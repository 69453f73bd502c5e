/-
  The walks of the laws on shrink.
-/
import Derived.Test.YtjmlcodlnohgdaaShr2
set_option linter.unusedVariables false
set_option linter.unusedSimpArgs false
namespace Go.Proofs.Ytjmlcodlnohgdaa
open Go Brv Brv.Crc Brv.Shrink
theorem refgrow_ok (a : Option Addr) (n c : Nat) (l : List UInt8) (most : Int) (w : World) (hb : Bs w a n l) (hc : n ≤ c) (hn : n ≤ 1000000) : Meets Try.prog 53 [.slice a n c, .int .i64 most] w (fun v w' => v = .tuple #[.string (str (growF most l).1), .int .i64 (growF most l).2] ∧ Ext [] w w') := by
  refine Meets.enter Try.func53 rfl 77 rfl (Nat.le_of_ble_eq_true rfl) ?_
  have E := Ext.refl [] w
  have hl := hb.len
  refine G.seq ?_
  refine G.region ?_
  refine L.val rfl rfl (R.as rfl) ?_
  refine L.val rfl rfl (R.as rfl) ?_
  refine L.nil ?_
  refine N.seq ?_
  refine G.seq ?_
  refine G.seq ?_
  refine G.region ?_
  refine L.val rfl rfl (R.mv rfl) ?_
  refine L.val rfl rfl (R.lss rfl rfl) ?_
  refine L.nil ?_
  refine N.seq ?_
  refine G.cut (X := Unit) (fun _ => [(0, .slice a n c), (1, .int .i64 ((most.toNat : Nat) : Int))]) (fun _ w' => Ext [] w w') ?_ ?_
  · refine G.condP rfl (fun h0 => ?_) (fun h0 => ?_)
    · refine G.region ?_
      refine L.val rfl rfl (R.as rfl) ?_
      refine L.be 1 rfl (show Value.int .i64 0 = .int .i64 ((most.toNat : Nat) : Int) by congr 1; omega) ?_
      refine L.nil ?_
      exact N.handX () (Sub.cons rfl (Sub.cons rfl (Sub.nil _))) E
    · refine G.be 1 rfl (show Value.int .i64 most = .int .i64 ((most.toNat : Nat) : Int) by congr 1; omega) ?_
      refine G.skip ?_
      exact N.handX () (Sub.cons rfl (Sub.cons rfl (Sub.nil _))) E
  · rintro _ w1 E
    refine N.seq ?_
    refine G.seq ?_
    refine G.region ?_
    refine L.val rfl rfl (R.as rfl) ?_
    refine L.nil ?_
    refine N.seq ?_
    refine G.seq ?_
    refine G.seq ?_
    refine G.region ?_
    refine L.val rfl rfl (R.as rfl) ?_
    refine L.nil ?_
    refine N.seq ?_
    refine G.block ?_
    refine G.loop (X := Nat × List UInt8) (fun x => [(0, .slice a n c), (1, .int .i64 ((most.toNat : Nat) : Int)), (6, .string (str x.2)), (7, .int .i64 (x.1 : Int))]) (fun x w' => x.1 ≤ n ∧ growN most.toNat (l.drop x.1).length x.2 (l.drop x.1) = growF most l ∧ x.2.length ≤ 130 * x.1 ∧ Ext [] w w') (fun x => n - x.1) ((0, [])) (Sub.cons rfl (Sub.cons rfl (Sub.cons rfl (Sub.cons rfl (Sub.nil _))))) ⟨Nat.zero_le _, rfl, by simp, E⟩ ?_
    rintro ⟨i, acc⟩ w1 ⟨hi, hacc, hal, E⟩
    dsimp only at hi hacc hal
    refine G.sub [(0, .slice a n c), (1, .int .i64 ((most.toNat : Nat) : Int)), (6, .string (str acc)), (7, .int .i64 (i : Int))] (Sub.cons rfl (Sub.cons rfl (Sub.cons rfl (Sub.cons rfl (Sub.nil _))))) ?_
    refine G.seq ?_
    refine G.seq ?_
    refine G.region ?_
    refine L.val rfl rfl (R.mv rfl) ?_
    refine L.val rfl rfl (R.mv rfl) ?_
    refine L.val rfl rfl (R.lenS rfl) ?_
    refine L.val rfl rfl (R.lss rfl rfl) ?_
    refine L.nil ?_
    refine N.seq ?_
    refine G.condP rfl (fun h1 => ?_) (fun h1 => ?_)
    · have hil : i < l.length := by omega
      have hdr := List.drop_eq_getElem_cons hil
      obtain ⟨p, hp, hcl⟩ := hb.at i hil
      have hnb := l[i].toNat_lt
      refine G.skip ?_
      refine N.seq ?_
      refine G.block ?_
      refine G.seq ?_
      refine G.region ?_
      refine L.val rfl rfl (R.mv rfl) ?_
      refine L.val rfl rfl (R.mv rfl) ?_
      refine L.val rfl rfl (R.idx rfl rfl (by omega) (by omega) p hp) ?_
      refine L.val rfl rfl (R.ld rfl (cell?_ext0' hcl E)) ?_
      refine L.val rfl rfl (R.conv rfl _ (wrap_i64 (by omega))) ?_
      refine L.val rfl rfl (R.as rfl) ?_
      refine L.nil ?_
      refine N.seq ?_
      refine G.seq ?_
      refine G.region ?_
      refine L.val rfl rfl (R.as rfl) ?_
      refine L.nil ?_
      refine N.seq ?_
      refine G.seq ?_
      refine G.seq ?_
      refine G.region ?_
      refine L.val rfl rfl (R.mv rfl) ?_
      refine L.val rfl rfl (R.gtr rfl rfl) ?_
      refine L.nil ?_
      refine N.seq ?_
      refine G.condP rfl (fun h2 => ?_) (fun h2 => ?_)
      · refine G.seq ?_
        refine G.seq ?_
        refine G.region ?_
        refine L.val rfl rfl (R.mv rfl) ?_
        refine L.val rfl rfl (R.add rfl rfl (by omega)) ?_
        refine L.val rfl rfl (R.mv rfl) ?_
        refine L.val rfl rfl (R.lenS rfl) ?_
        refine L.val rfl rfl (R.geq rfl rfl) ?_
        refine L.nil ?_
        refine N.seq ?_
        refine G.condP rfl (fun h3 => ?_) (fun h3 => ?_)
        · have hpc : pieceF (l.drop i) = none := by rw [hdr, List.drop_of_length_le (by omega)]; exact pieceF_hi0 _ (by omega)
          rw [growN_bad _ _ _ _ (by intro e; rw [e] at hdr; cases hdr) (Nat.le_refl _) hpc] at hacc
          refine G.seq ?_
          refine G.region ?_
          refine L.val rfl rfl (R.as rfl) ?_
          refine L.val rfl rfl (R.as rfl) ?_
          refine L.nil ?_
          refine N.seq ?_
          refine G.ret2 rfl rfl rfl ?_
          rw [← hacc]; exact ⟨rfl, E⟩
        · have hi1 : i + 1 < l.length := by omega
          have hdr1 := List.drop_eq_getElem_cons hi1
          have hpc : pieceF (l.drop i) = some (List.replicate (l[i].toNat - 125) l[i + 1], l.drop (i + 2)) := by rw [hdr, hdr1]; exact pieceF_hi _ (by omega) _ _
          have hone : (l.drop (i + 1)).take 1 = [l[i + 1]] := by rw [hdr1, List.take_succ_cons, List.take_zero]
          have hb1 := hb.sub (i + 1) c 1 (by omega) (by omega)
          refine G.skip ?_
          refine N.seq ?_
          refine G.seq ?_
          refine G.seq ?_
          refine G.region ?_
          refine L.val rfl rfl (R.as rfl) ?_
          refine L.nil ?_
          refine N.seq ?_
          refine G.block ?_
          refine G.loop (X := Nat) (fun k => [(0, .slice a n c), (1, .int .i64 ((most.toNat : Nat) : Int)), (6, .string (str acc)), (7, .int .i64 (i : Int)), (8, .int .i64 (l[i].toNat : Int)), (9, .string (str (List.replicate k l[i + 1]))), (10, .int .i64 (k : Int))]) (fun k w' => k ≤ l[i].toNat - 125 ∧ Ext [] w w') (fun k => l[i].toNat - k) (0) (Sub.cons rfl (Sub.cons rfl (Sub.cons rfl (Sub.cons rfl (Sub.cons rfl (Sub.cons rfl (Sub.cons rfl (Sub.nil _)))))))) ⟨Nat.zero_le _, E⟩ ?_
          rintro k w2 ⟨hk, E⟩
          refine G.seq ?_
          refine G.seq ?_
          refine G.region ?_
          refine L.val rfl rfl (R.mv rfl) ?_
          refine L.val rfl rfl (R.mv rfl) ?_
          refine L.val rfl rfl (R.sub' rfl rfl (by omega)) ?_
          refine L.val rfl rfl (R.lss rfl rfl) ?_
          refine L.nil ?_
          refine N.seq ?_
          refine G.condP rfl (fun h4 => ?_) (fun h4 => ?_)
          · refine G.skip ?_
            refine N.seq ?_
            refine G.seq ?_
            refine G.block ?_
            refine G.region ?_
            refine L.val rfl rfl (R.mv rfl) ?_
            refine L.val rfl rfl (R.mv rfl) ?_
            refine L.val rfl rfl (R.mv rfl) ?_
            refine L.val rfl rfl (R.add rfl rfl (by omega)) ?_
            refine L.val rfl rfl (R.mv rfl) ?_
            refine L.val rfl rfl (R.add rfl rfl (by omega)) ?_
            refine L.val rfl rfl (R.slLH rfl rfl rfl (by omega) (by omega) (by omega)) ?_
            refine L.val rfl rfl (R.bytesStr rfl (hb1.ext0 E).cells (by rw [hone]; simp; omega)) ?_
            refine L.val rfl rfl (R.addStr rfl rfl (by rw [hone]; simp; omega)) ?_
            refine L.be 43 rfl (show Value.string (str (List.replicate k l[i + 1] ++ (l.drop (i + 1)).take 1)) = .string (str (List.replicate (k + 1) l[i + 1])) by rw [hone, ← List.replicate_succ']) ?_
            refine L.val rfl rfl (R.as rfl) ?_
            refine L.nil ?_
            refine N.block ?_
            refine N.seq ?_
            refine G.region ?_
            refine L.val rfl rfl (R.mv rfl) ?_
            refine L.val rfl rfl (R.add rfl rfl (by omega)) ?_
            refine L.val rfl rfl (R.as rfl) ?_
            refine L.nil ?_
            exact N.again (k + 1) (by omega) (Sub.cons rfl (Sub.cons rfl (Sub.cons rfl (Sub.cons rfl (Sub.cons rfl (Sub.cons rfl (Sub.cons rfl (Sub.nil _)))))))) ⟨by omega, E⟩
          · have hk2 : k = l[i].toNat - 125 := by omega
            rw [← hk2] at hpc
            have hlen : (List.replicate k l[i + 1]).length = k := List.length_replicate
            generalize List.replicate k l[i + 1] = pp at *
            refine G.exit _ rfl ?_
            refine N.seq ?_
            refine G.region ?_
            refine L.val rfl rfl (R.mv rfl) ?_
            refine L.val rfl rfl (R.add rfl rfl (by omega)) ?_
            refine L.val rfl rfl (R.as rfl) ?_
            refine L.nil ?_
            refine N.seq ?_
            refine G.seq ?_
            refine G.seq ?_
            refine G.region ?_
            refine L.val rfl rfl (R.mv rfl) ?_
            refine L.val rfl rfl (R.lenStr rfl) ?_
            refine L.val rfl rfl (R.mv rfl) ?_
            refine L.val rfl rfl (R.lenStr rfl) ?_
            have hs1 : (str acc).size = acc.length := str_size _
            have hs2 := str_size
            refine L.val rfl rfl (R.add rfl rfl (by rw [str_size, str_size]; omega)) ?_
            refine L.val rfl rfl (R.mv rfl) ?_
            refine L.val rfl rfl (R.gtr rfl rfl) ?_
            refine L.nil ?_
            refine N.seq ?_
            refine G.condP rfl (fun h6 => ?_) (fun h6 => ?_)
            · rw [str_size, str_size] at h6
              rw [growN_step _ _ _ _ _ _ (Nat.le_refl _) hpc, if_pos (by simp at hlen h6 ⊢; omega)] at hacc
              refine G.seq ?_
              refine G.region ?_
              refine L.val rfl rfl (R.as rfl) ?_
              refine L.val rfl rfl (R.as rfl) ?_
              refine L.nil ?_
              refine N.seq ?_
              refine G.ret2 rfl rfl rfl ?_
              rw [← hacc]; exact ⟨rfl, E⟩
            · rw [str_size, str_size] at h6
              refine G.skip ?_
              refine N.seq ?_
              refine G.region ?_
              refine L.val rfl rfl (R.mv rfl) ?_
              refine L.val rfl rfl (R.mv rfl) ?_
              refine L.val rfl rfl (R.addStr rfl rfl (by omega)) ?_
              refine L.val rfl rfl (R.as rfl) ?_
              refine L.nil ?_
              refine N.block ?_
              exact N.again (X := Nat × List UInt8) (i + 2, acc ++ pp) (by show n - (i + 2) < n - i; omega) (Sub.cons rfl (Sub.cons rfl (Sub.cons rfl (Sub.cons rfl (Sub.nil _))))) ⟨by show i + 2 ≤ n; omega, by show growN _ (l.drop (i + 2)).length (acc ++ _) (l.drop (i + 2)) = _; rw [← hacc, growN_step _ _ _ _ _ _ (Nat.le_refl _) hpc, if_neg (by simp at hlen h6 ⊢; omega)], by show (acc ++ _).length ≤ 130 * (i + 2); rw [List.length_append]; omega, E⟩
      · refine G.seq ?_
        refine G.seq ?_
        refine G.region ?_
        refine L.val rfl rfl (R.mv rfl) ?_
        refine L.val rfl rfl (R.mv rfl) ?_
        refine L.val rfl rfl (R.add rfl rfl (by omega)) ?_
        refine L.val rfl rfl (R.add rfl rfl (by omega)) ?_
        refine L.val rfl rfl (R.mv rfl) ?_
        refine L.val rfl rfl (R.lenS rfl) ?_
        refine L.val rfl rfl (R.geq rfl rfl) ?_
        refine L.nil ?_
        refine N.seq ?_
        refine G.condP rfl (fun h5 => ?_) (fun h5 => ?_)
        · have hpc : pieceF (l.drop i) = none := by rw [hdr, pieceF_lo _ (by omega), if_neg (by rw [List.length_drop]; omega)]
          rw [growN_bad _ _ _ _ (by intro e; rw [e] at hdr; cases hdr) (Nat.le_refl _) hpc] at hacc
          refine G.seq ?_
          refine G.region ?_
          refine L.val rfl rfl (R.as rfl) ?_
          refine L.val rfl rfl (R.as rfl) ?_
          refine L.nil ?_
          refine N.seq ?_
          refine G.ret2 rfl rfl rfl ?_
          rw [← hacc]; exact ⟨rfl, E⟩
        · have hpc : pieceF (l.drop i) = some ((l.drop (i + 1)).take (l[i].toNat + 1), l.drop (i + (l[i].toNat + 2))) := by rw [hdr, pieceF_lo _ (by omega), if_pos (by rw [List.length_drop]; omega), List.drop_drop, show i + 1 + (l[i].toNat + 1) = i + (l[i].toNat + 2) by omega]
          have hb1 := hb.sub (i + 1) c (l[i].toNat + 1) (by omega) (by omega)
          have hlen : ((l.drop (i + 1)).take (l[i].toNat + 1)).length = l[i].toNat + 1 := by rw [List.length_take, List.length_drop]; omega
          refine G.skip ?_
          refine N.seq ?_
          refine G.seq ?_
          refine G.region ?_
          refine L.val rfl rfl (R.mv rfl) ?_
          refine L.val rfl rfl (R.mv rfl) ?_
          refine L.val rfl rfl (R.add rfl rfl (by omega)) ?_
          refine L.val rfl rfl (R.mv rfl) ?_
          refine L.val rfl rfl (R.mv rfl) ?_
          refine L.val rfl rfl (R.add rfl rfl (by omega)) ?_
          refine L.val rfl rfl (R.add rfl rfl (by omega)) ?_
          refine L.val rfl rfl (R.slLH rfl rfl rfl (by omega) (by omega) (by omega)) ?_
          refine L.val rfl rfl (R.bytesStr rfl (hb1.ext0 E).cells (by rw [hlen]; omega)) ?_
          refine L.val rfl rfl (R.as rfl) ?_
          refine L.nil ?_
          refine N.seq ?_
          refine G.region ?_
          refine L.val rfl rfl (R.mv rfl) ?_
          refine L.val rfl rfl (R.mv rfl) ?_
          refine L.val rfl rfl (R.add rfl rfl (by omega)) ?_
          refine L.val rfl rfl (R.add rfl rfl (by omega)) ?_
          refine L.val rfl rfl (R.as rfl) ?_
          refine L.nil ?_
          refine N.seq ?_
          refine G.seq ?_
          refine G.seq ?_
          refine G.region ?_
          refine L.val rfl rfl (R.mv rfl) ?_
          refine L.val rfl rfl (R.lenStr rfl) ?_
          refine L.val rfl rfl (R.mv rfl) ?_
          refine L.val rfl rfl (R.lenStr rfl) ?_
          have hs1 : (str acc).size = acc.length := str_size _
          have hs2 := str_size
          refine L.val rfl rfl (R.add rfl rfl (by rw [str_size, str_size]; omega)) ?_
          refine L.val rfl rfl (R.mv rfl) ?_
          refine L.val rfl rfl (R.gtr rfl rfl) ?_
          refine L.nil ?_
          refine N.seq ?_
          refine G.condP rfl (fun h6 => ?_) (fun h6 => ?_)
          · rw [str_size, str_size] at h6
            rw [growN_step _ _ _ _ _ _ (Nat.le_refl _) hpc, if_pos (by simp at hlen h6 ⊢; omega)] at hacc
            refine G.seq ?_
            refine G.region ?_
            refine L.val rfl rfl (R.as rfl) ?_
            refine L.val rfl rfl (R.as rfl) ?_
            refine L.nil ?_
            refine N.seq ?_
            refine G.ret2 rfl rfl rfl ?_
            rw [← hacc]; exact ⟨rfl, E⟩
          · rw [str_size, str_size] at h6
            refine G.skip ?_
            refine N.seq ?_
            refine G.region ?_
            refine L.val rfl rfl (R.mv rfl) ?_
            refine L.val rfl rfl (R.mv rfl) ?_
            refine L.val rfl rfl (R.addStr rfl rfl (by omega)) ?_
            refine L.val rfl rfl (R.as rfl) ?_
            refine L.nil ?_
            refine N.block ?_
            exact N.again (X := Nat × List UInt8) (i + (l[i].toNat + 2), acc ++ (l.drop (i + 1)).take (l[i].toNat + 1)) (by show n - (i + (l[i].toNat + 2)) < n - i; omega) (Sub.cons rfl (Sub.cons rfl (Sub.cons rfl (Sub.cons rfl (Sub.nil _))))) ⟨by show i + (l[i].toNat + 2) ≤ n; omega, by show growN _ (l.drop (i + (l[i].toNat + 2))).length (acc ++ _) (l.drop (i + (l[i].toNat + 2))) = _; rw [← hacc, growN_step _ _ _ _ _ _ (Nat.le_refl _) hpc, if_neg (by simp at hlen h6 ⊢; omega)], by show (acc ++ _).length ≤ 130 * (i + (l[i].toNat + 2)); rw [List.length_append]; omega, E⟩
    · have hin : i = l.length := by omega
      rw [hin, List.drop_length, growN_nil] at hacc
      refine G.exit _ rfl ?_
      refine N.seq ?_
      refine G.seq ?_
      refine G.region ?_
      refine L.val rfl rfl (R.mv rfl) ?_
      refine L.val rfl rfl (R.as rfl) ?_
      refine L.val rfl rfl (R.as rfl) ?_
      refine L.nil ?_
      refine N.seq ?_
      refine G.ret2 rfl rfl rfl ?_
      rw [← hacc]; exact ⟨rfl, E⟩

end Go.Proofs.Ytjmlcodlnohgdaa
