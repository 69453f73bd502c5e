/-
  The walks of the laws on dev.
-/
import Derived.Test.YtjmlcodlnohgdaaDevF
import Derived.Test.YtjmlcodlnohgdaaC16
set_option linter.unusedVariables false
set_option linter.unusedSimpArgs false
namespace Go.Proofs.Ytjmlcodlnohgdaa
open Go Brv Brv.Image Brv.Dev
structure LaSt where
  k : Nat
  S : List Nat
  g : Nat
  c8 : Nat

theorem devLast_ok (la : Option Addr) (ln lc : Nat) (ls : List (List UInt8)) (t n : Nat) (w : World) (hT : Tab w la ln 64 (ls.map vbs)) (hls : ∀ l ∈ ls, l.length = 64) (hn : n = t % 6) (hn6 : n < 6) (ht : t ≤ 255) : Meets Try.prog 7 [.slice la ln lc, .int .u8 (t : Int)] w (fun v w' => v = .bool true ∧ Ext [] w w') := by
  refine Meets.enter Try.func7 rfl 86 rfl (Nat.le_of_ble_eq_true rfl) ?_
  have E := Ext.refl [] w
  have hln := hT.len
  rw [List.length_map] at hln
  refine G.seq ?_
  refine G.region ?_
  refine L.val rfl rfl (R.as rfl) ?_
  refine L.nil ?_
  refine N.seq ?_
  refine G.seq ?_
  refine G.seq ?_
  refine G.region ?_
  refine L.callF rfl rfl rfl go32 (dev_first_ok _) ?_
  rintro _ w0 ⟨rfl, e0⟩
  replace E := E.trans0 e0
  refine L.val rfl rfl (R.not rfl) ?_
  refine L.nil ?_
  refine N.seq ?_
  refine G.condF rfl ?_
  refine G.skip ?_
  refine N.seq ?_
  refine G.seq ?_
  refine G.seq ?_
  refine G.region ?_
  refine L.val rfl rfl (R.mv rfl) ?_
  refine L.val rfl rfl (R.lenS rfl) ?_
  refine L.val rfl rfl (R.gtr rfl rfl) ?_
  refine L.nil ?_
  refine N.seq ?_
  refine G.condP rfl (fun h1 => ?_) (fun h1 => ?_)
  · refine G.seq ?_
    refine G.region ?_
    refine L.val rfl rfl (R.as rfl) ?_
    refine L.nil ?_
    refine N.seq ?_
    refine G.ret1 rfl rfl ?_
    first | exact ⟨rfl, E⟩ | exact ⟨congrArg Value.bool (by rw [hln]; simp), E⟩
  · refine G.skip ?_
    refine N.seq ?_
    refine G.seq ?_
    refine G.region ?_
    refine L.callF rfl rfl rfl go33 (dnew_ok 6 _ (by decide) (by decide)) ?_
    rintro _ w1 ⟨d, S, rfl, e1, D, hS⟩
    have hE0 := E.size
    replace E := E.trans0 e1
    have hsz1 := e1.size
    replace hS : ∀ g ∈ S, w.heap.size ≤ g := fun g hg => Nat.le_trans hE0 (hS g hg)
    refine L.val rfl rfl (R.mv rfl) ?_
    refine L.val rfl rfl (R.ext rfl rfl) ?_
    refine L.val rfl rfl (R.ext rfl rfl) ?_
    refine L.val rfl rfl (R.as rfl) ?_
    refine L.val rfl rfl (R.as rfl) ?_
    refine L.nil ?_
    refine N.seq ?_
    refine G.seq ?_
    refine G.region ?_
    refine L.val rfl rfl (R.mv rfl) ?_
    refine L.val rfl rfl (R.rem rfl rfl (by omega) (by decide)) ?_
    refine L.val rfl rfl (R.conv rfl (n : Int) (by rw [hn]; rw [wrap_i64 (by omega)]; omega)) ?_
    refine L.val rfl rfl (R.as rfl) ?_
    refine L.nil ?_
    refine N.seq ?_
    refine G.seq ?_
    refine G.region ?_
    refine L.do rfl rfl (R.make rfl rfl (by decide) (by decide) (by decide) (by decide)) ?_
    rintro _ w2 ⟨g8, rfl, hg8, hs2, e2, B8⟩
    have L8 : Bs w2 (some ⟨g8, 0, none⟩) 64 (List.replicate 64 0) := Bs.of_blk B8 _ (madeCells_bytes 64) 64 rfl
    have hlt1 := D.lt
    replace E := E.trans0 e2
    replace D := D.ext0 e2
    have ng8 : g8 ∉ S := fun h => by have := hlt1 _ h; omega
    have lg8 := B8.lt
    refine L.be 26 rfl (show _ = Value.slice (some ⟨g8, 0, none⟩) 64 64 from rfl) ?_
    refine L.val rfl rfl (R.as rfl) ?_
    refine L.nil ?_
    refine N.seq ?_
    refine G.seq ?_
    refine G.seq ?_
    refine G.region ?_
    refine L.val rfl rfl (R.mv rfl) ?_
    refine L.val rfl rfl (R.lenS rfl) ?_
    refine L.val rfl rfl (R.mv rfl) ?_
    refine L.nil ?_
    refine N.seq ?_
    refine G.block ?_
    refine G.loop (X := LaSt) (fun s => [(0, .slice la ln lc), (5, .pointer (some ⟨d, 0, none⟩)), (7, .int .i64 (n : Int)), (8, .slice (some ⟨s.g, 0, none⟩) 64 s.c8), (27, .slice la ln lc), (28, .int .i64 (ln : Int)), (29, .int .i64 (s.k : Int))]) (fun s w' => s.k ≤ ln ∧ DevAt w' d (lastV 6 n (ls.take s.k)) 6 s.S ∧ (∀ g ∈ s.S, w.heap.size ≤ g) ∧ Bs w' (some ⟨s.g, 0, none⟩) 64 (lastB (ls.take s.k)) ∧ s.g ∉ s.S ∧ s.g < w'.heap.size ∧ 64 ≤ s.c8 ∧ Ext [] w w') (fun s => ln - s.k) (⟨0, S, g8, 64⟩) (Sub.cons rfl (Sub.cons rfl (Sub.cons rfl (Sub.cons rfl (Sub.cons rfl (Sub.cons rfl (Sub.cons rfl (Sub.nil _)))))))) ⟨Nat.zero_le _, by rw [List.take_zero, lastV_nil]; exact D, hS, by rw [List.take_zero]; exact L8, ng8, lg8, Nat.le_refl _, E⟩ ?_
    rintro ⟨k, S, g8, c8⟩ w3 ⟨hk, D, hS, L8, ng8, lg8, h8, E⟩
    dsimp only at hk D hS L8 ng8 lg8 h8
    refine G.sub [(0, .slice la ln lc), (5, .pointer (some ⟨d, 0, none⟩)), (7, .int .i64 (n : Int)), (8, .slice (some ⟨g8, 0, none⟩) 64 c8), (27, .slice la ln lc), (28, .int .i64 (ln : Int)), (29, .int .i64 (k : Int))] (Sub.cons rfl (Sub.cons rfl (Sub.cons rfl (Sub.cons rfl (Sub.cons rfl (Sub.cons rfl (Sub.cons rfl (Sub.nil _)))))))) ?_
    refine G.seq ?_
    refine G.region ?_
    refine L.val rfl rfl (R.lss rfl rfl) ?_
    refine L.nil ?_
    refine N.seq ?_
    refine G.seq ?_
    refine G.condP rfl (fun h2 => ?_) (fun h2 => ?_)
    · have hk2 : k < ls.length := by omega
      obtain ⟨x, hx⟩ : ∃ x, ls[k]? = some x := ⟨_, List.getElem?_eq_getElem hk2⟩
      have hx64 := hls x (List.mem_of_getElem? hx)
      have hdrop : ls.take (k + 1) = ls.take k ++ [x] := by rw [List.take_add_one, hx]; rfl
      obtain ⟨q9, hq9, hcl⟩ := hT.at (by decide) k (by rw [List.length_map]; exact hk2)
      rw [List.getElem_map, show ls[k] = x from (List.getElem?_eq_some_iff.1 hx).2] at hcl
      have hlen : (ls.take k).length = k := by rw [List.length_take]; omega
      refine G.skip ?_
      refine N.seq ?_
      refine G.seq ?_
      refine G.block ?_
      refine G.seq ?_
      refine G.region ?_
      refine L.val rfl rfl (R.idx rfl rfl (by omega) (by omega) q9 hq9) ?_
      refine L.val rfl rfl (R.ldN rfl (hcl.ext0 E) (by rw [vbs_length, hx64])) ?_
      refine L.do rfl rfl (R.alloc) ?_
      rintro _ w4 ⟨b10, rfl, hb10, hs4, e4, B10⟩
      have hE3 := E.size
      have hlt3 := D.lt
      refine L.set rfl (R.stN rfl rfl B10 (by simp [vbs_length, hx64]) (by simp [vbs_length, hx64, Value.cells]) (by simpa using vbs_one _)) ?_
      rintro w5 ⟨e5, hs5, B10⟩
      rw [all_stored (by simp [vbs_length, hx64, Value.cells])] at B10
      have n5 := e4.news2 e5 (by omega)
      replace E := E.trans0 n5
      replace D := D.ext0 n5
      replace L8 := L8.ext0 n5
      have hs35 := n5.size
      have L10 : Bs w5 (some ⟨b10, 0, none⟩) 64 x := Bs.of_blk B10 x (by simp) 64 hx64.symm
      have n10 : b10 ∉ S := fun h => by have := hlt3 _ h; omega
      have l10 := B10.lt
      refine L.nil ?_
      refine N.seq ?_
      refine G.seq ?_
      refine G.seq ?_
      refine G.region ?_
      refine L.val rfl rfl (R.mv rfl) ?_
      refine L.val rfl rfl (R.mv rfl) ?_
      refine L.val rfl rfl (R.slA rfl) ?_
      refine L.callF rfl rfl rfl go34 (dwrite_ok d _ 6 S (n : Int) _ 64 64 x _ D (by rw [lastV_calls, hlen]; omega) (by rw [lastV_wt, hlen]; omega) L10 (by decide) (by decide) (fun q hq => by cases hq; exact ⟨n10, l10⟩)) ?_
      rintro _ w6 ⟨rfl, S2, e6, D⟩
      rw [lastV_write hn6 hx64] at D ⊢
      have hE5 := E.size
      replace E := E.fresh e6.1 hS
      replace hS := e6.fresh hS hE5
      have hs6 := e6.1.size
      replace L10 := L10.ext e6.1 (fun q hq hm => by cases hq; exact n10 hm)
      have hlt6 := D.lt
      refine L.val rfl rfl (R.neI rfl rfl) ?_
      refine L.nil ?_
      refine N.seq ?_
      refine G.condF rfl ?_
      refine G.skip ?_
      refine N.seq ?_
      refine G.region ?_
      refine L.do rfl rfl (R.buildA rfl rfl rfl rfl rfl) ?_
      rintro _ w7 ⟨b38, rfl, hb38, hs38, e7, B38⟩
      have o0 : Own w7 5 1 (some ⟨b38, 0, none⟩) 0 0 (vbs []) [b38] := Own.blk (n := 0) (size := 1) B38 (by simp) (by simp [maxLen])
      have hE6 := E.size
      replace E := E.trans0 e7
      refine L.val rfl rfl (R.slA rfl) ?_
      refine L.do rfl rfl (R.app rfl rfl o0 (L10.cells.ext0 e7) (by rw [vbs_length, hx64]) (vbs_one _) (by simp [maxLen]) (by decide)) ?_
      rintro _ w8 ⟨a40, c40, M40, rfl, e8, hM40, o40⟩
      replace E := E.news2 e8 (by omega)
      have n8 := e7.news2 e8 (by omega)
      replace D := D.ext0 n8
      have h40 := o40.le
      obtain ⟨g40, cur40, rfl, rfl, B40, _, _⟩ := o40.set 0 (by decide)
      have L40 : Bs w8 (some ⟨g40, 0, none⟩) 64 x := Bs.of_own (l := x) (by simpa [vbs] using o40)
      have lg40 := B40.lt
      have ng40 : g40 ∉ S2 := fun h => by have h1 := hlt6 _ h; have h2 := hM40 g40 (by simp); have h3 := e7.size; rcases h2 with h2 | h2; rw [List.mem_singleton.1 h2] at h1; omega; omega
      refine L.val rfl rfl (R.as rfl) ?_
      refine L.nil ?_
      refine N.block ?_
      refine N.seq ?_
      refine G.region ?_
      refine L.val rfl rfl (R.add rfl rfl (by omega)) ?_
      refine L.val rfl rfl (R.mv rfl) ?_
      refine L.nil ?_
      exact N.again (X := LaSt) ⟨k + 1, S2, g40, c40⟩ (by show ln - (k + 1) < ln - k; omega) (Sub.cons rfl (Sub.cons rfl (Sub.cons rfl (Sub.cons rfl (Sub.cons rfl (Sub.cons rfl (Sub.cons rfl (Sub.nil _)))))))) ⟨by show k + 1 ≤ ln; omega, by rw [hdrop]; exact D, hS, by rw [hdrop, lastB_snoc]; exact L40, ng40, lg40, h40, E⟩
    · obtain rfl : k = ln := by omega
      rw [List.take_of_length_le (by omega)] at D L8
      refine G.exit _ rfl ?_
      refine N.seq ?_
      refine G.seq ?_
      refine G.region ?_
      refine L.val rfl rfl (R.mv rfl) ?_
      refine L.val rfl rfl (R.mv rfl) ?_
      refine L.callF rfl rfl rfl go35 (dread_ok d _ 6 S (n : Int) 1 _ D (by rw [lastV_wt]; omega)) ?_
      rintro _ w10 ⟨a11, c11, M11, rfl, e10, o11, hM11⟩
      rw [lastV_read hn6 hls] at o11 ⊢
      dsimp only at o11
      have hbl : (lastB ls).length = 64 := L8.len.symm
      have hlt10 := D.lt
      replace E := E.trans0 e10
      replace D := D.ext0 e10
      replace L8 := L8.ext0 e10
      have hs10 := e10.size
      have L11 := Bs.of_own o11
      obtain ⟨x11, cx11, rfl, rfl, X11, _, _⟩ := o11.set 0 (by omega)
      have n11 : x11 ∉ S := fun h => by have := hlt10 _ h; have := hM11 x11 (by simp); omega
      have hE10 := E.size
      refine L.val rfl rfl (R.mv rfl) ?_
      refine L.val rfl rfl (R.ext rfl rfl) ?_
      refine L.val rfl rfl (R.ext rfl rfl) ?_
      refine L.val rfl rfl (R.as rfl) ?_
      refine L.val rfl rfl (R.as rfl) ?_
      refine L.nil ?_
      refine N.seq ?_
      refine G.seq ?_
      refine G.region ?_
      refine L.val rfl rfl (R.mv rfl) ?_
      refine L.callF rfl rfl rfl go36 (dflush_ok d _ 6 S _ D (by rw [lastV_calls]; omega) (by rw [lastV_wt]; omega)) ?_
      rintro _ w11 ⟨rfl, S3, e11, D⟩
      rw [lastV_flush] at D ⊢
      replace E := E.fresh e11.1 hS
      replace L8 := L8.ext e11.1 (fun q hq hm => by cases hq; exact ng8 hm)
      replace L11 := L11.ext e11.1 (fun q hq hm => by cases hq; exact n11 hm)
      have hfl := laidAll_length (s := []) (lastV_wf hn6 hls).len (lastV_wf hn6 hls).wt
      have hfb := last_blk hn6 hls
      obtain ⟨st, hst⟩ : ∃ st, st = (laidAll (lastV 6 n ls).stay (lastV 6 n ls).wt) := ⟨_, rfl⟩
      rw [← hst] at D hfl hfb
      refine L.val rfl rfl (R.as rfl) ?_
      refine L.nil ?_
      refine N.seq ?_
      refine G.seq ?_
      refine G.quiet (by decide +kernel) rfl ?_
      refine Q.val rfl rfl rfl rfl (fun w12 hE => R.mv rfl) ?_
      refine Q.val rfl rfl rfl rfl (fun w12 hE => R.bytesStr rfl (L11.ext0 hE).cells L11.len) ?_
      refine Q.val rfl rfl rfl rfl (fun w12 hE => R.mv rfl) ?_
      refine Q.val rfl rfl rfl rfl (fun w12 hE => R.bytesStr rfl (L8.ext0 hE).cells L8.len) ?_
      refine Q.val rfl rfl rfl rfl (fun w12 hE => R.eqStr rfl rfl) ?_
      refine Q.val rfl rfl rfl rfl (fun w12 hE => R.mv rfl) ?_
      refine Q.isT 55 rfl (by simp) ?_
      refine Q.val rfl rfl rfl rfl (fun w12 hE => R.mv rfl) ?_
      refine Q.val rfl rfl rfl rfl (fun w12 hE => R.eqI rfl rfl) ?_
      first | refine Q.val rfl rfl rfl rfl (fun w12 hE => R.pickT rfl rfl) ?_ | refine Q.val rfl rfl rfl rfl (fun w12 hE => R.pickF rfl rfl) ?_
      refine Q.val rfl rfl rfl rfl (fun w12 hE => R.mv rfl) ?_
      refine Q.isT 59 rfl (by rfl) ?_
      refine Q.val rfl rfl rfl rfl (fun w12 hE => R.mv rfl) ?_
      refine Q.callR (A := IsBs st.length st) (IsBs.keep _ _) rfl rfl go37 (fun w12 hE => ⟨_, rfl, (dimage_ok _ _ _ _ _ (D.ext0 hE)).mono (fun _ _ h => by obtain ⟨x9, y9, M9, rfl, e9, ho9, _⟩ := h; exact ⟨⟨x9, y9, rfl, ho9.le, Bs.of_own ho9⟩, e9⟩)⟩) ?_
      refine Q.val rfl rfl rfl rfl (fun w12 hE => R.mv rfl) ?_
      refine Q.val rfl rfl rfl rfl (fun w12 hE => R.mul rfl rfl (by omega)) ?_
      refine Q.val rfl rfl rfl rfl (fun w12 hE => R.mv rfl) ?_
      refine Q.val rfl rfl rfl rfl (fun w12 hE => R.mul rfl rfl (by omega)) ?_
      refine Q.val rfl rfl rfl rfl (fun w12 hE => R.add rfl rfl (by omega)) ?_
      refine Q.valR (A := IsBs 64 (blk st n)) (IsBs.keep _ _) rfl rfl rfl (fun w12 hE => fun v hv => by obtain ⟨x1, y1, rfl, hxy, hv⟩ := hv; exact ⟨_, R.slLH rfl rfl rfl (by omega) (by omega) (by omega), _, _, by rw [show (64 * (n : Int)).toNat = 64 * n by omega, show (64 * (n : Int) + 64).toNat - 64 * n = 64 by omega], by omega, hv.sub (64 * n) y1 64 (by omega) (by omega)⟩) ?_
      refine Q.val rfl rfl rfl rfl (fun w12 hE => fun v hv => by obtain ⟨x1, y1, rfl, _, hv⟩ := hv; exact R.bytesStr rfl hv.cells hv.len) ?_
      refine Q.val rfl rfl rfl rfl (fun w12 hE => R.mv rfl) ?_
      refine Q.val rfl rfl rfl rfl (fun w12 hE => R.bytesStr rfl (L8.ext0 hE).cells L8.len) ?_
      refine Q.val rfl rfl rfl rfl (fun w12 hE => R.eqStr rfl rfl) ?_
      first | refine Q.val rfl rfl rfl rfl (fun w12 hE => R.pickT rfl rfl) ?_ | refine Q.val rfl rfl rfl rfl (fun w12 hE => R.pickF rfl rfl) ?_
      refine Q.val rfl rfl rfl rfl (fun w12 hE => R.mv rfl) ?_
      refine Q.isT 73 rfl (by simp [hfb]) ?_
      refine Q.val rfl rfl rfl rfl (fun w12 hE => R.mv rfl) ?_
      refine Q.call (.int .i64 0) rfl rfl rfl go38 (fun w12 hE => ⟨_, rfl, (dwaiting_ok d _ 6 S3 _ (D.ext0 hE)).mono (by rintro _ _ ⟨rfl, rfl⟩; exact ⟨rfl, Ext.refl _ _⟩)⟩) ?_
      refine Q.val rfl rfl rfl rfl (fun w12 hE => R.eqI rfl rfl) ?_
      first | refine Q.val rfl rfl rfl rfl (fun w12 hE => R.pickT rfl rfl) ?_ | refine Q.val rfl rfl rfl rfl (fun w12 hE => R.pickF rfl rfl) ?_
      refine Q.val rfl rfl rfl rfl (fun w12 hE => R.mv rfl) ?_
      refine Q.isT 78 rfl (by rfl) ?_
      refine Q.val rfl rfl rfl rfl (fun w12 hE => R.mv rfl) ?_
      refine Q.call (.int .i64 ((ls.length : Int) + 1)) rfl rfl rfl go39 (fun w12 hE => ⟨_, rfl, (dcalls_ok d _ 6 S3 _ (D.ext0 hE)).mono (by rintro _ _ ⟨rfl, rfl⟩; exact ⟨rfl, Ext.refl _ _⟩)⟩) ?_
      refine Q.val rfl rfl rfl rfl (fun w12 hE => R.mv rfl) ?_
      refine Q.val rfl rfl rfl rfl (fun w12 hE => R.lenS rfl) ?_
      refine Q.val rfl rfl rfl rfl (fun w12 hE => R.add rfl rfl (by omega)) ?_
      refine Q.val rfl rfl rfl rfl (fun w12 hE => R.eqI rfl rfl) ?_
      first | refine Q.val rfl rfl rfl rfl (fun w12 hE => R.pickT rfl rfl) ?_ | refine Q.val rfl rfl rfl rfl (fun w12 hE => R.pickF rfl rfl) ?_
      refine Q.val rfl rfl rfl rfl (fun w12 hE => R.as rfl) ?_
      refine Q.nil (fun w12 e12 => ?_)
      intro v67 _ v61 _
      replace E := E.trans0 e12
      refine N.seq ?_
      refine G.ret1 rfl rfl ?_
      first | exact ⟨rfl, E⟩ | exact ⟨congrArg Value.bool (by rw [hln]; simp), E⟩

end Go.Proofs.Ytjmlcodlnohgdaa
