/-
  The walks of the laws on frame.
-/
import Derived.Test.YtjmlcodlnohgdaaFrameF
set_option linter.unusedVariables false
set_option linter.unusedSimpArgs false
namespace Go.Proofs.Ytjmlcodlnohgdaa
open Go Brv Brv.Crc Brv.Pack Brv.Frame
theorem frameBack_ok (p : Int) (a1 : Option Addr) (n1 c1 : Nat) (l1 : List UInt8) (t : Nat) (w : World) (hp : 0 ≤ p ∧ p ≤ 4294967295) (q1 : Bs w a1 n1 l1) (hc1 : n1 ≤ c1) (ht : t ≤ 255) : Meets Try.prog 14 [.int .u32 p, .slice a1 n1 c1, .int .u8 (t : Int)] w (fun v w' => v = .bool true ∧ Ext [] w w') := by
  refine Meets.enter Try.func14 rfl 89 rfl (Nat.le_of_ble_eq_true rfl) ?_
  have E := Ext.refl [] w
  have hl1 := q1.len
  obtain ⟨sb1, sb2, sb3, sb4⟩ := secN_body l1
  refine G.seq ?_
  refine G.region ?_
  refine L.val rfl rfl (R.as rfl) ?_
  refine L.nil ?_
  refine N.seq ?_
  refine G.seq ?_
  refine G.seq ?_
  refine G.region ?_
  refine L.callF rfl rfl rfl go60 (frame_first_ok _) ?_
  rintro _ w2 ⟨rfl, e2⟩
  replace q1 := q1.ext0 e2
  replace E := E.trans0 e2
  refine L.val rfl rfl (R.not rfl) ?_
  refine L.nil ?_
  refine N.seq ?_
  refine G.condF rfl ?_
  refine G.skip ?_
  refine N.seq ?_
  refine G.seq ?_
  refine G.seq ?_
  refine G.region ?_
  refine L.val rfl rfl (R.mv rfl) ?_
  refine L.val rfl rfl (R.lenS rfl) ?_
  refine L.val rfl rfl (R.gtr rfl rfl) ?_
  refine L.nil ?_
  refine N.seq ?_
  refine G.condP rfl (fun h1 => ?_) (fun h1 => ?_)
  · refine G.seq ?_
    refine G.region ?_
    refine L.val rfl rfl (R.as rfl) ?_
    refine L.nil ?_
    refine N.seq ?_
    refine G.ret1 rfl rfl ?_
    exact ⟨congrArg Value.bool (by by_cases h1 : (secN l1 : Int) = 1 <;> simp [h1]), E⟩
  · have hN26 : secN l1 ≤ 26 := by omega
    have hsl : ∀ q, 0 ≤ q ∧ q ≤ 4294967295 → (spreadN p q l1 (secN l1)).length = 64 * secN l1 := fun q hq => spread_length (p := p) (q := q) (by omega) (by omega) hq (by omega) _ (Nat.le_refl _)
    refine G.skip ?_
    refine N.seq ?_
    refine G.seq ?_
    refine G.region ?_
    refine L.val rfl rfl (R.mv rfl) ?_
    refine L.val rfl rfl (R.conv rfl p (wrap_i64 (by omega))) ?_
    refine L.val rfl rfl (R.mv rfl) ?_
    refine L.callF rfl rfl rfl go68 (spread_ok p 3 a1 n1 c1 l1 _ q1 hc1 (by omega) (by omega) (by omega) (by decide)) ?_
    rintro _ w3 ⟨a7, c7, M7, rfl, e3, o7, hM7⟩
    have hE3 := E.size
    replace q1 := q1.ext0 e3
    replace E := E.trans0 e3
    refine L.val rfl rfl (R.mv rfl) ?_
    refine L.val rfl rfl (R.conv rfl p (wrap_i64 (by omega))) ?_
    refine L.val rfl rfl (R.mv rfl) ?_
    refine L.callF rfl rfl rfl go68 (spread_ok p 4 a1 n1 c1 l1 _ q1 hc1 (by omega) (by omega) (by omega) (by decide)) ?_
    rintro _ w4 ⟨a8, c8, M8, rfl, e4, o8, hM8⟩
    replace q1 := q1.ext0 e4
    replace o7 := o7.ext0 e4
    replace E := E.trans0 e4
    have hl7 := hsl 3 (by decide)
    have hl8 := hsl 4 (by decide)
    obtain ⟨sp, hsp⟩ : ∃ sp, sp = spreadN p 3 l1 (secN l1) := ⟨_, rfl⟩
    obtain ⟨sq, hsq⟩ : ∃ sq, sq = spreadN p 4 l1 (secN l1) := ⟨_, rfl⟩
    rw [← hsp] at o7 hl7
    rw [← hsq] at o8 hl8
    have hm7 := o7.mem
    have hm8 := o8.mem
    have hc7 := o7.le
    have hc8 := o8.le
    have hlt7 := o7.lt
    have hlt8 := o8.lt
    refine L.val rfl rfl (R.as rfl) ?_
    refine L.val rfl rfl (R.as rfl) ?_
    refine L.nil ?_
    refine N.seq ?_
    refine G.seq ?_
    refine G.region ?_
    refine L.do rfl rfl (R.alloc) ?_
    rintro _ w5 ⟨b9, rfl, hb9, hs5, e5, B9⟩
    have hE5 := E.size
    refine L.set rfl (R.st rfl rfl B9 (by decide) rfl) ?_
    rintro w6 ⟨e6, hs6, B9⟩
    replace B9 : Blk w6 b9 #[.int .i64 0] 3 (0, 0) := B9
    have n6 := e5.news2 e6 (by omega)
    replace E := E.trans0 n6
    have hb7 := (Bs.of_own o7).ext0 n6
    refine L.nil ?_
    refine N.seq ?_
    refine G.seq ?_
    refine G.region ?_
    refine L.val rfl rfl (R.mv rfl) ?_
    refine L.val rfl rfl (R.conv rfl p (wrap_i64 (by omega))) ?_
    refine L.val rfl rfl (R.mv rfl) ?_
    refine L.callF rfl rfl rfl go70 (cut_ok a7 _ c7 b9 _) ?_
    rintro _ w7 ⟨b21, b22, rfl, e7, B21, B22, h21, h22, l21, l22⟩
    replace E := E.trans0 e7
    replace hb7 := hb7.ext0 e7
    replace B9 := B9.ext0 e7
    refine L.callF rfl rfl rfl go69 (gcut_ok p b21 b22 b9 a7 _ c7 _ (secN l1) 0 _ (by omega) B21 B22 B9 (by decide) hb7 hc7 (by omega) (by omega) (by omega) (fun x hx => by have := (hm7 x hx).2; omega) (by omega)) ?_
    rintro _ w8 ⟨a10, c10, rfl, e8, g10, hc10, S9⟩
    have hg : gathN p (secL sp) (secN l1) 0 0 0 [] = (secN l1, l1, (secN l1 : Int), 0) := gath_spread (p := p) (q := 3) (l := l1) (sec := secL sp) (by omega) (by omega) (by decide) (by omega) (fun i hi => by rw [hsp]; exact spread_sec (p := p) (q := 3) (l := l1) (by omega) (by omega) (by decide) (by omega) _ (Nat.le_refl _) i hi) (secN l1) 0 0 0 (by omega) (by omega) (by simp)
    have hgA : (gathN p (secL sp) (secN l1) 0 0 0 []).1 = secN l1 := by rw [hg]
    have hgB : (gathN p (secL sp) (secN l1) 0 0 0 []).2.1 = l1 := by rw [hg]
    have hgC : (gathN p (secL sp) (secN l1) 0 0 0 []).2.2.1 = (secN l1 : Int) := by rw [hg]
    have hgD : (gathN p (secL sp) (secN l1) 0 0 0 []).2.2.2 = 0 := by rw [hg]
    rw [hgA] at S9
    rw [hgB] at g10 hc10
    rw [hgB, hgC, hgD]
    have n8 := ((e5.news2 e6 (by omega)).trans0 e7).news2 e8 (by omega)
    have hE7 := E.size
    replace E := E.news2 e8 (by omega)
    replace q1 := q1.ext0 n8
    replace o7 := o7.ext0 n8
    replace o8 := o8.ext0 n8
    refine L.val rfl rfl (R.mv rfl) ?_
    refine L.val rfl rfl (R.ext rfl rfl) ?_
    refine L.val rfl rfl (R.ext rfl rfl) ?_
    refine L.val rfl rfl (R.ext rfl rfl) ?_
    refine L.val rfl rfl (R.as rfl) ?_
    refine L.val rfl rfl (R.as rfl) ?_
    refine L.val rfl rfl (R.as rfl) ?_
    refine L.nil ?_
    refine N.seq ?_
    refine G.seq ?_
    refine G.seq ?_
    refine G.region ?_
    refine L.val rfl rfl (R.mv rfl) ?_
    refine L.val rfl rfl (R.neI rfl rfl) ?_
    refine L.val rfl rfl (R.mv rfl) ?_
    refine L.isF 38 rfl (by rfl) ?_
    refine L.val rfl rfl (R.mv rfl) ?_
    refine L.val rfl rfl (R.bytesStr rfl g10.cells g10.len) ?_
    refine L.val rfl rfl (R.mv rfl) ?_
    refine L.val rfl rfl (R.bytesStr rfl q1.cells q1.len) ?_
    refine L.val rfl rfl (R.neStr rfl rfl) ?_
    first | refine L.val rfl rfl (R.pickT rfl rfl) ?_ | refine L.val rfl rfl (R.pickF rfl rfl) ?_
    refine L.val rfl rfl (R.mv rfl) ?_
    refine L.isF 45 rfl (by simp) ?_
    refine L.val rfl rfl (R.mv rfl) ?_
    refine L.val rfl rfl (R.mul rfl rfl (by omega)) ?_
    refine L.val rfl rfl (R.mv rfl) ?_
    refine L.val rfl rfl (R.lenS rfl) ?_
    refine L.val rfl rfl (R.neI rfl rfl) ?_
    first | refine L.val rfl rfl (R.pickT rfl rfl) ?_ | refine L.val rfl rfl (R.pickF rfl rfl) ?_
    refine L.val rfl rfl (R.mv rfl) ?_
    refine L.isF 52 rfl (by simp) ?_
    refine L.val rfl rfl (R.mv rfl) ?_
    refine L.val rfl rfl (R.lenS rfl) ?_
    refine L.val rfl rfl (R.mv rfl) ?_
    refine L.val rfl rfl (R.lenS rfl) ?_
    refine L.val rfl rfl (R.neI rfl rfl) ?_
    first | refine L.val rfl rfl (R.pickT rfl rfl) ?_ | refine L.val rfl rfl (R.pickF rfl rfl) ?_
    refine L.be 58 rfl (show _ = Value.bool false by simp) ?_
    refine L.nil ?_
    refine N.seq ?_
    refine G.condF rfl ?_
    refine G.skip ?_
    refine N.seq ?_
    refine G.seq ?_
    refine G.region ?_
    refine L.val rfl rfl (R.mv rfl) ?_
    refine L.val rfl rfl (R.conv rfl (t : Int) (wrap_i64 (by omega))) ?_
    refine L.val rfl rfl (R.mv rfl) ?_
    refine L.val rfl rfl (R.rem rfl rfl (by omega) (by omega)) ?_
    obtain ⟨i, hi⟩ : ∃ i, i = t % secN l1 := ⟨_, rfl⟩
    have hiN : i < secN l1 := hi ▸ Nat.mod_lt _ (by omega)
    refine L.be 62 rfl (show _ = Value.int .i64 (i : Int) by rw [hi]; simp) ?_
    refine L.val rfl rfl (R.as rfl) ?_
    refine L.nil ?_
    refine N.seq ?_
    refine G.seq ?_
    have hoki := okV_frV (p := p) (q := 4) (l := l1) (i := i) (by omega) (by omega) (by decide) (by omega) hiN
    have hs64 := secV_length hoki
    have hvs : (vbs (secV (frV p 4 l1 i))).length = 64 := by rw [vbs_length, hs64]
    have hsec8 : (sq.drop (64 * i)).take 64 = (secV (frV p 4 l1 i)) := by rw [hsq]; exact spread_sec (p := p) (q := 4) (l := l1) (by omega) (by omega) (by decide) (by omega) _ (Nat.le_refl _) i hiN
    have hb8 := Bs.of_own o8
    obtain ⟨g7, cur7, rfl, rfl, B7, hz7, hO7⟩ := o7.over (o := 64 * i) (cs := vbs (secV (frV p 4 l1 i))) (by omega) (by omega)
    obtain ⟨g8, cur8, rfl, rfl, B8, hz8, hO8⟩ := o8.over (o := 64 * i) (cs := vbs (secV (frV p 4 l1 i))) (by omega) (by omega)
    have hb8s := hb8.sub (64 * i) c8 64 (by omega) (by omega)
    rw [hsec8, subA_lit (by omega), Nat.zero_add, Nat.mul_one] at hb8s
    have hg7 := hlt7 g7 (by simp)
    have hE8 := E.size
    refine G.staged [11] [.blocks ([g7])] [fun w' => Ext [] w8 w', fun w' => Ext [g7] w8 w' ∧ Blk w' g7 (Over cur7 (64 * i) (vbs (secV (frV p 4 l1 i)))) 5 (0, 0)] [] (by decide +kernel) (by decide +kernel) rfl rfl rfl (fun _ h => h) ?_
    refine Z.val rfl rfl rfl rfl rfl (fun w9 => R.mv rfl) ?_
    refine Z.val rfl rfl rfl rfl rfl (fun w9 => R.mv rfl) ?_
    refine Z.val rfl rfl rfl rfl rfl (fun w9 => R.mul rfl rfl (by omega)) ?_
    refine Z.val rfl rfl rfl rfl rfl (fun w9 => R.slL rfl rfl (by omega) (by omega)) ?_
    refine Z.be 66 rfl (show _ = Value.slice (some ⟨g7, 64 * i, none⟩) (64 * secN l1 - 64 * i) (c7 - 64 * i) by rw [show (64 * (i : Int)).toNat = 64 * i by omega, subA_lit (by omega), Nat.zero_add, Nat.mul_one]) ?_
    refine Z.val rfl rfl rfl rfl rfl (fun w9 => R.mv rfl) ?_
    refine Z.val rfl rfl rfl rfl rfl (fun w9 => R.mv rfl) ?_
    refine Z.val rfl rfl rfl rfl rfl (fun w9 => R.mul rfl rfl (by omega)) ?_
    refine Z.val rfl rfl rfl rfl rfl (fun w9 => R.mv rfl) ?_
    refine Z.val rfl rfl rfl rfl rfl (fun w9 => R.mul rfl rfl (by omega)) ?_
    refine Z.val rfl rfl rfl rfl rfl (fun w9 => R.add rfl rfl (by omega)) ?_
    refine Z.val rfl rfl rfl rfl rfl (fun w9 => R.slLH rfl rfl rfl (by omega) (by omega) (by omega)) ?_
    refine Z.be 73 rfl (show _ = Value.slice (some ⟨g8, 64 * i, none⟩) 64 (c8 - 64 * i) by rw [show (64 * (i : Int)).toNat = 64 * i by omega, show (64 * (i : Int) + 64).toNat - 64 * i = 64 by omega, subA_lit (by omega), Nat.zero_add, Nat.mul_one]) ?_
    refine Z.put (A := fun v _ => v = .int .i64 64) (Lasts.kill (fun _ _ _ _ h => h) (by decide +kernel)) 0 (by decide +kernel) rfl rfl rfl rfl rfl rfl rfl (fun w9 hJ => (R.copyB rfl rfl (B7.ext0 hJ) (hb8s.cells.ext0 hJ) (by rw [hvs]; exact (Nat.min_eq_left (by omega)).symm) hz7 (vbs_one _)).mono (fun v w' h => by obtain ⟨rfl, h1, h2, h3⟩ := h; rw [hvs]; exact ⟨rfl, h1, h1.after hJ, h3⟩)) ?_
    refine Z.nil rfl rfl (fun w9 hJ => ?_)
    obtain ⟨e10, B7⟩ := hJ
    rintro _ _
    replace o7 := hO7 _ B7
    obtain ⟨sr, hsr⟩ : ∃ sr, sr = overL sp (64 * i) (secV (frV p 4 l1 i)) := ⟨_, rfl⟩
    rw [show List.take (64 * i) (vbs sp) ++ vbs (secV (frV p 4 l1 i)) ++ List.drop (64 * i + (vbs (secV (frV p 4 l1 i))).length) (vbs sp) = vbs sr by rw [hsr]; simp only [overL, vbs, List.map_append, List.map_take, List.map_drop, List.length_map]] at o7
    replace S9 := S9.ext e10 (by simp; omega)
    replace E := E.news2 e10 (by have := hM7 g7 (by simp); omega)
    have hb7 := Bs.of_own o7
    have hlr : sr.length = 64 * secN l1 := by rw [hsr, overL_length (by omega)]; exact hl7
    have hsec : ∀ j, j < secN l1 → secL sr j = secV (frV p (if j = i then 4 else 3) l1 j) := by
      intro j hj
      unfold secL
      rw [hsr, over_sec hs64 (by omega)]
      by_cases hji : j = i
      · subst hji; rw [if_pos rfl, if_pos rfl]
      · rw [if_neg hji, if_neg hji, hsp]; exact spread_sec (p := p) (q := 3) (l := l1) (by omega) (by omega) (by decide) (by omega) _ (Nat.le_refl _) j hj
    have hg2 : (gathN p (secL sr) (secN l1) 0 0 0 []).2.2.2 = if (secN l1 : Int) = 1 then 0 else 20 := by
      by_cases h1 : secN l1 = 1
      · rw [if_pos (by omega)]
        have h := gath_spread (p := p) (q := 4) (l := l1) (sec := secL sr) (by omega) (by omega) (by decide) (by omega) (fun j hj => by rw [hsec j hj, if_pos (by omega)]) (secN l1) 0 0 0 (by omega) (by omega) (by simp)
        rw [show List.take (40 * 0) l1 = [] from rfl] at h
        rw [h]
      · rw [if_neg (by omega)]
        exact gath_mixed (p := p) (q := 3) (q' := 4) (l := l1) (sec := secL sr) (i := i) (by omega) (by omega) (by decide) (by decide) (by decide) (by omega) (by omega) hiN hsec (secN l1) 0 0 0 [] (by omega) (by omega) (.inl rfl)
    refine N.seq ?_
    refine G.seq ?_
    refine G.region ?_
    refine L.val rfl rfl (R.mv rfl) ?_
    refine L.val rfl rfl (R.conv rfl p (wrap_i64 (by omega))) ?_
    refine L.val rfl rfl (R.mv rfl) ?_
    refine L.callF rfl rfl rfl go70 (cut_ok _ _ c7 b9 _) ?_
    rintro _ w11 ⟨b31, b32, rfl, e11, B31, B32, h31, h32, l31, l32⟩
    have hl9 := S9.lt
    have hlt7b := o7.lt g7 (by simp)
    replace E := E.trans0 e11
    have hl11 := e11.size
    replace hb7 := hb7.ext0 e11
    replace S9 := S9.ext0 e11
    refine L.callF rfl rfl rfl go69 (gcut_ok p b31 b32 b9 _ _ c7 _ (secN l1) _ _ (by omega) B31 B32 S9 (by omega) hb7 hc7 (by omega) (by omega) (by omega) (fun x hx => by cases hx; show g7 ≠ b9 ∧ g7 < _; omega) (by omega)) ?_
    rintro _ w12 ⟨a12, c12, rfl, e12, g12, hc12, S12⟩
    replace E := E.news2 e12 (by omega)
    rw [hg2]
    refine L.val rfl rfl (R.mv rfl) ?_
    refine L.val rfl rfl (R.ext rfl rfl) ?_
    refine L.val rfl rfl (R.ext rfl rfl) ?_
    refine L.val rfl rfl (R.ext rfl rfl) ?_
    refine L.val rfl rfl (R.as rfl) ?_
    refine L.nil ?_
    refine N.seq ?_
    refine G.seq ?_
    refine G.region ?_
    refine L.val rfl rfl (R.mv rfl) ?_
    refine L.val rfl rfl (R.eqI rfl rfl) ?_
    refine L.val rfl rfl (R.mv rfl) ?_
    refine L.val rfl rfl (R.eqI rfl rfl) ?_
    refine L.val rfl rfl (R.eqB rfl rfl) ?_
    refine L.val rfl rfl (R.as rfl) ?_
    refine L.nil ?_
    refine N.seq ?_
    refine G.ret1 rfl rfl ?_
    exact ⟨congrArg Value.bool (by by_cases h1 : (secN l1 : Int) = 1 <;> simp [h1]), E⟩

end Go.Proofs.Ytjmlcodlnohgdaa
