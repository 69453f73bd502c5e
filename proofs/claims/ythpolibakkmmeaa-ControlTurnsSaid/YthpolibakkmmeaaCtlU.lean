/-
  The walks of package control.
-/
import Derived.Test.YthpolibakkmmeaaCtlF
set_option linter.unusedVariables false
set_option linter.unusedSimpArgs false
namespace Go.Proofs.Ythpolibakkmmeaa
open Go Brv Brv.Crc Brv.Pack Brv.Frame Brv.Image Brv.Dev Brv.Control
structure TuSt where
  k : Nat
  gen : Nat
  st : List UInt8
  S : List Nat

theorem controlTurns_ok (la : Option Addr) (ln lc : Nat) (cs : List Ctl) (w : World) (hT : Tab w la ln 7 (cs.map fun c => (ctlC c).toList)) (hI : ∀ c ∈ cs, InC c) : Meets Try.prog 11 [.slice la ln lc] w (fun v w' => v = .bool true ∧ Ext [] w w') := by
  refine Meets.enter Try.func11 rfl 88 rfl (Nat.le_of_ble_eq_true rfl) ?_
  have E := Ext.refl [] w
  have hln := hT.len
  rw [List.length_map] at hln
  refine G.seq ?_
  refine G.region ?_
  refine L.val rfl rfl (R.as rfl) ?_
  refine L.nil ?_
  refine N.seq ?_
  refine G.seq ?_
  refine G.seq ?_
  refine G.region ?_
  refine L.callF rfl rfl rfl go71 (control_first_ok _) ?_
  rintro _ w0 ⟨rfl, e0⟩
  replace E := E.trans0 e0
  refine L.val rfl rfl (R.not rfl) ?_
  refine L.nil ?_
  refine N.seq ?_
  refine G.condF rfl ?_
  refine G.skip ?_
  refine N.seq ?_
  refine G.seq ?_
  refine G.seq ?_
  refine G.region ?_
  refine L.val rfl rfl (R.mv rfl) ?_
  refine L.val rfl rfl (R.lenS rfl) ?_
  refine L.val rfl rfl (R.gtr rfl rfl) ?_
  refine L.nil ?_
  refine N.seq ?_
  refine G.condP rfl (fun h1 => ?_) (fun h1 => ?_)
  · refine G.seq ?_
    refine G.region ?_
    refine L.val rfl rfl (R.as rfl) ?_
    refine L.nil ?_
    refine N.seq ?_
    refine G.ret1 rfl rfl ?_
    exact ⟨rfl, E⟩
  · have hl30 : ln ≤ 30 := by omega
    refine G.skip ?_
    refine N.seq ?_
    refine G.seq ?_
    refine G.region ?_
    refine L.callF rfl rfl rfl go78 (dnew_ok 3 _ (by decide) (by decide)) ?_
    rintro _ w1 ⟨d, S0, rfl, e1, D, hS⟩
    have hE0 := E.size
    replace E := E.trans0 e1
    replace hS : ∀ g ∈ S0, w.heap.size ≤ g := fun g hg => Nat.le_trans hE0 (hS g hg)
    refine L.val rfl rfl (R.mv rfl) ?_
    refine L.val rfl rfl (R.ext rfl rfl) ?_
    refine L.val rfl rfl (R.ext rfl rfl) ?_
    refine L.val rfl rfl (R.as rfl) ?_
    refine L.val rfl rfl (R.as rfl) ?_
    refine L.nil ?_
    refine N.seq ?_
    refine G.seq ?_
    refine G.region ?_
    refine L.val rfl rfl (R.as rfl) ?_
    refine L.nil ?_
    refine N.seq ?_
    refine G.seq ?_
    refine G.seq ?_
    refine G.region ?_
    refine L.val rfl rfl (R.mv rfl) ?_
    refine L.val rfl rfl (R.lenS rfl) ?_
    refine L.val rfl rfl (R.mv rfl) ?_
    refine L.nil ?_
    refine N.seq ?_
    refine G.block ?_
    refine G.loop (X := TuSt) (fun s => [(3, .pointer (some ⟨d, 0, none⟩)), (5, .int .i64 (s.gen : Int)), (22, .slice la ln lc), (23, .int .i64 (ln : Int)), (24, .int .i64 (s.k : Int))]) (fun s w' => s.k ≤ ln ∧ s.gen ≤ s.k ∧ Behind' s.st s.gen ∧ DevAt w' d (cleanV s.st (2 * (s.gen : Int))) 3 s.S ∧ (∀ g ∈ s.S, w.heap.size ≤ g) ∧ Ext [] w w') (fun s => ln - s.k) (⟨0, 0, List.replicate (64 * 3) 0, S0⟩) (Sub.cons rfl (Sub.cons rfl (Sub.cons rfl (Sub.cons rfl (Sub.cons rfl (Sub.nil _)))))) ⟨Nat.zero_le _, Nat.le_refl 0, Behind'.zero, D, hS, E⟩ ?_
    rintro ⟨k, gen, st, S⟩ w2 ⟨hk, hgk, hB, D, hS, E⟩
    dsimp only at hk hgk hB D hS
    refine G.sub [(3, .pointer (some ⟨d, 0, none⟩)), (5, .int .i64 (gen : Int)), (22, .slice la ln lc), (23, .int .i64 (ln : Int)), (24, .int .i64 (k : Int))] (Sub.cons rfl (Sub.cons rfl (Sub.cons rfl (Sub.cons rfl (Sub.cons rfl (Sub.nil _)))))) ?_
    have hl := hB.1
    refine G.seq ?_
    refine G.region ?_
    refine L.val rfl rfl (R.lss rfl rfl) ?_
    refine L.nil ?_
    refine N.seq ?_
    refine G.seq ?_
    refine G.condP rfl (fun h2 => ?_) (fun h2 => ?_)
    · have hkl : k < cs.length := by omega
      obtain ⟨q9, hq9, hcl⟩ := hT.at (by decide) k (by rw [List.length_map]; exact hkl)
      rw [List.getElem_map] at hcl
      have hci := hI _ (List.getElem_mem hkl)
      generalize hce : cs[k]'hkl = c at *
      obtain ⟨cg, hcg⟩ : ∃ cg : Ctl, cg = ((gen : Int), c.2) := ⟨_, rfl⟩
      have hcgI : InC cg := by rw [hcg]; exact ⟨⟨by show (-9223372036854775808 : Int) ≤ (gen : Int); omega, by show (gen : Int) ≤ _; omega⟩, hci.e, hci.a, hci.t, hci.n, hci.r, hci.l⟩
      have hg1 : cg.1 = (gen : Int) := by rw [hcg]
      obtain ⟨m, hm⟩ : ∃ m, m = gen % 2 := ⟨_, rfl⟩
      have hm2 : m < 2 := by omega
      refine G.skip ?_
      refine N.seq ?_
      refine G.seq ?_
      refine G.block ?_
      refine G.seq ?_
      refine G.region ?_
      refine L.val rfl rfl (R.idx rfl rfl (by omega) (by omega) q9 hq9) ?_
      refine L.val rfl rfl (R.ldN (vs := (ctlC c).toList) rfl (hcl.ext0 E) rfl) ?_
      refine L.be 27 rfl (show _ = Value.agg (ctlC c) from rfl) ?_
      refine L.do rfl rfl (R.alloc) ?_
      rintro _ w3 ⟨b7, rfl, hb7, hs3, e3, B7⟩
      have hE3 := E.size
      have hlt3 := D.lt
      replace E := E.trans0 e3
      replace D := D.ext0 e3
      refine L.set rfl (R.stN rfl rfl B7 rfl (Nat.le_refl 7) (ctlC_one _)) ?_
      rintro w4 ⟨e4, hs4, B7x⟩
      replace D := D.ext e4 (fun y hy hm => by have h9 := hlt3 _ hy; rw [List.mem_singleton.1 hm] at h9; omega)
      replace B7 : Blk w4 b7 (ctlC c) 121 (0, 0) := by rw [all_stored (by rfl)] at B7x; exact B7x
      replace E := E.trans e4 (M := []) (by simp) (by intro x hx; rw [List.mem_singleton.1 hx]; exact .inr (by omega))
      refine L.nil ?_
      refine N.seq ?_
      refine G.seq ?_
      refine G.region ?_
      refine L.val rfl rfl (R.mv rfl) ?_
      refine L.val rfl rfl (R.fld rfl) ?_
      refine L.set rfl (R.st rfl rfl B7 (by show 0 < 7; decide) rfl) ?_
      rintro w5 ⟨e5, hs5, B7x⟩
      replace D := D.ext e5 (fun y hy hm => by have h9 := hlt3 _ hy; rw [List.mem_singleton.1 hm] at h9; omega)
      replace B7 : Blk w5 b7 (ctlC cg) 121 (0, 0) := by rw [hcg]; exact B7x
      replace E := E.trans e5 (M := []) (by simp) (by intro x hx; rw [List.mem_singleton.1 hx]; exact .inr (by omega))
      refine L.nil ?_
      refine N.seq ?_
      refine G.seq ?_
      refine G.region ?_
      refine L.val rfl rfl (R.mv rfl) ?_
      refine L.callF rfl rfl rfl go79 (dimage_ok d _ 3 S _ D) ?_
      rintro _ w6 ⟨a31, c31, M31, rfl, e6, o31, hM31⟩
      replace E := E.trans0 e6
      have L31 := Bs.of_own o31
      have hk31 := o31.le
      replace D := D.ext0 e6
      replace B7 := B7.ext0 e6
      have hst192 : (cleanV st (2 * (gen : Int))).stay.length = 192 := hl
      rw [hst192] at L31 hk31 ⊢
      replace L31 : Bs w6 a31 192 st := L31
      refine L.val rfl rfl (R.mv rfl) ?_
      refine L.val rfl rfl (R.rem rfl rfl (by omega) (by omega)) ?_
      refine L.val rfl rfl (R.mul rfl rfl (by omega)) ?_
      refine L.val rfl rfl (R.mv rfl) ?_
      refine L.val rfl rfl (R.rem rfl rfl (by omega) (by omega)) ?_
      refine L.val rfl rfl (R.mul rfl rfl (by omega)) ?_
      refine L.val rfl rfl (R.add rfl rfl (by omega)) ?_
      refine L.val rfl rfl (R.slLH rfl rfl rfl (by omega) (by omega) (by omega)) ?_
      refine L.be 39 rfl (show _ = Value.slice (subA a31 (64 * m) c31 1) 64 (c31 - 64 * m) by rw [show (64 * ((gen : Int) % 2)).toNat = 64 * m by omega, show (64 * ((gen : Int) % 2) + 64).toNat - 64 * m = 64 by omega]) ?_
      refine L.val rfl rfl (R.bytesStr (l := blk st m) rfl (L31.sub (64 * m) c31 64 (by omega) (by omega)).cells (by rw [blk_length (by rw [dn_of hl]; omega)])) ?_
      refine L.val rfl rfl (R.as rfl) ?_
      refine L.nil ?_
      refine N.seq ?_
      refine G.seq ?_
      by_cases hok : okC (nextC cg)
      · have hgn : (nextC cg).1 = ((gen + 1 : Nat) : Int) := by show cg.1 + 1 = _; omega
        have hwc := write_clean (calls := 2 * (gen : Int)) (p := 0) (N := 3) hl (by decide) (show cg.1 < 2305843009213693952 by omega) hok
        rw [Nat.zero_add, show ((0 : Nat) : Int) = 0 from rfl] at hwc
        obtain ⟨hB1, hpk, hoth⟩ := turn hB hgn hok
        have hsl : 1 - slot (nextC cg) = m := by unfold slot; rw [hgn]; omega
        rw [hsl] at hoth
        have hrc := read_clean (st := laid st (slot (nextC cg)) (ctlS (nextC cg))) (calls := 2 * (gen : Int) + 2) (N := 3) (p := 0) (by decide)
        rw [hpk, show ((0 : Nat) : Int) = 0 from rfl] at hrc
        obtain ⟨er, her⟩ : ∃ er : Int, er = 0 := ⟨_, rfl⟩
        refine G.region ?_
        refine L.val rfl rfl (R.mv rfl) ?_
        refine L.val rfl rfl (R.ldBN rfl B7 rfl) ?_
        refine L.callF rfl rfl rfl go80 (cwrite_ok d (cleanV st (2 * (gen : Int))) 3 S 0 cg _ D hcgI ⟨by show (0 : Int) ≤ 2 * (gen : Int); omega, by show 2 * (gen : Int) ≤ _; omega⟩ (by show (0 : Nat) ≤ _; decide)) ?_
        rintro _ w7 ⟨rfl, S1, g7, D1⟩
        rw [hwc] at D1 ⊢
        have hEw := E.size
        have hb7l := B7.lt
        have hb7S : b7 ∉ S := fun h => by have := hlt3 _ h; omega
        replace B7 := B7.ext g7.1 hb7S
        replace E := E.fresh g7.1 hS
        replace hS := g7.fresh hS hEw
        replace D := D1
        clear D1
        have hb7S1 : b7 ∉ S1 := g7.apart (Z := [b7]) (by simpa using hb7S) (by simpa using hb7l) b7 (by simp)
        refine L.val rfl rfl (R.mv rfl) ?_
        refine L.val rfl rfl (R.ext rfl rfl) ?_
        refine L.val rfl rfl (R.ext rfl rfl) ?_
        refine L.do rfl rfl (R.alloc) ?_
        rintro _ w8 ⟨b9, rfl, hb9, hs8, e8, B9⟩
        have hE8 := E.size
        have hlt8 := D.lt
        have hl8_B7 := B7.lt
        replace E := E.trans0 e8
        replace B7 := B7.ext0 e8
        replace D := D.ext0 e8
        refine L.set rfl (R.stN rfl rfl B9 rfl (Nat.le_refl 7) (ctlC_one _)) ?_
        rintro w9 ⟨e9, hs9, B9x⟩
        replace B7 := B7.ext e9 (by simp; omega)
        replace D := D.ext e9 (fun y hy hm => by have h9 := hlt8 _ hy; rw [List.mem_singleton.1 hm] at h9; omega)
        replace B9 : Blk w9 b9 (ctlC (nextC cg)) 121 (0, 0) := by rw [all_stored (by rfl)] at B9x; exact B9x
        replace E := E.trans e9 (M := []) (by simp) (by intro x hx; rw [List.mem_singleton.1 hx]; exact .inr (by omega))
        refine L.val rfl rfl (R.as rfl) ?_
        refine L.nil ?_
        refine N.seq ?_
        refine G.seq ?_
        refine G.seq ?_
        refine G.region ?_
        refine L.val rfl rfl (R.mv rfl) ?_
        refine L.val rfl rfl (R.neI rfl rfl) ?_
        refine L.nil ?_
        refine N.seq ?_
        refine G.condF rfl ?_
        refine G.skip ?_
        refine N.seq ?_
        refine G.seq ?_
        refine G.region ?_
        refine L.val rfl rfl (R.mv rfl) ?_
        refine L.val rfl rfl (R.add rfl rfl (by omega)) ?_
        refine L.be 50 rfl (show _ = Value.int .i64 ((gen + 1 : Nat) : Int) by congr 1) ?_
        refine L.val rfl rfl (R.as rfl) ?_
        refine L.nil ?_
        refine N.seq ?_
        refine G.seq ?_
        refine G.region ?_
        refine L.val rfl rfl (R.mv rfl) ?_
        refine L.val rfl rfl (R.fld rfl) ?_
        refine L.set rfl (R.st rfl rfl B7 (by show 0 < 7; decide) rfl) ?_
        rintro w10 ⟨e10, hs10, B7x⟩
        replace D := D.ext e10 (fun y hy hm => by rw [List.mem_singleton.1 hm] at hy; exact hb7S1 hy)
        replace B9 := B9.ext e10 (by simp; omega)
        replace B7 : Blk w10 b7 (ctlC (nextC cg)) 121 (0, 0) := by rw [show nextC cg = (((gen + 1 : Nat) : Int), cg.2) by rw [hcg]; rfl]; exact B7x
        replace E := E.trans e10 (M := []) (by simp) (by intro x hx; rw [List.mem_singleton.1 hx]; exact .inr (by omega))
        refine L.nil ?_
        refine N.seq ?_
        refine G.seq ?_
        refine G.region ?_
        refine L.val rfl rfl (R.mv rfl) ?_
        refine L.callF rfl rfl rfl go81 (cread_ok d _ 3 S1 0 _ D (by show (0 : Nat) ≤ _; decide)) ?_
        rintro _ w11 ⟨rfl, e11⟩
        rw [hrc]
        replace E := E.trans0 e11
        replace B7 := B7.ext0 e11
        replace B9 := B9.ext0 e11
        replace D := D.ext0 e11
        refine L.val rfl rfl (R.mv rfl) ?_
        refine L.val rfl rfl (R.ext rfl rfl) ?_
        refine L.val rfl rfl (R.ext rfl rfl) ?_
        refine L.do rfl rfl (R.alloc) ?_
        rintro _ w12 ⟨b11, rfl, hb11, hs12, e12, B11⟩
        have hE12 := E.size
        have hlt12 := D.lt
        have hl12_B7 := B7.lt
        have hl12_B9 := B9.lt
        replace E := E.trans0 e12
        replace B7 := B7.ext0 e12
        replace B9 := B9.ext0 e12
        replace D := D.ext0 e12
        refine L.set rfl (R.stN rfl rfl B11 rfl (Nat.le_refl 7) (ctlC_one _)) ?_
        rintro w13 ⟨e13, hs13, B11x⟩
        replace B7 := B7.ext e13 (by simp; omega)
        replace B9 := B9.ext e13 (by simp; omega)
        replace D := D.ext e13 (fun y hy hm => by have h9 := hlt12 _ hy; rw [List.mem_singleton.1 hm] at h9; omega)
        replace B11 : Blk w13 b11 (ctlC (nextC cg)) 121 (0, 0) := by rw [all_stored (by rfl)] at B11x; exact B11x
        replace E := E.trans e13 (M := []) (by simp) (by intro x hx; rw [List.mem_singleton.1 hx]; exact .inr (by omega))
        refine L.val rfl rfl (R.as rfl) ?_
        refine L.nil ?_
        refine N.seq ?_
        refine G.seq ?_
        refine G.region ?_
        refine L.val rfl rfl (R.ldBN rfl B9 rfl) ?_
        refine L.val rfl rfl (R.ldBN rfl B7 rfl) ?_
        refine L.val rfl rfl (R.neS rfl rfl rfl rfl (b := false) (by rw [eqL_ctl]; simp)) ?_
        refine L.val rfl rfl (R.mv rfl) ?_
        refine L.isF 61 rfl (by rfl) ?_
        refine L.val rfl rfl (R.ldBN rfl B11 rfl) ?_
        refine L.val rfl rfl (R.ldBN rfl B7 rfl) ?_
        refine L.val rfl rfl (R.neS rfl rfl rfl rfl (b := false) (by rw [eqL_ctl]; simp)) ?_
        first | refine L.val rfl rfl (R.pickT rfl rfl) ?_ | refine L.val rfl rfl (R.pickF rfl rfl) ?_
        refine L.val rfl rfl (R.mv rfl) ?_
        refine L.isF 66 rfl (by rfl) ?_
        refine L.val rfl rfl (R.mv rfl) ?_
        refine L.val rfl rfl (R.neI rfl rfl) ?_
        first | refine L.val rfl rfl (R.pickT rfl rfl) ?_ | refine L.val rfl rfl (R.pickF rfl rfl) ?_
        refine L.val rfl rfl (R.mv rfl) ?_
        refine L.isF 70 rfl (by rfl) ?_
        refine L.val rfl rfl (R.mv rfl) ?_
        refine L.callF rfl rfl rfl go79 (dimage_ok d _ 3 S1 _ D) ?_
        rintro _ w14 ⟨a72, c72, M72, rfl, e14, o72, hM72⟩
        replace E := E.trans0 e14
        have L72 := Bs.of_own o72
        have hk72 := o72.le
        replace D := D.ext0 e14
        obtain ⟨st2, hst2⟩ : ∃ x, x = laid st (slot (nextC cg)) (ctlS (nextC cg)) := ⟨_, rfl⟩
        have hl2 : st2.length = 64 * 3 := by rw [hst2]; exact hB1.1
        have hv2 : (cleanV (laid st (slot (nextC cg)) (ctlS (nextC cg))) (2 * (gen : Int) + 2)).stay = st2 := by rw [hst2]; rfl
        rw [hv2, hl2] at L72 hk72 ⊢
        replace L72 : Bs w14 a72 192 st2 := L72
        refine L.val rfl rfl (R.mv rfl) ?_
        refine L.val rfl rfl (R.add rfl rfl (by omega)) ?_
        refine L.val rfl rfl (R.rem rfl rfl (by omega) (by omega)) ?_
        refine L.val rfl rfl (R.mul rfl rfl (by omega)) ?_
        refine L.val rfl rfl (R.mv rfl) ?_
        refine L.val rfl rfl (R.add rfl rfl (by omega)) ?_
        refine L.val rfl rfl (R.rem rfl rfl (by omega) (by omega)) ?_
        refine L.val rfl rfl (R.mul rfl rfl (by omega)) ?_
        refine L.val rfl rfl (R.add rfl rfl (by omega)) ?_
        refine L.val rfl rfl (R.slLH rfl rfl rfl (by omega) (by omega) (by omega)) ?_
        refine L.be 82 rfl (show _ = Value.slice (subA a72 (64 * m) c72 1) 64 (c72 - 64 * m) by rw [show (64 * ((((gen + 1 : Nat) : Int) + 1) % 2)).toNat = 64 * m by omega, show (64 * ((((gen + 1 : Nat) : Int) + 1) % 2) + 64).toNat - 64 * m = 64 by omega]) ?_
        refine L.val rfl rfl (R.bytesStr (l := blk st m) rfl (by rw [← hoth, ← hst2]; exact (L72.sub (64 * m) c72 64 (by omega) (by omega)).cells) (by rw [blk_length (by rw [dn_of hl]; omega)])) ?_
        refine L.val rfl rfl (R.mv rfl) ?_
        refine L.val rfl rfl (R.neStr rfl rfl) ?_
        first | refine L.val rfl rfl (R.pickT rfl rfl) ?_ | refine L.val rfl rfl (R.pickF rfl rfl) ?_
        refine L.be 86 rfl (show _ = Value.bool false by simp) ?_
        refine L.nil ?_
        refine N.seq ?_
        refine G.condF rfl ?_
        refine G.skip ?_
        refine N.block ?_
        refine N.seq ?_
        refine G.region ?_
        refine L.val rfl rfl (R.add rfl rfl (by omega)) ?_
        refine L.val rfl rfl (R.mv rfl) ?_
        refine L.nil ?_
        first
          | exact N.again (X := TuSt) ⟨k + 1, gen + 1, laid st (slot (nextC cg)) (ctlS (nextC cg)), S1⟩ (by show ln - (k + 1) < ln - k; omega) (Sub.cons rfl (Sub.cons rfl (Sub.cons rfl (Sub.cons rfl (Sub.cons rfl (Sub.nil _)))))) ⟨by show k + 1 ≤ ln; omega, by show gen + 1 ≤ k + 1; omega, hB1, by show DevAt _ d (cleanV _ (2 * ((gen + 1 : Nat) : Int))) 3 S1; rw [show 2 * ((gen + 1 : Nat) : Int) = 2 * (gen : Int) + 2 by omega]; exact D, hS, E⟩
          | exact N.again (X := TuSt) ⟨k + 1, gen, st, S1⟩ (by show ln - (k + 1) < ln - k; omega) (Sub.cons rfl (Sub.cons rfl (Sub.cons rfl (Sub.cons rfl (Sub.cons rfl (Sub.nil _)))))) ⟨by show k + 1 ≤ ln; omega, by show gen ≤ k + 1; omega, hB, D, hS, E⟩
      · have hwc : writeCV (cleanV st (2 * (gen : Int))) 3 0 cg = (cleanV st (2 * (gen : Int)), zeroC, 2) := writeCV_arg (by omega) (.inl hok)
        refine G.region ?_
        refine L.val rfl rfl (R.mv rfl) ?_
        refine L.val rfl rfl (R.ldBN rfl B7 rfl) ?_
        refine L.callF rfl rfl rfl go80 (cwrite_ok d (cleanV st (2 * (gen : Int))) 3 S 0 cg _ D hcgI ⟨by show (0 : Int) ≤ 2 * (gen : Int); omega, by show 2 * (gen : Int) ≤ _; omega⟩ (by show (0 : Nat) ≤ _; decide)) ?_
        rintro _ w7 ⟨rfl, S1, g7, D1⟩
        rw [hwc] at D1 ⊢
        have hEw := E.size
        have hb7l := B7.lt
        have hb7S : b7 ∉ S := fun h => by have := hlt3 _ h; omega
        replace B7 := B7.ext g7.1 hb7S
        replace E := E.fresh g7.1 hS
        replace hS := g7.fresh hS hEw
        replace D := D1
        clear D1
        have hb7S1 : b7 ∉ S1 := g7.apart (Z := [b7]) (by simpa using hb7S) (by simpa using hb7l) b7 (by simp)
        refine L.val rfl rfl (R.mv rfl) ?_
        refine L.val rfl rfl (R.ext rfl rfl) ?_
        refine L.val rfl rfl (R.ext rfl rfl) ?_
        refine L.do rfl rfl (R.alloc) ?_
        rintro _ w8 ⟨b9, rfl, hb9, hs8, e8, B9⟩
        have hE8 := E.size
        have hlt8 := D.lt
        have hl8_B7 := B7.lt
        replace E := E.trans0 e8
        replace B7 := B7.ext0 e8
        replace D := D.ext0 e8
        refine L.set rfl (R.stN rfl rfl B9 rfl (Nat.le_refl 7) (ctlC_one _)) ?_
        rintro w9 ⟨e9, hs9, B9x⟩
        replace B7 := B7.ext e9 (by simp; omega)
        replace D := D.ext e9 (fun y hy hm => by have h9 := hlt8 _ hy; rw [List.mem_singleton.1 hm] at h9; omega)
        replace B9 : Blk w9 b9 (ctlC zeroC) 121 (0, 0) := by rw [all_stored (by rfl)] at B9x; exact B9x
        replace E := E.trans e9 (M := []) (by simp) (by intro x hx; rw [List.mem_singleton.1 hx]; exact .inr (by omega))
        refine L.val rfl rfl (R.as rfl) ?_
        refine L.nil ?_
        refine N.seq ?_
        refine G.seq ?_
        refine G.seq ?_
        refine G.region ?_
        refine L.val rfl rfl (R.mv rfl) ?_
        refine L.val rfl rfl (R.neI rfl rfl) ?_
        refine L.nil ?_
        refine N.seq ?_
        refine G.condT rfl ?_
        refine G.exit _ rfl ?_
        refine N.seq ?_
        refine G.region ?_
        refine L.val rfl rfl (R.add rfl rfl (by omega)) ?_
        refine L.val rfl rfl (R.mv rfl) ?_
        refine L.nil ?_
        first
          | exact N.again (X := TuSt) ⟨k + 1, gen + 1, laid st (slot (nextC cg)) (ctlS (nextC cg)), S1⟩ (by show ln - (k + 1) < ln - k; omega) (Sub.cons rfl (Sub.cons rfl (Sub.cons rfl (Sub.cons rfl (Sub.cons rfl (Sub.nil _)))))) ⟨by show k + 1 ≤ ln; omega, by show gen + 1 ≤ k + 1; omega, hB1, by show DevAt _ d (cleanV _ (2 * ((gen + 1 : Nat) : Int))) 3 S1; rw [show 2 * ((gen + 1 : Nat) : Int) = 2 * (gen : Int) + 2 by omega]; exact D, hS, E⟩
          | exact N.again (X := TuSt) ⟨k + 1, gen, st, S1⟩ (by show ln - (k + 1) < ln - k; omega) (Sub.cons rfl (Sub.cons rfl (Sub.cons rfl (Sub.cons rfl (Sub.cons rfl (Sub.nil _)))))) ⟨by show k + 1 ≤ ln; omega, by show gen ≤ k + 1; omega, hB, D, hS, E⟩
    · refine G.exit _ rfl ?_
      refine N.seq ?_
      refine G.seq ?_
      refine G.region ?_
      refine L.val rfl rfl (R.as rfl) ?_
      refine L.nil ?_
      refine N.seq ?_
      refine G.ret1 rfl rfl ?_
      exact ⟨rfl, E⟩

end Go.Proofs.Ythpolibakkmmeaa
