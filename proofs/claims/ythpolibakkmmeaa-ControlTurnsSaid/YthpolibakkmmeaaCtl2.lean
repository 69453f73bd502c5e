/-
  The walks of package control.
-/
import Derived.Test.YthpolibakkmmeaaCtl1
set_option linter.unusedVariables false
set_option linter.unusedSimpArgs false
namespace Go.Proofs.Ythpolibakkmmeaa
open Go Brv Brv.Crc Brv.Pack Brv.Frame Brv.Image Brv.Dev Brv.Control
theorem cget_ok (a : Option Addr) (n k : Nat) (l : List UInt8) (w : World) (hb : Bs w a n l) (hk : n ≤ k) (hn : n ≤ 70368744177664) : Meets Try.prog 74 [.slice a n k] w (fun v w' => v = .tuple #[.agg (ctlC (getC l).1), .int .i64 (getC l).2] ∧ Ext [] w w') := by
  refine Meets.enter Try.func74 rfl 55 rfl (Nat.le_of_ble_eq_true rfl) ?_
  have E := Ext.refl [] w
  have hl := hb.len
  refine G.seq ?_
  refine G.region ?_
  refine L.do rfl rfl (R.alloc) ?_
  rintro _ w1 ⟨b2, rfl, hb2, hs2, e1, B2⟩
  replace B2 : Blk w1 b2 (ctlC zeroC) 121 (0, 0) := B2
  replace E := E.trans0 e1
  refine L.val rfl rfl (R.as rfl) ?_
  refine L.nil ?_
  refine N.seq ?_
  refine G.seq ?_
  refine G.region ?_
  refine L.val rfl rfl (R.mv rfl) ?_
  refine L.callF rfl rfl rfl go132 (fget_ok a n k l _ (hb.ext0 E) hk hn) ?_
  rintro _ w2 ⟨a1, c1, rfl, e2, hb1, hc1, hfr⟩
  replace E := E.trans0 e2
  replace B2 := B2.ext0 e2
  have hw12 := e2.size
  refine L.val rfl rfl (R.mv rfl) ?_
  refine L.val rfl rfl (R.ext rfl rfl) ?_
  refine L.val rfl rfl (R.ext rfl rfl) ?_
  refine L.do rfl rfl (R.alloc) ?_
  rintro _ w3 ⟨b4, rfl, hb4, hs4, e3, B4⟩
  have hE2 := E.size
  replace E := E.trans0 e3
  have hlt2 := B2.lt
  replace B2 := B2.ext0 e3
  replace hb1 := hb1.ext0 e3
  refine L.set rfl (R.stN rfl rfl B4 rfl (Nat.le_refl 5) (frC_one _ _ _)) ?_
  rintro w4 ⟨e4, hs4, B4x⟩
  replace B4 : Blk w4 b4 (frC (getF l).1 a1 c1) 214 (0, 0) := by rw [all_stored (by rfl)] at B4x; exact B4x
  replace E := E.trans e4 (M := []) (by simp) (by intro x hx; rw [List.mem_singleton.1 hx]; exact .inr (by omega))
  have n4 := e3.news2 e4 (by omega)
  replace B2 := B2.ext e4 (by simp; omega)
  replace hb1 := hb1.ext e4 (by intro p hp hh; have h1 := (hfr p hp).2; rw [List.mem_singleton.1 hh] at h1; omega)
  have hw4 := e4.size
  refine L.val rfl rfl (R.as rfl) ?_
  refine L.nil ?_
  refine N.seq ?_
  refine G.seq ?_
  refine G.seq ?_
  refine G.region ?_
  refine L.val rfl rfl (R.mv rfl) ?_
  refine L.val rfl rfl (R.neI rfl rfl) ?_
  refine L.nil ?_
  refine N.seq ?_
  refine G.condP rfl (fun h0 => ?_) (fun h0 => ?_)
  · have hne : (getF l).2 ≠ 0 := h0
    refine G.seq ?_
    refine G.region ?_
    refine L.val rfl rfl (R.build (cs := (ctlC zeroC)) rfl rfl) ?_
    refine L.val rfl rfl (R.mv rfl) ?_
    refine L.set rfl (R.stN rfl rfl B2 rfl (Nat.le_refl 7) (ctlC_one _)) ?_
    rintro w20 ⟨e20, hs20, B2x⟩
    replace B2 : Blk w20 b2 (ctlC zeroC) 121 (0, 0) := by rw [all_stored (by rfl)] at B2x; exact B2x
    replace E := E.trans e20 (M := []) (by simp) (by intro x hx; rw [List.mem_singleton.1 hx]; exact .inr (by omega))
    refine L.val rfl rfl (R.as rfl) ?_
    refine L.nil ?_
    refine N.seq ?_
    refine G.retCT rfl rfl rfl (B2) rfl ?_
    first
      | (rw [getC_err hne]; exact ⟨rfl, E⟩)
      | (rw [getC_no he0 (by rw [← hf]; exact hno)]; exact ⟨rfl, E⟩)
      | (rw [getC_no he0 (by rw [← hf]; exact fun h => by have h9 := (hok.1 h).2.2.2; simp [h9] at h1)]; exact ⟨rfl, E⟩)
      | (rw [getC_yes he0 (by rw [← hf]; exact hok.2 ⟨Classical.not_not.1 hg6_3, by omega, Classical.not_not.1 hg6_13, by simpa using h1⟩), ← hf, hmk]; exact ⟨rfl, E⟩)
  · have he0 : (getF l).2 = 0 := Classical.not_not.1 h0
    obtain ⟨f, hf⟩ : ∃ f, f = (getF l).1 := ⟨_, rfl⟩
    obtain ⟨q, hq⟩ : ∃ q, q = f.2.2.2.2 := ⟨_, rfl⟩
    rw [← hf] at hb1 hc1 B4
    have hfo := (getF_ok he0).1
    rw [← hf] at hfo
    have hq40 : q.length ≤ 40 := by rw [hq]; exact hfo.2.2.2.2
    obtain ⟨x1, hx1⟩ : ∃ x, x = numF q 0 1 := ⟨_, rfl⟩
    obtain ⟨x2, hx2⟩ : ∃ x, x = numF x1.2.1 x1.2.2 4 := ⟨_, rfl⟩
    obtain ⟨x3, hx3⟩ : ∃ x, x = numF x2.2.1 x2.2.2 8 := ⟨_, rfl⟩
    obtain ⟨x4, hx4⟩ : ∃ x, x = numF x3.2.1 x3.2.2 8 := ⟨_, rfl⟩
    obtain ⟨x5, hx5⟩ : ∃ x, x = numF x4.2.1 x4.2.2 8 := ⟨_, rfl⟩
    have h5 : five q = ((x1.1, x2.1, x3.1, x4.1, x5.1), x5.2.1, x5.2.2) := five_eq hx1.symm hx2.symm hx3.symm hx4.symm hx5.symm
    have z1 : x1.2.1.length ≤ 40 := by rw [hx1]; exact Nat.le_trans (numF_length _ _ _) hq40
    have z2 : x2.2.1.length ≤ 40 := by rw [hx2]; exact Nat.le_trans (numF_length _ _ _) z1
    have z3 : x3.2.1.length ≤ 40 := by rw [hx3]; exact Nat.le_trans (numF_length _ _ _) z2
    have z4 : x4.2.1.length ≤ 40 := by rw [hx4]; exact Nat.le_trans (numF_length _ _ _) z3
    have z5 : x5.2.1.length ≤ 40 := by rw [hx5]; exact Nat.le_trans (numF_length _ _ _) z4
    obtain ⟨c, hcc⟩ : ∃ c : Ctl, c = (f.1, f.2.1, (x1.1 : Int), (x2.1 : Int), (x3.1 : Int), (x4.1 : Int), (x5.1 : Int)) := ⟨_, rfl⟩
    have hmk : mkC f = c := by rw [hcc]; simp only [mkC, ← hq, h5]
    have hInc : InC c := by
      have n1 := numF_lt q 0 1
      have n2 := numF_lt x1.2.1 x1.2.2 4
      have n3 := numF_lt x2.2.1 x2.2.2 8
      have n4 := numF_lt x3.2.1 x3.2.2 8
      have n5 := numF_lt x4.2.1 x4.2.2 8
      rw [← hx1] at n1
      rw [← hx2] at n2
      rw [← hx3] at n3
      rw [← hx4] at n4
      rw [← hx5] at n5
      obtain ⟨⟨v1, v2⟩, ⟨v3, v4⟩, _⟩ := hfo
      rw [hcc]
      exact ⟨⟨by show (-9223372036854775808 : Int) ≤ f.1; omega, by show f.1 ≤ _; omega⟩, ⟨by show (-9223372036854775808 : Int) ≤ f.2.1; omega, by show f.2.1 ≤ _; omega⟩, ⟨by show (-9223372036854775808 : Int) ≤ (x1.1 : Int); omega, by show (x1.1 : Int) ≤ _; omega⟩, ⟨by show (-9223372036854775808 : Int) ≤ (x2.1 : Int); omega, by show (x2.1 : Int) ≤ _; omega⟩, ⟨by show (-9223372036854775808 : Int) ≤ (x3.1 : Int); omega, by show (x3.1 : Int) ≤ _; omega⟩, ⟨by show (-9223372036854775808 : Int) ≤ (x4.1 : Int); omega, by show (x4.1 : Int) ≤ _; omega⟩, ⟨by show (-9223372036854775808 : Int) ≤ (x5.1 : Int); omega, by show (x5.1 : Int) ≤ _; omega⟩⟩
    have hok : okG f ↔ (x5.2.2 = 0 ∧ x5.2.1.length = 0 ∧ f.2.2.2.1 = 1 ∧ okC c) := by unfold okG; rw [hmk, ← hq, h5]
    refine G.skip ?_
    refine N.seq ?_
    refine G.seq ?_
    refine G.region ?_
    refine L.val rfl rfl (R.fld rfl) ?_
    refine L.val rfl rfl (R.ldB rfl B4 rfl) ?_
    refine L.be 18 rfl (show _ = Value.slice a1 q.length c1 by rw [hq, hf]; rfl) ?_
    refine L.callF rfl rfl rfl go133 (new_ok _ _ _ q _ (by rw [hq]; exact hb1) (by omega)) ?_
    rintro _ w5 ⟨s, D, rfl, S0, e5, hss, hD2, _, hDc⟩
    have hDl : ∀ d ∈ D, d < w5.heap.size := fun d hd => (hDc d hd).elim fun _ h => h.lt
    have hsl := S0.lt
    have hl4 := B4.lt
    have hl2 := B2.lt
    have hE4 := E.size
    replace E := E.trans0 e5
    replace B2 := B2.ext0 e5
    replace B4 := B4.ext0 e5
    have hE5 := E.size
    refine L.val rfl rfl (R.as rfl) ?_
    refine L.nil ?_
    refine N.seq ?_
    refine G.seq ?_
    have hI : ∀ kq w', stage [fun w' => (Ext [s] w5 w' ∧ Blk w' b4 (frC f a1 c1) 214 (0, 0) ∧ Blk w' b2 (ctlC zeroC) 121 (0, 0)) ∧ ScanAt 287 w' s D q 0, fun w' => (Ext [s] w5 w' ∧ Blk w' b4 (frC f a1 c1) 214 (0, 0) ∧ Blk w' b2 (ctlC zeroC) 121 (0, 0)) ∧ ScanAt 287 w' s D x1.2.1 x1.2.2, fun w' => (Ext [s] w5 w' ∧ Blk w' b4 (frC f a1 c1) 214 (0, 0) ∧ Blk w' b2 (ctlC zeroC) 121 (0, 0)) ∧ ScanAt 287 w' s D x2.2.1 x2.2.2, fun w' => (Ext [s] w5 w' ∧ Blk w' b4 (frC f a1 c1) 214 (0, 0) ∧ Blk w' b2 (ctlC zeroC) 121 (0, 0)) ∧ ScanAt 287 w' s D x3.2.1 x3.2.2, fun w' => (Ext [s] w5 w' ∧ Blk w' b4 (frC f a1 c1) 214 (0, 0) ∧ Blk w' b2 (ctlC zeroC) 121 (0, 0)) ∧ ScanAt 287 w' s D x4.2.1 x4.2.2, fun w' => (Ext [s] w5 w' ∧ Blk w' b4 (frC f a1 c1) 214 (0, 0) ∧ Blk w' b2 (ctlC zeroC) 121 (0, 0)) ∧ ScanAt 287 w' s D x5.2.1 x5.2.2] kq w' → (fun w' => Ext [s] w5 w' ∧ Blk w' b4 (frC f a1 c1) 214 (0, 0) ∧ Blk w' b2 (ctlC zeroC) 121 (0, 0)) w' := fun kq w' hs => stage_all (I := fun w' => Ext [s] w5 w' ∧ Blk w' b4 (frC f a1 c1) 214 (0, 0) ∧ Blk w' b2 (ctlC zeroC) 121 (0, 0)) (by
      intro Ψ hΨ w' hJ
      simp only [List.mem_cons, List.not_mem_nil, or_false] at hΨ
      rcases hΨ with rfl | rfl | rfl | rfl | rfl | rfl
      · exact hJ.1
      · exact hJ.1
      · exact hJ.1
      · exact hJ.1
      · exact hJ.1
      · exact hJ.1) hs
    refine G.stagedL rfl (by decide +kernel) [5, 7, 9, 11, 13] [.blocks ([s]), .blocks ([s]), .blocks ([s]), .blocks ([s]), .blocks ([s])] [fun w' => (Ext [s] w5 w' ∧ Blk w' b4 (frC f a1 c1) 214 (0, 0) ∧ Blk w' b2 (ctlC zeroC) 121 (0, 0)) ∧ ScanAt 287 w' s D q 0, fun w' => (Ext [s] w5 w' ∧ Blk w' b4 (frC f a1 c1) 214 (0, 0) ∧ Blk w' b2 (ctlC zeroC) 121 (0, 0)) ∧ ScanAt 287 w' s D x1.2.1 x1.2.2, fun w' => (Ext [s] w5 w' ∧ Blk w' b4 (frC f a1 c1) 214 (0, 0) ∧ Blk w' b2 (ctlC zeroC) 121 (0, 0)) ∧ ScanAt 287 w' s D x2.2.1 x2.2.2, fun w' => (Ext [s] w5 w' ∧ Blk w' b4 (frC f a1 c1) 214 (0, 0) ∧ Blk w' b2 (ctlC zeroC) 121 (0, 0)) ∧ ScanAt 287 w' s D x3.2.1 x3.2.2, fun w' => (Ext [s] w5 w' ∧ Blk w' b4 (frC f a1 c1) 214 (0, 0) ∧ Blk w' b2 (ctlC zeroC) 121 (0, 0)) ∧ ScanAt 287 w' s D x4.2.1 x4.2.2, fun w' => (Ext [s] w5 w' ∧ Blk w' b4 (frC f a1 c1) 214 (0, 0) ∧ Blk w' b2 (ctlC zeroC) 121 (0, 0)) ∧ ScanAt 287 w' s D x5.2.1 x5.2.2] [] (by decide +kernel) (by decide +kernel) rfl rfl rfl (fun _ e => ⟨⟨e.mono (by simp), B4.ext0 e, B2.ext0 e⟩, S0.ext0 e⟩) ?_
    refine Z.val rfl rfl rfl rfl rfl (fun w6 => R.fld rfl) ?_
    refine Z.readI (I := fun w' => Ext [s] w5 w' ∧ Blk w' b4 (frC f a1 c1) 214 (0, 0) ∧ Blk w' b2 (ctlC zeroC) 121 (0, 0)) hI rfl rfl rfl rfl rfl (fun w6 hJ => R.ldB (v := .int .i64 f.1) rfl hJ.2.1 rfl) ?_
    refine Z.val rfl rfl rfl rfl rfl (fun w6 => R.fld rfl) ?_
    refine Z.readI (I := fun w' => Ext [s] w5 w' ∧ Blk w' b4 (frC f a1 c1) 214 (0, 0) ∧ Blk w' b2 (ctlC zeroC) 121 (0, 0)) hI rfl rfl rfl rfl rfl (fun w6 hJ => R.ldB (v := .int .i64 f.2.1) rfl hJ.2.1 rfl) ?_
    refine Z.val rfl rfl rfl rfl rfl (fun w6 => R.mv rfl) ?_
    refine Z.callEqPut (.int .i64 (x1.1 : Int)) 0 (by decide +kernel) rfl rfl rfl rfl rfl rfl rfl go134 (fun w6 hJ => ⟨_, rfl, (scannum_ok _ _ _ _ 1 _ hJ.2 (by omega)).mono (fun _ _ h => by have h1 := h.1; have h2 := h.2.1; have h3 := h.2.2; rw [← hx1] at h1 h2; exact ⟨h1, h3, ⟨hJ.1.1.transN h3 (fun _ hx => .inl hx), hJ.1.2.1.ext h3 (by simp; omega), hJ.1.2.2.ext h3 (by simp; omega)⟩, h2⟩)⟩) ?_
    refine Z.val rfl rfl rfl rfl rfl (fun w6 => R.mv rfl) ?_
    refine Z.callEqPut (.int .i64 (x2.1 : Int)) 1 (by decide +kernel) rfl rfl rfl rfl rfl rfl rfl go134 (fun w6 hJ => ⟨_, rfl, (scannum_ok _ _ _ _ 4 _ hJ.2 (by omega)).mono (fun _ _ h => by have h1 := h.1; have h2 := h.2.1; have h3 := h.2.2; rw [← hx2] at h1 h2; exact ⟨h1, h3, ⟨hJ.1.1.transN h3 (fun _ hx => .inl hx), hJ.1.2.1.ext h3 (by simp; omega), hJ.1.2.2.ext h3 (by simp; omega)⟩, h2⟩)⟩) ?_
    refine Z.val rfl rfl rfl rfl rfl (fun w6 => R.mv rfl) ?_
    refine Z.callEqPut (.int .i64 (x3.1 : Int)) 2 (by decide +kernel) rfl rfl rfl rfl rfl rfl rfl go134 (fun w6 hJ => ⟨_, rfl, (scannum_ok _ _ _ _ 8 _ hJ.2 (by omega)).mono (fun _ _ h => by have h1 := h.1; have h2 := h.2.1; have h3 := h.2.2; rw [← hx3] at h1 h2; exact ⟨h1, h3, ⟨hJ.1.1.transN h3 (fun _ hx => .inl hx), hJ.1.2.1.ext h3 (by simp; omega), hJ.1.2.2.ext h3 (by simp; omega)⟩, h2⟩)⟩) ?_
    refine Z.val rfl rfl rfl rfl rfl (fun w6 => R.mv rfl) ?_
    refine Z.callEqPut (.int .i64 (x4.1 : Int)) 3 (by decide +kernel) rfl rfl rfl rfl rfl rfl rfl go134 (fun w6 hJ => ⟨_, rfl, (scannum_ok _ _ _ _ 8 _ hJ.2 (by omega)).mono (fun _ _ h => by have h1 := h.1; have h2 := h.2.1; have h3 := h.2.2; rw [← hx4] at h1 h2; exact ⟨h1, h3, ⟨hJ.1.1.transN h3 (fun _ hx => .inl hx), hJ.1.2.1.ext h3 (by simp; omega), hJ.1.2.2.ext h3 (by simp; omega)⟩, h2⟩)⟩) ?_
    refine Z.val rfl rfl rfl rfl rfl (fun w6 => R.mv rfl) ?_
    refine Z.callEqPut (.int .i64 (x5.1 : Int)) 4 (by decide +kernel) rfl rfl rfl rfl rfl rfl rfl go134 (fun w6 hJ => ⟨_, rfl, (scannum_ok _ _ _ _ 8 _ hJ.2 (by omega)).mono (fun _ _ h => by have h1 := h.1; have h2 := h.2.1; have h3 := h.2.2; rw [← hx5] at h1 h2; exact ⟨h1, h3, ⟨hJ.1.1.transN h3 (fun _ hx => .inl hx), hJ.1.2.1.ext h3 (by simp; omega), hJ.1.2.2.ext h3 (by simp; omega)⟩, h2⟩)⟩) ?_
    refine Z.val rfl rfl rfl rfl rfl (fun w6 => R.build1 (cs := ctlC (f.1, f.2.1, (x1.1 : Int), (x2.1 : Int), (x3.1 : Int), (x4.1 : Int), (x5.1 : Int))) rfl rfl rfl) ?_
    refine Z.newI (A := fun v w' => ∃ b, v = .pointer (some ⟨b, 0, none⟩) ∧ w5.heap.size ≤ b ∧ Blk w' b (ctlC zeroC) 121 (0, 0)) (Lasts.apart (by intro M hM v w9 w10 hok9 hA; obtain ⟨b, rfl, hbb, hB⟩ := hA; simp only [List.mem_cons, List.not_mem_nil, or_false] at hM; rcases hM with rfl | rfl | rfl | rfl | rfl | rfl <;> exact ⟨b, rfl, hbb, hB.ext hok9 (by simp <;> omega)⟩)) hI (by intro Ψ hΨ; simp only [List.mem_cons, List.not_mem_nil, or_false] at hΨ; rcases hΨ with rfl | rfl | rfl | rfl | rfl | rfl <;> exact fun _ _ he h => ⟨⟨h.1.1.trans0 he, h.1.2.1.ext0 he, h.1.2.2.ext0 he⟩, h.2.ext0 he⟩) rfl rfl rfl rfl (fun w6 hJ => (R.alloc).mono (fun v w9 h => by obtain ⟨b, rfl, hb, hs, e, B⟩ := h; exact ⟨⟨b, rfl, by have := hJ.1.size; omega, B⟩, e⟩)) ?_
    refine Z.nil rfl rfl (fun w6 hJ => ?_)
    obtain ⟨⟨e6, B4n, B2n⟩, S5⟩ := hJ
    rintro _ ⟨b7, rfl, hb7, B7⟩
    replace B4 := B4n
    replace B2 := B2n
    replace E := E.trans e6 (M := []) (by simp) (by intro x hx; rw [List.mem_singleton.1 hx]; exact .inr (by omega))
    refine N.last ?_
    rw [← hcc]
    refine L.set rfl (R.stN rfl rfl B7 rfl (Nat.le_refl 7) (ctlC_one _)) ?_
    rintro w7 ⟨e7, hs7, B7x⟩
    replace B7 : Blk w7 b7 (ctlC c) 121 (0, 0) := by rw [all_stored (by rfl)] at B7x; exact B7x
    replace E := E.trans e7 (M := []) (by simp) (by intro x hx; rw [List.mem_singleton.1 hx]; exact .inr (by omega))
    have hl7 := S5.lt
    replace B4 := B4.ext e7 (by simp; omega)
    replace B2 := B2.ext e7 (by simp; omega)
    replace S5 := S5.ext e7 (by simp; omega) (by intro x hx hh; have h1 := hDl _ hx; rw [List.mem_singleton.1 hh] at h1; omega)
    refine L.nil ?_
    refine N.seq ?_
    refine G.seq ?_
    refine G.seq ?_
    refine G.region ?_
    refine L.val rfl rfl (R.mv rfl) ?_
    refine L.callF rfl rfl rfl go135 (scanerr_ok _ _ _ _ _ S5 (by omega)) ?_
    rintro _ _ ⟨rfl, hw⟩
    obtain rfl := hw.symm
    refine L.val rfl rfl (R.neI rfl rfl) ?_
    refine L.val rfl rfl (R.mv rfl) ?_
    refine L.caseP 38 rfl (fun hg6_3 => ?_) (fun hg6_3 => ?_)
    · have hno : ¬ okG f := fun h => hg6_3 (hok.1 h).1
      refine L.pass rfl rfl ?_
      refine L.pass rfl rfl ?_
      refine L.pass rfl rfl ?_
      first | refine L.val rfl rfl (R.pickT rfl rfl) ?_ | refine L.val rfl rfl (R.pickF rfl rfl) ?_
      refine L.val rfl rfl (R.mv rfl) ?_
      refine L.pass rfl rfl ?_
      refine L.pass rfl rfl ?_
      refine L.pass rfl rfl ?_
      first | refine L.val rfl rfl (R.pickT rfl rfl) ?_ | refine L.val rfl rfl (R.pickF rfl rfl) ?_
      refine L.val rfl rfl (R.mv rfl) ?_
      refine L.pass rfl rfl ?_
      refine L.pass rfl rfl ?_
      refine L.pass rfl rfl ?_
      first | refine L.val rfl rfl (R.pickT rfl rfl) ?_ | refine L.val rfl rfl (R.pickF rfl rfl) ?_
      refine L.nil ?_
      refine N.seq ?_
      refine G.condT rfl ?_
      refine G.seq ?_
      refine G.region ?_
      refine L.val rfl rfl (R.build (cs := (ctlC zeroC)) rfl rfl) ?_
      refine L.set rfl (R.stN rfl rfl B2 rfl (Nat.le_refl 7) (ctlC_one _)) ?_
      rintro w21 ⟨e21, hs21, B2x⟩
      replace B2 : Blk w21 b2 (ctlC zeroC) 121 (0, 0) := by rw [all_stored (by rfl)] at B2x; exact B2x
      replace E := E.trans e21 (M := []) (by simp) (by intro x hx; rw [List.mem_singleton.1 hx]; exact .inr (by omega))
      refine L.val rfl rfl (R.as rfl) ?_
      refine L.nil ?_
      refine N.seq ?_
      refine G.retCT rfl rfl rfl (B2) rfl ?_
      first
        | (rw [getC_err hne]; exact ⟨rfl, E⟩)
        | (rw [getC_no he0 (by rw [← hf]; exact hno)]; exact ⟨rfl, E⟩)
        | (rw [getC_no he0 (by rw [← hf]; exact fun h => by have h9 := (hok.1 h).2.2.2; simp [h9] at h1)]; exact ⟨rfl, E⟩)
        | (rw [getC_yes he0 (by rw [← hf]; exact hok.2 ⟨Classical.not_not.1 hg6_3, by omega, Classical.not_not.1 hg6_13, by simpa using h1⟩), ← hf, hmk]; exact ⟨rfl, E⟩)
    · refine L.val rfl rfl (R.mv rfl) ?_
      refine L.callF rfl rfl rfl go136 (scanleft_ok _ _ _ _ _ S5 (by omega)) ?_
      rintro _ _ ⟨rfl, hw⟩
      obtain rfl := hw.symm
      refine L.val rfl rfl (R.gtr rfl rfl) ?_
      first | refine L.val rfl rfl (R.pickT rfl rfl) ?_ | refine L.val rfl rfl (R.pickF rfl rfl) ?_
      refine L.val rfl rfl (R.mv rfl) ?_
      refine L.caseP 43 rfl (fun hg6_8 => ?_) (fun hg6_8 => ?_)
      · have hno : ¬ okG f := fun h => by have := (hok.1 h).2.1; omega
        refine L.pass rfl rfl ?_
        refine L.pass rfl rfl ?_
        refine L.pass rfl rfl ?_
        first | refine L.val rfl rfl (R.pickT rfl rfl) ?_ | refine L.val rfl rfl (R.pickF rfl rfl) ?_
        refine L.val rfl rfl (R.mv rfl) ?_
        refine L.pass rfl rfl ?_
        refine L.pass rfl rfl ?_
        refine L.pass rfl rfl ?_
        first | refine L.val rfl rfl (R.pickT rfl rfl) ?_ | refine L.val rfl rfl (R.pickF rfl rfl) ?_
        refine L.nil ?_
        refine N.seq ?_
        refine G.condT rfl ?_
        refine G.seq ?_
        refine G.region ?_
        refine L.val rfl rfl (R.build (cs := (ctlC zeroC)) rfl rfl) ?_
        refine L.set rfl (R.stN rfl rfl B2 rfl (Nat.le_refl 7) (ctlC_one _)) ?_
        rintro w21 ⟨e21, hs21, B2x⟩
        replace B2 : Blk w21 b2 (ctlC zeroC) 121 (0, 0) := by rw [all_stored (by rfl)] at B2x; exact B2x
        replace E := E.trans e21 (M := []) (by simp) (by intro x hx; rw [List.mem_singleton.1 hx]; exact .inr (by omega))
        refine L.val rfl rfl (R.as rfl) ?_
        refine L.nil ?_
        refine N.seq ?_
        refine G.retCT rfl rfl rfl (B2) rfl ?_
        first
          | (rw [getC_err hne]; exact ⟨rfl, E⟩)
          | (rw [getC_no he0 (by rw [← hf]; exact hno)]; exact ⟨rfl, E⟩)
          | (rw [getC_no he0 (by rw [← hf]; exact fun h => by have h9 := (hok.1 h).2.2.2; simp [h9] at h1)]; exact ⟨rfl, E⟩)
          | (rw [getC_yes he0 (by rw [← hf]; exact hok.2 ⟨Classical.not_not.1 hg6_3, by omega, Classical.not_not.1 hg6_13, by simpa using h1⟩), ← hf, hmk]; exact ⟨rfl, E⟩)
      · refine L.val rfl rfl (R.fld rfl) ?_
        refine L.val rfl rfl (R.ldB rfl B4 rfl) ?_
        refine L.val rfl rfl (R.neI rfl rfl) ?_
        first | refine L.val rfl rfl (R.pickT rfl rfl) ?_ | refine L.val rfl rfl (R.pickF rfl rfl) ?_
        refine L.val rfl rfl (R.mv rfl) ?_
        refine L.caseP 48 rfl (fun hg6_13 => ?_) (fun hg6_13 => ?_)
        · have hno : ¬ okG f := fun h => hg6_13 (hok.1 h).2.2.1
          refine L.pass rfl rfl ?_
          refine L.pass rfl rfl ?_
          refine L.pass rfl rfl ?_
          first | refine L.val rfl rfl (R.pickT rfl rfl) ?_ | refine L.val rfl rfl (R.pickF rfl rfl) ?_
          refine L.nil ?_
          refine N.seq ?_
          refine G.condT rfl ?_
          refine G.seq ?_
          refine G.region ?_
          refine L.val rfl rfl (R.build (cs := (ctlC zeroC)) rfl rfl) ?_
          refine L.set rfl (R.stN rfl rfl B2 rfl (Nat.le_refl 7) (ctlC_one _)) ?_
          rintro w21 ⟨e21, hs21, B2x⟩
          replace B2 : Blk w21 b2 (ctlC zeroC) 121 (0, 0) := by rw [all_stored (by rfl)] at B2x; exact B2x
          replace E := E.trans e21 (M := []) (by simp) (by intro x hx; rw [List.mem_singleton.1 hx]; exact .inr (by omega))
          refine L.val rfl rfl (R.as rfl) ?_
          refine L.nil ?_
          refine N.seq ?_
          refine G.retCT rfl rfl rfl (B2) rfl ?_
          first
            | (rw [getC_err hne]; exact ⟨rfl, E⟩)
            | (rw [getC_no he0 (by rw [← hf]; exact hno)]; exact ⟨rfl, E⟩)
            | (rw [getC_no he0 (by rw [← hf]; exact fun h => by have h9 := (hok.1 h).2.2.2; simp [h9] at h1)]; exact ⟨rfl, E⟩)
            | (rw [getC_yes he0 (by rw [← hf]; exact hok.2 ⟨Classical.not_not.1 hg6_3, by omega, Classical.not_not.1 hg6_13, by simpa using h1⟩), ← hf, hmk]; exact ⟨rfl, E⟩)
        · refine L.val rfl rfl (R.ldBN rfl B7 rfl) ?_
          refine L.callF rfl rfl rfl go76 (cright_ok c _) ?_
          rintro _ w8 ⟨rfl, e8⟩
          replace E := E.trans0 e8
          replace B2 := B2.ext0 e8
          replace B7 := B7.ext0 e8
          refine L.val rfl rfl (R.not rfl) ?_
          first | refine L.val rfl rfl (R.pickT rfl rfl) ?_ | refine L.val rfl rfl (R.pickF rfl rfl) ?_
          refine L.nil ?_
          refine N.seq ?_
          refine G.condB rfl (fun h1 => ?_) (fun h1 => ?_)
          · refine G.seq ?_
            refine G.region ?_
            refine L.val rfl rfl (R.build (cs := (ctlC zeroC)) rfl rfl) ?_
            refine L.set rfl (R.stN rfl rfl B2 rfl (Nat.le_refl 7) (ctlC_one _)) ?_
            rintro w21 ⟨e21, hs21, B2x⟩
            replace B2 : Blk w21 b2 (ctlC zeroC) 121 (0, 0) := by rw [all_stored (by rfl)] at B2x; exact B2x
            replace E := E.trans e21 (M := []) (by simp) (by intro x hx; rw [List.mem_singleton.1 hx]; exact .inr (by omega))
            refine L.val rfl rfl (R.as rfl) ?_
            refine L.nil ?_
            refine N.seq ?_
            refine G.retCT rfl rfl rfl (B2) rfl ?_
            first
              | (rw [getC_err hne]; exact ⟨rfl, E⟩)
              | (rw [getC_no he0 (by rw [← hf]; exact hno)]; exact ⟨rfl, E⟩)
              | (rw [getC_no he0 (by rw [← hf]; exact fun h => by have h9 := (hok.1 h).2.2.2; simp [h9] at h1)]; exact ⟨rfl, E⟩)
              | (rw [getC_yes he0 (by rw [← hf]; exact hok.2 ⟨Classical.not_not.1 hg6_3, by omega, Classical.not_not.1 hg6_13, by simpa using h1⟩), ← hf, hmk]; exact ⟨rfl, E⟩)
          · refine G.skip ?_
            refine N.seq ?_
            refine G.seq ?_
            refine G.region ?_
            refine L.val rfl rfl (R.ldBN rfl B7 rfl) ?_
            refine L.set rfl (R.stN rfl rfl B2 rfl (Nat.le_refl 7) (ctlC_one _)) ?_
            rintro w22 ⟨e22, hs22, B2x⟩
            replace B2 : Blk w22 b2 (ctlC c) 121 (0, 0) := by rw [all_stored (by rfl)] at B2x; exact B2x
            replace E := E.trans e22 (M := []) (by simp) (by intro x hx; rw [List.mem_singleton.1 hx]; exact .inr (by omega))
            refine L.val rfl rfl (R.as rfl) ?_
            refine L.nil ?_
            refine N.seq ?_
            refine G.retCT rfl rfl rfl (B2) rfl ?_
            first
              | (rw [getC_err hne]; exact ⟨rfl, E⟩)
              | (rw [getC_no he0 (by rw [← hf]; exact hno)]; exact ⟨rfl, E⟩)
              | (rw [getC_no he0 (by rw [← hf]; exact fun h => by have h9 := (hok.1 h).2.2.2; simp [h9] at h1)]; exact ⟨rfl, E⟩)
              | (rw [getC_yes he0 (by rw [← hf]; exact hok.2 ⟨Classical.not_not.1 hg6_3, by omega, Classical.not_not.1 hg6_13, by simpa using h1⟩), ← hf, hmk]; exact ⟨rfl, E⟩)

end Go.Proofs.Ythpolibakkmmeaa
