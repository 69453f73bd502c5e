/-
  Texts of this claim, put together.
-/
import Derived.Test.YthpolibakkmmeaaCtlTLz3
/-
  The walks of package control.
-/
set_option linter.unusedVariables false
set_option linter.unusedSimpArgs false
namespace Go.Proofs.Ythpolibakkmmeaa
open Go Brv Brv.Crc Brv.Pack Brv.Frame Brv.Image Brv.Dev Brv.Control
theorem rcget_ok (a : Option Addr) (n k : Nat) (l : List UInt8) (w : World) (hb : Bs w a n l) (hk : n ≤ k) (hn : n ≤ 70368744177664) : Meets Try.prog 75 [.slice a n k] w (fun v w' => v = .tuple #[.agg (ctlC (getC l).1), .int .i64 (getC l).2] ∧ Ext [] w w') := by
  refine Meets.enter Try.func75 rfl 61 rfl (Nat.le_of_ble_eq_true rfl) ?_
  have E := Ext.refl [] w
  have hl := hb.len
  refine G.seq ?_
  refine G.region ?_
  refine L.do rfl rfl (R.alloc) ?_
  rintro _ w1 ⟨b2, rfl, hb2, hs2, e1, B2⟩
  replace B2 : Blk w1 b2 (ctlC zeroC) 121 (0, 0) := B2
  replace E := E.trans0 e1
  refine L.val rfl rfl (R.as rfl) ?_
  refine L.nil ?_
  refine N.seq ?_
  refine G.seq ?_
  refine G.region ?_
  refine L.val rfl rfl (R.mv rfl) ?_
  refine L.callF rfl rfl rfl go137 (refget_ok a n k l _ (hb.ext0 E) hk hn) ?_
  rintro _ w2 ⟨a1, c1, rfl, e2, hb1, hc1, hfr⟩
  replace E := E.trans0 e2
  replace B2 := B2.ext0 e2
  have hw12 := e2.size
  refine L.val rfl rfl (R.mv rfl) ?_
  refine L.val rfl rfl (R.ext rfl rfl) ?_
  refine L.val rfl rfl (R.ext rfl rfl) ?_
  refine L.do rfl rfl (R.alloc) ?_
  rintro _ w3 ⟨b4, rfl, hb4, hs4, e3, B4⟩
  have hE2 := E.size
  replace E := E.trans0 e3
  have hlt2 := B2.lt
  replace B2 := B2.ext0 e3
  replace hb1 := hb1.ext0 e3
  refine L.set rfl (R.stN rfl rfl B4 rfl (Nat.le_refl 5) (frC_one _ _ _)) ?_
  rintro w4 ⟨e4, hs4, B4x⟩
  replace B4 : Blk w4 b4 (frC (getF l).1 a1 c1) 214 (0, 0) := by rw [all_stored (by rfl)] at B4x; exact B4x
  replace E := E.trans e4 (M := []) (by simp) (by intro x hx; rw [List.mem_singleton.1 hx]; exact .inr (by omega))
  have n4 := e3.news2 e4 (by omega)
  replace B2 := B2.ext e4 (by simp; omega)
  replace hb1 := hb1.ext e4 (by intro p hp hh; have h1 := (hfr p hp).2; rw [List.mem_singleton.1 hh] at h1; omega)
  have hw4 := e4.size
  refine L.val rfl rfl (R.as rfl) ?_
  refine L.nil ?_
  refine N.seq ?_
  refine G.seq ?_
  refine G.seq ?_
  refine G.region ?_
  refine L.val rfl rfl (R.mv rfl) ?_
  refine L.val rfl rfl (R.neI rfl rfl) ?_
  refine L.nil ?_
  refine N.seq ?_
  refine G.condP rfl (fun h0 => ?_) (fun h0 => ?_)
  · have hne : (getF l).2 ≠ 0 := h0
    refine G.seq ?_
    refine G.region ?_
    refine L.val rfl rfl (R.build (cs := (ctlC zeroC)) rfl rfl) ?_
    refine L.val rfl rfl (R.mv rfl) ?_
    refine L.set rfl (R.stN rfl rfl B2 rfl (Nat.le_refl 7) (ctlC_one _)) ?_
    rintro w20 ⟨e20, hs20, B2x⟩
    replace B2 : Blk w20 b2 (ctlC zeroC) 121 (0, 0) := by rw [all_stored (by rfl)] at B2x; exact B2x
    replace E := E.trans e20 (M := []) (by simp) (by intro x hx; rw [List.mem_singleton.1 hx]; exact .inr (by omega))
    refine L.val rfl rfl (R.as rfl) ?_
    refine L.nil ?_
    refine N.seq ?_
    refine G.retCT rfl rfl rfl (B2) rfl ?_
    first
      | (rw [getC_err hne]; exact ⟨rfl, E⟩)
      | (rw [getC_no he0 (by rw [← hf]; exact hno)]; exact ⟨rfl, E⟩)
      | (rw [getC_yes he0 (by rw [← hf]; exact hyes), ← hf, hmk]; exact ⟨rfl, E⟩)
  · have he0 : (getF l).2 = 0 := Classical.not_not.1 h0
    obtain ⟨f, hf⟩ : ∃ f, f = (getF l).1 := ⟨_, rfl⟩
    obtain ⟨q, hq⟩ : ∃ q, q = f.2.2.2.2 := ⟨_, rfl⟩
    rw [← hf] at hb1 hc1 B4
    have hfo := (getF_ok he0).1
    rw [← hf] at hfo
    have hq40 : q.length ≤ 40 := by rw [hq]; exact hfo.2.2.2.2
    obtain ⟨x1, hx1⟩ : ∃ x, x = numF q 0 1 := ⟨_, rfl⟩
    obtain ⟨x2, hx2⟩ : ∃ x, x = numF x1.2.1 x1.2.2 4 := ⟨_, rfl⟩
    obtain ⟨x3, hx3⟩ : ∃ x, x = numF x2.2.1 x2.2.2 8 := ⟨_, rfl⟩
    obtain ⟨x4, hx4⟩ : ∃ x, x = numF x3.2.1 x3.2.2 8 := ⟨_, rfl⟩
    obtain ⟨x5, hx5⟩ : ∃ x, x = numF x4.2.1 x4.2.2 8 := ⟨_, rfl⟩
    have h5 : five q = ((x1.1, x2.1, x3.1, x4.1, x5.1), x5.2.1, x5.2.2) := five_eq hx1.symm hx2.symm hx3.symm hx4.symm hx5.symm
    have z1 : x1.2.1.length ≤ 40 := by rw [hx1]; exact Nat.le_trans (numF_length _ _ _) hq40
    have z2 : x2.2.1.length ≤ 40 := by rw [hx2]; exact Nat.le_trans (numF_length _ _ _) z1
    have z3 : x3.2.1.length ≤ 40 := by rw [hx3]; exact Nat.le_trans (numF_length _ _ _) z2
    have z4 : x4.2.1.length ≤ 40 := by rw [hx4]; exact Nat.le_trans (numF_length _ _ _) z3
    have z5 : x5.2.1.length ≤ 40 := by rw [hx5]; exact Nat.le_trans (numF_length _ _ _) z4
    obtain ⟨c, hcc⟩ : ∃ c : Ctl, c = (f.1, f.2.1, (x1.1 : Int), (x2.1 : Int), (x3.1 : Int), (x4.1 : Int), (x5.1 : Int)) := ⟨_, rfl⟩
    have hmk : mkC f = c := by rw [hcc]; simp only [mkC, ← hq, h5]
    have hInc : InC c := by
      have n1 := numF_lt q 0 1
      have n2 := numF_lt x1.2.1 x1.2.2 4
      have n3 := numF_lt x2.2.1 x2.2.2 8
      have n4 := numF_lt x3.2.1 x3.2.2 8
      have n5 := numF_lt x4.2.1 x4.2.2 8
      rw [← hx1] at n1
      rw [← hx2] at n2
      rw [← hx3] at n3
      rw [← hx4] at n4
      rw [← hx5] at n5
      obtain ⟨⟨v1, v2⟩, ⟨v3, v4⟩, _⟩ := hfo
      rw [hcc]
      exact ⟨⟨by show (-9223372036854775808 : Int) ≤ f.1; omega, by show f.1 ≤ _; omega⟩, ⟨by show (-9223372036854775808 : Int) ≤ f.2.1; omega, by show f.2.1 ≤ _; omega⟩, ⟨by show (-9223372036854775808 : Int) ≤ (x1.1 : Int); omega, by show (x1.1 : Int) ≤ _; omega⟩, ⟨by show (-9223372036854775808 : Int) ≤ (x2.1 : Int); omega, by show (x2.1 : Int) ≤ _; omega⟩, ⟨by show (-9223372036854775808 : Int) ≤ (x3.1 : Int); omega, by show (x3.1 : Int) ≤ _; omega⟩, ⟨by show (-9223372036854775808 : Int) ≤ (x4.1 : Int); omega, by show (x4.1 : Int) ≤ _; omega⟩, ⟨by show (-9223372036854775808 : Int) ≤ (x5.1 : Int); omega, by show (x5.1 : Int) ≤ _; omega⟩⟩
    have hok : okG f ↔ (x5.2.2 = 0 ∧ x5.2.1.length = 0 ∧ f.2.2.2.1 = 1 ∧ okC c) := by unfold okG; rw [hmk, ← hq, h5]
    refine G.skip ?_
    refine N.seq ?_
    refine G.seq ?_
    refine G.region ?_
    refine L.val rfl rfl (R.fld rfl) ?_
    refine L.val rfl rfl (R.ldB rfl B4 rfl) ?_
    refine L.be 18 rfl (show _ = Value.slice a1 q.length c1 by rw [hq, hf]; rfl) ?_
    refine L.val rfl rfl (R.bytesStr rfl (by rw [hq]; exact hb1.cells) rfl) ?_
    refine L.val rfl rfl (R.build rfl rfl) ?_
    refine L.do rfl rfl (R.box rfl) ?_
    rintro _ w5 ⟨s, rfl, hbs, hss, e5, BS⟩
    replace BS : Blk w5 s #[.string (str q), .int .i64 0] 224 (0, 0) := BS
    have hl4 := B4.lt
    have hl2 := B2.lt
    have hE4 := E.size
    replace E := E.trans0 e5
    replace B2 := B2.ext0 e5
    replace B4 := B4.ext0 e5
    have hE5 := E.size
    refine L.val rfl rfl (R.as rfl) ?_
    refine L.nil ?_
    refine N.seq ?_
    refine G.seq ?_
    refine G.region ?_
    refine L.val rfl rfl (R.fld rfl) ?_
    refine L.val rfl rfl (R.ldB rfl B4 rfl) ?_
    refine L.val rfl rfl (R.fld rfl) ?_
    refine L.val rfl rfl (R.ldB rfl B4 rfl) ?_
    refine L.val rfl rfl (R.build (cs := (ctlC (f.1, f.2.1, 0, 0, 0, 0, 0))) rfl rfl) ?_
    refine L.do rfl rfl (R.alloc) ?_
    rintro _ w6 ⟨b7, rfl, hb7, hs7, e6, B7⟩
    replace B7 : Blk w6 b7 (ctlC zeroC) 121 (0, 0) := B7
    replace E := E.trans0 e6
    replace B2 := B2.ext0 e6
    replace B4 := B4.ext0 e6
    replace BS := BS.ext0 e6
    refine L.set rfl (R.stN rfl rfl B7 rfl (Nat.le_refl 7) (ctlC_one _)) ?_
    rintro w7 ⟨e7, hs7, B7x⟩
    replace B7 : Blk w7 b7 (ctlC (f.1, f.2.1, 0, 0, 0, 0, 0)) 121 (0, 0) := by rw [all_stored (by rfl)] at B7x; exact B7x
    replace E := E.trans e7 (M := []) (by simp) (by intro x hx; rw [List.mem_singleton.1 hx]; exact .inr (by omega))
    replace B2 := B2.ext e7 (by simp; omega)
    replace B4 := B4.ext e7 (by simp; omega)
    replace BS := BS.ext e7 (by simp; omega)
    refine L.nil ?_
    refine N.seq ?_
    refine G.seq ?_
    refine G.region ?_
    refine L.val rfl rfl (R.mv rfl) ?_
    refine L.callF rfl rfl rfl go138 (refnum_ok _ _ _ 1 _ BS (by omega)) ?_
    rintro _ w8 ⟨rfl, BS, e8⟩
    rw [← hx1] at BS ⊢
    replace E := E.trans e8 (M := []) (by simp) (by intro x hx; rw [List.mem_singleton.1 hx]; exact .inr (by omega))
    replace B2 := B2.ext e8 (by simp; omega)
    replace B4 := B4.ext e8 (by simp; omega)
    replace B7 := B7.ext e8 (by simp; omega)
    refine L.val rfl rfl (R.fld rfl) ?_
    refine L.set rfl (R.st rfl rfl B7 (by show 2 < 7; decide) rfl) ?_
    rintro w9 ⟨e9, hs9, B7x⟩
    replace B7 : Blk w9 b7 (ctlC (f.1, f.2.1, (x1.1 : Int), 0, 0, 0, 0)) 121 (0, 0) := B7x
    replace E := E.trans e9 (M := []) (by simp) (by intro x hx; rw [List.mem_singleton.1 hx]; exact .inr (by omega))
    replace B2 := B2.ext e9 (by simp; omega)
    replace B4 := B4.ext e9 (by simp; omega)
    replace BS := BS.ext e9 (by simp; omega)
    refine L.nil ?_
    refine N.seq ?_
    refine G.seq ?_
    refine G.region ?_
    refine L.val rfl rfl (R.mv rfl) ?_
    refine L.callF rfl rfl rfl go138 (refnum_ok _ _ _ 4 _ BS (by omega)) ?_
    rintro _ w10 ⟨rfl, BS, e10⟩
    rw [← hx2] at BS ⊢
    replace E := E.trans e10 (M := []) (by simp) (by intro x hx; rw [List.mem_singleton.1 hx]; exact .inr (by omega))
    replace B2 := B2.ext e10 (by simp; omega)
    replace B4 := B4.ext e10 (by simp; omega)
    replace B7 := B7.ext e10 (by simp; omega)
    refine L.val rfl rfl (R.fld rfl) ?_
    refine L.set rfl (R.st rfl rfl B7 (by show 3 < 7; decide) rfl) ?_
    rintro w11 ⟨e11, hs11, B7x⟩
    replace B7 : Blk w11 b7 (ctlC (f.1, f.2.1, (x1.1 : Int), (x2.1 : Int), 0, 0, 0)) 121 (0, 0) := B7x
    replace E := E.trans e11 (M := []) (by simp) (by intro x hx; rw [List.mem_singleton.1 hx]; exact .inr (by omega))
    replace B2 := B2.ext e11 (by simp; omega)
    replace B4 := B4.ext e11 (by simp; omega)
    replace BS := BS.ext e11 (by simp; omega)
    refine L.nil ?_
    refine N.seq ?_
    refine G.seq ?_
    refine G.region ?_
    refine L.val rfl rfl (R.mv rfl) ?_
    refine L.callF rfl rfl rfl go138 (refnum_ok _ _ _ 8 _ BS (by omega)) ?_
    rintro _ w12 ⟨rfl, BS, e12⟩
    rw [← hx3] at BS ⊢
    replace E := E.trans e12 (M := []) (by simp) (by intro x hx; rw [List.mem_singleton.1 hx]; exact .inr (by omega))
    replace B2 := B2.ext e12 (by simp; omega)
    replace B4 := B4.ext e12 (by simp; omega)
    replace B7 := B7.ext e12 (by simp; omega)
    refine L.val rfl rfl (R.fld rfl) ?_
    refine L.set rfl (R.st rfl rfl B7 (by show 4 < 7; decide) rfl) ?_
    rintro w13 ⟨e13, hs13, B7x⟩
    replace B7 : Blk w13 b7 (ctlC (f.1, f.2.1, (x1.1 : Int), (x2.1 : Int), (x3.1 : Int), 0, 0)) 121 (0, 0) := B7x
    replace E := E.trans e13 (M := []) (by simp) (by intro x hx; rw [List.mem_singleton.1 hx]; exact .inr (by omega))
    replace B2 := B2.ext e13 (by simp; omega)
    replace B4 := B4.ext e13 (by simp; omega)
    replace BS := BS.ext e13 (by simp; omega)
    refine L.nil ?_
    refine N.seq ?_
    refine G.seq ?_
    refine G.region ?_
    refine L.val rfl rfl (R.mv rfl) ?_
    refine L.callF rfl rfl rfl go138 (refnum_ok _ _ _ 8 _ BS (by omega)) ?_
    rintro _ w14 ⟨rfl, BS, e14⟩
    rw [← hx4] at BS ⊢
    replace E := E.trans e14 (M := []) (by simp) (by intro x hx; rw [List.mem_singleton.1 hx]; exact .inr (by omega))
    replace B2 := B2.ext e14 (by simp; omega)
    replace B4 := B4.ext e14 (by simp; omega)
    replace B7 := B7.ext e14 (by simp; omega)
    refine L.val rfl rfl (R.fld rfl) ?_
    refine L.set rfl (R.st rfl rfl B7 (by show 5 < 7; decide) rfl) ?_
    rintro w15 ⟨e15, hs15, B7x⟩
    replace B7 : Blk w15 b7 (ctlC (f.1, f.2.1, (x1.1 : Int), (x2.1 : Int), (x3.1 : Int), (x4.1 : Int), 0)) 121 (0, 0) := B7x
    replace E := E.trans e15 (M := []) (by simp) (by intro x hx; rw [List.mem_singleton.1 hx]; exact .inr (by omega))
    replace B2 := B2.ext e15 (by simp; omega)
    replace B4 := B4.ext e15 (by simp; omega)
    replace BS := BS.ext e15 (by simp; omega)
    refine L.nil ?_
    refine N.seq ?_
    refine G.seq ?_
    refine G.region ?_
    refine L.val rfl rfl (R.mv rfl) ?_
    refine L.callF rfl rfl rfl go138 (refnum_ok _ _ _ 8 _ BS (by omega)) ?_
    rintro _ w16 ⟨rfl, BS, e16⟩
    rw [← hx5] at BS ⊢
    replace E := E.trans e16 (M := []) (by simp) (by intro x hx; rw [List.mem_singleton.1 hx]; exact .inr (by omega))
    replace B2 := B2.ext e16 (by simp; omega)
    replace B4 := B4.ext e16 (by simp; omega)
    replace B7 := B7.ext e16 (by simp; omega)
    refine L.val rfl rfl (R.fld rfl) ?_
    refine L.set rfl (R.st rfl rfl B7 (by show 6 < 7; decide) rfl) ?_
    rintro w17 ⟨e17, hs17, B7x⟩
    replace B7 : Blk w17 b7 (ctlC (f.1, f.2.1, (x1.1 : Int), (x2.1 : Int), (x3.1 : Int), (x4.1 : Int), (x5.1 : Int))) 121 (0, 0) := B7x
    replace E := E.trans e17 (M := []) (by simp) (by intro x hx; rw [List.mem_singleton.1 hx]; exact .inr (by omega))
    replace B2 := B2.ext e17 (by simp; omega)
    replace B4 := B4.ext e17 (by simp; omega)
    replace BS := BS.ext e17 (by simp; omega)
    rw [← hcc] at B7
    refine L.nil ?_
    refine N.seq ?_
    refine G.seq ?_
    refine G.seq ?_
    refine G.quiet (by decide +kernel) rfl ?_
    refine Q.val rfl rfl rfl rfl (fun w18 hE => R.mv rfl) ?_
    refine Q.val rfl rfl rfl rfl (fun w18 hE => R.nilChk rfl) ?_
    refine Q.val rfl rfl rfl rfl (fun w18 hE => R.fld rfl) ?_
    refine Q.val rfl rfl rfl rfl (fun w18 hE => R.ldB rfl (BS.ext0 hE) rfl) ?_
    refine Q.val rfl rfl rfl rfl (fun w18 hE => R.neI rfl rfl) ?_
    refine Q.val rfl rfl rfl rfl (fun w18 hE => R.mv rfl) ?_
    refine Q.caseP 47 rfl (fun hg11_5 => ?_) (fun hg11_5 => ?_)
    · have hno : ¬ okG f := fun h => hg11_5 (hok.1 h).1
      refine Q.pass rfl rfl rfl ?_
      refine Q.pass rfl rfl rfl ?_
      refine Q.pass rfl rfl rfl ?_
      first | refine Q.val rfl rfl rfl rfl (fun w18 hE => R.pickT rfl rfl) ?_ | refine Q.val rfl rfl rfl rfl (fun w18 hE => R.pickF rfl rfl) ?_
      refine Q.val rfl rfl rfl rfl (fun w18 hE => R.mv rfl) ?_
      refine Q.pass rfl rfl rfl ?_
      refine Q.pass rfl rfl rfl ?_
      refine Q.pass rfl rfl rfl ?_
      refine Q.pass rfl rfl rfl ?_
      refine Q.pass rfl rfl rfl ?_
      first | refine Q.val rfl rfl rfl rfl (fun w18 hE => R.pickT rfl rfl) ?_ | refine Q.val rfl rfl rfl rfl (fun w18 hE => R.pickF rfl rfl) ?_
      refine Q.nil (fun w18 e18 => ?_)
      replace E := E.trans0 e18
      replace B2 := B2.ext0 e18
      replace B7 := B7.ext0 e18
      refine N.seq ?_
      refine G.condT rfl ?_
      refine G.seq ?_
      refine G.region ?_
      refine L.val rfl rfl (R.build (cs := (ctlC zeroC)) rfl rfl) ?_
      refine L.set rfl (R.stN rfl rfl B2 rfl (Nat.le_refl 7) (ctlC_one _)) ?_
      rintro w30 ⟨e30, hs30, B2x⟩
      replace B2 : Blk w30 b2 (ctlC zeroC) 121 (0, 0) := by rw [all_stored (by rfl)] at B2x; exact B2x
      replace E := E.trans e30 (M := []) (by simp) (by intro x hx; rw [List.mem_singleton.1 hx]; exact .inr (by omega))
      refine L.val rfl rfl (R.as rfl) ?_
      refine L.nil ?_
      refine N.seq ?_
      refine G.retCT rfl rfl rfl (B2) rfl ?_
      first
        | (rw [getC_err hne]; exact ⟨rfl, E⟩)
        | (rw [getC_no he0 (by rw [← hf]; exact hno)]; exact ⟨rfl, E⟩)
        | (rw [getC_yes he0 (by rw [← hf]; exact hyes), ← hf, hmk]; exact ⟨rfl, E⟩)
    · refine Q.val rfl rfl rfl rfl (fun w18 hE => R.ldBN rfl (B7.ext0 hE) rfl) ?_
      refine Q.call (.bool (decide (okC c))) rfl rfl rfl go72 (fun w18 hE => ⟨_, rfl, (rcright_ok c _).mono (fun _ _ h => h)⟩) ?_
      refine Q.val rfl rfl rfl rfl (fun w18 hE => R.not rfl) ?_
      first | refine Q.val rfl rfl rfl rfl (fun w18 hE => R.pickT rfl rfl) ?_ | refine Q.val rfl rfl rfl rfl (fun w18 hE => R.pickF rfl rfl) ?_
      refine Q.val rfl rfl rfl rfl (fun w18 hE => R.mv rfl) ?_
      refine Q.caseB 52 rfl (fun hg11_10 => ?_) (fun hg11_10 => ?_)
      · have hno : ¬ okG f := fun h => by have h9 := (hok.1 h).2.2.2; simp [h9] at hg11_10
        refine Q.pass rfl rfl rfl ?_
        refine Q.pass rfl rfl rfl ?_
        refine Q.pass rfl rfl rfl ?_
        refine Q.pass rfl rfl rfl ?_
        refine Q.pass rfl rfl rfl ?_
        first | refine Q.val rfl rfl rfl rfl (fun w18 hE => R.pickT rfl rfl) ?_ | refine Q.val rfl rfl rfl rfl (fun w18 hE => R.pickF rfl rfl) ?_
        refine Q.nil (fun w18 e18 => ?_)
        replace E := E.trans0 e18
        replace B2 := B2.ext0 e18
        replace B7 := B7.ext0 e18
        refine N.seq ?_
        refine G.condT rfl ?_
        refine G.seq ?_
        refine G.region ?_
        refine L.val rfl rfl (R.build (cs := (ctlC zeroC)) rfl rfl) ?_
        refine L.set rfl (R.stN rfl rfl B2 rfl (Nat.le_refl 7) (ctlC_one _)) ?_
        rintro w30 ⟨e30, hs30, B2x⟩
        replace B2 : Blk w30 b2 (ctlC zeroC) 121 (0, 0) := by rw [all_stored (by rfl)] at B2x; exact B2x
        replace E := E.trans e30 (M := []) (by simp) (by intro x hx; rw [List.mem_singleton.1 hx]; exact .inr (by omega))
        refine L.val rfl rfl (R.as rfl) ?_
        refine L.nil ?_
        refine N.seq ?_
        refine G.retCT rfl rfl rfl (B2) rfl ?_
        first
          | (rw [getC_err hne]; exact ⟨rfl, E⟩)
          | (rw [getC_no he0 (by rw [← hf]; exact hno)]; exact ⟨rfl, E⟩)
          | (rw [getC_yes he0 (by rw [← hf]; exact hyes), ← hf, hmk]; exact ⟨rfl, E⟩)
      · have hokc : okC c := by simpa using hg11_10
        refine Q.val rfl rfl rfl rfl (fun w18 hE => R.ldBN rfl (B7.ext0 hE) rfl) ?_
        refine Q.call (.string (str (ctlS c))) rfl rfl rfl go73 (fun w18 hE => ⟨_, rfl, (rcput_ok c _ hokc).mono (fun _ _ h => h)⟩) ?_
        refine Q.val rfl rfl rfl rfl (fun w18 hE => R.mv rfl) ?_
        refine Q.val rfl rfl rfl rfl (fun w18 hE => R.bytesStr rfl (hb.ext0 (E.trans0 hE)).cells hb.len) ?_
        refine Q.val rfl rfl rfl rfl (fun w18 hE => R.neStr rfl rfl) ?_
        first | refine Q.val rfl rfl rfl rfl (fun w18 hE => R.pickT rfl rfl) ?_ | refine Q.val rfl rfl rfl rfl (fun w18 hE => R.pickF rfl rfl) ?_
        refine Q.nil (fun w18 e18 => ?_)
        replace E := E.trans0 e18
        replace B2 := B2.ext0 e18
        replace B7 := B7.ext0 e18
        refine N.seq ?_
        refine G.condP rfl (fun h1 => ?_) (fun h1 => ?_)
        · have hno : ¬ okG f := fun h => h1 (by have h9 := (okG_ref he0).1 (by rw [← hf]; exact h); rw [← hf, hmk] at h9; exact h9.2.2)
          refine G.seq ?_
          refine G.region ?_
          refine L.val rfl rfl (R.build (cs := (ctlC zeroC)) rfl rfl) ?_
          refine L.set rfl (R.stN rfl rfl B2 rfl (Nat.le_refl 7) (ctlC_one _)) ?_
          rintro w30 ⟨e30, hs30, B2x⟩
          replace B2 : Blk w30 b2 (ctlC zeroC) 121 (0, 0) := by rw [all_stored (by rfl)] at B2x; exact B2x
          replace E := E.trans e30 (M := []) (by simp) (by intro x hx; rw [List.mem_singleton.1 hx]; exact .inr (by omega))
          refine L.val rfl rfl (R.as rfl) ?_
          refine L.nil ?_
          refine N.seq ?_
          refine G.retCT rfl rfl rfl (B2) rfl ?_
          first
            | (rw [getC_err hne]; exact ⟨rfl, E⟩)
            | (rw [getC_no he0 (by rw [← hf]; exact hno)]; exact ⟨rfl, E⟩)
            | (rw [getC_yes he0 (by rw [← hf]; exact hyes), ← hf, hmk]; exact ⟨rfl, E⟩)
        · have hyes : okG f := by have h9 := (okG_ref he0).2 ⟨by rw [← hf, ← hq, h5]; exact Classical.not_not.1 hg11_5, by rw [← hf, hmk]; exact hokc, by rw [← hf, hmk]; exact Classical.not_not.1 h1⟩; rw [← hf] at h9; exact h9
          refine G.skip ?_
          refine N.seq ?_
          refine G.seq ?_
          refine G.region ?_
          refine L.val rfl rfl (R.ldBN rfl B7 rfl) ?_
          refine L.set rfl (R.stN rfl rfl B2 rfl (Nat.le_refl 7) (ctlC_one _)) ?_
          rintro w31 ⟨e31, hs31, B2x⟩
          replace B2 : Blk w31 b2 (ctlC c) 121 (0, 0) := by rw [all_stored (by rfl)] at B2x; exact B2x
          replace E := E.trans e31 (M := []) (by simp) (by intro x hx; rw [List.mem_singleton.1 hx]; exact .inr (by omega))
          refine L.val rfl rfl (R.as rfl) ?_
          refine L.nil ?_
          refine N.seq ?_
          refine G.retCT rfl rfl rfl (B2) rfl ?_
          first
            | (rw [getC_err hne]; exact ⟨rfl, E⟩)
            | (rw [getC_no he0 (by rw [← hf]; exact hno)]; exact ⟨rfl, E⟩)
            | (rw [getC_yes he0 (by rw [← hf]; exact hyes), ← hf, hmk]; exact ⟨rfl, E⟩)

end Go.Proofs.Ythpolibakkmmeaa
/-
  The walks of package control.
-/
set_option linter.unusedVariables false
set_option linter.unusedSimpArgs false
namespace Go.Proofs.Ythpolibakkmmeaa
open Go Brv Brv.Crc Brv.Pack Brv.Frame Brv.Image Brv.Dev Brv.Control
theorem controlTells_ok (c : Ctl) (a : Option Addr) (n k : Nat) (l : List UInt8) (w : World) (hc : InC c) (hb : Bs w a n l) (hk : n ≤ k) : Meets Try.prog 10 [.agg (ctlC c), .slice a n k] w (fun v w' => v = .bool true ∧ Ext [] w w') := by
  refine Meets.enter Try.func10 rfl 51 rfl (Nat.le_of_ble_eq_true rfl) ?_
  have E := Ext.refl [] w
  refine G.seq ?_
  refine G.region ?_
  refine L.do rfl rfl (R.box rfl) ?_
  rintro _ w1 ⟨b2, rfl, hb2, hs1, e1, B2⟩
  replace B2 : Blk w1 b2 (ctlC c) 121 (0, 0) := B2
  replace E := E.trans0 e1
  refine L.val rfl rfl (R.as rfl) ?_
  refine L.nil ?_
  refine N.seq ?_
  refine G.seq ?_
  refine G.seq ?_
  refine G.region ?_
  refine L.callF rfl rfl rfl go71 (control_first_ok _) ?_
  rintro _ w0 ⟨rfl, e0⟩
  replace E := E.trans0 e0
  replace B2 := B2.ext0 e0
  refine L.val rfl rfl (R.not rfl) ?_
  refine L.nil ?_
  refine N.seq ?_
  refine G.condF rfl ?_
  refine G.skip ?_
  refine N.seq ?_
  refine G.seq ?_
  refine G.seq ?_
  refine G.region ?_
  refine L.val rfl rfl (R.mv rfl) ?_
  refine L.val rfl rfl (R.lenS rfl) ?_
  refine L.val rfl rfl (R.gtr rfl rfl) ?_
  refine L.nil ?_
  refine N.seq ?_
  refine G.condP rfl (fun h1 => ?_) (fun h1 => ?_)
  · refine G.seq ?_
    refine G.region ?_
    refine L.val rfl rfl (R.as rfl) ?_
    refine L.nil ?_
    refine N.seq ?_
    refine G.ret1 rfl rfl ?_
    first | exact ⟨rfl, E⟩ | exact ⟨congrArg Value.bool (by simp), E⟩
  · have hn : n ≤ 300 := by omega
    refine G.skip ?_
    refine N.seq ?_
    refine G.seq ?_
    refine G.region ?_
    refine L.val rfl rfl (R.as rfl) ?_
    refine L.nil ?_
    refine N.seq ?_
    refine G.seq ?_
    refine G.seq ?_
    refine G.region ?_
    refine L.val rfl rfl (R.ldBN rfl B2 rfl) ?_
    refine L.callF rfl rfl rfl go72 (rcright_ok c _) ?_
    rintro _ w2 ⟨rfl, e2⟩
    replace E := E.trans0 e2
    replace B2 := B2.ext0 e2
    refine L.nil ?_
    refine N.seq ?_
    refine G.condB rfl (fun h2 => ?_) (fun h2 => ?_)
    · have hok : okC c := by simpa using h2
      have hp : putC c = ctlS c := if_pos hok
      refine G.region ?_
      refine L.val rfl rfl (R.ldBN rfl B2 rfl) ?_
      refine L.callF rfl rfl rfl go73 (rcput_ok c _ hok) ?_
      rintro _ w3 ⟨rfl, e3⟩
      replace E := E.trans0 e3
      replace B2 := B2.ext0 e3
      refine L.val rfl rfl (R.as rfl) ?_
      refine L.nil ?_
      refine N.seq ?_
      refine G.seq ?_
      refine G.region ?_
      refine L.val rfl rfl (R.mv rfl) ?_
      refine L.callF rfl rfl rfl go74 (cget_ok _ n k l _ (hb.ext0 E) hk (by omega)) ?_
      rintro _ w4 ⟨rfl, e4⟩
      replace E := E.trans0 e4
      replace B2 := B2.ext0 e4
      refine L.val rfl rfl (R.mv rfl) ?_
      refine L.val rfl rfl (R.ext rfl rfl) ?_
      refine L.val rfl rfl (R.ext rfl rfl) ?_
      refine L.do rfl rfl (R.alloc) ?_
      rintro _ w5 ⟨b6, rfl, hb6, hs5, e5, B6⟩
      have hE5 := E.size
      have hl5_B2 := B2.lt
      replace E := E.trans0 e5
      replace B2 := B2.ext0 e5
      refine L.set rfl (R.stN rfl rfl B6 rfl (Nat.le_refl 7) (ctlC_one _)) ?_
      rintro w6 ⟨e6, hs6, B6x⟩
      replace B2 := B2.ext e6 (by simp; omega)
      replace B6 : Blk w6 b6 (ctlC (getC l).1) 121 (0, 0) := by rw [all_stored (by rfl)] at B6x; exact B6x
      replace E := E.trans e6 (M := []) (by simp) (by intro x hx; rw [List.mem_singleton.1 hx]; exact .inr (by omega))
      refine L.val rfl rfl (R.as rfl) ?_
      refine L.nil ?_
      refine N.seq ?_
      refine G.seq ?_
      refine G.region ?_
      refine L.val rfl rfl (R.mv rfl) ?_
      refine L.callF rfl rfl rfl go75 (rcget_ok _ n k l _ (hb.ext0 E) hk (by omega)) ?_
      rintro _ w7 ⟨rfl, e7⟩
      replace E := E.trans0 e7
      replace B2 := B2.ext0 e7
      replace B6 := B6.ext0 e7
      refine L.val rfl rfl (R.mv rfl) ?_
      refine L.val rfl rfl (R.ext rfl rfl) ?_
      refine L.val rfl rfl (R.ext rfl rfl) ?_
      refine L.do rfl rfl (R.alloc) ?_
      rintro _ w8 ⟨b8, rfl, hb8, hs8, e8, B8⟩
      have hE8 := E.size
      have hl8_B2 := B2.lt
      have hl8_B6 := B6.lt
      replace E := E.trans0 e8
      replace B2 := B2.ext0 e8
      replace B6 := B6.ext0 e8
      refine L.set rfl (R.stN rfl rfl B8 rfl (Nat.le_refl 7) (ctlC_one _)) ?_
      rintro w9 ⟨e9, hs9, B8x⟩
      replace B2 := B2.ext e9 (by simp; omega)
      replace B6 := B6.ext e9 (by simp; omega)
      replace B8 : Blk w9 b8 (ctlC (getC l).1) 121 (0, 0) := by rw [all_stored (by rfl)] at B8x; exact B8x
      replace E := E.trans e9 (M := []) (by simp) (by intro x hx; rw [List.mem_singleton.1 hx]; exact .inr (by omega))
      refine L.val rfl rfl (R.as rfl) ?_
      refine L.nil ?_
      refine N.seq ?_
      refine G.seq ?_
      refine G.quiet (by decide +kernel) rfl ?_
      refine Q.val rfl rfl rfl rfl (fun w10 hE => R.ldBN rfl (B2.ext0 hE) rfl) ?_
      refine Q.call (.bool (decide (okC c))) rfl rfl rfl go76 (fun w10 hE => ⟨_, rfl, (cright_ok c _).mono (fun _ _ h => h)⟩) ?_
      refine Q.val rfl rfl rfl rfl (fun w10 hE => R.ldBN rfl (B2.ext0 hE) rfl) ?_
      refine Q.call (.bool (decide (okC c))) rfl rfl rfl go72 (fun w10 hE => ⟨_, rfl, (rcright_ok c _).mono (fun _ _ h => h)⟩) ?_
      refine Q.val rfl rfl rfl rfl (fun w10 hE => R.eqB rfl rfl) ?_
      refine Q.val rfl rfl rfl rfl (fun w10 hE => R.mv rfl) ?_
      refine Q.isT 34 rfl (by simp) ?_
      refine Q.val rfl rfl rfl rfl (fun w10 hE => R.ldBN rfl (B2.ext0 hE) rfl) ?_
      refine Q.callR (A := IsPut 0 (putC c)) (IsPut.keep _ _) rfl rfl go77 (fun w10 hE => ⟨_, rfl, (cput_ok c _).mono (fun _ _ h => by obtain ⟨⟨x2, y2, rfl, h2, h3, h4⟩, e⟩ := h; exact ⟨⟨x2, y2, rfl, h2, h3, fun p hp => ⟨Nat.zero_le _, (h4 p hp).2⟩⟩, e⟩)⟩) ?_
      refine Q.val rfl rfl rfl rfl (fun w10 hE => fun v hv => by obtain ⟨x1, y1, rfl, h2, h3, h4⟩ := hv; exact R.bytesStr rfl h2.cells h2.len) ?_
      refine Q.val rfl rfl rfl rfl (fun w10 hE => R.mv rfl) ?_
      refine Q.val rfl rfl rfl rfl (fun w10 hE => R.eqStr rfl rfl) ?_
      first | refine Q.val rfl rfl rfl rfl (fun w10 hE => R.pickT rfl rfl) ?_ | refine Q.val rfl rfl rfl rfl (fun w10 hE => R.pickF rfl rfl) ?_
      refine Q.val rfl rfl rfl rfl (fun w10 hE => R.mv rfl) ?_
      refine Q.isT 41 rfl (by simp [hp]; try rfl) ?_
      refine Q.val rfl rfl rfl rfl (fun w10 hE => R.ldBN rfl (B6.ext0 hE) rfl) ?_
      refine Q.val rfl rfl rfl rfl (fun w10 hE => R.ldBN rfl (B8.ext0 hE) rfl) ?_
      refine Q.val rfl rfl rfl rfl (fun w10 hE => R.eqS rfl rfl rfl rfl (b := true) (by rw [eqL_ctl]; simp)) ?_
      first | refine Q.val rfl rfl rfl rfl (fun w10 hE => R.pickT rfl rfl) ?_ | refine Q.val rfl rfl rfl rfl (fun w10 hE => R.pickF rfl rfl) ?_
      refine Q.val rfl rfl rfl rfl (fun w10 hE => R.mv rfl) ?_
      refine Q.isT 46 rfl (by rfl) ?_
      refine Q.val rfl rfl rfl rfl (fun w10 hE => R.mv rfl) ?_
      refine Q.val rfl rfl rfl rfl (fun w10 hE => R.mv rfl) ?_
      refine Q.val rfl rfl rfl rfl (fun w10 hE => R.eqI rfl rfl) ?_
      first | refine Q.val rfl rfl rfl rfl (fun w10 hE => R.pickT rfl rfl) ?_ | refine Q.val rfl rfl rfl rfl (fun w10 hE => R.pickF rfl rfl) ?_
      refine Q.val rfl rfl rfl rfl (fun w10 hE => R.as rfl) ?_
      refine Q.nil (fun w10 e10 => ?_)
      intro v36 _
      replace E := E.trans0 e10
      refine N.seq ?_
      refine G.ret1 rfl rfl ?_
      first | exact ⟨rfl, E⟩ | exact ⟨congrArg Value.bool (by simp), E⟩
    · have hok : ¬ okC c := by simpa using h2
      have hp : putC c = [] := if_neg hok
      refine G.skip ?_
      refine N.seq ?_
      refine G.seq ?_
      refine G.region ?_
      refine L.val rfl rfl (R.mv rfl) ?_
      refine L.callF rfl rfl rfl go74 (cget_ok _ n k l _ (hb.ext0 E) hk (by omega)) ?_
      rintro _ w4 ⟨rfl, e4⟩
      replace E := E.trans0 e4
      replace B2 := B2.ext0 e4
      refine L.val rfl rfl (R.mv rfl) ?_
      refine L.val rfl rfl (R.ext rfl rfl) ?_
      refine L.val rfl rfl (R.ext rfl rfl) ?_
      refine L.do rfl rfl (R.alloc) ?_
      rintro _ w5 ⟨b6, rfl, hb6, hs5, e5, B6⟩
      have hE5 := E.size
      have hl5_B2 := B2.lt
      replace E := E.trans0 e5
      replace B2 := B2.ext0 e5
      refine L.set rfl (R.stN rfl rfl B6 rfl (Nat.le_refl 7) (ctlC_one _)) ?_
      rintro w6 ⟨e6, hs6, B6x⟩
      replace B2 := B2.ext e6 (by simp; omega)
      replace B6 : Blk w6 b6 (ctlC (getC l).1) 121 (0, 0) := by rw [all_stored (by rfl)] at B6x; exact B6x
      replace E := E.trans e6 (M := []) (by simp) (by intro x hx; rw [List.mem_singleton.1 hx]; exact .inr (by omega))
      refine L.val rfl rfl (R.as rfl) ?_
      refine L.nil ?_
      refine N.seq ?_
      refine G.seq ?_
      refine G.region ?_
      refine L.val rfl rfl (R.mv rfl) ?_
      refine L.callF rfl rfl rfl go75 (rcget_ok _ n k l _ (hb.ext0 E) hk (by omega)) ?_
      rintro _ w7 ⟨rfl, e7⟩
      replace E := E.trans0 e7
      replace B2 := B2.ext0 e7
      replace B6 := B6.ext0 e7
      refine L.val rfl rfl (R.mv rfl) ?_
      refine L.val rfl rfl (R.ext rfl rfl) ?_
      refine L.val rfl rfl (R.ext rfl rfl) ?_
      refine L.do rfl rfl (R.alloc) ?_
      rintro _ w8 ⟨b8, rfl, hb8, hs8, e8, B8⟩
      have hE8 := E.size
      have hl8_B2 := B2.lt
      have hl8_B6 := B6.lt
      replace E := E.trans0 e8
      replace B2 := B2.ext0 e8
      replace B6 := B6.ext0 e8
      refine L.set rfl (R.stN rfl rfl B8 rfl (Nat.le_refl 7) (ctlC_one _)) ?_
      rintro w9 ⟨e9, hs9, B8x⟩
      replace B2 := B2.ext e9 (by simp; omega)
      replace B6 := B6.ext e9 (by simp; omega)
      replace B8 : Blk w9 b8 (ctlC (getC l).1) 121 (0, 0) := by rw [all_stored (by rfl)] at B8x; exact B8x
      replace E := E.trans e9 (M := []) (by simp) (by intro x hx; rw [List.mem_singleton.1 hx]; exact .inr (by omega))
      refine L.val rfl rfl (R.as rfl) ?_
      refine L.nil ?_
      refine N.seq ?_
      refine G.seq ?_
      refine G.quiet (by decide +kernel) rfl ?_
      refine Q.val rfl rfl rfl rfl (fun w10 hE => R.ldBN rfl (B2.ext0 hE) rfl) ?_
      refine Q.call (.bool (decide (okC c))) rfl rfl rfl go76 (fun w10 hE => ⟨_, rfl, (cright_ok c _).mono (fun _ _ h => h)⟩) ?_
      refine Q.val rfl rfl rfl rfl (fun w10 hE => R.ldBN rfl (B2.ext0 hE) rfl) ?_
      refine Q.call (.bool (decide (okC c))) rfl rfl rfl go72 (fun w10 hE => ⟨_, rfl, (rcright_ok c _).mono (fun _ _ h => h)⟩) ?_
      refine Q.val rfl rfl rfl rfl (fun w10 hE => R.eqB rfl rfl) ?_
      refine Q.val rfl rfl rfl rfl (fun w10 hE => R.mv rfl) ?_
      refine Q.isT 34 rfl (by simp) ?_
      refine Q.val rfl rfl rfl rfl (fun w10 hE => R.ldBN rfl (B2.ext0 hE) rfl) ?_
      refine Q.callR (A := IsPut 0 (putC c)) (IsPut.keep _ _) rfl rfl go77 (fun w10 hE => ⟨_, rfl, (cput_ok c _).mono (fun _ _ h => by obtain ⟨⟨x2, y2, rfl, h2, h3, h4⟩, e⟩ := h; exact ⟨⟨x2, y2, rfl, h2, h3, fun p hp => ⟨Nat.zero_le _, (h4 p hp).2⟩⟩, e⟩)⟩) ?_
      refine Q.val rfl rfl rfl rfl (fun w10 hE => fun v hv => by obtain ⟨x1, y1, rfl, h2, h3, h4⟩ := hv; exact R.bytesStr rfl h2.cells h2.len) ?_
      refine Q.val rfl rfl rfl rfl (fun w10 hE => R.mv rfl) ?_
      refine Q.val rfl rfl rfl rfl (fun w10 hE => R.eqStr rfl rfl) ?_
      first | refine Q.val rfl rfl rfl rfl (fun w10 hE => R.pickT rfl rfl) ?_ | refine Q.val rfl rfl rfl rfl (fun w10 hE => R.pickF rfl rfl) ?_
      refine Q.val rfl rfl rfl rfl (fun w10 hE => R.mv rfl) ?_
      refine Q.isT 41 rfl (by simp [hp]; try rfl) ?_
      refine Q.val rfl rfl rfl rfl (fun w10 hE => R.ldBN rfl (B6.ext0 hE) rfl) ?_
      refine Q.val rfl rfl rfl rfl (fun w10 hE => R.ldBN rfl (B8.ext0 hE) rfl) ?_
      refine Q.val rfl rfl rfl rfl (fun w10 hE => R.eqS rfl rfl rfl rfl (b := true) (by rw [eqL_ctl]; simp)) ?_
      first | refine Q.val rfl rfl rfl rfl (fun w10 hE => R.pickT rfl rfl) ?_ | refine Q.val rfl rfl rfl rfl (fun w10 hE => R.pickF rfl rfl) ?_
      refine Q.val rfl rfl rfl rfl (fun w10 hE => R.mv rfl) ?_
      refine Q.isT 46 rfl (by rfl) ?_
      refine Q.val rfl rfl rfl rfl (fun w10 hE => R.mv rfl) ?_
      refine Q.val rfl rfl rfl rfl (fun w10 hE => R.mv rfl) ?_
      refine Q.val rfl rfl rfl rfl (fun w10 hE => R.eqI rfl rfl) ?_
      first | refine Q.val rfl rfl rfl rfl (fun w10 hE => R.pickT rfl rfl) ?_ | refine Q.val rfl rfl rfl rfl (fun w10 hE => R.pickF rfl rfl) ?_
      refine Q.val rfl rfl rfl rfl (fun w10 hE => R.as rfl) ?_
      refine Q.nil (fun w10 e10 => ?_)
      intro v36 _
      replace E := E.trans0 e10
      refine N.seq ?_
      refine G.ret1 rfl rfl ?_
      first | exact ⟨rfl, E⟩ | exact ⟨congrArg Value.bool (by simp), E⟩

end Go.Proofs.Ythpolibakkmmeaa
/-
  The controls among the arguments.
-/
set_option linter.unusedVariables false
namespace Go.Proofs.Ythpolibakkmmeaa
open Go Brv Brv.Control
structure CtlR where
  mk ::
  (Gen' : Int)
  (Epoch' : Int)
  (Area' : Int)
  (Timeline' : Int)
  (Number' : Int)
  (Redo' : Int)
  (Low' : Int)
def CtlR.cells (o : CtlR) : List Value := [.int .i64 o.Gen', .int .i64 o.Epoch', .int .i64 o.Area', .int .i64 o.Timeline', .int .i64 o.Number', .int .i64 o.Redo', .int .i64 o.Low']
def CtlR.ok (w : World) (o : CtlR) : Prop := (Lit.int .i64 o.Gen').wf = true ∧ (Lit.int .i64 o.Epoch').wf = true ∧ (Lit.int .i64 o.Area').wf = true ∧ (Lit.int .i64 o.Timeline').wf = true ∧ (Lit.int .i64 o.Number').wf = true ∧ (Lit.int .i64 o.Redo').wf = true ∧ (Lit.int .i64 o.Low').wf = true
theorem CtlR.ok.ext0 {w w' : World} {o : CtlR} (h : o.ok w) (he : Ext [] w w') : o.ok w' := by
  obtain ⟨h0, h1, h2, h3, h4, h5, h6⟩ := h
  exact ⟨h0, h1, h2, h3, h4, h5, h6⟩
theorem CtlR.cells.length (o : CtlR) : o.cells.length = 7 := rfl
theorem CtlR.cells.one (o : CtlR) : ∀ u ∈ o.cells.toArray.toList, u.oneCell' = true := by
  intro u hu
  simp only [CtlR.cells, List.mem_cons, List.not_mem_nil, or_false] at hu
  rcases hu with rfl | rfl | rfl | rfl | rfl | rfl | rfl <;> rfl
set_option maxRecDepth 100000 in
theorem ctlR_of {w : World} {f : Nat} {cs : List Value} (h : Rd Try.prog w f 121 cs) : ∃ o : CtlR, cs = o.cells ∧ o.ok w := by
  cases f with
  | zero => exact h.elim
  | succ f =>
    unfold Rd at h
    rw [Try.underlying121] at h
    obtain ⟨hl, hf⟩ := h
    rw [show Try.prog.cellsOf 121 = 7 from by kernel_rfl] at hl
    obtain ⟨v0, v1, v2, v3, v4, v5, v6, rfl⟩ : ∃ v0 v1 v2 v3 v4 v5 v6, cs = [v0, v1, v2, v3, v4, v5, v6] := by
      match cs, hl with
      | [v0, v1, v2, v3, v4, v5, v6], _ => exact ⟨v0, v1, v2, v3, v4, v5, v6, rfl⟩
    have r0 : Rd Try.prog w f 3 (List.take (Try.prog.cellsOf 3) (List.drop 0 [v0, v1, v2, v3, v4, v5, v6])) := hf 0 _ rfl
    rw [show Try.prog.cellsOf 3 = 1 from by kernel_rfl] at r0
    replace r0 : Rd Try.prog w f 3 [v0] := r0
    have r1 : Rd Try.prog w f 3 (List.take (Try.prog.cellsOf 3) (List.drop 1 [v0, v1, v2, v3, v4, v5, v6])) := hf 1 _ rfl
    rw [show Try.prog.cellsOf 3 = 1 from by kernel_rfl] at r1
    replace r1 : Rd Try.prog w f 3 [v1] := r1
    have r2 : Rd Try.prog w f 3 (List.take (Try.prog.cellsOf 3) (List.drop 2 [v0, v1, v2, v3, v4, v5, v6])) := hf 2 _ rfl
    rw [show Try.prog.cellsOf 3 = 1 from by kernel_rfl] at r2
    replace r2 : Rd Try.prog w f 3 [v2] := r2
    have r3 : Rd Try.prog w f 3 (List.take (Try.prog.cellsOf 3) (List.drop 3 [v0, v1, v2, v3, v4, v5, v6])) := hf 3 _ rfl
    rw [show Try.prog.cellsOf 3 = 1 from by kernel_rfl] at r3
    replace r3 : Rd Try.prog w f 3 [v3] := r3
    have r4 : Rd Try.prog w f 3 (List.take (Try.prog.cellsOf 3) (List.drop 4 [v0, v1, v2, v3, v4, v5, v6])) := hf 4 _ rfl
    rw [show Try.prog.cellsOf 3 = 1 from by kernel_rfl] at r4
    replace r4 : Rd Try.prog w f 3 [v4] := r4
    have r5 : Rd Try.prog w f 3 (List.take (Try.prog.cellsOf 3) (List.drop 5 [v0, v1, v2, v3, v4, v5, v6])) := hf 5 _ rfl
    rw [show Try.prog.cellsOf 3 = 1 from by kernel_rfl] at r5
    replace r5 : Rd Try.prog w f 3 [v5] := r5
    have r6 : Rd Try.prog w f 3 (List.take (Try.prog.cellsOf 3) (List.drop 6 [v0, v1, v2, v3, v4, v5, v6])) := hf 6 _ rfl
    rw [show Try.prog.cellsOf 3 = 1 from by kernel_rfl] at r6
    replace r6 : Rd Try.prog w f 3 [v6] := r6
    obtain ⟨x0, e0, w0⟩ := r0.int
    cases e0
    obtain ⟨x1, e1, w1⟩ := r1.int
    cases e1
    obtain ⟨x2, e2, w2⟩ := r2.int
    cases e2
    obtain ⟨x3, e3, w3⟩ := r3.int
    cases e3
    obtain ⟨x4, e4, w4⟩ := r4.int
    cases e4
    obtain ⟨x5, e5, w5⟩ := r5.int
    cases e5
    obtain ⟨x6, e6, w6⟩ := r6.int
    cases e6
    exact ⟨⟨x0, x1, x2, x3, x4, x5, x6⟩, rfl, ⟨w0, w1, w2, w3, w4, w5, w6⟩⟩
set_option maxRecDepth 100000 in
theorem ctlR_rows130 {w : World} {f : Nat} {cs : List Value} (h : Rd Try.prog w f 130 cs) : ∃ a n c, ∃ os : List CtlR, cs = [.slice a n c] ∧ n ≤ c ∧ c * 56 ≤ 140737488351232 ∧ Tab w a n 7 (os.map CtlR.cells) ∧ ∀ o ∈ os, o.ok w := by
  cases f with
  | zero => exact h.elim
  | succ f =>
    unfold Rd at h
    rw [Try.underlying130] at h
    obtain ⟨a, n, c, rfl, hnc, _, hb, vss, hl, hcell, hv⟩ := h
    rw [show Try.prog.bytesOf 121 = 56 from by kernel_rfl] at hb
    have hex : ∃ os : List CtlR, vss = os.map CtlR.cells ∧ ∀ o ∈ os, o.ok w := by
      clear hcell hl
      induction vss with
      | nil => exact ⟨[], rfl, by simp⟩
      | cons vs r ih =>
        obtain ⟨o, rfl, ho⟩ := ctlR_of (hv vs (by simp)).2
        obtain ⟨os, rfl, hos⟩ := ih (fun x hx => hv x (by simp [hx]))
        exact ⟨o :: os, rfl, fun x hx => (List.mem_cons.1 hx).elim (fun e => e ▸ ho) (hos x)⟩
    obtain ⟨os, rfl, hos⟩ := hex
    exact ⟨a, n, c, os, rfl, hnc, hb, ⟨hcell, hl.symm, fun vs hvs => by obtain ⟨o, _, rfl⟩ := List.mem_map.1 hvs; rfl⟩, hos⟩

def CtlR.c (o : CtlR) : Ctl := (o.Gen', o.Epoch', o.Area', o.Timeline', o.Number', o.Redo', o.Low')
theorem CtlR.inC {o : CtlR} {w : World} (h : o.ok w) : InC o.c := by
  obtain ⟨h1, h2, h3, h4, h5, h6, h7⟩ := h
  exact ⟨wf_i64 h1, wf_i64 h2, wf_i64 h3, wf_i64 h4, wf_i64 h5, wf_i64 h6, wf_i64 h7⟩
theorem CtlR.arr (o : CtlR) : o.cells.toArray = ctlC o.c := rfl
end Go.Proofs.Ythpolibakkmmeaa
