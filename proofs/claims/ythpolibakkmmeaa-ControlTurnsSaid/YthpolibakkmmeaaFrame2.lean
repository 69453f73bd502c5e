/-
  The walks of package frame: Get.
-/
import Derived.Test.YthpolibakkmmeaaFrame
import Derived.Test.YthpolibakkmmeaaFramePure2
set_option linter.unusedVariables false
set_option linter.unusedSimpArgs false
namespace Go.Proofs.Ythpolibakkmmeaa
open Go Brv Brv.Crc Brv.Pack Brv.Frame
def frC (f : FrV) (a : Option Addr) (c : Nat) : Array Value := #[.int .i64 f.1, .int .i64 f.2.1, .int .i64 f.2.2.1, .int .i64 f.2.2.2.1, .slice a f.2.2.2.2.length c]
structure InV (f : FrV) : Prop where
  p : -9223372036854775808 ≤ f.1 ∧ f.1 ≤ 9223372036854775807
  q : -9223372036854775808 ≤ f.2.1 ∧ f.2.1 ≤ 9223372036854775807
  i : -9223372036854775808 ≤ f.2.2.1 ∧ f.2.2.1 ≤ 9223372036854775807
  k : -9223372036854775808 ≤ f.2.2.2.1 ∧ f.2.2.2.1 ≤ 9223372036854775807
  l : f.2.2.2.2.length ≤ 140737488351232
theorem frC_one (f : FrV) (a : Option Addr) (c : Nat) : ∀ u ∈ (frC f a c).toList, u.oneCell' = true := by
  intro u hu
  simp only [frC, List.mem_cons, List.not_mem_nil, or_false] at hu
  rcases hu with rfl | rfl | rfl | rfl | rfl <;> rfl
theorem InV.of {f : FrV} (h : okV f) : InV f := by
  obtain ⟨⟨o1, o2⟩, ⟨o3, o4⟩, ⟨o5, o6⟩, ⟨o7, o8⟩, o9⟩ := h
  exact ⟨by omega, by omega, by omega, by omega, by omega⟩
theorem InV.parse (l : List UInt8) : InV (parse l).1 := by
  have h1 := numF_lt l 0 8
  have h2 := numF_lt (numF l 0 8).2.1 (numF l 0 8).2.2 4
  have h3 := numF_lt (numF (numF l 0 8).2.1 (numF l 0 8).2.2 4).2.1 (numF (numF l 0 8).2.1 (numF l 0 8).2.2 4).2.2 2
  have h4 := numF_lt (numF (numF (numF l 0 8).2.1 (numF l 0 8).2.2 4).2.1 (numF (numF l 0 8).2.1 (numF l 0 8).2.2 4).2.2 2).2.1 (numF (numF (numF l 0 8).2.1 (numF l 0 8).2.2 4).2.1 (numF (numF l 0 8).2.1 (numF l 0 8).2.2 4).2.2 2).2.2 2
  have h5 : (Frame.parse l).1.2.2.2.2.length ≤ 40 := txtF_most _ _
  exact ⟨⟨by show (-9223372036854775808 : Int) ≤ ((numF l 0 8).1 : Int); omega, by show ((numF l 0 8).1 : Int) ≤ _; omega⟩, ⟨by show (-9223372036854775808 : Int) ≤ ((numF _ _ 4).1 : Int); omega, by show ((numF (numF l 0 8).2.1 (numF l 0 8).2.2 4).1 : Int) ≤ _; omega⟩,
    ⟨by show (-9223372036854775808 : Int) ≤ ((numF _ _ 2).1 : Int); omega, by show ((numF (numF (numF l 0 8).2.1 (numF l 0 8).2.2 4).2.1 (numF (numF l 0 8).2.1 (numF l 0 8).2.2 4).2.2 2).1 : Int) ≤ _; omega⟩,
    ⟨by show (-9223372036854775808 : Int) ≤ ((numF _ _ 2).1 : Int); omega, by show ((numF (numF (numF (numF l 0 8).2.1 (numF l 0 8).2.2 4).2.1 (numF (numF l 0 8).2.1 (numF l 0 8).2.2 4).2.2 2).2.1 (numF (numF (numF l 0 8).2.1 (numF l 0 8).2.2 4).2.1 (numF (numF l 0 8).2.1 (numF l 0 8).2.2 4).2.2 2).2.2 2).1 : Int) ≤ _; omega⟩, Nat.le_trans h5 (by decide)⟩
theorem fputV_ok (f : FrV) (a : Option Addr) (c : Nat) (w : World) (hb : Bs w a f.2.2.2.2.length f.2.2.2.2) (hi : InV f) : Meets Try.prog 141 [.agg (frC f a c)] w (fun v w' => ∃ a1 c1, v = .slice a1 (putV f).length c1 ∧ Ext [] w w' ∧ Bs w' a1 (putV f).length (putV f) ∧ (putV f).length ≤ c1) := by
  obtain ⟨p, q, i, k, l⟩ := f
  refine (fput_ok p q i k a l.length c l w hb hi.l hi.p hi.q hi.i hi.k).mono ?_
  rintro v w' ⟨h1, h2⟩
  by_cases h : okFrame p q i k l
  · obtain ⟨a1, c1, M1, rfl, e, o, _⟩ := h1 h
    have e1 : putV (p, q, i, k, l) = frameF p q i k l := if_pos h
    have e2 : (frameF p q i k l).length = 64 := secV_length (f := (p, q, i, k, l)) h
    rw [e1, e2]
    exact ⟨a1, c1, rfl, e, Bs.of_own o, o.le⟩
  · obtain ⟨rfl, e⟩ := h2 h
    have e1 : putV (p, q, i, k, l) = [] := if_neg h
    rw [e1]
    exact ⟨none, 0, rfl, e, Bs.nil _, Nat.le_refl _⟩
theorem frightV_ok (f : FrV) (a : Option Addr) (c : Nat) (w : World) (hi : InV f) : Meets Try.prog 195 [.agg (frC f a c)] w (fun v w' => v = .bool (decide (okV f)) ∧ Ext [] w w') := right_ok f.1 f.2.1 f.2.2.1 f.2.2.2.1 a _ c f.2.2.2.2 w rfl hi.p hi.q hi.i hi.k
theorem rrightV_ok (f : FrV) (a : Option Addr) (c : Nat) (w : World) (hi : InV f) : Meets Try.prog 193 [.agg (frC f a c)] w (fun v w' => v = .bool (decide (okV f)) ∧ Ext [] w w') := refright_ok f.1 f.2.1 f.2.2.1 f.2.2.2.1 a _ c f.2.2.2.2 w rfl hi.p hi.q hi.i hi.k
theorem rputV_ok (f : FrV) (a : Option Addr) (c : Nat) (w : World) (hok : okV f) (hb : Bs w a f.2.2.2.2.length f.2.2.2.2) (hc : f.2.2.2.2.length ≤ c) : Meets Try.prog 131 [.agg (frC f a c)] w (fun v w' => v = .string (str (secV f)) ∧ Ext [] w w') :=
  refput6_ok f.1 f.2.1 f.2.2.1 f.2.2.2.1 a _ c f.2.2.2.2 w hok hb hc (InV.of hok).l (InV.of hok).p (InV.of hok).q (InV.of hok).i (InV.of hok).k

theorem fget_ok (a : Option Addr) (n c : Nat) (l : List UInt8) (w : World) (hb : Bs w a n l) (hc : n ≤ c) (hn : n ≤ 70368744177664) : Meets Try.prog 132 [.slice a n c] w (fun v w' => ∃ a1 c1, v = .tuple #[.agg (frC (getF l).1 a1 c1), .int .i64 (getF l).2] ∧ Ext [] w w' ∧ Bs w' a1 (getF l).1.2.2.2.2.length (getF l).1.2.2.2.2 ∧ (getF l).1.2.2.2.2.length ≤ c1 ∧ ∀ p, a1 = some p → w.heap.size ≤ p.block ∧ p.block < w'.heap.size) := by
  refine Meets.enter Try.func132 rfl 44 rfl (Nat.le_of_ble_eq_true rfl) ?_
  have E := Ext.refl [] w
  have hl := hb.len
  refine G.seq ?_
  refine G.region ?_
  refine L.do rfl rfl (R.alloc) ?_
  rintro _ w1 ⟨b2, rfl, hb2, hs2, e1, B2⟩
  replace E := E.trans0 e1
  refine L.val rfl rfl (R.as rfl) ?_
  refine L.nil ?_
  refine N.seq ?_
  refine G.seq ?_
  refine G.region ?_
  refine L.val rfl rfl (R.mv rfl) ?_
  refine L.callF rfl rfl rfl go133 (new_ok _ _ _ _ _ (hb.ext0 E) (by omega)) ?_
  rintro _ w2 ⟨s, D, rfl, S0, e2, hss, hD2, _, hDc⟩
  have hDl : ∀ d ∈ D, d < w2.heap.size := fun d hd => (hDc d hd).elim fun _ h => h.lt
  replace E := E.trans0 e2
  replace B2 := B2.ext0 e2
  have hsw : w.heap.size ≤ s := by omega
  have hbs : b2 ≠ s := by omega
  have hDs : ∀ d ∈ D, w1.heap.size ≤ d := hD2
  refine L.val rfl rfl (R.as rfl) ?_
  refine L.nil ?_
  refine N.seq ?_
  refine G.seq ?_
  refine G.seq ?_
  refine G.region ?_
  refine L.val rfl rfl (R.mv rfl) ?_
  refine L.val rfl rfl (R.lenS rfl) ?_
  refine L.val rfl rfl (R.neI rfl rfl) ?_
  refine L.val rfl rfl (R.mv rfl) ?_
  refine L.caseP 11 rfl (fun hg2_3 => ?_) (fun hg2_3 => ?_)
  · have hno : ¬ (l.length = 64 ∧ num (l.take 2) = 46878) := fun h => by omega
    refine L.pass rfl rfl ?_
    refine L.pass rfl rfl ?_
    refine L.pass rfl rfl ?_
    first | refine L.val rfl rfl (R.pickT rfl rfl) ?_ | refine L.val rfl rfl (R.pickF rfl rfl) ?_
    refine L.nil ?_
    refine N.seq ?_
    refine G.condT rfl ?_
    refine G.seq ?_
    refine G.region ?_
    refine L.val rfl rfl (R.build rfl rfl) ?_
    refine L.set rfl (R.stN rfl rfl B2 rfl (Nat.le_refl 5) (frC_one zeroV none 0)) ?_
    rintro w20 ⟨e20, hs20, B2⟩
    replace B2 : Blk w20 b2 (frC zeroV none 0) 214 (0, 0) := B2
    replace E := E.trans e20 (M := []) (by simp) (by intro x hx; rw [List.mem_singleton.1 hx]; exact .inr (by omega))
    refine L.val rfl rfl (R.as rfl) ?_
    refine L.nil ?_
    refine N.seq ?_
    refine G.retCT rfl rfl rfl (B2) rfl ?_
    first
      | (rw [getF_size hno]; exact ⟨none, 0, rfl, E, Bs.nil _, Nat.le_refl _, (fun p hp => by cases hp)⟩)
      | (rw [getF_sum hyes hg]; exact ⟨none, 0, rfl, E, Bs.nil _, Nat.le_refl _, (fun p hp => by cases hp)⟩)
      | (rw [getF_form hyes hg hnf]; exact ⟨none, 0, rfl, E, Bs.nil _, Nat.le_refl _, (fun p hp => by cases hp)⟩)
      | (rw [getF_form hyes hg (fun h => by have h9 := h.2; simp [h9] at h2)]; exact ⟨none, 0, rfl, E, Bs.nil _, Nat.le_refl _, (fun p hp => by cases hp)⟩)
      | (rw [getF_yes hyes hg ⟨he0, by simpa using h2⟩]; exact ⟨a5, c5, rfl, E, hbp, by rw [hp5]; exact hc5, fun p hp => ⟨by have h1 := hDs _ (hq5 p hp); omega, by have h1 := hDl _ (hq5 p hp); have := e10.size; have := e11.size; have := e12.size; have := e13.size; have := e23.size; omega⟩⟩)
  · have h64 : l.length = 64 := by omega
    have hq2 : numF l 0 2 = (num (l.take 2), l.drop 2, 0) := numF_ok (l := l) (y := 2) ⟨by omega, by omega, by omega, by omega⟩
    refine L.val rfl rfl (R.mv rfl) ?_
    refine L.callF rfl rfl rfl go134 (scannum_ok _ _ _ _ 2 _ S0 (by omega)) ?_
    rintro _ w3 ⟨rfl, S1, e3⟩
    rw [hq2] at S1 ⊢
    dsimp only at S1
    replace E := E.trans e3 (M := []) (by simp) (by intro x hx; rw [List.mem_singleton.1 hx]; exact .inr hsw)
    replace B2 := B2.ext e3 (by simp; omega)
    have hw3 := e3.size
    refine L.val rfl rfl (R.neI rfl rfl) ?_
    first | refine L.val rfl rfl (R.pickT rfl rfl) ?_ | refine L.val rfl rfl (R.pickF rfl rfl) ?_
    refine L.nil ?_
    refine N.seq ?_
    refine G.condP rfl (fun h0 => ?_) (fun h0 => ?_)
    · have hno : ¬ (l.length = 64 ∧ num (l.take 2) = 46878) := fun h => h0 (by rw [h.2]; rfl)
      refine G.seq ?_
      refine G.region ?_
      refine L.val rfl rfl (R.build rfl rfl) ?_
      refine L.set rfl (R.stN rfl rfl B2 rfl (Nat.le_refl 5) (frC_one zeroV none 0)) ?_
      rintro w20 ⟨e20, hs20, B2⟩
      replace B2 : Blk w20 b2 (frC zeroV none 0) 214 (0, 0) := B2
      replace E := E.trans e20 (M := []) (by simp) (by intro x hx; rw [List.mem_singleton.1 hx]; exact .inr (by omega))
      refine L.val rfl rfl (R.as rfl) ?_
      refine L.nil ?_
      refine N.seq ?_
      refine G.retCT rfl rfl rfl (B2) rfl ?_
      first
        | (rw [getF_size hno]; exact ⟨none, 0, rfl, E, Bs.nil _, Nat.le_refl _, (fun p hp => by cases hp)⟩)
        | (rw [getF_sum hyes hg]; exact ⟨none, 0, rfl, E, Bs.nil _, Nat.le_refl _, (fun p hp => by cases hp)⟩)
        | (rw [getF_form hyes hg hnf]; exact ⟨none, 0, rfl, E, Bs.nil _, Nat.le_refl _, (fun p hp => by cases hp)⟩)
        | (rw [getF_form hyes hg (fun h => by have h9 := h.2; simp [h9] at h2)]; exact ⟨none, 0, rfl, E, Bs.nil _, Nat.le_refl _, (fun p hp => by cases hp)⟩)
        | (rw [getF_yes hyes hg ⟨he0, by simpa using h2⟩]; exact ⟨a5, c5, rfl, E, hbp, by rw [hp5]; exact hc5, fun p hp => ⟨by have h1 := hDs _ (hq5 p hp); omega, by have h1 := hDl _ (hq5 p hp); have := e10.size; have := e11.size; have := e12.size; have := e13.size; have := e23.size; omega⟩⟩)
    · have hyes : l.length = 64 ∧ num (l.take 2) = 46878 := ⟨h64, by have := Classical.not_not.1 h0; omega⟩
      refine G.skip ?_
      refine N.seq ?_
      refine G.seq ?_
      refine G.seq ?_
      refine G.region ?_
      refine L.val rfl rfl (R.mv rfl) ?_
      refine L.callF rfl rfl rfl go188 (good_ok _ _ _ _ _ (hb.ext0 E) (by omega)) ?_
      rintro _ w4 ⟨rfl, e4⟩
      replace E := E.trans0 e4
      replace B2 := B2.ext0 e4
      replace S1 := S1.ext0 e4
      have hw4 := e4.size
      refine L.val rfl rfl (R.not rfl) ?_
      refine L.nil ?_
      refine N.seq ?_
      refine G.condB rfl (fun h1 => ?_) (fun h1 => ?_)
      · have hg : goodF l = false := by simpa using h1
        refine G.seq ?_
        refine G.region ?_
        refine L.val rfl rfl (R.build rfl rfl) ?_
        refine L.set rfl (R.stN rfl rfl B2 rfl (Nat.le_refl 5) (frC_one zeroV none 0)) ?_
        rintro w21 ⟨e21, hs21, B2⟩
        replace B2 : Blk w21 b2 (frC zeroV none 0) 214 (0, 0) := B2
        replace E := E.trans e21 (M := []) (by simp) (by intro x hx; rw [List.mem_singleton.1 hx]; exact .inr (by omega))
        refine L.val rfl rfl (R.as rfl) ?_
        refine L.nil ?_
        refine N.seq ?_
        refine G.retCT rfl rfl rfl (B2) rfl ?_
        first
          | (rw [getF_size hno]; exact ⟨none, 0, rfl, E, Bs.nil _, Nat.le_refl _, (fun p hp => by cases hp)⟩)
          | (rw [getF_sum hyes hg]; exact ⟨none, 0, rfl, E, Bs.nil _, Nat.le_refl _, (fun p hp => by cases hp)⟩)
          | (rw [getF_form hyes hg hnf]; exact ⟨none, 0, rfl, E, Bs.nil _, Nat.le_refl _, (fun p hp => by cases hp)⟩)
          | (rw [getF_form hyes hg (fun h => by have h9 := h.2; simp [h9] at h2)]; exact ⟨none, 0, rfl, E, Bs.nil _, Nat.le_refl _, (fun p hp => by cases hp)⟩)
          | (rw [getF_yes hyes hg ⟨he0, by simpa using h2⟩]; exact ⟨a5, c5, rfl, E, hbp, by rw [hp5]; exact hc5, fun p hp => ⟨by have h1 := hDs _ (hq5 p hp); omega, by have h1 := hDl _ (hq5 p hp); have := e10.size; have := e11.size; have := e12.size; have := e13.size; have := e23.size; omega⟩⟩)
      · have hg : goodF l = true := by simpa using h1
        obtain ⟨x1, hx1⟩ : ∃ x, x = numF (l.drop 2) 0 8 := ⟨_, rfl⟩
        obtain ⟨x2, hx2⟩ : ∃ x, x = numF x1.2.1 x1.2.2 4 := ⟨_, rfl⟩
        obtain ⟨x3, hx3⟩ : ∃ x, x = numF x2.2.1 x2.2.2 2 := ⟨_, rfl⟩
        obtain ⟨x4, hx4⟩ : ∃ x, x = numF x3.2.1 x3.2.2 2 := ⟨_, rfl⟩
        obtain ⟨x5, hx5⟩ : ∃ x, x = txtF x4.2.1 x4.2.2 40 := ⟨_, rfl⟩
        have hp5 : parse (l.drop 2) = (((x1.1 : Int), (x2.1 : Int), (x3.1 : Int), (x4.1 : Int), x5.1), x5.2.2) := by rw [hx5, hx4, hx3, hx2, hx1]; rfl
        have hd : (l.drop 2).length ≤ 64 := by rw [List.length_drop]; omega
        have z1 : x1.2.1.length ≤ 64 := by rw [hx1]; exact Nat.le_trans (numF_length _ _ _) hd
        have z2 : x2.2.1.length ≤ 64 := by rw [hx2]; exact Nat.le_trans (numF_length _ _ _) z1
        have z3 : x3.2.1.length ≤ 64 := by rw [hx3]; exact Nat.le_trans (numF_length _ _ _) z2
        have z4 : x4.2.1.length ≤ 64 := by rw [hx4]; exact Nat.le_trans (numF_length _ _ _) z3
        have z5 : x5.1.length ≤ 40 := by rw [hx5]; exact txtF_most _ _
        have z6 : x5.2.1.length ≤ 64 := by rw [hx5]; exact Nat.le_trans (txtF_length _ _ _) z4
        refine G.skip ?_
        refine N.seq ?_
        refine G.seq ?_
        refine G.region ?_
        refine L.val rfl rfl (R.mv rfl) ?_
        refine L.callF rfl rfl rfl go134 (scannum_ok _ _ _ _ 8 _ S1 (by omega)) ?_
        rintro _ w5 ⟨rfl, S2, e5⟩
        rw [← hx1] at S2 ⊢
        replace E := E.trans e5 (M := []) (by simp) (by intro x hx; rw [List.mem_singleton.1 hx]; exact .inr hsw)
        replace B2 := B2.ext e5 (by simp; omega)
        refine L.val rfl rfl (R.mv rfl) ?_
        refine L.callF rfl rfl rfl go134 (scannum_ok _ _ _ _ 4 _ S2 (by omega)) ?_
        rintro _ w6 ⟨rfl, S3, e6⟩
        rw [← hx2] at S3 ⊢
        replace E := E.trans e6 (M := []) (by simp) (by intro x hx; rw [List.mem_singleton.1 hx]; exact .inr hsw)
        replace B2 := B2.ext e6 (by simp; omega)
        refine L.val rfl rfl (R.mv rfl) ?_
        refine L.callF rfl rfl rfl go134 (scannum_ok _ _ _ _ 2 _ S3 (by omega)) ?_
        rintro _ w7 ⟨rfl, S4, e7⟩
        rw [← hx3] at S4 ⊢
        replace E := E.trans e7 (M := []) (by simp) (by intro x hx; rw [List.mem_singleton.1 hx]; exact .inr hsw)
        replace B2 := B2.ext e7 (by simp; omega)
        refine L.val rfl rfl (R.mv rfl) ?_
        refine L.callF rfl rfl rfl go134 (scannum_ok _ _ _ _ 2 _ S4 (by omega)) ?_
        rintro _ w8 ⟨rfl, S5, e8⟩
        rw [← hx4] at S5 ⊢
        replace E := E.trans e8 (M := []) (by simp) (by intro x hx; rw [List.mem_singleton.1 hx]; exact .inr hsw)
        replace B2 := B2.ext e8 (by simp; omega)
        refine L.val rfl rfl (R.mv rfl) ?_
        refine L.callF rfl rfl rfl go189 (scantext_ok _ _ _ _ 40 _ S5 (by omega)) ?_
        rintro _ w9 ⟨a5, c5, rfl, hc5, hb5, hq5, S6, e9⟩
        rw [← hx5] at S6 hb5 hc5 ⊢
        replace E := E.trans e9 (M := []) (by simp) (by intro x hx; rw [List.mem_singleton.1 hx]; exact .inr hsw)
        replace B2 := B2.ext e9 (by simp; omega)
        have hS6 := S6.lt
        have hw9 : w2.heap.size ≤ w9.heap.size := by have := e5.size; have := e6.size; have := e7.size; have := e8.size; have := e9.size; omega
        refine L.val rfl rfl (R.build (cs := #[.int .i64 (x1.1 : Int), .int .i64 (x2.1 : Int), .int .i64 (x3.1 : Int), .int .i64 (x4.1 : Int), .slice a5 x5.1.length c5]) rfl rfl) ?_
        refine L.do rfl rfl (R.alloc) ?_
        rintro _ w10 ⟨b5, rfl, hbb5, hs10, e10, B5⟩
        have hE9 := E.size
        replace E := E.trans0 e10
        have hlt2 := B2.lt
        replace B2 := B2.ext0 e10
        replace hb5 := hb5.ext0 e10
        replace S6 := S6.ext0 e10
        refine L.set rfl (R.stN rfl rfl B5 rfl (Nat.le_refl 5) (frC_one ((x1.1 : Int), (x2.1 : Int), (x3.1 : Int), (x4.1 : Int), x5.1) a5 c5)) ?_
        rintro w11 ⟨e11, hs11, B5⟩
        replace B5 : Blk w11 b5 #[.int .i64 (x1.1 : Int), .int .i64 (x2.1 : Int), .int .i64 (x3.1 : Int), .int .i64 (x4.1 : Int), .slice a5 x5.1.length c5] 214 (0, 0) := B5
        replace E := E.trans e11 (M := []) (by simp) (by intro x hx; rw [List.mem_singleton.1 hx]; exact .inr (by omega))
        replace B2 := B2.ext e11 (by simp; omega)
        replace hb5 := hb5.ext e11 (by intro q hq hh; have h1 := hDl _ (hq5 q hq); rw [List.mem_singleton.1 hh] at h1; omega)
        replace S6 := S6.ext e11 (by simp; omega) (by intro x hx hh; have h1 := hDl _ hx; rw [List.mem_singleton.1 hh] at h1; omega)
        have hfr : #[.int .i64 (x1.1 : Int), .int .i64 (x2.1 : Int), .int .i64 (x3.1 : Int), .int .i64 (x4.1 : Int), .slice a5 x5.1.length c5] = (frC (parse (l.drop 2)).1 a5 c5) := by rw [hp5]; rfl
        rw [hfr] at B5
        have hbp : Bs w11 a5 (parse (l.drop 2)).1.2.2.2.2.length (parse (l.drop 2)).1.2.2.2.2 := by rw [hp5]; exact hb5
        refine L.nil ?_
        refine N.seq ?_
        refine G.seq ?_
        refine G.seq ?_
        refine G.region ?_
        refine L.val rfl rfl (R.mv rfl) ?_
        refine L.callF rfl rfl rfl go135 (scanerr_ok _ _ _ _ _ S6 (by omega)) ?_
        rintro _ _ ⟨rfl, hw⟩
        obtain rfl := hw.symm
        refine L.val rfl rfl (R.neI rfl rfl) ?_
        refine L.val rfl rfl (R.mv rfl) ?_
        refine L.caseP 35 rfl (fun hg7_3 => ?_) (fun hg7_3 => ?_)
        · have hnf : ¬ ((parse (l.drop 2)).2 = 0 ∧ putV (parse (l.drop 2)).1 = l) := fun h => hg7_3 (by have := h.1; rw [hp5] at this; exact this)
          refine L.pass rfl rfl ?_
          refine L.pass rfl rfl ?_
          refine L.pass rfl rfl ?_
          refine L.pass rfl rfl ?_
          refine L.pass rfl rfl ?_
          first | refine L.val rfl rfl (R.pickT rfl rfl) ?_ | refine L.val rfl rfl (R.pickF rfl rfl) ?_
          refine L.nil ?_
          refine N.seq ?_
          refine G.condT rfl ?_
          refine G.seq ?_
          refine G.region ?_
          refine L.val rfl rfl (R.build rfl rfl) ?_
          refine L.set rfl (R.stN rfl rfl B2 rfl (Nat.le_refl 5) (frC_one zeroV none 0)) ?_
          rintro w22 ⟨e22, hs22, B2⟩
          replace B2 : Blk w22 b2 (frC zeroV none 0) 214 (0, 0) := B2
          replace E := E.trans e22 (M := []) (by simp) (by intro x hx; rw [List.mem_singleton.1 hx]; exact .inr (by omega))
          refine L.val rfl rfl (R.as rfl) ?_
          refine L.nil ?_
          refine N.seq ?_
          refine G.retCT rfl rfl rfl (B2) rfl ?_
          first
            | (rw [getF_size hno]; exact ⟨none, 0, rfl, E, Bs.nil _, Nat.le_refl _, (fun p hp => by cases hp)⟩)
            | (rw [getF_sum hyes hg]; exact ⟨none, 0, rfl, E, Bs.nil _, Nat.le_refl _, (fun p hp => by cases hp)⟩)
            | (rw [getF_form hyes hg hnf]; exact ⟨none, 0, rfl, E, Bs.nil _, Nat.le_refl _, (fun p hp => by cases hp)⟩)
            | (rw [getF_form hyes hg (fun h => by have h9 := h.2; simp [h9] at h2)]; exact ⟨none, 0, rfl, E, Bs.nil _, Nat.le_refl _, (fun p hp => by cases hp)⟩)
            | (rw [getF_yes hyes hg ⟨he0, by simpa using h2⟩]; exact ⟨a5, c5, rfl, E, hbp, by rw [hp5]; exact hc5, fun p hp => ⟨by have h1 := hDs _ (hq5 p hp); omega, by have h1 := hDl _ (hq5 p hp); have := e10.size; have := e11.size; have := e12.size; have := e13.size; have := e23.size; omega⟩⟩)
        · have he0 : (parse (l.drop 2)).2 = 0 := by rw [hp5]; exact Classical.not_not.1 hg7_3
          refine L.val rfl rfl (R.ldBN rfl (by assumption) (by rfl)) ?_
          refine L.callF rfl rfl rfl go141 (fputV_ok (parse (l.drop 2)).1 _ c5 _ hbp (InV.parse _)) ?_
          rintro _ w12 ⟨a6, c6, rfl, e12, hb6, hc6⟩
          replace E := E.trans0 e12
          replace B2 := B2.ext0 e12
          replace B5 := B5.ext0 e12
          replace hbp := hbp.ext0 e12
          refine L.val rfl rfl (R.mv rfl) ?_
          refine L.callF rfl rfl rfl go190 (equal_ok _ _ _ _ _ _ _ _ _ hb6 (hb.ext0 E) (by have := putV_le (parse (l.drop 2)).1; omega)) ?_
          rintro _ w13 ⟨rfl, e13⟩
          replace E := E.trans0 e13
          replace B2 := B2.ext0 e13
          replace B5 := B5.ext0 e13
          replace hbp := hbp.ext0 e13
          refine L.val rfl rfl (R.not rfl) ?_
          first | refine L.val rfl rfl (R.pickT rfl rfl) ?_ | refine L.val rfl rfl (R.pickF rfl rfl) ?_
          refine L.nil ?_
          refine N.seq ?_
          refine G.condB rfl (fun h2 => ?_) (fun h2 => ?_)
          · refine G.seq ?_
            refine G.region ?_
            refine L.val rfl rfl (R.build rfl rfl) ?_
            refine L.set rfl (R.stN rfl rfl B2 rfl (Nat.le_refl 5) (frC_one zeroV none 0)) ?_
            rintro w22 ⟨e22, hs22, B2⟩
            replace B2 : Blk w22 b2 (frC zeroV none 0) 214 (0, 0) := B2
            replace E := E.trans e22 (M := []) (by simp) (by intro x hx; rw [List.mem_singleton.1 hx]; exact .inr (by omega))
            refine L.val rfl rfl (R.as rfl) ?_
            refine L.nil ?_
            refine N.seq ?_
            refine G.retCT rfl rfl rfl (B2) rfl ?_
            first
              | (rw [getF_size hno]; exact ⟨none, 0, rfl, E, Bs.nil _, Nat.le_refl _, (fun p hp => by cases hp)⟩)
              | (rw [getF_sum hyes hg]; exact ⟨none, 0, rfl, E, Bs.nil _, Nat.le_refl _, (fun p hp => by cases hp)⟩)
              | (rw [getF_form hyes hg hnf]; exact ⟨none, 0, rfl, E, Bs.nil _, Nat.le_refl _, (fun p hp => by cases hp)⟩)
              | (rw [getF_form hyes hg (fun h => by have h9 := h.2; simp [h9] at h2)]; exact ⟨none, 0, rfl, E, Bs.nil _, Nat.le_refl _, (fun p hp => by cases hp)⟩)
              | (rw [getF_yes hyes hg ⟨he0, by simpa using h2⟩]; exact ⟨a5, c5, rfl, E, hbp, by rw [hp5]; exact hc5, fun p hp => ⟨by have h1 := hDs _ (hq5 p hp); omega, by have h1 := hDl _ (hq5 p hp); have := e10.size; have := e11.size; have := e12.size; have := e13.size; have := e23.size; omega⟩⟩)
          · refine G.skip ?_
            refine N.seq ?_
            refine G.seq ?_
            refine G.region ?_
            refine L.val rfl rfl (R.ldBN rfl (by assumption) (by rfl)) ?_
            refine L.set rfl (R.stN rfl rfl B2 rfl (Nat.le_refl 5) (frC_one (parse (l.drop 2)).1 a5 c5)) ?_
            rintro w23 ⟨e23, hs23, B2⟩
            replace B2 : Blk w23 b2 (frC (parse (l.drop 2)).1 a5 c5) 214 (0, 0) := B2
            replace E := E.trans e23 (M := []) (by simp) (by intro x hx; rw [List.mem_singleton.1 hx]; exact .inr (by omega))
            replace hbp := hbp.ext e23 (by intro q hq hh; have h1 := hDl _ (hq5 q hq); have h2 := hDs _ (hq5 q hq); rw [List.mem_singleton.1 hh] at h1 h2; omega)
            refine L.val rfl rfl (R.as rfl) ?_
            refine L.nil ?_
            refine N.seq ?_
            refine G.retCT rfl rfl rfl (B2) rfl ?_
            first
              | (rw [getF_size hno]; exact ⟨none, 0, rfl, E, Bs.nil _, Nat.le_refl _, (fun p hp => by cases hp)⟩)
              | (rw [getF_sum hyes hg]; exact ⟨none, 0, rfl, E, Bs.nil _, Nat.le_refl _, (fun p hp => by cases hp)⟩)
              | (rw [getF_form hyes hg hnf]; exact ⟨none, 0, rfl, E, Bs.nil _, Nat.le_refl _, (fun p hp => by cases hp)⟩)
              | (rw [getF_form hyes hg (fun h => by have h9 := h.2; simp [h9] at h2)]; exact ⟨none, 0, rfl, E, Bs.nil _, Nat.le_refl _, (fun p hp => by cases hp)⟩)
              | (rw [getF_yes hyes hg ⟨he0, by simpa using h2⟩]; exact ⟨a5, c5, rfl, E, hbp, by rw [hp5]; exact hc5, fun p hp => ⟨by have h1 := hDs _ (hq5 p hp); omega, by have h1 := hDl _ (hq5 p hp); have := e10.size; have := e11.size; have := e12.size; have := e13.size; have := e23.size; omega⟩⟩)

theorem sameV_last {f g : FrV} (h1 : f.1 = g.1) (h2 : f.2.1 = g.2.1) (h3 : f.2.2.1 = g.2.2.1) (h4 : f.2.2.2.1 = g.2.2.2.1) : decide (f.2.2.2.2 = g.2.2.2.2) = decide (f = g) := by
  obtain ⟨f1, f2, f3, f4, f5⟩ := f
  obtain ⟨g1, g2, g3, g4, g5⟩ := g
  dsimp only at h1 h2 h3 h4
  subst h1; subst h2; subst h3; subst h4
  simp

theorem refget_ok (a : Option Addr) (n c : Nat) (l : List UInt8) (w : World) (hb : Bs w a n l) (hc : n ≤ c) (hn : n ≤ 70368744177664) : Meets Try.prog 137 [.slice a n c] w (fun v w' => ∃ a1 c1, v = .tuple #[.agg (frC (getF l).1 a1 c1), .int .i64 (getF l).2] ∧ Ext [] w w' ∧ Bs w' a1 (getF l).1.2.2.2.2.length (getF l).1.2.2.2.2 ∧ (getF l).1.2.2.2.2.length ≤ c1 ∧ ∀ p, a1 = some p → w.heap.size ≤ p.block ∧ p.block < w'.heap.size) := by
  refine Meets.enter Try.func137 rfl 68 rfl (Nat.le_of_ble_eq_true rfl) ?_
  have E := Ext.refl [] w
  have hl := hb.len
  refine G.seq ?_
  refine G.region ?_
  refine L.do rfl rfl (R.alloc) ?_
  rintro _ w1 ⟨b2, rfl, hb2, hs2, e1, B2⟩
  replace E := E.trans0 e1
  refine L.val rfl rfl (R.as rfl) ?_
  refine L.nil ?_
  refine N.seq ?_
  refine G.seq ?_
  refine G.seq ?_
  refine G.region ?_
  refine L.val rfl rfl (R.mv rfl) ?_
  refine L.val rfl rfl (R.lenS rfl) ?_
  refine L.val rfl rfl (R.neI rfl rfl) ?_
  refine L.val rfl rfl (R.mv rfl) ?_
  refine L.caseP 9 rfl (fun hg1_3 => ?_) (fun hg1_3 => ?_)
  · have hno : ¬ (l.length = 64 ∧ num (l.take 2) = 46878) := fun h => by omega
    refine L.pass rfl rfl ?_
    refine L.pass rfl rfl ?_
    refine L.pass rfl rfl ?_
    refine L.pass rfl rfl ?_
    first | refine L.val rfl rfl (R.pickT rfl rfl) ?_ | refine L.val rfl rfl (R.pickF rfl rfl) ?_
    refine L.val rfl rfl (R.mv rfl) ?_
    refine L.pass rfl rfl ?_
    refine L.pass rfl rfl ?_
    refine L.pass rfl rfl ?_
    refine L.pass rfl rfl ?_
    first | refine L.val rfl rfl (R.pickT rfl rfl) ?_ | refine L.val rfl rfl (R.pickF rfl rfl) ?_
    refine L.nil ?_
    refine N.seq ?_
    refine G.condT rfl ?_
    refine G.seq ?_
    refine G.region ?_
    refine L.val rfl rfl (R.build rfl rfl) ?_
    refine L.set rfl (R.stN rfl rfl B2 rfl (Nat.le_refl 5) (frC_one zeroV none 0)) ?_
    rintro w20 ⟨e20, hs20, B2⟩
    replace B2 : Blk w20 b2 (frC zeroV none 0) 214 (0, 0) := B2
    replace E := E.trans e20 (M := []) (by simp) (by intro x hx; rw [List.mem_singleton.1 hx]; exact .inr (by omega))
    refine L.val rfl rfl (R.as rfl) ?_
    refine L.nil ?_
    refine N.seq ?_
    refine G.retCT rfl rfl rfl (B2) rfl ?_
    first
      | (rw [getF_size hno]; exact ⟨none, 0, rfl, E, Bs.nil _, Nat.le_refl _, (fun p hp => by cases hp)⟩)
      | (rw [getF_sum hyes hg]; exact ⟨none, 0, rfl, E, Bs.nil _, Nat.le_refl _, (fun p hp => by cases hp)⟩)
      | (rw [getF_form hyes hg hnf]; exact ⟨none, 0, rfl, E, Bs.nil _, Nat.le_refl _, (fun p hp => by cases hp)⟩)
      | (rw [getF_yes hyes hg ⟨he0, hfy⟩]; exact ⟨_, c5, rfl, E, hbp, hcp, fun p hp => by cases hp; exact ⟨hb47g, hb47l⟩⟩)
  · have h64 : l.length = 64 := by omega
    obtain ⟨p0, hp0, hc0⟩ := hb.at 0 (by omega)
    obtain ⟨p1, hp1, hc1⟩ := hb.at 1 (by omega)
    have hte := num_two_eq (l := l) (by omega)
    refine L.val rfl rfl (R.mv rfl) ?_
    refine L.val rfl rfl (R.idx rfl rfl (by omega) (by omega) p0 hp0) ?_
    refine L.val rfl rfl (R.ld rfl (cell?_ext0' hc0 E)) ?_
    refine L.val rfl rfl (R.neI rfl rfl) ?_
    first | refine L.val rfl rfl (R.pickT rfl rfl) ?_ | refine L.val rfl rfl (R.pickF rfl rfl) ?_
    refine L.val rfl rfl (R.mv rfl) ?_
    refine L.caseP 15 rfl (fun hg1_9 => ?_) (fun hg1_9 => ?_)
    · have hno : ¬ (l.length = 64 ∧ num (l.take 2) = 46878) := fun h => hg1_9 (by rw [(hte.1 h.2).1]; rfl)
      refine L.pass rfl rfl ?_
      refine L.pass rfl rfl ?_
      refine L.pass rfl rfl ?_
      refine L.pass rfl rfl ?_
      first | refine L.val rfl rfl (R.pickT rfl rfl) ?_ | refine L.val rfl rfl (R.pickF rfl rfl) ?_
      refine L.nil ?_
      refine N.seq ?_
      refine G.condT rfl ?_
      refine G.seq ?_
      refine G.region ?_
      refine L.val rfl rfl (R.build rfl rfl) ?_
      refine L.set rfl (R.stN rfl rfl B2 rfl (Nat.le_refl 5) (frC_one zeroV none 0)) ?_
      rintro w20 ⟨e20, hs20, B2⟩
      replace B2 : Blk w20 b2 (frC zeroV none 0) 214 (0, 0) := B2
      replace E := E.trans e20 (M := []) (by simp) (by intro x hx; rw [List.mem_singleton.1 hx]; exact .inr (by omega))
      refine L.val rfl rfl (R.as rfl) ?_
      refine L.nil ?_
      refine N.seq ?_
      refine G.retCT rfl rfl rfl (B2) rfl ?_
      first
        | (rw [getF_size hno]; exact ⟨none, 0, rfl, E, Bs.nil _, Nat.le_refl _, (fun p hp => by cases hp)⟩)
        | (rw [getF_sum hyes hg]; exact ⟨none, 0, rfl, E, Bs.nil _, Nat.le_refl _, (fun p hp => by cases hp)⟩)
        | (rw [getF_form hyes hg hnf]; exact ⟨none, 0, rfl, E, Bs.nil _, Nat.le_refl _, (fun p hp => by cases hp)⟩)
        | (rw [getF_yes hyes hg ⟨he0, hfy⟩]; exact ⟨_, c5, rfl, E, hbp, hcp, fun p hp => by cases hp; exact ⟨hb47g, hb47l⟩⟩)
    · have h183 : l[0] = 183 := UInt8.toNat_inj.1 (show l[0].toNat = 183 by omega)
      refine L.val rfl rfl (R.mv rfl) ?_
      refine L.val rfl rfl (R.idx rfl rfl (by omega) (by omega) p1 hp1) ?_
      refine L.val rfl rfl (R.ld rfl (cell?_ext0' hc1 E)) ?_
      refine L.val rfl rfl (R.neI rfl rfl) ?_
      first | refine L.val rfl rfl (R.pickT rfl rfl) ?_ | refine L.val rfl rfl (R.pickF rfl rfl) ?_
      refine L.nil ?_
      refine N.seq ?_
      refine G.condP rfl (fun h0 => ?_) (fun h0 => ?_)
      · have hno : ¬ (l.length = 64 ∧ num (l.take 2) = 46878) := fun h => h0 (by rw [(hte.1 h.2).2]; rfl)
        refine G.seq ?_
        refine G.region ?_
        refine L.val rfl rfl (R.build rfl rfl) ?_
        refine L.set rfl (R.stN rfl rfl B2 rfl (Nat.le_refl 5) (frC_one zeroV none 0)) ?_
        rintro w20 ⟨e20, hs20, B2⟩
        replace B2 : Blk w20 b2 (frC zeroV none 0) 214 (0, 0) := B2
        replace E := E.trans e20 (M := []) (by simp) (by intro x hx; rw [List.mem_singleton.1 hx]; exact .inr (by omega))
        refine L.val rfl rfl (R.as rfl) ?_
        refine L.nil ?_
        refine N.seq ?_
        refine G.retCT rfl rfl rfl (B2) rfl ?_
        first
          | (rw [getF_size hno]; exact ⟨none, 0, rfl, E, Bs.nil _, Nat.le_refl _, (fun p hp => by cases hp)⟩)
          | (rw [getF_sum hyes hg]; exact ⟨none, 0, rfl, E, Bs.nil _, Nat.le_refl _, (fun p hp => by cases hp)⟩)
          | (rw [getF_form hyes hg hnf]; exact ⟨none, 0, rfl, E, Bs.nil _, Nat.le_refl _, (fun p hp => by cases hp)⟩)
          | (rw [getF_yes hyes hg ⟨he0, hfy⟩]; exact ⟨_, c5, rfl, E, hbp, hcp, fun p hp => by cases hp; exact ⟨hb47g, hb47l⟩⟩)
      · have h30 : l[1] = 30 := UInt8.toNat_inj.1 (show l[1].toNat = 30 by omega)
        have hyes : l.length = 64 ∧ num (l.take 2) = 46878 := ⟨h64, hte.2 ⟨h183, h30⟩⟩
        refine G.skip ?_
        refine N.seq ?_
        refine G.seq ?_
        refine G.seq ?_
        refine G.quiet (by decide +kernel) rfl ?_
        refine Q.val rfl rfl rfl rfl (fun w2 hE => R.mv rfl) ?_
        refine Q.call (.string (str (markF l))) rfl rfl rfl go186 (fun w2 hE => ⟨_, rfl, (refmark_ok _ _ _ _ _ (hb.ext0 (E.trans0 hE)) hc (by omega)).mono (fun _ _ h => h)⟩) ?_
        refine Q.val rfl rfl rfl rfl (fun w2 hE => R.mv rfl) ?_
        refine Q.val rfl rfl rfl rfl (fun w2 hE => R.bytesStr rfl (hb.ext0 (E.trans0 hE)).cells hb.len) ?_
        refine Q.val rfl rfl rfl rfl (fun w2 hE => R.neStr rfl rfl) ?_
        refine Q.nil (fun w2 e2 => ?_)
        replace E := E.trans0 e2
        have B2 := B2.ext0 e2
        refine N.seq ?_
        refine G.condP rfl (fun h1 => ?_) (fun h1 => ?_)
        · have hg : goodF l = false := by unfold goodF; rw [decide_eq_false (p := markF l = l) h1, Bool.and_false]
          refine G.seq ?_
          refine G.region ?_
          refine L.val rfl rfl (R.build rfl rfl) ?_
          refine L.set rfl (R.stN rfl rfl B2 rfl (Nat.le_refl 5) (frC_one zeroV none 0)) ?_
          rintro w21 ⟨e21, hs21, B2⟩
          replace B2 : Blk w21 b2 (frC zeroV none 0) 214 (0, 0) := B2
          replace E := E.trans e21 (M := []) (by simp) (by intro x hx; rw [List.mem_singleton.1 hx]; exact .inr (by omega))
          refine L.val rfl rfl (R.as rfl) ?_
          refine L.nil ?_
          refine N.seq ?_
          refine G.retCT rfl rfl rfl (B2) rfl ?_
          first
            | (rw [getF_size hno]; exact ⟨none, 0, rfl, E, Bs.nil _, Nat.le_refl _, (fun p hp => by cases hp)⟩)
            | (rw [getF_sum hyes hg]; exact ⟨none, 0, rfl, E, Bs.nil _, Nat.le_refl _, (fun p hp => by cases hp)⟩)
            | (rw [getF_form hyes hg hnf]; exact ⟨none, 0, rfl, E, Bs.nil _, Nat.le_refl _, (fun p hp => by cases hp)⟩)
            | (rw [getF_yes hyes hg ⟨he0, hfy⟩]; exact ⟨_, c5, rfl, E, hbp, hcp, fun p hp => by cases hp; exact ⟨hb47g, hb47l⟩⟩)
        · have hg : goodF l = true := by unfold goodF; rw [decide_eq_true (p := markF l = l) (Classical.not_not.1 h1), decide_eq_true (by omega)]; rfl
          obtain ⟨x1, hx1⟩ : ∃ x, x = numF (l.drop 2) 0 8 := ⟨_, rfl⟩
          obtain ⟨x2, hx2⟩ : ∃ x, x = numF x1.2.1 x1.2.2 4 := ⟨_, rfl⟩
          obtain ⟨x3, hx3⟩ : ∃ x, x = numF x2.2.1 x2.2.2 2 := ⟨_, rfl⟩
          obtain ⟨x4, hx4⟩ : ∃ x, x = numF x3.2.1 x3.2.2 2 := ⟨_, rfl⟩
          obtain ⟨x5, hx5⟩ : ∃ x, x = txtF x4.2.1 x4.2.2 40 := ⟨_, rfl⟩
          have hp5 : parse (l.drop 2) = (((x1.1 : Int), (x2.1 : Int), (x3.1 : Int), (x4.1 : Int), x5.1), x5.2.2) := by rw [hx5, hx4, hx3, hx2, hx1]; rfl
          have hd : (l.drop 2).length ≤ 64 := by rw [List.length_drop]; omega
          have z1 : x1.2.1.length ≤ 64 := by rw [hx1]; exact Nat.le_trans (numF_length _ _ _) hd
          have z2 : x2.2.1.length ≤ 64 := by rw [hx2]; exact Nat.le_trans (numF_length _ _ _) z1
          have z3 : x3.2.1.length ≤ 64 := by rw [hx3]; exact Nat.le_trans (numF_length _ _ _) z2
          have z4 : x4.2.1.length ≤ 64 := by rw [hx4]; exact Nat.le_trans (numF_length _ _ _) z3
          have z5 : x5.1.length ≤ 40 := by rw [hx5]; exact txtF_most _ _
          have z6 : x5.2.1.length ≤ 64 := by rw [hx5]; exact Nat.le_trans (txtF_length _ _ _) z4
          refine G.skip ?_
          refine N.seq ?_
          refine G.seq ?_
          refine G.region ?_
          refine L.val rfl rfl (R.mv rfl) ?_
          refine L.val rfl rfl (R.slL rfl rfl (by decide) (by show (2 : Int) ≤ _; omega)) ?_
          refine L.val rfl rfl (R.bytesStr rfl ((hb.drop 2 c (by omega) hc).ext0 E).cells (by rw [List.length_drop]; show n - 2 = _; omega)) ?_
          refine L.val rfl rfl (R.build rfl rfl) ?_
          refine L.do rfl rfl (R.box rfl) ?_
          rintro _ w3 ⟨s, rfl, hbs, hss, e3, BS⟩
          replace BS : Blk w3 s #[.string (str (l.drop 2)), .int .i64 0] 224 (0, 0) := BS
          have hE2 := E.size
          have hlt2 := B2.lt
          replace E := E.trans0 e3
          replace B2 := B2.ext0 e3
          refine L.val rfl rfl (R.as rfl) ?_
          refine L.nil ?_
          refine N.seq ?_
          refine G.seq ?_
          refine G.region ?_
          refine L.do rfl rfl (R.alloc) ?_
          rintro _ w4 ⟨b5, rfl, hbb5, hs4, e4, B5⟩
          replace B5 : Blk w4 b5 #[.int .i64 0, .int .i64 0, .int .i64 0, .int .i64 0, .slice none 0 0] 214 (0, 0) := B5
          replace E := E.trans0 e4
          replace B2 := B2.ext0 e4
          replace BS := BS.ext0 e4
          refine L.nil ?_
          refine N.seq ?_
          refine G.seq ?_
          refine G.region ?_
          refine L.val rfl rfl (R.mv rfl) ?_
          refine L.callF rfl rfl rfl go138 (refnum_ok _ _ _ 8 _ BS (by omega)) ?_
          rintro _ w5 ⟨rfl, BS, e5⟩
          rw [← hx1] at BS ⊢
          replace E := E.trans e5 (M := []) (by simp) (by intro x hx; rw [List.mem_singleton.1 hx]; exact .inr (by omega))
          replace B2 := B2.ext e5 (by simp; omega)
          replace B5 := B5.ext e5 (by simp; omega)
          refine L.val rfl rfl (R.fld rfl) ?_
          refine L.set rfl (R.st rfl rfl B5 (by show 0 < 5; decide) rfl) ?_
          rintro w6 ⟨e6, hs6, B5⟩
          replace B5 : Blk w6 b5 #[.int .i64 (x1.1 : Int), .int .i64 0, .int .i64 0, .int .i64 0, .slice none 0 0] 214 (0, 0) := B5
          replace E := E.trans e6 (M := []) (by simp) (by intro x hx; rw [List.mem_singleton.1 hx]; exact .inr (by omega))
          replace B2 := B2.ext e6 (by simp; omega)
          replace BS := BS.ext e6 (by simp; omega)
          refine L.nil ?_
          refine N.seq ?_
          refine G.seq ?_
          refine G.region ?_
          refine L.val rfl rfl (R.mv rfl) ?_
          refine L.callF rfl rfl rfl go138 (refnum_ok _ _ _ 4 _ BS (by omega)) ?_
          rintro _ w7 ⟨rfl, BS, e7⟩
          rw [← hx2] at BS ⊢
          replace E := E.trans e7 (M := []) (by simp) (by intro x hx; rw [List.mem_singleton.1 hx]; exact .inr (by omega))
          replace B2 := B2.ext e7 (by simp; omega)
          replace B5 := B5.ext e7 (by simp; omega)
          refine L.val rfl rfl (R.fld rfl) ?_
          refine L.set rfl (R.st rfl rfl B5 (by show 1 < 5; decide) rfl) ?_
          rintro w8 ⟨e8, hs8, B5⟩
          replace B5 : Blk w8 b5 #[.int .i64 (x1.1 : Int), .int .i64 (x2.1 : Int), .int .i64 0, .int .i64 0, .slice none 0 0] 214 (0, 0) := B5
          replace E := E.trans e8 (M := []) (by simp) (by intro x hx; rw [List.mem_singleton.1 hx]; exact .inr (by omega))
          replace B2 := B2.ext e8 (by simp; omega)
          replace BS := BS.ext e8 (by simp; omega)
          refine L.nil ?_
          refine N.seq ?_
          refine G.seq ?_
          refine G.region ?_
          refine L.val rfl rfl (R.mv rfl) ?_
          refine L.callF rfl rfl rfl go138 (refnum_ok _ _ _ 2 _ BS (by omega)) ?_
          rintro _ w9 ⟨rfl, BS, e9⟩
          rw [← hx3] at BS ⊢
          replace E := E.trans e9 (M := []) (by simp) (by intro x hx; rw [List.mem_singleton.1 hx]; exact .inr (by omega))
          replace B2 := B2.ext e9 (by simp; omega)
          replace B5 := B5.ext e9 (by simp; omega)
          refine L.val rfl rfl (R.fld rfl) ?_
          refine L.set rfl (R.st rfl rfl B5 (by show 2 < 5; decide) rfl) ?_
          rintro w10 ⟨e10, hs10, B5⟩
          replace B5 : Blk w10 b5 #[.int .i64 (x1.1 : Int), .int .i64 (x2.1 : Int), .int .i64 (x3.1 : Int), .int .i64 0, .slice none 0 0] 214 (0, 0) := B5
          replace E := E.trans e10 (M := []) (by simp) (by intro x hx; rw [List.mem_singleton.1 hx]; exact .inr (by omega))
          replace B2 := B2.ext e10 (by simp; omega)
          replace BS := BS.ext e10 (by simp; omega)
          refine L.nil ?_
          refine N.seq ?_
          refine G.seq ?_
          refine G.region ?_
          refine L.val rfl rfl (R.mv rfl) ?_
          refine L.callF rfl rfl rfl go138 (refnum_ok _ _ _ 2 _ BS (by omega)) ?_
          rintro _ w11 ⟨rfl, BS, e11⟩
          rw [← hx4] at BS ⊢
          replace E := E.trans e11 (M := []) (by simp) (by intro x hx; rw [List.mem_singleton.1 hx]; exact .inr (by omega))
          replace B2 := B2.ext e11 (by simp; omega)
          replace B5 := B5.ext e11 (by simp; omega)
          refine L.val rfl rfl (R.fld rfl) ?_
          refine L.set rfl (R.st rfl rfl B5 (by show 3 < 5; decide) rfl) ?_
          rintro w12 ⟨e12, hs12, B5⟩
          replace B5 : Blk w12 b5 #[.int .i64 (x1.1 : Int), .int .i64 (x2.1 : Int), .int .i64 (x3.1 : Int), .int .i64 (x4.1 : Int), .slice none 0 0] 214 (0, 0) := B5
          replace E := E.trans e12 (M := []) (by simp) (by intro x hx; rw [List.mem_singleton.1 hx]; exact .inr (by omega))
          replace B2 := B2.ext e12 (by simp; omega)
          replace BS := BS.ext e12 (by simp; omega)
          refine L.nil ?_
          refine N.seq ?_
          refine G.seq ?_
          refine G.region ?_
          refine L.val rfl rfl (R.mv rfl) ?_
          refine L.callF rfl rfl rfl go192 (reftxt_ok _ _ _ 40 _ BS (by omega)) ?_
          rintro _ w13 ⟨rfl, BS, e13⟩
          rw [← hx5] at BS ⊢
          replace E := E.trans e13 (M := []) (by simp) (by intro x hx; rw [List.mem_singleton.1 hx]; exact .inr (by omega))
          replace B2 := B2.ext e13 (by simp; omega)
          replace B5 := B5.ext e13 (by simp; omega)
          refine L.do rfl rfl (R.strBytes rfl) ?_
          rintro _ w14 ⟨b47, c5, rfl, hb47, hs47, hc5, e14, C47⟩
          have hl5 := B5.lt
          have hE13 := E.size
          replace E := E.trans0 e14
          replace B2 := B2.ext0 e14
          replace BS := BS.ext0 e14
          replace B5 := B5.ext0 e14
          refine L.val rfl rfl (R.fld rfl) ?_
          refine L.set rfl (R.st rfl rfl B5 (by show 4 < 5; decide) rfl) ?_
          rintro w15 ⟨e15, hs15, B5⟩
          replace B5 : Blk w15 b5 #[.int .i64 (x1.1 : Int), .int .i64 (x2.1 : Int), .int .i64 (x3.1 : Int), .int .i64 (x4.1 : Int), .slice (some ⟨b47, 0, none⟩) x5.1.length c5] 214 (0, 0) := B5
          replace E := E.trans e15 (M := []) (by simp) (by intro x hx; rw [List.mem_singleton.1 hx]; exact .inr (by omega))
          replace B2 := B2.ext e15 (by simp; omega)
          replace BS := BS.ext e15 (by simp; omega)
          have hb47g : w.heap.size ≤ b47 := by have := hE13; omega
          have hb47l : b47 < w15.heap.size := by have := e15.size; omega
          replace B5 : Blk w15 b5 #[.int .i64 (x1.1 : Int), .int .i64 (x2.1 : Int), .int .i64 (x3.1 : Int), .int .i64 (x4.1 : Int), .slice (some ⟨b47, 0, none⟩) x5.1.length c5] 214 (0, 0) := B5
          have hfr : #[.int .i64 (x1.1 : Int), .int .i64 (x2.1 : Int), .int .i64 (x3.1 : Int), .int .i64 (x4.1 : Int), .slice (some ⟨b47, 0, none⟩) x5.1.length c5] = (frC (parse (l.drop 2)).1 (some ⟨b47, 0, none⟩) c5) := by rw [hp5]; rfl
          rw [hfr] at B5
          have hb47 := Bs.of_cells (C47.ext e15 (by intro q hq hh; cases hq; rw [List.mem_singleton] at hh; simp at hh; omega)) rfl
          have hbp : Bs w15 (some ⟨b47, 0, none⟩) (parse (l.drop 2)).1.2.2.2.2.length (parse (l.drop 2)).1.2.2.2.2 := by rw [hp5]; exact hb47
          have hcp : (parse (l.drop 2)).1.2.2.2.2.length ≤ c5 := by rw [hp5]; exact hc5
          refine L.nil ?_
          refine N.seq ?_
          refine G.seq ?_
          refine G.seq ?_
          refine G.quiet (by decide +kernel) rfl ?_
          refine Q.val rfl rfl rfl rfl (fun w16 hE => R.mv rfl) ?_
          refine Q.val rfl rfl rfl rfl (fun w16 hE => R.nilChk rfl) ?_
          refine Q.val rfl rfl rfl rfl (fun w16 hE => R.fld rfl) ?_
          refine Q.val rfl rfl rfl rfl (fun w16 hE => R.ldB rfl (BS.ext0 hE) rfl) ?_
          refine Q.val rfl rfl rfl rfl (fun w16 hE => R.neI rfl rfl) ?_
          refine Q.val rfl rfl rfl rfl (fun w16 hE => R.mv rfl) ?_
          refine Q.caseP 54 rfl (fun hg12_5 => ?_) (fun hg12_5 => ?_)
          · have hnf : ¬ ((parse (l.drop 2)).2 = 0 ∧ putV (parse (l.drop 2)).1 = l) := fun h => hg12_5 (by have := h.1; rw [hp5] at this; exact this)
            refine Q.pass rfl rfl rfl ?_
            refine Q.pass rfl rfl rfl ?_
            refine Q.pass rfl rfl rfl ?_
            first | refine Q.val rfl rfl rfl rfl (fun w16 hE => R.pickT rfl rfl) ?_ | refine Q.val rfl rfl rfl rfl (fun w16 hE => R.pickF rfl rfl) ?_
            refine Q.val rfl rfl rfl rfl (fun w16 hE => R.mv rfl) ?_
            refine Q.pass rfl rfl rfl ?_
            refine Q.pass rfl rfl rfl ?_
            refine Q.pass rfl rfl rfl ?_
            refine Q.pass rfl rfl rfl ?_
            refine Q.pass rfl rfl rfl ?_
            first | refine Q.val rfl rfl rfl rfl (fun w16 hE => R.pickT rfl rfl) ?_ | refine Q.val rfl rfl rfl rfl (fun w16 hE => R.pickF rfl rfl) ?_
            refine Q.nil (fun w16 e16 => ?_)
            replace E := E.trans0 e16
            have hb47l := Nat.lt_of_lt_of_le hb47l e16.size
            have B2 := B2.ext0 e16
            have B5 := B5.ext0 e16
            have hbp := hbp.ext0 e16
            refine N.seq ?_
            refine G.condT rfl ?_
            refine G.seq ?_
            refine G.region ?_
            refine L.val rfl rfl (R.build rfl rfl) ?_
            refine L.set rfl (R.stN rfl rfl B2 rfl (Nat.le_refl 5) (frC_one zeroV none 0)) ?_
            rintro w22 ⟨e22, hs22, B2⟩
            replace B2 : Blk w22 b2 (frC zeroV none 0) 214 (0, 0) := B2
            replace E := E.trans e22 (M := []) (by simp) (by intro x hx; rw [List.mem_singleton.1 hx]; exact .inr (by omega))
            refine L.val rfl rfl (R.as rfl) ?_
            refine L.nil ?_
            refine N.seq ?_
            refine G.retCT rfl rfl rfl (B2) rfl ?_
            first
              | (rw [getF_size hno]; exact ⟨none, 0, rfl, E, Bs.nil _, Nat.le_refl _, (fun p hp => by cases hp)⟩)
              | (rw [getF_sum hyes hg]; exact ⟨none, 0, rfl, E, Bs.nil _, Nat.le_refl _, (fun p hp => by cases hp)⟩)
              | (rw [getF_form hyes hg hnf]; exact ⟨none, 0, rfl, E, Bs.nil _, Nat.le_refl _, (fun p hp => by cases hp)⟩)
              | (rw [getF_yes hyes hg ⟨he0, hfy⟩]; exact ⟨_, c5, rfl, E, hbp, hcp, fun p hp => by cases hp; exact ⟨hb47g, hb47l⟩⟩)
          · have he0 : (parse (l.drop 2)).2 = 0 := by rw [hp5]; exact Classical.not_not.1 hg12_5
            refine Q.val rfl rfl rfl rfl (fun w16 hE => R.ldBN rfl (B5.ext0 hE) rfl) ?_
            refine Q.call (.bool (decide (okV (parse (l.drop 2)).1))) rfl rfl rfl go193 (fun w16 hE => ⟨_, rfl, (rrightV_ok _ _ _ _ (InV.parse _)).mono (fun _ _ h => h)⟩) ?_
            refine Q.val rfl rfl rfl rfl (fun w16 hE => R.not rfl) ?_
            first | refine Q.val rfl rfl rfl rfl (fun w16 hE => R.pickT rfl rfl) ?_ | refine Q.val rfl rfl rfl rfl (fun w16 hE => R.pickF rfl rfl) ?_
            refine Q.val rfl rfl rfl rfl (fun w16 hE => R.mv rfl) ?_
            refine Q.caseB 59 rfl (fun hg12_10 => ?_) (fun hg12_10 => ?_)
            · have hnk : ¬ okV (parse (l.drop 2)).1 := by simpa using hg12_10
              have hnf : ¬ ((parse (l.drop 2)).2 = 0 ∧ putV (parse (l.drop 2)).1 = l) := fun h => by have h9 := h.2; unfold putV at h9; rw [if_neg hnk] at h9; rw [← h9] at h64; cases h64
              refine Q.pass rfl rfl rfl ?_
              refine Q.pass rfl rfl rfl ?_
              refine Q.pass rfl rfl rfl ?_
              refine Q.pass rfl rfl rfl ?_
              refine Q.pass rfl rfl rfl ?_
              first | refine Q.val rfl rfl rfl rfl (fun w16 hE => R.pickT rfl rfl) ?_ | refine Q.val rfl rfl rfl rfl (fun w16 hE => R.pickF rfl rfl) ?_
              refine Q.nil (fun w16 e16 => ?_)
              replace E := E.trans0 e16
              have hb47l := Nat.lt_of_lt_of_le hb47l e16.size
              have B2 := B2.ext0 e16
              have B5 := B5.ext0 e16
              have hbp := hbp.ext0 e16
              refine N.seq ?_
              refine G.condT rfl ?_
              refine G.seq ?_
              refine G.region ?_
              refine L.val rfl rfl (R.build rfl rfl) ?_
              refine L.set rfl (R.stN rfl rfl B2 rfl (Nat.le_refl 5) (frC_one zeroV none 0)) ?_
              rintro w22 ⟨e22, hs22, B2⟩
              replace B2 : Blk w22 b2 (frC zeroV none 0) 214 (0, 0) := B2
              replace E := E.trans e22 (M := []) (by simp) (by intro x hx; rw [List.mem_singleton.1 hx]; exact .inr (by omega))
              refine L.val rfl rfl (R.as rfl) ?_
              refine L.nil ?_
              refine N.seq ?_
              refine G.retCT rfl rfl rfl (B2) rfl ?_
              first
                | (rw [getF_size hno]; exact ⟨none, 0, rfl, E, Bs.nil _, Nat.le_refl _, (fun p hp => by cases hp)⟩)
                | (rw [getF_sum hyes hg]; exact ⟨none, 0, rfl, E, Bs.nil _, Nat.le_refl _, (fun p hp => by cases hp)⟩)
                | (rw [getF_form hyes hg hnf]; exact ⟨none, 0, rfl, E, Bs.nil _, Nat.le_refl _, (fun p hp => by cases hp)⟩)
                | (rw [getF_yes hyes hg ⟨he0, hfy⟩]; exact ⟨_, c5, rfl, E, hbp, hcp, fun p hp => by cases hp; exact ⟨hb47g, hb47l⟩⟩)
            · have hok : okV (parse (l.drop 2)).1 := by simpa using hg12_10
              have hpv : putV (parse (l.drop 2)).1 = secV (parse (l.drop 2)).1 := if_pos hok
              refine Q.val rfl rfl rfl rfl (fun w16 hE => R.ldBN rfl (B5.ext0 hE) rfl) ?_
              refine Q.call (.string (str (secV (parse (l.drop 2)).1))) rfl rfl rfl go131 (fun w16 hE => ⟨_, rfl, (rputV_ok _ _ _ _ hok (hbp.ext0 hE) hcp).mono (fun _ _ h => h)⟩) ?_
              refine Q.val rfl rfl rfl rfl (fun w16 hE => R.mv rfl) ?_
              refine Q.val rfl rfl rfl rfl (fun w16 hE => R.bytesStr rfl (hb.ext0 (E.trans0 hE)).cells hb.len) ?_
              refine Q.val rfl rfl rfl rfl (fun w16 hE => R.neStr rfl rfl) ?_
              first | refine Q.val rfl rfl rfl rfl (fun w16 hE => R.pickT rfl rfl) ?_ | refine Q.val rfl rfl rfl rfl (fun w16 hE => R.pickF rfl rfl) ?_
              refine Q.nil (fun w16 e16 => ?_)
              replace E := E.trans0 e16
              have hb47l := Nat.lt_of_lt_of_le hb47l e16.size
              have B2 := B2.ext0 e16
              have B5 := B5.ext0 e16
              have hbp := hbp.ext0 e16
              refine N.seq ?_
              refine G.condP rfl (fun h2 => ?_) (fun h2 => ?_)
              · have hnf : ¬ ((parse (l.drop 2)).2 = 0 ∧ putV (parse (l.drop 2)).1 = l) := fun h => h2 (hpv.symm.trans h.2)
                refine G.seq ?_
                refine G.region ?_
                refine L.val rfl rfl (R.build rfl rfl) ?_
                refine L.set rfl (R.stN rfl rfl B2 rfl (Nat.le_refl 5) (frC_one zeroV none 0)) ?_
                rintro w22 ⟨e22, hs22, B2⟩
                replace B2 : Blk w22 b2 (frC zeroV none 0) 214 (0, 0) := B2
                replace E := E.trans e22 (M := []) (by simp) (by intro x hx; rw [List.mem_singleton.1 hx]; exact .inr (by omega))
                refine L.val rfl rfl (R.as rfl) ?_
                refine L.nil ?_
                refine N.seq ?_
                refine G.retCT rfl rfl rfl (B2) rfl ?_
                first
                  | (rw [getF_size hno]; exact ⟨none, 0, rfl, E, Bs.nil _, Nat.le_refl _, (fun p hp => by cases hp)⟩)
                  | (rw [getF_sum hyes hg]; exact ⟨none, 0, rfl, E, Bs.nil _, Nat.le_refl _, (fun p hp => by cases hp)⟩)
                  | (rw [getF_form hyes hg hnf]; exact ⟨none, 0, rfl, E, Bs.nil _, Nat.le_refl _, (fun p hp => by cases hp)⟩)
                  | (rw [getF_yes hyes hg ⟨he0, hfy⟩]; exact ⟨_, c5, rfl, E, hbp, hcp, fun p hp => by cases hp; exact ⟨hb47g, hb47l⟩⟩)
              · have hfy : putV (parse (l.drop 2)).1 = l := hpv.trans (Classical.not_not.1 h2)
                refine G.skip ?_
                refine N.seq ?_
                refine G.seq ?_
                refine G.region ?_
                refine L.val rfl rfl (R.ldBN rfl (by assumption) (by rfl)) ?_
                refine L.set rfl (R.stN rfl rfl B2 rfl (Nat.le_refl 5) (frC_one (parse (l.drop 2)).1 (some ⟨b47, 0, none⟩) c5)) ?_
                rintro w23 ⟨e23, hs23, B2⟩
                replace B2 : Blk w23 b2 (frC (parse (l.drop 2)).1 (some ⟨b47, 0, none⟩) c5) 214 (0, 0) := B2
                replace E := E.trans e23 (M := []) (by simp) (by intro x hx; rw [List.mem_singleton.1 hx]; exact .inr (by omega))
                replace hb47l := Nat.lt_of_lt_of_le hb47l e23.size
                replace hbp := hbp.ext e23 (by intro q hq hh; cases hq; rw [List.mem_singleton] at hh; simp at hh; omega)
                refine L.val rfl rfl (R.as rfl) ?_
                refine L.nil ?_
                refine N.seq ?_
                refine G.retCT rfl rfl rfl (B2) rfl ?_
                first
                  | (rw [getF_size hno]; exact ⟨none, 0, rfl, E, Bs.nil _, Nat.le_refl _, (fun p hp => by cases hp)⟩)
                  | (rw [getF_sum hyes hg]; exact ⟨none, 0, rfl, E, Bs.nil _, Nat.le_refl _, (fun p hp => by cases hp)⟩)
                  | (rw [getF_form hyes hg hnf]; exact ⟨none, 0, rfl, E, Bs.nil _, Nat.le_refl _, (fun p hp => by cases hp)⟩)
                  | (rw [getF_yes hyes hg ⟨he0, hfy⟩]; exact ⟨_, c5, rfl, E, hbp, hcp, fun p hp => by cases hp; exact ⟨hb47g, hb47l⟩⟩)

end Go.Proofs.Ythpolibakkmmeaa
