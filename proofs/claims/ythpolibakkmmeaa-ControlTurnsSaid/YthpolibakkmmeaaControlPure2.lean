/-
  Controls on devices: what is written is read; slots take turns; a crash.
-/
import Derived.Test.YthpolibakkmmeaaControlPure
set_option linter.unusedVariables false
namespace Brv.Control
open Go Brv Brv.Pack Brv.Frame Brv.Image Brv.Dev
def cleanV (st : List UInt8) (calls : Int) : DevV := ⟨st, [], calls, -1, false⟩
def slot (c : Ctl) : Nat := (c.1 % 2).toNat
theorem slot_lt (c : Ctl) : slot c < 2 := by unfold slot; omega
theorem tmod_slot {c : Ctl} (h : okC c) : c.1.tmod 2 = (slot c : Int) := by
  obtain ⟨⟨h1, _⟩, _⟩ := h
  rw [Int.tmod_eq_emod_of_nonneg (by omega)]
  unfold slot
  omega
theorem write_clean {st : List UInt8} {calls : Int} {N p : Nat} {c : Ctl} (hl : st.length = 64 * N) (hp : p + 2 ≤ N) (hg : c.1 < 2305843009213693952) (hok : okC (nextC c)) :
    writeCV (cleanV st calls) N (p : Int) c = (cleanV (laid st (p + slot (nextC c)) (ctlS (nextC c))) (calls + 2), nextC c, 0) := by
  have hs := slot_lt (nextC c)
  have h64 := ctlS_length hok
  have e1 : (p : Int) + (nextC c).1.tmod 2 = ((p + slot (nextC c) : Nat) : Int) := by rw [tmod_slot hok]; omega
  have hw := write_ok (v := cleanV st calls) (N := N) (p := p + slot (nextC c)) (b := ctlS (nextC c)) rfl h64 (by omega) (by show (-1 : Int) ≠ 0; decide)
  have hna : ¬ (¬ okC (nextC c) ∨ (p : Int) < 0 ∨ (N : Int) < p) := by
    rintro (h | h | h)
    · exact h hok
    · omega
    · omega
  have hw2 : writeV (cleanV st calls) N ((p : Int) + (nextC c).1.tmod 2) (ctlS (nextC c)) = (⟨st, [(p + slot (nextC c), ctlS (nextC c))], calls + 1, -1, false⟩, 0) := by rw [e1]; exact hw
  have hf : flushV (⟨st, [(p + slot (nextC c), ctlS (nextC c))], calls + 1, -1, false⟩ : DevV) = (cleanV (laid st (p + slot (nextC c)) (ctlS (nextC c))) (calls + 2), 0) := by
    rw [flush_ok (v := ⟨st, [(p + slot (nextC c), ctlS (nextC c))], calls + 1, -1, false⟩) rfl (by show (-1 : Int) ≠ 0; decide)]
    have : calls + 1 + 1 = calls + 2 := by omega
    show ((DevV.mk (laid st (p + slot (nextC c)) (ctlS (nextC c))) [] (calls + 1 + 1) (-1) false : DevV), (0 : Int)) = _
    rw [this]; rfl
  exact writeCV_ok (Int.not_le.2 hg) hna hw2.symm (fun h => h rfl) hf.symm (fun h => h rfl)
theorem read_clean {st : List UInt8} {calls : Int} {N p : Nat} (hp : p + 2 ≤ N) : readCV (cleanV st calls) N (p : Int) = pickC (win st p 2) := by
  have hr : readV (cleanV st calls) N (p : Int) 2 = (win st p 2, 0) := by
    unfold readV
    rw [if_neg (by simp [cleanV]), if_pos (by unfold thereP; omega)]
    show (win (laidAll st []) ((p : Int)).toNat (2 : Int).toNat, (0 : Int)) = _
    rw [Int.toNat_natCast]
    rfl
  rw [readCV_ok (by rw [hr]), hr]
theorem pick_new {q : List UInt8} {c : Ctl} (hok : okC c) (hs : blk q (slot c) = ctlS c) (ho : (getC (blk q (1 - slot c))).2 = 0 → (getC (blk q (1 - slot c))).1.1.tmod 2 = ((1 - slot c : Nat) : Int) → (getC (blk q (1 - slot c))).1.1 < c.1) : pickC q = (c, 0) := by
  have hg := getC_put hok
  have ht := tmod_slot hok
  have hc1 := hok.1.1
  have fin : stepN q 2 = c → pickC q = (c, 0) := fun h => by rw [pickC_eq, h, if_neg (by omega)]
  have h2 := slot_lt c
  apply fin
  rcases Nat.lt_or_ge (slot c) 1 with h0 | h0
  · have e : slot c = 0 := by omega
    rw [e] at hs ho ht
    have s1 : stepN q 1 = c := by
      have := stepN_yes (q := q) (k := 0) (by rw [hs, hg]) (by rw [hs, hg]; exact ht) (by rw [hs, hg]; show (0 : Int) < c.1; omega)
      rw [this, hs, hg]
    have : stepN q 2 = stepN q 1 := stepN_no (by
      rintro ⟨n1, n2, n3⟩
      have := ho n1 n2
      rw [s1] at n3
      have : (getC (blk q 1)).1.1 < c.1 := this
      omega)
    rw [this, s1]
  · have e : slot c = 1 := by omega
    rw [e] at hs ho ht
    have hlt : (stepN q 1).1 < c.1 := by
      by_cases hy : (getC (blk q 0)).2 = 0 ∧ (getC (blk q 0)).1.1.tmod 2 = ((0 : Nat) : Int) ∧ (stepN q 0).1 < (getC (blk q 0)).1.1
      · rw [stepN_yes (k := 0) hy.1 hy.2.1 hy.2.2]; exact ho hy.1 hy.2.1
      · rw [stepN_no (k := 0) hy]; show (0 : Int) < c.1; omega
    have := stepN_yes (q := q) (k := 1) (by rw [hs, hg]) (by rw [hs, hg]; exact ht) (by rw [hs, hg]; exact hlt)
    rw [this, hs, hg]
theorem pick_none {q : List UInt8} (h : ∀ s, s < 2 → (getC (blk q s)).2 = 0 → ¬ (getC (blk q s)).1.1.tmod 2 = (s : Int)) : pickC q = (zeroC, 20) := by
  have s1 : stepN q 1 = zeroC := stepN_no (k := 0) (fun ⟨a, b, _⟩ => h 0 (by decide) a b)
  have s2 : stepN q 2 = stepN q 1 := stepN_no (k := 1) (fun ⟨a, b, _⟩ => h 1 (by decide) a b)
  rw [pickC_eq, s2, s1]
  rfl
theorem getC_zero : (getC (List.replicate 64 0)).2 = 20 := by
  have : getF (List.replicate 64 0) = (zeroV, 20) := getF_size (by rintro ⟨_, h⟩; rw [show num ((List.replicate 64 (0 : UInt8)).take 2) = 0 by decide] at h; cases h)
  rw [getC_err (by rw [this]; show (20 : Int) ≠ 0; decide), this]
theorem blk_rep {n k : Nat} (h : k < n) : blk (List.replicate (64 * n) (0 : UInt8)) k = List.replicate 64 0 := by
  unfold blk
  rw [List.drop_replicate, List.take_replicate]
  congr 1
  omega
/-- The slots of a device of three: none is ahead of gen. -/
def Behind' (st : List UInt8) (gen : Nat) : Prop := st.length = 64 * 3 ∧ ∀ s, s < 2 → (getC (blk st s)).2 = 0 → (getC (blk st s)).1.1 ≤ gen
theorem Behind'.zero : Behind' (List.replicate (64 * 3) 0) 0 := ⟨by rw [List.length_replicate], fun s hs h => by rw [blk_rep (by omega), getC_zero] at h; cases h⟩
theorem win_two {st : List UInt8} {s : Nat} (hs : s < 2) (p : Nat) : blk (win st p 2) s = blk st (p + s) := win_blk hs
theorem turn {st : List UInt8} {gen : Nat} {c : Ctl} (h : Behind' st gen) (hc : c.1 = ((gen + 1 : Nat) : Int)) (hok : okC c) :
    Behind' (laid st (slot c) (ctlS c)) (gen + 1) ∧ pickC (win (laid st (slot c) (ctlS c)) 0 2) = (c, 0) ∧ blk (laid st (slot c) (ctlS c)) (1 - slot c) = blk st (1 - slot c) := by
  have hl := h.1
  have h64 := ctlS_length hok
  have hs := slot_lt c
  have hd : slot c < dn st := by rw [dn_of hl]; omega
  have hb : ∀ j, blk (laid st (slot c) (ctlS c)) j = if j = slot c then ctlS c else blk st j := fun j => laid_blk h64 hd
  have ho : blk (laid st (slot c) (ctlS c)) (1 - slot c) = blk st (1 - slot c) := by rw [hb, if_neg (by omega)]
  refine ⟨⟨by rw [laid_length h64 hd, hl], fun s hs2 hg => ?_⟩, ?_, ho⟩
  · rw [hb] at hg ⊢
    split
    · rw [getC_put hok]; show c.1 ≤ _; omega
    · rename_i hne
      rw [if_neg hne] at hg
      have := h.2 s hs2 hg
      omega
  · refine pick_new hok (by rw [win_two hs, Nat.zero_add, hb, if_pos rfl]) (fun g1 _ => ?_)
    rw [win_two (by omega), Nat.zero_add, ho] at g1 ⊢
    have := h.2 (1 - slot c) (by omega) g1
    omega
def c4 : Ctl := (4, 1, 0, 1, 7, 0, 0)
def c5 : Ctl := (5, 1, 0, 1, 7, 0, 0)
def st5 : List UInt8 := laid (List.replicate (64 * 4) 0) 2 (ctlS c5)
theorem c5_ok : okC c5 := by decide
theorem c4_ok : okC c4 := by decide
theorem first_write : writeCV (newV 4) 4 1 c4 = (cleanV st5 2, c5, 0) := write_clean (st := List.replicate (64 * 4) 0) (calls := 0) (N := 4) (p := 1) (c := c4) (by rw [List.length_replicate]) (by decide) (by decide) c5_ok
theorem st5_blk (j : Nat) : blk st5 j = if j = 2 then ctlS c5 else blk (List.replicate (64 * 4) 0) j := laid_blk (ctlS_length c5_ok) (by rw [dn_zero]; decide)
theorem first_read : readCV (cleanV st5 2) 4 1 = (c5, 0) := by
  have := read_clean (st := st5) (calls := 2) (N := 4) (p := 1) (by decide)
  rw [show ((1 : Nat) : Int) = 1 from rfl] at this
  rw [this]
  refine pick_new c5_ok ?_ (fun h _ => ?_)
  · rw [show slot c5 = 1 from rfl, win_two (by decide), st5_blk]; rfl
  · rw [show slot c5 = 1 from rfl, win_two (by decide), st5_blk, if_neg (by decide), blk_rep (by decide), getC_zero] at h; cases h
theorem first_read2 : readCV (cleanV st5 2) 4 2 = (zeroC, 20) := by
  have := read_clean (st := st5) (calls := 2) (N := 4) (p := 2) (by decide)
  rw [show ((2 : Nat) : Int) = 2 from rfl] at this
  rw [this]
  refine pick_none (fun s hs h => ?_)
  rw [win_two hs, st5_blk] at h ⊢
  rcases s with _ | _ | s
  · rw [if_pos rfl, getC_put c5_ok]; decide
  · rw [if_neg (by decide), blk_rep (by decide), getC_zero] at h; cases h
  · omega
theorem next_no {a : Ctl} (h : 2305843009213693952 ≤ a.1 ∨ ¬ okC (nextC a)) : ¬ okC (min (max a.1 (-1)) 4611686018427387904 + 1, a.2) := by
  obtain ⟨g, r⟩ := a
  rintro ⟨⟨h1, h2⟩, h3⟩
  simp only at h h1 h2
  rcases h with h | h
  · omega
  · refine h ⟨⟨by show 1 ≤ g + 1; omega, by show g + 1 ≤ _; omega⟩, h3⟩
theorem crash_clean {st : List UInt8} {calls l : Int} {o : Bool} {ks : List Bool} : crashV ⟨st, [], calls, l, o⟩ ks = cleanV st calls := rfl
theorem crash_one {st : List UInt8} {m : Nat} {s : List UInt8} {calls l : Int} {o : Bool} {ks : List Bool} : crashV ⟨st, [(m, s)], calls, l, o⟩ ks = cleanV (if ks[0]? = some true then laid st m s else st) calls := by
  unfold crashV cleanV
  congr 1
/-- What a crash in a write behind another one leaves. -/
theorem crash_play {a b : Ctl} {ks : List Bool} {k : Nat} (ha : a.1 < 2305843009213693952) (hok : okC (nextC a)) :
    ∃ v3 y f z, writeCV (limitV (cleanV (laid (List.replicate (64 * 3) 0) (slot (nextC a)) (ctlS (nextC a))) 2) (k : Int)) 3 0 ((nextC a).1, b.2) = (v3, y, f) ∧ v3.wt.length ≤ 1 ∧ readCV (crashV v3 ks) 3 0 = (z, 0) ∧
      (((f = 2 ∨ f = 33) ∧ z = nextC a) ∨ (f = 10 ∧ (z = nextC a ∨ z = nextC ((nextC a).1, b.2))) ∨ (f = 0 ∧ y = nextC ((nextC a).1, b.2) ∧ z = nextC ((nextC a).1, b.2))) := by
  obtain ⟨x, hx⟩ : ∃ x, x = nextC a := ⟨_, rfl⟩
  rw [← hx] at hok ⊢
  have hg : x.1 = a.1 + 1 := by rw [hx]; rfl
  obtain ⟨g, hgn⟩ : ∃ g : Nat, x.1 = ((g + 1 : Nat) : Int) := ⟨(x.1 - 1).toNat, by have := hok.1.1; omega⟩
  have hl0 : (List.replicate (64 * 3) (0 : UInt8)).length = 64 * 3 := by rw [List.length_replicate]
  have B0 : Behind' (List.replicate (64 * 3) 0) g := ⟨hl0, fun s hs h => by rw [blk_rep (by omega), getC_zero] at h; cases h⟩
  obtain ⟨B1, P1, _⟩ := turn B0 hgn hok
  obtain ⟨st, hst⟩ : ∃ st, st = laid (List.replicate (64 * 3) 0) (slot x) (ctlS x) := ⟨_, rfl⟩
  rw [← hst] at B1 P1 ⊢
  have hmax : max (k : Int) (-1) = k := by omega
  have hv2 : limitV (cleanV st 2) (k : Int) = ⟨st, [], 2, k, false⟩ := by unfold limitV cleanV; rw [hmax]
  rw [hv2]
  have hrd : ∀ {st' : List UInt8} {calls : Int} {z : Ctl}, pickC (win st' 0 2) = (z, 0) → readCV (cleanV st' calls) 3 0 = (z, 0) := by
    intro st' calls z h
    have := read_clean (st := st') (calls := calls) (N := 3) (p := 0) (by decide)
    rw [show ((0 : Nat) : Int) = 0 from rfl] at this
    rw [this, h]
  obtain ⟨c, hc⟩ : ∃ c : Ctl, c = (x.1, b.2) := ⟨_, rfl⟩
  rw [← hc]
  have hc1 : c.1 = x.1 := by rw [hc]
  by_cases h33 : 2305843009213693952 ≤ c.1
  · exact ⟨_, _, _, x, writeCV_spent h33, by show (0 : Nat) ≤ 1; decide, by rw [crash_clean]; exact hrd P1, .inl ⟨.inr rfl, rfl⟩⟩
  by_cases hokc : okC (nextC c)
  · have hna : ¬ (¬ okC (nextC c) ∨ (0 : Int) < 0 ∨ ((3 : Nat) : Int) < 0) := by
      rintro (h | h | h)
      · exact h hokc
      · omega
      · omega
    have hcn : (nextC c).1 = ((g + 1 + 1 : Nat) : Int) := by show c.1 + 1 = _; omega
    obtain ⟨B2, P2, _⟩ := turn B1 hcn hokc
    have hs := slot_lt (nextC c)
    have h64 := ctlS_length hokc
    have e1 : (0 : Int) + (nextC c).1.tmod 2 = ((slot (nextC c) : Nat) : Int) := by rw [tmod_slot hokc]; omega
    by_cases hk0 : k = 0
    · subst hk0
      have hw : writeV ⟨st, [], 2, ((0 : Nat) : Int), false⟩ 3 ((0 : Int) + (nextC c).1.tmod 2) (ctlS (nextC c)) = (⟨st, [], 2, ((0 : Nat) : Int), true⟩, 10) := by
        rw [e1]; exact write_lim (v := ⟨st, [], 2, ((0 : Nat) : Int), false⟩) rfl h64 (by omega) rfl
      exact ⟨_, _, _, x, writeCV_w h33 hna hw.symm (by show (10 : Int) ≠ 0; decide), by show (0 : Nat) ≤ 1; decide, by rw [crash_clean]; exact hrd P1, .inr (.inl ⟨rfl, .inl rfl⟩)⟩
    · have hkp : 0 < (k : Int) := by omega
      have hw : writeV ⟨st, [], 2, (k : Int), false⟩ 3 ((0 : Int) + (nextC c).1.tmod 2) (ctlS (nextC c)) = (⟨st, [(slot (nextC c), ctlS (nextC c))], 3, (k : Int) - 1, false⟩, 0) := by
        rw [e1, write_ok (v := ⟨st, [], 2, (k : Int), false⟩) rfl h64 (by omega) (by show (k : Int) ≠ 0; omega)]
        show ((DevV.mk st ([] ++ [(slot (nextC c), ctlS (nextC c))]) (2 + 1) (if 0 < (k : Int) then (k : Int) - 1 else (k : Int)) false : DevV), (0 : Int)) = _
        rw [if_pos hkp]; rfl
      by_cases hk1 : k = 1
      · subst hk1
        have hf : flushV (⟨st, [(slot (nextC c), ctlS (nextC c))], 3, ((1 : Nat) : Int) - 1, false⟩ : DevV) = (⟨st, [(slot (nextC c), ctlS (nextC c))], 3, ((1 : Nat) : Int) - 1, true⟩, 10) := rfl
        by_cases hkeep : ks[0]? = some true
        · exact ⟨_, _, _, nextC c, writeCV_f h33 hna hw.symm (fun h => h rfl) hf.symm (by show (10 : Int) ≠ 0; decide), Nat.le_refl 1, by rw [crash_one, if_pos hkeep]; exact hrd P2, .inr (.inl ⟨rfl, .inr rfl⟩)⟩
        · exact ⟨_, _, _, x, writeCV_f h33 hna hw.symm (fun h => h rfl) hf.symm (by show (10 : Int) ≠ 0; decide), Nat.le_refl 1, by rw [crash_one, if_neg hkeep]; exact hrd P1, .inr (.inl ⟨rfl, .inl rfl⟩)⟩
      · have hf := flush_ok (v := ⟨st, [(slot (nextC c), ctlS (nextC c))], 3, (k : Int) - 1, false⟩) rfl (by show (k : Int) - 1 ≠ 0; omega)
        exact ⟨_, _, _, nextC c, writeCV_ok h33 hna hw.symm (fun h => h rfl) hf.symm (fun h => h rfl), by show (0 : Nat) ≤ 1; decide, by rw [crash_clean]; exact hrd P2, .inr (.inr ⟨rfl, rfl, rfl⟩)⟩
  · exact ⟨_, _, _, x, writeCV_arg h33 (.inl hokc), by show (0 : Nat) ≤ 1; decide, by rw [crash_clean]; exact hrd P1, .inl ⟨.inl rfl, rfl⟩⟩
end Brv.Control
