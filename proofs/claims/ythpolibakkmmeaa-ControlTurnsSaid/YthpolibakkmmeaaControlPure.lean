/-
  Controls: their sectors, the one that counts, the next one; what two devices' slots have.
-/
import Derived.Test.YthpolibakkmmeaaFramePure2
import Derived.Test.YthpolibakkmmeaaDevPure2
import Derived.Test.YthpolibakkmmeaaC17
set_option linter.unusedVariables false
namespace Brv.Control
open Go Brv Brv.Pack Brv.Frame Brv.Image Brv.Dev
/-- Gen, Epoch, Area, Timeline, Number, Redo, Low. -/
abbrev Ctl := Int × Int × Int × Int × Int × Int × Int
def zeroC : Ctl := (0, 0, 0, 0, 0, 0, 0)
def ctlC (c : Ctl) : Array Value := #[.int .i64 c.1, .int .i64 c.2.1, .int .i64 c.2.2.1, .int .i64 c.2.2.2.1, .int .i64 c.2.2.2.2.1, .int .i64 c.2.2.2.2.2.1, .int .i64 c.2.2.2.2.2.2]
theorem ctlC_one (c : Ctl) : ∀ u ∈ (ctlC c).toList, u.oneCell' = true := by
  intro u hu
  simp only [ctlC, List.mem_cons, List.not_mem_nil, or_false] at hu
  rcases hu with rfl | rfl | rfl | rfl | rfl | rfl | rfl <;> rfl
theorem eqL_ctl (a b : Ctl) : eqL (ctlC a).toList (ctlC b).toList = decide (a = b) := by
  obtain ⟨a1, a2, a3, a4, a5, a6, a7⟩ := a
  obtain ⟨b1, b2, b3, b4, b5, b6, b7⟩ := b
  simp only [ctlC, eqL, veq, Bool.and_true]
  rw [Bool.eq_iff_iff]
  simp
def i64 (x : Int) : Prop := -9223372036854775808 ≤ x ∧ x ≤ 9223372036854775807
structure InC (c : Ctl) : Prop where
  g : i64 c.1
  e : i64 c.2.1
  a : i64 c.2.2.1
  t : i64 c.2.2.2.1
  n : i64 c.2.2.2.2.1
  r : i64 c.2.2.2.2.2.1
  l : i64 c.2.2.2.2.2.2
def okC (c : Ctl) : Prop := (1 ≤ c.1 ∧ c.1 ≤ 2305843009213693952) ∧ (0 ≤ c.2.1 ∧ c.2.1 ≤ 4294967295) ∧ (0 ≤ c.2.2.1 ∧ c.2.2.1 ≤ 1) ∧ (1 ≤ c.2.2.2.1 ∧ c.2.2.2.1 ≤ 2147483647) ∧ (0 ≤ c.2.2.2.2.1 ∧ c.2.2.2.2.1 ≤ 1099511627776) ∧ (0 ≤ c.2.2.2.2.2.1 ∧ c.2.2.2.2.2.1 ≤ 2305843009213693952) ∧ (0 ≤ c.2.2.2.2.2.2 ∧ c.2.2.2.2.2.2 ≤ 2305843009213693952)
instance (c : Ctl) : Decidable (okC c) := by unfold okC; infer_instance
def ctlB (c : Ctl) : List UInt8 := be 1 c.2.2.1.toNat ++ (be 4 c.2.2.2.1.toNat ++ (be 8 c.2.2.2.2.1.toNat ++ (be 8 c.2.2.2.2.2.1.toNat ++ be 8 c.2.2.2.2.2.2.toNat)))
theorem ctlB_length (c : Ctl) : (ctlB c).length = 29 := by simp [ctlB, be_length]
def ctlFr (c : Ctl) : FrV := (c.1, c.2.1, 0, 1, ctlB c)
theorem ctlFr_ok {c : Ctl} (h : okC c) : okV (ctlFr c) := by
  obtain ⟨⟨h1, h2⟩, ⟨h3, h4⟩, _⟩ := h
  refine ⟨⟨by show 0 ≤ c.1; omega, by show c.1 ≤ _; omega⟩, ⟨h3, h4⟩, ⟨by show (1 : Int) ≤ 1; decide, by show (1 : Int) ≤ _; decide⟩, ⟨by show (0 : Int) ≤ 0; decide, by show (0 : Int) ≤ 1 - 1; decide⟩, ?_⟩
  show (ctlB c).length ≤ 40
  rw [ctlB_length]; decide
def ctlS (c : Ctl) : List UInt8 := secV (ctlFr c)
theorem ctlS_length {c : Ctl} (h : okC c) : (ctlS c).length = 64 := secV_length (ctlFr_ok h)
def putC (c : Ctl) : List UInt8 := if okC c then ctlS c else []
/-- Five numbers. -/
def five (l : List UInt8) : (Nat × Nat × Nat × Nat × Nat) × List UInt8 × Int :=
  ((( numF l 0 1).1, (numF (numF l 0 1).2.1 (numF l 0 1).2.2 4).1,
    (numF (numF (numF l 0 1).2.1 (numF l 0 1).2.2 4).2.1 (numF (numF l 0 1).2.1 (numF l 0 1).2.2 4).2.2 8).1,
    (numF (numF (numF (numF l 0 1).2.1 (numF l 0 1).2.2 4).2.1 (numF (numF l 0 1).2.1 (numF l 0 1).2.2 4).2.2 8).2.1 (numF (numF (numF l 0 1).2.1 (numF l 0 1).2.2 4).2.1 (numF (numF l 0 1).2.1 (numF l 0 1).2.2 4).2.2 8).2.2 8).1,
    (numF (numF (numF (numF (numF l 0 1).2.1 (numF l 0 1).2.2 4).2.1 (numF (numF l 0 1).2.1 (numF l 0 1).2.2 4).2.2 8).2.1 (numF (numF (numF l 0 1).2.1 (numF l 0 1).2.2 4).2.1 (numF (numF l 0 1).2.1 (numF l 0 1).2.2 4).2.2 8).2.2 8).2.1 (numF (numF (numF (numF l 0 1).2.1 (numF l 0 1).2.2 4).2.1 (numF (numF l 0 1).2.1 (numF l 0 1).2.2 4).2.2 8).2.1 (numF (numF (numF l 0 1).2.1 (numF l 0 1).2.2 4).2.1 (numF (numF l 0 1).2.1 (numF l 0 1).2.2 4).2.2 8).2.2 8).2.2 8).1),
   (numF (numF (numF (numF (numF l 0 1).2.1 (numF l 0 1).2.2 4).2.1 (numF (numF l 0 1).2.1 (numF l 0 1).2.2 4).2.2 8).2.1 (numF (numF (numF l 0 1).2.1 (numF l 0 1).2.2 4).2.1 (numF (numF l 0 1).2.1 (numF l 0 1).2.2 4).2.2 8).2.2 8).2.1 (numF (numF (numF (numF l 0 1).2.1 (numF l 0 1).2.2 4).2.1 (numF (numF l 0 1).2.1 (numF l 0 1).2.2 4).2.2 8).2.1 (numF (numF (numF l 0 1).2.1 (numF l 0 1).2.2 4).2.1 (numF (numF l 0 1).2.1 (numF l 0 1).2.2 4).2.2 8).2.2 8).2.2 8).2)
theorem five_eq {l : List UInt8} {a b c d e : Nat} {l1 l2 l3 l4 l5 : List UInt8} {e1 e2 e3 e4 e5 : Int} (h1 : numF l 0 1 = (a, l1, e1)) (h2 : numF l1 e1 4 = (b, l2, e2)) (h3 : numF l2 e2 8 = (c, l3, e3)) (h4 : numF l3 e3 8 = (d, l4, e4)) (h5 : numF l4 e4 8 = (e, l5, e5)) :
    five l = ((a, b, c, d, e), l5, e5) := by simp only [five, h1, h2, h3, h4, h5]
def mkC (f : FrV) : Ctl := (f.1, f.2.1, ((five f.2.2.2.2).1.1 : Int), ((five f.2.2.2.2).1.2.1 : Int), ((five f.2.2.2.2).1.2.2.1 : Int), ((five f.2.2.2.2).1.2.2.2.1 : Int), ((five f.2.2.2.2).1.2.2.2.2 : Int))
def okG (f : FrV) : Prop := (five f.2.2.2.2).2.2 = 0 ∧ (five f.2.2.2.2).2.1.length = 0 ∧ f.2.2.2.1 = 1 ∧ okC (mkC f)
instance (f : FrV) : Decidable (okG f) := by unfold okG; infer_instance
def getC (b : List UInt8) : Ctl × Int := if (getF b).2 ≠ 0 then (zeroC, (getF b).2) else if okG (getF b).1 then (mkC (getF b).1, 0) else (zeroC, 20)
theorem getC_err {b : List UInt8} (h : (getF b).2 ≠ 0) : getC b = (zeroC, (getF b).2) := if_pos h
theorem getC_no {b : List UInt8} (h : (getF b).2 = 0) (hg : ¬ okG (getF b).1) : getC b = (zeroC, 20) := by unfold getC; rw [if_neg (by simp [h]), if_neg hg]
theorem getC_yes {b : List UInt8} (h : (getF b).2 = 0) (hg : okG (getF b).1) : getC b = (mkC (getF b).1, 0) := by unfold getC; rw [if_neg (by simp [h]), if_pos hg]
theorem five_b {c : Ctl} (h : okC c) : five (ctlB c) = ((c.2.2.1.toNat, c.2.2.2.1.toNat, c.2.2.2.2.1.toNat, c.2.2.2.2.2.1.toNat, c.2.2.2.2.2.2.toNat), [], 0) := by
  obtain ⟨_, _, ⟨h1, h2⟩, ⟨h3, h4⟩, ⟨h5, h6⟩, ⟨h7, h8⟩, ⟨h9, h10⟩⟩ := h
  have p1 : (256 : Nat) ^ 1 = 256 := by decide
  have p4 : (256 : Nat) ^ 4 = 4294967296 := by decide
  have p8 : (256 : Nat) ^ 8 = 18446744073709551616 := by decide
  have a5 := numF_be (y := 8) (x := c.2.2.2.2.2.2.toNat) (r := []) (by decide) (by decide) (by omega) (by omega)
  rw [List.append_nil] at a5
  exact five_eq (numF_be (y := 1) (by decide) (by decide) (by omega) (by omega)) (numF_be (y := 4) (by decide) (by decide) (by omega) (by omega)) (numF_be (y := 8) (by decide) (by decide) (by omega) (by omega)) (numF_be (y := 8) (by decide) (by decide) (by omega) (by omega)) a5
theorem mkC_fr {c : Ctl} (h : okC c) : mkC (ctlFr c) = c := by
  have h5 := five_b h
  obtain ⟨_, _, ⟨h1, h2⟩, ⟨h3, h4⟩, ⟨h6, _⟩, ⟨h7, _⟩, ⟨h9, _⟩⟩ := h
  obtain ⟨a1, a2, a3, a4, a5, a6, a7⟩ := c
  simp only [mkC, ctlFr, h5, Prod.mk.injEq, true_and]
  simp only at h1 h3 h6 h7 h9
  refine ⟨by omega, by omega, by omega, by omega, by omega⟩
theorem getC_put {c : Ctl} (h : okC c) : getC (ctlS c) = (c, 0) := by
  have hg : getF (ctlS c) = (ctlFr c, 0) := get_put (ctlFr_ok h)
  have h5 := five_b h
  have hm := mkC_fr h
  have h6 : five (ctlFr c).2.2.2.2 = ((c.2.2.1.toNat, c.2.2.2.1.toNat, c.2.2.2.2.1.toNat, c.2.2.2.2.2.1.toNat, c.2.2.2.2.2.2.toNat), [], 0) := h5
  have hk : okG (ctlFr c) := by
    unfold okG
    rw [h6, hm]
    exact ⟨rfl, rfl, rfl, h⟩
  have h0 : (getF (ctlS c)).2 = 0 := by rw [hg]
  rw [getC_yes h0 (by rw [hg]; exact hk), hg, hm]
/-- What a number's reading says of the bytes. -/
theorem numF_inv {l l' : List UInt8} {e y : Int} {x : Nat} (h : numF l e y = (x, l', 0)) : e = 0 ∧ 1 ≤ y ∧ l = be y.toNat x ++ l' := by
  have he := numF_zero h
  subst he
  by_cases hok : okN l y
  · rw [numF_ok hok] at h
    obtain ⟨h1, _, h3, _⟩ := hok
    injection h with e1 e2
    injection e2 with e2 _
    refine ⟨rfl, h1, ?_⟩
    have hb := be_num (l.take y.toNat)
    rw [List.length_take, Nat.min_eq_left (by omega), e1] at hb
    rw [hb, ← e2, List.take_append_drop]
  · rw [numF_no hok] at h
    injection h with _ e2
    injection e2 with _ e3
    cases e3
theorem five_inv {l : List UInt8} (h : (five l).2.2 = 0) (hl : (five l).2.1 = []) : l = be 1 (five l).1.1 ++ (be 4 (five l).1.2.1 ++ (be 8 (five l).1.2.2.1 ++ (be 8 (five l).1.2.2.2.1 ++ be 8 (five l).1.2.2.2.2))) := by
  obtain ⟨⟨a, l1, e1⟩, h1⟩ : ∃ r, numF l 0 1 = r := ⟨_, rfl⟩
  obtain ⟨⟨b, l2, e2⟩, h2⟩ : ∃ r, numF l1 e1 4 = r := ⟨_, rfl⟩
  obtain ⟨⟨c, l3, e3⟩, h3⟩ : ∃ r, numF l2 e2 8 = r := ⟨_, rfl⟩
  obtain ⟨⟨d, l4, e4⟩, h4⟩ : ∃ r, numF l3 e3 8 = r := ⟨_, rfl⟩
  obtain ⟨⟨e, l5, e5⟩, h5⟩ : ∃ r, numF l4 e4 8 = r := ⟨_, rfl⟩
  have hf := five_eq h1 h2 h3 h4 h5
  rw [hf] at h hl ⊢
  simp only at h hl ⊢
  subst h; subst hl
  obtain ⟨rfl, _, g5⟩ := numF_inv h5
  obtain ⟨rfl, _, g4⟩ := numF_inv h4
  obtain ⟨rfl, _, g3⟩ := numF_inv h3
  obtain ⟨rfl, _, g2⟩ := numF_inv h2
  obtain ⟨_, _, g1⟩ := numF_inv h1
  rw [g1, g2, g3, g4, g5, List.append_nil]
  rfl
/-- The document's way to say that a sector is a control. -/
theorem okG_ref {b : List UInt8} (h : (getF b).2 = 0) : okG (getF b).1 ↔ (five (getF b).1.2.2.2.2).2.2 = 0 ∧ okC (mkC (getF b).1) ∧ ctlS (mkC (getF b).1) = b := by
  obtain ⟨hv, hs⟩ := getF_ok h
  obtain ⟨f, hf⟩ : ∃ f, f = (getF b).1 := ⟨_, rfl⟩
  rw [← hf] at hv hs ⊢
  constructor
  · rintro ⟨h1, h2, h3, h4⟩
    refine ⟨h1, h4, ?_⟩
    rw [← hs]
    show secV (ctlFr (mkC f)) = secV f
    have hB := five_inv h1 (List.eq_nil_of_length_eq_zero h2)
    have : ctlFr (mkC f) = f := by
      obtain ⟨p, q, i, k, l⟩ := f
      simp only at h3 hB
      subst h3
      obtain ⟨_, _, _, ⟨i1, i2⟩, _⟩ := hv
      simp only at i1 i2
      have : i = 0 := by omega
      subst this
      simp only [ctlFr, mkC, ctlB, Int.toNat_natCast]
      rw [← hB]
    rw [this]
  · rintro ⟨h1, h4, h5⟩
    have he : ctlFr (mkC f) = f := (secV_inj (ctlFr_ok h4) hv).1 (h5.trans hs.symm)
    have hb := five_b h4
    refine ⟨h1, ?_, ?_, h4⟩
    · have : f.2.2.2.2 = ctlB (mkC f) := by rw [← congrArg (fun f : FrV => f.2.2.2.2) he]; rfl
      rw [this, hb]; rfl
    · have : f.2.2.2.1 = 1 := by rw [← congrArg (fun f : FrV => f.2.2.2.1) he]; rfl
      exact this
theorem getC_gen {b : List UInt8} (h : (getC b).2 = 0) : okC (getC b).1 := by
  by_cases h1 : (getF b).2 = 0
  · by_cases h2 : okG (getF b).1
    · rw [getC_yes h1 h2]; exact h2.2.2.2
    · rw [getC_no h1 h2] at h; cases h
  · rw [getC_err h1] at h; exact absurd h h1
theorem InC.of {c : Ctl} (h : okC c) : InC c := by
  obtain ⟨⟨a1, a2⟩, ⟨b1, b2⟩, ⟨c1, c2⟩, ⟨d1, d2⟩, ⟨e1, e2⟩, ⟨f1, f2⟩, ⟨g1, g2⟩⟩ := h
  exact ⟨⟨by omega, by omega⟩, ⟨by omega, by omega⟩, ⟨by omega, by omega⟩, ⟨by omega, by omega⟩, ⟨by omega, by omega⟩, ⟨by omega, by omega⟩, ⟨by omega, by omega⟩⟩
theorem InC.zero : InC zeroC := ⟨⟨by decide, by decide⟩, ⟨by decide, by decide⟩, ⟨by decide, by decide⟩, ⟨by decide, by decide⟩, ⟨by decide, by decide⟩, ⟨by decide, by decide⟩, ⟨by decide, by decide⟩⟩
/-- One slot. -/
def step (best : Ctl) (r : Ctl × Int) (i : Int) : Ctl := if r.2 = 0 ∧ r.1.1.tmod 2 = i ∧ best.1 < r.1.1 then r.1 else best
def pickC (b : List UInt8) : Ctl × Int := if (step (step zeroC (getC (blk b 0)) 0) (getC (blk b 1)) 1).1 = 0 then (zeroC, 20) else (step (step zeroC (getC (blk b 0)) 0) (getC (blk b 1)) 1, 0)
def readCV (v : DevV) (N : Nat) (p : Int) : Ctl × Int := if (readV v N p 2).2 ≠ 0 then (zeroC, (readV v N p 2).2) else pickC (readV v N p 2).1
def nextC (c : Ctl) : Ctl := (c.1 + 1, c.2)
def writeCV (v : DevV) (N : Nat) (p : Int) (c : Ctl) : DevV × Ctl × Int :=
  if 2305843009213693952 ≤ c.1 then (v, zeroC, 33) else if ¬ okC (nextC c) ∨ p < 0 ∨ (N : Int) < p then (v, zeroC, 2)
  else if (writeV v N (p + (nextC c).1.tmod 2) (ctlS (nextC c))).2 ≠ 0 then ((writeV v N (p + (nextC c).1.tmod 2) (ctlS (nextC c))).1, zeroC, (writeV v N (p + (nextC c).1.tmod 2) (ctlS (nextC c))).2)
  else if (flushV (writeV v N (p + (nextC c).1.tmod 2) (ctlS (nextC c))).1).2 ≠ 0 then ((flushV (writeV v N (p + (nextC c).1.tmod 2) (ctlS (nextC c))).1).1, zeroC, (flushV (writeV v N (p + (nextC c).1.tmod 2) (ctlS (nextC c))).1).2)
  else ((flushV (writeV v N (p + (nextC c).1.tmod 2) (ctlS (nextC c))).1).1, nextC c, 0)
theorem step_ok {best : Ctl} {r : Ctl × Int} {i : Int} (hb : best.1 = 0 → best = zeroC) (h : r.2 = 0 → okC r.1) : (step best r i).1 = 0 → step best r i = zeroC := by
  unfold step
  split
  · rename_i hc
    intro h0
    obtain ⟨⟨h1, _⟩, _⟩ := h hc.1
    omega
  · exact hb
def stepN (q : List UInt8) : Nat → Ctl
  | 0 => zeroC
  | k + 1 => step (stepN q k) (getC (blk q k)) (k : Int)
theorem pickC_eq (q : List UInt8) : pickC q = if (stepN q 2).1 = 0 then (zeroC, 20) else (stepN q 2, 0) := rfl
theorem stepN_yes {q : List UInt8} {k : Nat} (h1 : (getC (blk q k)).2 = 0) (h2 : (getC (blk q k)).1.1.tmod 2 = (k : Int)) (h3 : (stepN q k).1 < (getC (blk q k)).1.1) : stepN q (k + 1) = (getC (blk q k)).1 := if_pos ⟨h1, h2, h3⟩
theorem stepN_no {q : List UInt8} {k : Nat} (h : ¬ ((getC (blk q k)).2 = 0 ∧ (getC (blk q k)).1.1.tmod 2 = (k : Int) ∧ (stepN q k).1 < (getC (blk q k)).1.1)) : stepN q (k + 1) = stepN q k := if_neg h
theorem readV_two {v : DevV} {N : Nat} {p : Int} (hw : v.Wf N) (h : (readV v N p 2).2 = 0) : (readV v N p 2).1.length = 128 := by
  unfold readV at h ⊢
  split at h
  · cases h
  · split at h
    · rename_i h1 h2
      rw [if_neg h1, if_pos h2]
      obtain ⟨t1, t2, t3, t4⟩ := h2
      show (win (laidAll v.stay v.wt) p.toNat (2 : Int).toNat).length = 128
      rw [win_length (N := N) (laidAll_length (s := []) hw.len hw.wt) (by show p.toNat + 2 ≤ N; omega)]
      rfl
    · cases h
theorem readCV_err {v : DevV} {N : Nat} {p : Int} (h : (readV v N p 2).2 ≠ 0) : readCV v N p = (zeroC, (readV v N p 2).2) := if_pos h
theorem readCV_ok {v : DevV} {N : Nat} {p : Int} (h : (readV v N p 2).2 = 0) : readCV v N p = pickC (readV v N p 2).1 := if_neg (by simp [h])
theorem writeCV_spent {v : DevV} {N : Nat} {p : Int} {c : Ctl} (h : 2305843009213693952 ≤ c.1) : writeCV v N p c = (v, zeroC, 33) := if_pos h
theorem writeCV_arg {v : DevV} {N : Nat} {p : Int} {c : Ctl} (h : ¬ 2305843009213693952 ≤ c.1) (h2 : ¬ okC (nextC c) ∨ p < 0 ∨ (N : Int) < p) : writeCV v N p c = (v, zeroC, 2) := by unfold writeCV; rw [if_neg h, if_pos h2]
section
variable {v : DevV} {N : Nat} {p : Int} {c : Ctl} {wr fl : DevV × Int} (h : ¬ 2305843009213693952 ≤ c.1) (h2 : ¬ (¬ okC (nextC c) ∨ p < 0 ∨ (N : Int) < p)) (hw : wr = writeV v N (p + (nextC c).1.tmod 2) (ctlS (nextC c)))
include h h2 hw
theorem writeCV_w (h3 : wr.2 ≠ 0) : writeCV v N p c = (wr.1, zeroC, wr.2) := by subst hw; unfold writeCV; rw [if_neg h, if_neg h2, if_pos h3]
theorem writeCV_f (h3 : ¬ wr.2 ≠ 0) (hf : fl = flushV wr.1) (h4 : fl.2 ≠ 0) : writeCV v N p c = (fl.1, zeroC, fl.2) := by subst hf; subst hw; unfold writeCV; rw [if_neg h, if_neg h2, if_neg h3, if_pos h4]
theorem writeCV_ok (h3 : ¬ wr.2 ≠ 0) (hf : fl = flushV wr.1) (h4 : ¬ fl.2 ≠ 0) : writeCV v N p c = (fl.1, nextC c, 0) := by subst hf; subst hw; unfold writeCV; rw [if_neg h, if_neg h2, if_neg h3, if_neg h4]
end
end Brv.Control
