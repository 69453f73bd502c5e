/-
  Plain laws on package frame: what a sector tells, that a frame is told again, bodies over sectors.
-/
import Derived.Test.YthpolibakkmmeaaFramePure
set_option linter.unusedVariables false
namespace Brv.Frame
open Go Brv Brv.Crc Brv.Pack

abbrev FrV := Int × Int × Int × Int × List UInt8
def okV (f : FrV) : Prop := okFrame f.1 f.2.1 f.2.2.1 f.2.2.2.1 f.2.2.2.2
instance (f : FrV) : Decidable (okV f) := by unfold okV; infer_instance
def secV (f : FrV) : List UInt8 := frameF f.1 f.2.1 f.2.2.1 f.2.2.2.1 f.2.2.2.2
def putV (f : FrV) : List UInt8 := if okV f then secV f else []
def zeroV : FrV := (0, 0, 0, 0, [])
/-- What a scan reads behind the magic number. -/
def parse (l : List UInt8) : FrV × Int :=
  let a := numF l 0 8
  let b := numF a.2.1 a.2.2 4
  let c := numF b.2.1 b.2.2 2
  let d := numF c.2.1 c.2.2 2
  let t := txtF d.2.1 d.2.2 40
  (((a.1 : Int), (b.1 : Int), (c.1 : Int), (d.1 : Int), t.1), t.2.2)
/-- The frame of a sector; the error. -/
def getF (l : List UInt8) : FrV × Int :=
  if l.length = 64 ∧ num (l.take 2) = 46878 then
    (if goodF l = true then (if (parse (l.drop 2)).2 = 0 ∧ putV (parse (l.drop 2)).1 = l then ((parse (l.drop 2)).1, 0) else (zeroV, 20)) else (zeroV, 21))
  else (zeroV, 20)
theorem getF_size {l : List UInt8} (h : ¬ (l.length = 64 ∧ num (l.take 2) = 46878)) : getF l = (zeroV, 20) := if_neg h
theorem getF_sum {l : List UInt8} (h : l.length = 64 ∧ num (l.take 2) = 46878) (hg : goodF l = false) : getF l = (zeroV, 21) := by
  unfold getF; rw [if_pos h, if_neg (by rw [hg]; simp)]
theorem getF_form {l : List UInt8} (h : l.length = 64 ∧ num (l.take 2) = 46878) (hg : goodF l = true) (hf : ¬ ((parse (l.drop 2)).2 = 0 ∧ putV (parse (l.drop 2)).1 = l)) : getF l = (zeroV, 20) := by
  unfold getF; rw [if_pos h, if_pos hg, if_neg hf]
theorem getF_yes {l : List UInt8} (h : l.length = 64 ∧ num (l.take 2) = 46878) (hg : goodF l = true) (hf : (parse (l.drop 2)).2 = 0 ∧ putV (parse (l.drop 2)).1 = l) : getF l = ((parse (l.drop 2)).1, 0) := by
  unfold getF; rw [if_pos h, if_pos hg, if_pos hf]
theorem getF_ok {l : List UInt8} (h : (getF l).2 = 0) : okV (getF l).1 ∧ secV (getF l).1 = l := by
  by_cases h1 : l.length = 64 ∧ num (l.take 2) = 46878
  · cases hg : goodF l with
    | false => rw [getF_sum h1 hg] at h; cases h
    | true =>
      by_cases hf : (parse (l.drop 2)).2 = 0 ∧ putV (parse (l.drop 2)).1 = l
      · rw [getF_yes h1 hg hf]
        have := hf.2
        unfold putV at this
        split at this
        · rename_i hok; exact ⟨hok, this⟩
        · rw [← this] at h1; simp at h1
      · rw [getF_form h1 hg hf] at h; cases h
  · rw [getF_size h1] at h; cases h

theorem numF_be {y x : Nat} {r : List UInt8} (h1 : 1 ≤ y) (h8 : y ≤ 8) (hx : x < 256 ^ y) (h63 : y = 8 → x < 9223372036854775808) : numF (be y x ++ r) 0 (y : Int) = (x, r, 0) := by
  have hl := be_length y x
  have ok : okN (be y x ++ r) (y : Int) := by
    refine ⟨by omega, by omega, by rw [List.length_append, hl]; omega, fun e => ?_⟩
    obtain rfl : y = 8 := by omega
    have h0 := be_get 8 x 0 (by decide)
    have hx8 := h63 rfl
    rw [List.getD_eq_getElem?_getD, List.getElem?_append_left (by rw [hl]; decide), h0]
    show (UInt8.ofNat (x / 72057594037927936 % 256)).toNat < 128
    have : x / 72057594037927936 < 128 := by omega
    rw [UInt8.toNat_ofNat']
    omega
  rw [numF_ok ok, Int.toNat_natCast, List.take_left' hl, List.drop_left' hl, num_be y x hx]
theorem txtF_text {l r : List UInt8} {most : Int} (h : (l.length : Int) ≤ most) (h2 : l.length < 65536) : txtF (textF l ++ r) 0 most = (l, r, 0) := by
  have hl := be_length 2 l.length
  have e : textF l ++ r = be 2 l.length ++ (l ++ r) := by simp [textF]
  have hn : num ((textF l ++ r).take 2) = l.length := by rw [e, List.take_left' hl, num_be 2 _ h2]
  have hd : (textF l ++ r).drop 2 = l ++ r := by rw [e, List.drop_left' hl]
  have ok : okT (textF l ++ r) most := by
    refine ⟨by rw [e, List.length_append, hl]; omega, by rw [hn]; exact h, ?_⟩
    rw [hn, e, List.length_append, List.length_append, hl]; omega
  unfold txtF
  rw [if_pos rfl, if_pos ok, hn, hd, List.take_left' rfl, List.drop_left' rfl]
theorem frame_split {p q i k : Int} {l : List UInt8} (h : l.length ≤ 40) : ∃ R, frameF p q i k l = [0xb7, 0x1e] ++ (be 8 p.toNat ++ (be 4 q.toNat ++ (be 2 i.toNat ++ (be 2 k.toNat ++ (textF l ++ R))))) := by
  have hP := frame_pad p q i k l h
  have hB := frameB_length p q i k l
  unfold frameF
  have e : ([0xb7, 0x1e] ++ be 8 p.toNat ++ be 4 q.toNat ++ be 2 i.toNat ++ be 2 k.toNat ++ textF l) = frameB p q i k l := rfl
  rw [e]
  unfold markF
  rw [if_neg (by omega), hP]
  have e2 : padF 64 (frameB p q i k l) = frameB p q i k l ++ List.replicate (padN (64 : Int).toNat (frameB p q i k l).length) 0 := by unfold padF; rw [if_neg (by decide)]
  rw [e2, List.take_append, List.take_of_length_le (by omega)]
  refine ⟨List.take (64 - 4 - (frameB p q i k l).length) (List.replicate (padN (64 : Int).toNat (frameB p q i k l).length) 0) ++ fourF (joinF 0 (frameB p q i k l ++ List.take (64 - 4 - (frameB p q i k l).length) (List.replicate (padN (64 : Int).toNat (frameB p q i k l).length) 0))), ?_⟩
  conv => lhs; rw [show frameB p q i k l ++ List.take (64 - 4 - (frameB p q i k l).length) (List.replicate (padN (64 : Int).toNat (frameB p q i k l).length) 0) ++ fourF _ = frameB p q i k l ++ (List.take (64 - 4 - (frameB p q i k l).length) (List.replicate (padN (64 : Int).toNat (frameB p q i k l).length) 0) ++ fourF _) from List.append_assoc ..]
  simp only [frameB, List.append_assoc, List.cons_append, List.nil_append]
theorem secV_length {f : FrV} (h : okV f) : (secV f).length = 64 := by
  obtain ⟨p, q, i, k, l⟩ := f
  show (frameF p q i k l).length = 64
  unfold frameF
  rw [markF_length]
  exact frame_pad p q i k l h.2.2.2.2
theorem putV_le (f : FrV) : (putV f).length ≤ 64 := by
  unfold putV
  split
  · rename_i h; rw [secV_length h]; exact Nat.le_refl _
  · simp
theorem toNat_cast {x : Int} (h : 0 ≤ x) : ((x.toNat : Nat) : Int) = x := by omega
/-- A right frame is got as it was put. -/
theorem get_put {f : FrV} (h : okV f) : getF (secV f) = (f, 0) := by
  have hlen := secV_length h
  obtain ⟨p, q, i, k, l⟩ := f
  have hok := h
  obtain ⟨⟨o1, o2⟩, ⟨o3, o4⟩, ⟨o5, o6⟩, ⟨o7, o8⟩, o9⟩ := h
  dsimp only at o1 o2 o3 o4 o5 o6 o7 o8 o9
  obtain ⟨R, hR⟩ := frame_split (p := p) (q := q) (i := i) (k := k) o9
  have hs : secV (p, q, i, k, l) = _ := hR
  have hg : goodF (secV (p, q, i, k, l)) = true := by
    show goodF (frameF p q i k l) = true
    unfold frameF
    exact good_mark (by have := frame_pad p q i k l o9; unfold frameB at this; omega)
  have hp : parse ((secV (p, q, i, k, l)).drop 2) = ((p, q, i, k, l), 0) := by
    rw [hs]
    show parse (be 8 p.toNat ++ (be 4 q.toNat ++ (be 2 i.toNat ++ (be 2 k.toNat ++ (textF l ++ R))))) = _
    have n1 := numF_be (y := 8) (x := p.toNat) (r := be 4 q.toNat ++ (be 2 i.toNat ++ (be 2 k.toNat ++ (textF l ++ R)))) (by decide) (by decide) (show p.toNat < 18446744073709551616 by omega) (fun _ => by omega)
    have n2 := numF_be (y := 4) (x := q.toNat) (r := be 2 i.toNat ++ (be 2 k.toNat ++ (textF l ++ R))) (by decide) (by decide) (show q.toNat < 4294967296 by omega) (fun e => by cases e)
    have n3 := numF_be (y := 2) (x := i.toNat) (r := be 2 k.toNat ++ (textF l ++ R)) (by decide) (by decide) (show i.toNat < 65536 by omega) (fun e => by cases e)
    have n4 := numF_be (y := 2) (x := k.toNat) (r := textF l ++ R) (by decide) (by decide) (show k.toNat < 65536 by omega) (fun e => by cases e)
    have n5 := txtF_text (l := l) (r := R) (most := 40) (by omega) (by omega)
    unfold parse
    simp only [show ((8 : Nat) : Int) = 8 from rfl, show ((4 : Nat) : Int) = 4 from rfl, show ((2 : Nat) : Int) = 2 from rfl] at n1 n2 n3 n4
    rw [n1]
    dsimp only
    rw [n2]
    dsimp only
    rw [n3]
    dsimp only
    rw [n4]
    dsimp only
    rw [n5, toNat_cast o1, toNat_cast o3, toNat_cast o7, toNat_cast (by omega)]
  have h1 : (secV (p, q, i, k, l)).length = 64 ∧ num ((secV (p, q, i, k, l)).take 2) = 46878 := ⟨hlen, by rw [hs]; rfl⟩
  have h2 := getF_yes h1 hg (by rw [hp]; exact ⟨rfl, if_pos hok⟩)
  rw [h2, hp]
theorem secV_inj {f g : FrV} (hf : okV f) (hg : okV g) : secV f = secV g ↔ f = g := by
  constructor
  · intro e
    have h1 := get_put hf
    have h2 := get_put hg
    rw [e, h2] at h1
    exact (Prod.mk.inj h1).1.symm
  · intro e; rw [e]
theorem numF_lt (l : List UInt8) (e y : Int) : (numF l e y).1 < 9223372036854775808 := by
  unfold numF
  split
  · split
    · rename_i h; exact okN_lt h
    · show 0 < _; decide
  · show 0 < _; decide
theorem num_two (l : List UInt8) : num (l.take 2) < 65536 := by
  have := num_lt (l.take 2)
  have h2 : (l.take 2).length ≤ 2 := by rw [List.length_take]; omega
  exact Nat.lt_of_lt_of_le this (Nat.le_trans (Nat.pow_le_pow_right (by decide) h2) (by decide))
theorem num_two_eq {l : List UInt8} (h : 2 ≤ l.length) : num (l.take 2) = 46878 ↔ l[0] = 183 ∧ l[1] = 30 := by
  match l, h with
  | x :: y :: r, _ =>
    have hx := x.toNat_lt
    have hy := y.toNat_lt
    show num [x, y] = 46878 ↔ x = 183 ∧ y = 30
    have e : num [x, y] = 256 * x.toNat + y.toNat := by simp [num]
    rw [e]
    constructor
    · intro h
      exact ⟨UInt8.toNat_inj.1 (show x.toNat = 183 by omega), UInt8.toNat_inj.1 (show y.toNat = 30 by omega)⟩
    · rintro ⟨rfl, rfl⟩; rfl
theorem txtF_most (l : List UInt8) (e : Int) : (txtF l e 40).1.length ≤ 40 := by
  unfold txtF
  split
  · split
    · rename_i h
      rw [List.length_take]
      have := h.2.1
      omega
    · simp
  · simp

/-! ## Bodies over sectors -/
/-- The i-th part of a body. -/
def bodyF (l : List UInt8) (i : Nat) : List UInt8 := (l.drop (40 * i)).take 40
def secN (l : List UInt8) : Nat := if l.length ≤ 40 then 1 else (l.length + 39) / 40
def frV (p q : Int) (l : List UInt8) (i : Nat) : FrV := (p + i, q, i, secN l, bodyF l i)
def spreadN (p q : Int) (l : List UInt8) (i : Nat) : List UInt8 := ((List.range i).map (fun j => secV (frV p q l j))).flatten
theorem spreadN_succ (p q : Int) (l : List UInt8) (i : Nat) : spreadN p q l (i + 1) = spreadN p q l i ++ secV (frV p q l i) := by
  simp [spreadN, List.range_succ]
theorem part_length (l : List UInt8) (i : Nat) : (bodyF l i).length = min 40 (l.length - 40 * i) := by simp [bodyF]
theorem parts_join (l : List UInt8) (i : Nat) : ((List.range i).map (bodyF l)).flatten = l.take (40 * i) := by
  induction i with
  | zero => simp
  | succ i ih =>
    rw [List.range_succ, List.map_append, List.flatten_append, ih]
    simp only [List.map_cons, List.map_nil, List.flatten_cons, List.flatten_nil, List.append_nil, bodyF]
    rw [show 40 * (i + 1) = 40 * i + 40 by omega, List.take_add]
end Brv.Frame
namespace Brv.Frame
open Go Brv Brv.Crc Brv.Pack
/-! ## Gathering -/
def badG (lsn : Int) (at' : Nat) (q k : Int) (f : FrV) : Prop := (f.2.2.1 + 1 < f.2.2.2.1 ∧ (f.2.2.2.2.length : Int) < 40) ∨ (0 < f.2.2.1 ∧ (f.2.2.2.2.length : Int) = 0) ∨ f.1 ≠ lsn + at' ∨ f.2.2.1 ≠ at' ∨ f.2.1 ≠ q ∨ f.2.2.2.1 ≠ k
instance (lsn : Int) (at' : Nat) (q k : Int) (f : FrV) : Decidable (badG lsn at' q k f) := by unfold badG; infer_instance
def qG (at' : Nat) (q : Int) (f : FrV) : Int := if at' = 0 then f.2.1 else q
def kG (at' : Nat) (k : Int) (f : FrV) : Int := if at' = 0 then f.2.2.2.1 else k
def takeE (lsn : Int) (at' : Nat) (q k : Int) (l : List UInt8) : Int := if (getF l).2 ≠ 0 then (getF l).2 else if badG lsn at' (qG at' q (getF l).1) (kG at' k (getF l).1) (getF l).1 then 20 else 0
theorem takeE_err {lsn : Int} {at' : Nat} {q k : Int} {l : List UInt8} (h : (getF l).2 ≠ 0) : takeE lsn at' q k l = (getF l).2 := if_pos h
theorem takeE_bad {lsn : Int} {at' : Nat} {q k : Int} {l : List UInt8} (h : (getF l).2 = 0) (hb : badG lsn at' (qG at' q (getF l).1) (kG at' k (getF l).1) (getF l).1) : takeE lsn at' q k l = 20 := by unfold takeE; rw [if_neg (by simp [h]), if_pos hb]
theorem takeE_ok {lsn : Int} {at' : Nat} {q k : Int} {l : List UInt8} (h : (getF l).2 = 0) (hb : ¬ badG lsn at' (qG at' q (getF l).1) (kG at' k (getF l).1) (getF l).1) : takeE lsn at' q k l = 0 := by unfold takeE; rw [if_neg (by simp [h]), if_neg hb]
/-- How many sectors are asked for; the body, how many, the error. -/
def gathN (lsn : Int) (sec : Nat → List UInt8) : Nat → Nat → Int → Int → List UInt8 → Nat × List UInt8 × Int × Int
  | 0, i, _, _, _ => (i, [], 0, 20)
  | m + 1, i, q, k, body => if takeE lsn i q k (sec i) ≠ 0 then (i + 1, [], 0, takeE lsn i q k (sec i))
      else if ((i : Int) + 1) = kG i k (getF (sec i)).1 then (i + 1, body ++ (getF (sec i)).1.2.2.2.2, (i : Int) + 1, 0)
      else gathN lsn sec m (i + 1) (qG i q (getF (sec i)).1) (kG i k (getF (sec i)).1) (body ++ (getF (sec i)).1.2.2.2.2)
theorem gathN_err {lsn : Int} {sec : Nat → List UInt8} {m i : Nat} {q k : Int} {body : List UInt8} (h : takeE lsn i q k (sec i) ≠ 0) : gathN lsn sec (m + 1) i q k body = (i + 1, [], 0, takeE lsn i q k (sec i)) := by unfold gathN; rw [if_pos h]
theorem gathN_last {lsn : Int} {sec : Nat → List UInt8} {m i : Nat} {q k : Int} {body : List UInt8} (h : takeE lsn i q k (sec i) = 0) (h2 : ((i : Int) + 1) = kG i k (getF (sec i)).1) : gathN lsn sec (m + 1) i q k body = (i + 1, body ++ (getF (sec i)).1.2.2.2.2, (i : Int) + 1, 0) := by unfold gathN; rw [if_neg (by simp [h]), if_pos h2]
theorem gathN_next {lsn : Int} {sec : Nat → List UInt8} {m i : Nat} {q k : Int} {body : List UInt8} (h : takeE lsn i q k (sec i) = 0) (h2 : ¬ ((i : Int) + 1) = kG i k (getF (sec i)).1) :
    gathN lsn sec (m + 1) i q k body = gathN lsn sec m (i + 1) (qG i q (getF (sec i)).1) (kG i k (getF (sec i)).1) (body ++ (getF (sec i)).1.2.2.2.2) := by conv => lhs; unfold gathN; rw [if_neg (by simp [h]), if_neg h2]
theorem okV_frV {p q : Int} {l : List UInt8} {i : Nat} (hp : 0 ≤ p) (hpn : p + secN l ≤ 4611686018427387904) (hq : 0 ≤ q ∧ q ≤ 4294967295) (hl : l.length ≤ 2621400) (hi : i < secN l) : okV (frV p q l i) := by
  have hs : secN l ≤ 65535 := by unfold secN; split <;> omega
  refine ⟨⟨?_, ?_⟩, hq, ⟨?_, ?_⟩, ⟨?_, ?_⟩, ?_⟩
  · show 0 ≤ p + (i : Int); omega
  · show p + (i : Int) ≤ _; omega
  · show 1 ≤ (secN l : Int); omega
  · show (secN l : Int) ≤ _; omega
  · show 0 ≤ (i : Int); omega
  · show (i : Int) ≤ (secN l : Int) - 1; omega
  · show (bodyF l i).length ≤ 40; rw [part_length]; omega
theorem spread_length {p q : Int} {l : List UInt8} (hp : 0 ≤ p) (hpn : p + secN l ≤ 4611686018427387904) (hq : 0 ≤ q ∧ q ≤ 4294967295) (hl : l.length ≤ 2621400) : ∀ i, i ≤ secN l → (spreadN p q l i).length = 64 * i
  | 0, _ => rfl
  | i + 1, h => by
    rw [spreadN_succ, List.length_append, spread_length hp hpn hq hl i (by omega), secV_length (okV_frV hp hpn hq hl (by omega))]
    omega
/-- The sectors of what is spread. -/
theorem spread_sec {p q : Int} {l : List UInt8} (hp : 0 ≤ p) (hpn : p + secN l ≤ 4611686018427387904) (hq : 0 ≤ q ∧ q ≤ 4294967295) (hl : l.length ≤ 2621400) : ∀ m, m ≤ secN l → ∀ i, i < m → ((spreadN p q l m).drop (64 * i)).take 64 = secV (frV p q l i)
  | 0, _, i, hi => by omega
  | m + 1, hm, i, hi => by
    have hlen := spread_length hp hpn hq hl m (by omega)
    have h64 := secV_length (okV_frV hp hpn hq hl (show m < secN l by omega))
    rw [spreadN_succ]
    rcases Nat.lt_or_ge i m with h | h
    · rw [List.drop_append_of_le_length (by omega), List.take_append_of_le_length (by rw [List.length_drop]; omega)]
      exact spread_sec hp hpn hq hl m (by omega) i h
    · obtain rfl : i = m := by omega
      rw [List.drop_left' (by omega), List.take_of_length_le (by omega)]
theorem secN_body (l : List UInt8) : 40 * (secN l - 1) ≤ l.length ∧ l.length ≤ 40 * secN l ∧ 1 ≤ secN l ∧ (secN l ≠ 1 → 40 * (secN l - 1) < l.length) := by unfold secN; split <;> omega
/-- What is spread is gathered. -/
theorem gath_spread {p : Int} {q : Int} {l : List UInt8} {sec : Nat → List UInt8} (hp : 0 ≤ p) (hpn : p + secN l ≤ 4611686018427387904) (hq : 0 ≤ q ∧ q ≤ 4294967295) (hl : l.length ≤ 2621400) (hsec : ∀ i, i < secN l → sec i = secV (frV p q l i)) :
    ∀ (m i : Nat) (q1 k1 : Int), m + i = secN l → 0 < m → (i ≠ 0 → q1 = q ∧ k1 = secN l) → gathN p sec m i q1 k1 (l.take (40 * i)) = (secN l, l, (secN l : Int), 0)
  | 0, i, _, _, _, h, _ => by omega
  | m + 1, i, q1, k1, hmi, _, hqk => by
    have hi : i < secN l := by omega
    have hok := okV_frV hp hpn hq hl hi
    have hg : getF (sec i) = (frV p q l i, 0) := by rw [hsec i hi]; exact get_put hok
    have hq' : qG i q1 (frV p q l i) = q := by
      unfold qG; split
      · rfl
      · rename_i h; exact (hqk h).1
    have hk' : kG i k1 (frV p q l i) = secN l := by
      unfold kG; split
      · rfl
      · rename_i h; exact (hqk h).2
    obtain ⟨b1, b2, b3, b4⟩ := secN_body l
    have hpl := part_length l i
    have ht : takeE p i q1 k1 (sec i) = 0 := by
      refine takeE_ok (by rw [hg]) ?_
      rw [hg]
      show ¬ badG p i (qG i q1 (frV p q l i)) (kG i k1 (frV p q l i)) (frV p q l i)
      rw [hq', hk']
      unfold badG
      show ¬ (((i : Int) + 1 < (secN l : Int) ∧ ((bodyF l i).length : Int) < 40) ∨ (0 < (i : Int) ∧ ((bodyF l i).length : Int) = 0) ∨ p + (i : Int) ≠ p + (i : Int) ∨ (i : Int) ≠ (i : Int) ∨ q ≠ q ∨ (secN l : Int) ≠ (secN l : Int))
      rw [hpl]
      rintro (⟨h1, h2⟩ | ⟨h1, h2⟩ | h | h | h | h)
      · omega
      · have := b4 (by omega); omega
      · exact h rfl
      · exact h rfl
      · exact h rfl
      · exact h rfl
    have hbody : l.take (40 * i) ++ bodyF l i = l.take (40 * (i + 1)) := by rw [show 40 * (i + 1) = 40 * i + 40 by omega, List.take_add]; rfl
    by_cases hlast : i + 1 = secN l
    · rw [gathN_last ht (by rw [hg]; show (i : Int) + 1 = kG i k1 (frV p q l i); rw [hk']; omega), hg]
      show (i + 1, l.take (40 * i) ++ bodyF l i, (i : Int) + 1, (0 : Int)) = _
      rw [hbody, List.take_of_length_le (by omega), hlast, show (i : Int) + 1 = (secN l : Int) by omega]
    · rw [gathN_next ht (by rw [hg]; show ¬ (i : Int) + 1 = kG i k1 (frV p q l i); rw [hk']; omega), hg]
      show gathN p sec m (i + 1) (qG i q1 (frV p q l i)) (kG i k1 (frV p q l i)) (l.take (40 * i) ++ bodyF l i) = _
      rw [hbody, hq', hk']
      exact gath_spread hp hpn hq hl hsec m (i + 1) q (secN l) (by omega) (by omega) (fun _ => ⟨rfl, rfl⟩)
end Brv.Frame
namespace Brv.Frame
theorem part_eq (l : List UInt8) (i : Nat) : (l.drop (40 * i)).take (bodyF l i).length = bodyF l i := by
  unfold bodyF
  rw [List.length_take, List.take_eq_take_iff]
  omega
end Brv.Frame
namespace Brv.Frame
open Go Brv Brv.Crc Brv.Pack
theorem takeE_zero {lsn : Int} {at' : Nat} {q k : Int} {l : List UInt8} (h : takeE lsn at' q k l = 0) : (getF l).2 = 0 ∧ (getF l).1.2.2.2.2.length ≤ 40 := by
  by_cases h0 : (getF l).2 = 0
  · exact ⟨h0, (getF_ok h0).1.2.2.2.2⟩
  · rw [takeE_err h0] at h; exact absurd h h0
end Brv.Frame
namespace Brv.Frame
open Go Brv Brv.Crc Brv.Pack
/-- A sector laid over another one. -/
def overL (l : List UInt8) (o : Nat) (s : List UInt8) : List UInt8 := l.take o ++ s ++ l.drop (o + s.length)
theorem overL_length {l s : List UInt8} {o : Nat} (h : o + s.length ≤ l.length) : (overL l o s).length = l.length := by simp [overL]; omega
theorem over_sec {l s : List UInt8} {i j : Nat} (hs : s.length = 64) (h : 64 * i + 64 ≤ l.length) : ((overL l (64 * i) s).drop (64 * j)).take 64 = if j = i then s else (l.drop (64 * j)).take 64 := by
  refine List.ext_getElem? (fun n => ?_)
  rw [List.getElem?_take]
  by_cases hn : n < 64
  · rw [if_pos hn, List.getElem?_drop]
    have e : (overL l (64 * i) s)[64 * j + n]? = if 64 * j + n < 64 * i then l[64 * j + n]? else if 64 * j + n < 64 * i + 64 then s[64 * j + n - 64 * i]? else l[64 * j + n]? := by
      unfold overL
      rw [List.append_assoc]
      split
      · rename_i h1
        rw [List.getElem?_append_left (by rw [List.length_take]; omega), List.getElem?_take, if_pos h1]
      · rename_i h1
        rw [List.getElem?_append_right (by rw [List.length_take]; omega), List.length_take, Nat.min_eq_left (by omega)]
        split
        · rw [List.getElem?_append_left (by omega)]
        · rw [List.getElem?_append_right (by omega), List.getElem?_drop, hs]
          congr 1
          omega
    rw [e]
    by_cases hj : j = i
    · subst hj
      rw [if_neg (by omega), if_pos (by omega), if_pos rfl]
      congr 1
      omega
    · rw [if_neg hj, List.getElem?_take, if_pos hn, List.getElem?_drop]
      split
      · rfl
      · rw [if_neg (by omega)]
  · rw [if_neg hn]
    split
    · rw [List.getElem?_eq_none (by omega)]
    · rw [List.getElem?_take, if_neg hn]
/-- A sector of another epoch among them: they aren't gathered, unless it is the only one. -/
theorem gath_mixed {p q q' : Int} {l : List UInt8} {sec : Nat → List UInt8} {i : Nat} (hp : 0 ≤ p) (hpn : p + secN l ≤ 4611686018427387904) (hq : 0 ≤ q ∧ q ≤ 4294967295) (hq' : 0 ≤ q' ∧ q' ≤ 4294967295) (hne : q' ≠ q) (hl : l.length ≤ 2621400) (h2 : 2 ≤ secN l) (hi : i < secN l)
    (hsec : ∀ j, j < secN l → sec j = secV (frV p (if j = i then q' else q) l j)) :
    ∀ (m j : Nat) (q1 k1 : Int) (body : List UInt8), m + j = secN l → 0 < m → (j = 0 ∨ (j = 1 ∧ i = 0 ∧ q1 = q' ∧ k1 = secN l) ∨ (0 < j ∧ j ≤ i ∧ q1 = q ∧ k1 = secN l)) → (gathN p sec m j q1 k1 body).2.2.2 = 20
  | 0, j, _, _, _, _, h, _ => by omega
  | m + 1, j, q1, k1, body, hmj, _, hst => by
    have hj : j < secN l := by omega
    have hok : okV (frV p (if j = i then q' else q) l j) := by
      split
      · exact okV_frV hp hpn hq' hl hj
      · exact okV_frV hp hpn hq hl hj
    have hg : getF (sec j) = (frV p (if j = i then q' else q) l j, 0) := by rw [hsec j hj]; exact get_put hok
    by_cases hbad : badG p j (qG j q1 (getF (sec j)).1) (kG j k1 (getF (sec j)).1) (getF (sec j)).1
    · have ht := takeE_bad (lsn := p) (at' := j) (q := q1) (k := k1) (l := sec j) (by rw [hg]) hbad
      rw [gathN_err (by rw [ht]; decide), ht]
    · have ht := takeE_ok (lsn := p) (at' := j) (q := q1) (k := k1) (l := sec j) (by rw [hg]) hbad
      rw [hg] at hbad
      have hk1 : kG j k1 (frV p (if j = i then q' else q) l j) = (secN l : Int) := by
        unfold kG
        split
        · rfl
        · rename_i h0
          rcases hst with h | ⟨_, _, _, h⟩ | ⟨_, _, _, h⟩
          · exact absurd h h0
          · exact h
          · exact h
      have hqq : qG j q1 (frV p (if j = i then q' else q) l j) = (if j = i then q' else q) := by
        refine Classical.byContradiction fun h => hbad ?_
        refine .inr (.inr (.inr (.inr (.inl ?_))))
        exact fun e => h e.symm
      have hlt : ¬ ((j : Int) + 1) = kG j k1 (getF (sec j)).1 := by
        rw [hg]
        show ¬ ((j : Int) + 1) = kG j k1 (frV p (if j = i then q' else q) l j)
        rw [hk1]
        intro he
        rcases hst with h | ⟨h1, h3, h4, _⟩ | ⟨h1, h3, h4, _⟩
        · omega
        · have hz : j ≠ 0 := by omega
          unfold qG at hqq
          rw [if_neg hz, if_neg (by omega), h4] at hqq
          exact hne hqq
        · have hz : j ≠ 0 := by omega
          have hji : j = i := by omega
          unfold qG at hqq
          rw [if_neg hz, if_pos hji, h4] at hqq
          exact hne hqq.symm
      rw [gathN_next ht hlt, hg]
      show (gathN p sec m (j + 1) (qG j q1 (frV p (if j = i then q' else q) l j)) (kG j k1 (frV p (if j = i then q' else q) l j)) _).2.2.2 = 20
      rw [hk1, hqq]
      refine gath_mixed hp hpn hq hq' hne hl h2 hi hsec m (j + 1) _ _ _ (by omega) (by rw [hg] at hlt; have hh : ¬ ((j : Int) + 1) = kG j k1 (frV p (if j = i then q' else q) l j) := hlt; rw [hk1] at hh; omega) ?_
      rcases hst with h | ⟨h1, h3, h4, _⟩ | ⟨h1, h3, h4, _⟩
      · by_cases hi0 : i = 0
        · exact .inr (.inl ⟨by omega, hi0, if_pos (by omega), rfl⟩)
        · exact .inr (.inr ⟨by omega, by omega, if_neg (by omega), rfl⟩)
      · have hz : j ≠ 0 := by omega
        unfold qG at hqq
        rw [if_neg hz, if_neg (by omega), h4] at hqq
        exact absurd hqq hne
      · have hz : j ≠ 0 := by omega
        by_cases hji : j = i
        · unfold qG at hqq
          rw [if_neg hz, if_pos hji, h4] at hqq
          exact absurd hqq.symm hne
        · exact .inr (.inr ⟨by omega, by omega, if_neg hji, rfl⟩)
end Brv.Frame
