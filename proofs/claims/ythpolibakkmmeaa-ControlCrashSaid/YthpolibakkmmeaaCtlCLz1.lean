/-
  Texts of this claim, put together.
-/
import Derived.ProofKit
import Derived.OpenShut
import Derived.ShutString
import Derived.ChangeOld
import Derived.SizedLaws
import Derived.Lib.MakeNoZero
import Derived.Laws.Externs
import Derived.RangeFuncSeq
import Derived.Stop.BytesEq
import Derived.Laws.Cover3
import Derived.ChangeKeysEq
import Derived.Test.YthpolibakkmmeaaProg
import Derived.Test.YthpolibakkmmeaaChecked
import Derived.Test.YthpolibakkmmeaaCtlCLz0
/-
  Plain laws on package frame: what a sector tells, that a frame is told again, bodies over sectors.
-/
set_option linter.unusedVariables false
namespace Brv.Frame
open Go Brv Brv.Crc Brv.Pack

abbrev FrV := Int × Int × Int × Int × List UInt8
def okV (f : FrV) : Prop := okFrame f.1 f.2.1 f.2.2.1 f.2.2.2.1 f.2.2.2.2
instance (f : FrV) : Decidable (okV f) := by unfold okV; infer_instance
def secV (f : FrV) : List UInt8 := frameF f.1 f.2.1 f.2.2.1 f.2.2.2.1 f.2.2.2.2
def putV (f : FrV) : List UInt8 := if okV f then secV f else []
def zeroV : FrV := (0, 0, 0, 0, [])
/-- What a scan reads behind the magic number. -/
def parse (l : List UInt8) : FrV × Int :=
  let a := numF l 0 8
  let b := numF a.2.1 a.2.2 4
  let c := numF b.2.1 b.2.2 2
  let d := numF c.2.1 c.2.2 2
  let t := txtF d.2.1 d.2.2 40
  (((a.1 : Int), (b.1 : Int), (c.1 : Int), (d.1 : Int), t.1), t.2.2)
/-- The frame of a sector; the error. -/
def getF (l : List UInt8) : FrV × Int :=
  if l.length = 64 ∧ num (l.take 2) = 46878 then
    (if goodF l = true then (if (parse (l.drop 2)).2 = 0 ∧ putV (parse (l.drop 2)).1 = l then ((parse (l.drop 2)).1, 0) else (zeroV, 20)) else (zeroV, 21))
  else (zeroV, 20)
theorem getF_size {l : List UInt8} (h : ¬ (l.length = 64 ∧ num (l.take 2) = 46878)) : getF l = (zeroV, 20) := if_neg h
theorem getF_sum {l : List UInt8} (h : l.length = 64 ∧ num (l.take 2) = 46878) (hg : goodF l = false) : getF l = (zeroV, 21) := by
  unfold getF; rw [if_pos h, if_neg (by rw [hg]; simp)]
theorem getF_form {l : List UInt8} (h : l.length = 64 ∧ num (l.take 2) = 46878) (hg : goodF l = true) (hf : ¬ ((parse (l.drop 2)).2 = 0 ∧ putV (parse (l.drop 2)).1 = l)) : getF l = (zeroV, 20) := by
  unfold getF; rw [if_pos h, if_pos hg, if_neg hf]
theorem getF_yes {l : List UInt8} (h : l.length = 64 ∧ num (l.take 2) = 46878) (hg : goodF l = true) (hf : (parse (l.drop 2)).2 = 0 ∧ putV (parse (l.drop 2)).1 = l) : getF l = ((parse (l.drop 2)).1, 0) := by
  unfold getF; rw [if_pos h, if_pos hg, if_pos hf]
theorem getF_ok {l : List UInt8} (h : (getF l).2 = 0) : okV (getF l).1 ∧ secV (getF l).1 = l := by
  by_cases h1 : l.length = 64 ∧ num (l.take 2) = 46878
  · cases hg : goodF l with
    | false => rw [getF_sum h1 hg] at h; cases h
    | true =>
      by_cases hf : (parse (l.drop 2)).2 = 0 ∧ putV (parse (l.drop 2)).1 = l
      · rw [getF_yes h1 hg hf]
        have := hf.2
        unfold putV at this
        split at this
        · rename_i hok; exact ⟨hok, this⟩
        · rw [← this] at h1; simp at h1
      · rw [getF_form h1 hg hf] at h; cases h
  · rw [getF_size h1] at h; cases h

theorem numF_be {y x : Nat} {r : List UInt8} (h1 : 1 ≤ y) (h8 : y ≤ 8) (hx : x < 256 ^ y) (h63 : y = 8 → x < 9223372036854775808) : numF (be y x ++ r) 0 (y : Int) = (x, r, 0) := by
  have hl := be_length y x
  have ok : okN (be y x ++ r) (y : Int) := by
    refine ⟨by omega, by omega, by rw [List.length_append, hl]; omega, fun e => ?_⟩
    obtain rfl : y = 8 := by omega
    have h0 := be_get 8 x 0 (by decide)
    have hx8 := h63 rfl
    rw [List.getD_eq_getElem?_getD, List.getElem?_append_left (by rw [hl]; decide), h0]
    show (UInt8.ofNat (x / 72057594037927936 % 256)).toNat < 128
    have : x / 72057594037927936 < 128 := by omega
    rw [UInt8.toNat_ofNat']
    omega
  rw [numF_ok ok, Int.toNat_natCast, List.take_left' hl, List.drop_left' hl, num_be y x hx]
theorem txtF_text {l r : List UInt8} {most : Int} (h : (l.length : Int) ≤ most) (h2 : l.length < 65536) : txtF (textF l ++ r) 0 most = (l, r, 0) := by
  have hl := be_length 2 l.length
  have e : textF l ++ r = be 2 l.length ++ (l ++ r) := by simp [textF]
  have hn : num ((textF l ++ r).take 2) = l.length := by rw [e, List.take_left' hl, num_be 2 _ h2]
  have hd : (textF l ++ r).drop 2 = l ++ r := by rw [e, List.drop_left' hl]
  have ok : okT (textF l ++ r) most := by
    refine ⟨by rw [e, List.length_append, hl]; omega, by rw [hn]; exact h, ?_⟩
    rw [hn, e, List.length_append, List.length_append, hl]; omega
  unfold txtF
  rw [if_pos rfl, if_pos ok, hn, hd, List.take_left' rfl, List.drop_left' rfl]
theorem frame_split {p q i k : Int} {l : List UInt8} (h : l.length ≤ 40) : ∃ R, frameF p q i k l = [0xb7, 0x1e] ++ (be 8 p.toNat ++ (be 4 q.toNat ++ (be 2 i.toNat ++ (be 2 k.toNat ++ (textF l ++ R))))) := by
  have hP := frame_pad p q i k l h
  have hB := frameB_length p q i k l
  unfold frameF
  have e : ([0xb7, 0x1e] ++ be 8 p.toNat ++ be 4 q.toNat ++ be 2 i.toNat ++ be 2 k.toNat ++ textF l) = frameB p q i k l := rfl
  rw [e]
  unfold markF
  rw [if_neg (by omega), hP]
  have e2 : padF 64 (frameB p q i k l) = frameB p q i k l ++ List.replicate (padN (64 : Int).toNat (frameB p q i k l).length) 0 := by unfold padF; rw [if_neg (by decide)]
  rw [e2, List.take_append, List.take_of_length_le (by omega)]
  refine ⟨List.take (64 - 4 - (frameB p q i k l).length) (List.replicate (padN (64 : Int).toNat (frameB p q i k l).length) 0) ++ fourF (joinF 0 (frameB p q i k l ++ List.take (64 - 4 - (frameB p q i k l).length) (List.replicate (padN (64 : Int).toNat (frameB p q i k l).length) 0))), ?_⟩
  conv => lhs; rw [show frameB p q i k l ++ List.take (64 - 4 - (frameB p q i k l).length) (List.replicate (padN (64 : Int).toNat (frameB p q i k l).length) 0) ++ fourF _ = frameB p q i k l ++ (List.take (64 - 4 - (frameB p q i k l).length) (List.replicate (padN (64 : Int).toNat (frameB p q i k l).length) 0) ++ fourF _) from List.append_assoc ..]
  simp only [frameB, List.append_assoc, List.cons_append, List.nil_append]
theorem secV_length {f : FrV} (h : okV f) : (secV f).length = 64 := by
  obtain ⟨p, q, i, k, l⟩ := f
  show (frameF p q i k l).length = 64
  unfold frameF
  rw [markF_length]
  exact frame_pad p q i k l h.2.2.2.2
theorem putV_le (f : FrV) : (putV f).length ≤ 64 := by
  unfold putV
  split
  · rename_i h; rw [secV_length h]; exact Nat.le_refl _
  · simp
theorem toNat_cast {x : Int} (h : 0 ≤ x) : ((x.toNat : Nat) : Int) = x := by omega
/-- A right frame is got as it was put. -/
theorem get_put {f : FrV} (h : okV f) : getF (secV f) = (f, 0) := by
  have hlen := secV_length h
  obtain ⟨p, q, i, k, l⟩ := f
  have hok := h
  obtain ⟨⟨o1, o2⟩, ⟨o3, o4⟩, ⟨o5, o6⟩, ⟨o7, o8⟩, o9⟩ := h
  dsimp only at o1 o2 o3 o4 o5 o6 o7 o8 o9
  obtain ⟨R, hR⟩ := frame_split (p := p) (q := q) (i := i) (k := k) o9
  have hs : secV (p, q, i, k, l) = _ := hR
  have hg : goodF (secV (p, q, i, k, l)) = true := by
    show goodF (frameF p q i k l) = true
    unfold frameF
    exact good_mark (by have := frame_pad p q i k l o9; unfold frameB at this; omega)
  have hp : parse ((secV (p, q, i, k, l)).drop 2) = ((p, q, i, k, l), 0) := by
    rw [hs]
    show parse (be 8 p.toNat ++ (be 4 q.toNat ++ (be 2 i.toNat ++ (be 2 k.toNat ++ (textF l ++ R))))) = _
    have n1 := numF_be (y := 8) (x := p.toNat) (r := be 4 q.toNat ++ (be 2 i.toNat ++ (be 2 k.toNat ++ (textF l ++ R)))) (by decide) (by decide) (show p.toNat < 18446744073709551616 by omega) (fun _ => by omega)
    have n2 := numF_be (y := 4) (x := q.toNat) (r := be 2 i.toNat ++ (be 2 k.toNat ++ (textF l ++ R))) (by decide) (by decide) (show q.toNat < 4294967296 by omega) (fun e => by cases e)
    have n3 := numF_be (y := 2) (x := i.toNat) (r := be 2 k.toNat ++ (textF l ++ R)) (by decide) (by decide) (show i.toNat < 65536 by omega) (fun e => by cases e)
    have n4 := numF_be (y := 2) (x := k.toNat) (r := textF l ++ R) (by decide) (by decide) (show k.toNat < 65536 by omega) (fun e => by cases e)
    have n5 := txtF_text (l := l) (r := R) (most := 40) (by omega) (by omega)
    unfold parse
    simp only [show ((8 : Nat) : Int) = 8 from rfl, show ((4 : Nat) : Int) = 4 from rfl, show ((2 : Nat) : Int) = 2 from rfl] at n1 n2 n3 n4
    rw [n1]
    dsimp only
    rw [n2]
    dsimp only
    rw [n3]
    dsimp only
    rw [n4]
    dsimp only
    rw [n5, toNat_cast o1, toNat_cast o3, toNat_cast o7, toNat_cast (by omega)]
  have h1 : (secV (p, q, i, k, l)).length = 64 ∧ num ((secV (p, q, i, k, l)).take 2) = 46878 := ⟨hlen, by rw [hs]; rfl⟩
  have h2 := getF_yes h1 hg (by rw [hp]; exact ⟨rfl, if_pos hok⟩)
  rw [h2, hp]
theorem secV_inj {f g : FrV} (hf : okV f) (hg : okV g) : secV f = secV g ↔ f = g := by
  constructor
  · intro e
    have h1 := get_put hf
    have h2 := get_put hg
    rw [e, h2] at h1
    exact (Prod.mk.inj h1).1.symm
  · intro e; rw [e]
theorem numF_lt (l : List UInt8) (e y : Int) : (numF l e y).1 < 9223372036854775808 := by
  unfold numF
  split
  · split
    · rename_i h; exact okN_lt h
    · show 0 < _; decide
  · show 0 < _; decide
theorem num_two (l : List UInt8) : num (l.take 2) < 65536 := by
  have := num_lt (l.take 2)
  have h2 : (l.take 2).length ≤ 2 := by rw [List.length_take]; omega
  exact Nat.lt_of_lt_of_le this (Nat.le_trans (Nat.pow_le_pow_right (by decide) h2) (by decide))
theorem num_two_eq {l : List UInt8} (h : 2 ≤ l.length) : num (l.take 2) = 46878 ↔ l[0] = 183 ∧ l[1] = 30 := by
  match l, h with
  | x :: y :: r, _ =>
    have hx := x.toNat_lt
    have hy := y.toNat_lt
    show num [x, y] = 46878 ↔ x = 183 ∧ y = 30
    have e : num [x, y] = 256 * x.toNat + y.toNat := by simp [num]
    rw [e]
    constructor
    · intro h
      exact ⟨UInt8.toNat_inj.1 (show x.toNat = 183 by omega), UInt8.toNat_inj.1 (show y.toNat = 30 by omega)⟩
    · rintro ⟨rfl, rfl⟩; rfl
theorem txtF_most (l : List UInt8) (e : Int) : (txtF l e 40).1.length ≤ 40 := by
  unfold txtF
  split
  · split
    · rename_i h
      rw [List.length_take]
      have := h.2.1
      omega
    · simp
  · simp

/-! ## Bodies over sectors -/
/-- The i-th part of a body. -/
def bodyF (l : List UInt8) (i : Nat) : List UInt8 := (l.drop (40 * i)).take 40
def secN (l : List UInt8) : Nat := if l.length ≤ 40 then 1 else (l.length + 39) / 40
def frV (p q : Int) (l : List UInt8) (i : Nat) : FrV := (p + i, q, i, secN l, bodyF l i)
def spreadN (p q : Int) (l : List UInt8) (i : Nat) : List UInt8 := ((List.range i).map (fun j => secV (frV p q l j))).flatten
theorem spreadN_succ (p q : Int) (l : List UInt8) (i : Nat) : spreadN p q l (i + 1) = spreadN p q l i ++ secV (frV p q l i) := by
  simp [spreadN, List.range_succ]
theorem part_length (l : List UInt8) (i : Nat) : (bodyF l i).length = min 40 (l.length - 40 * i) := by simp [bodyF]
theorem parts_join (l : List UInt8) (i : Nat) : ((List.range i).map (bodyF l)).flatten = l.take (40 * i) := by
  induction i with
  | zero => simp
  | succ i ih =>
    rw [List.range_succ, List.map_append, List.flatten_append, ih]
    simp only [List.map_cons, List.map_nil, List.flatten_cons, List.flatten_nil, List.append_nil, bodyF]
    rw [show 40 * (i + 1) = 40 * i + 40 by omega, List.take_add]
end Brv.Frame
namespace Brv.Frame
open Go Brv Brv.Crc Brv.Pack
/-! ## Gathering -/
def badG (lsn : Int) (at' : Nat) (q k : Int) (f : FrV) : Prop := (f.2.2.1 + 1 < f.2.2.2.1 ∧ (f.2.2.2.2.length : Int) < 40) ∨ (0 < f.2.2.1 ∧ (f.2.2.2.2.length : Int) = 0) ∨ f.1 ≠ lsn + at' ∨ f.2.2.1 ≠ at' ∨ f.2.1 ≠ q ∨ f.2.2.2.1 ≠ k
instance (lsn : Int) (at' : Nat) (q k : Int) (f : FrV) : Decidable (badG lsn at' q k f) := by unfold badG; infer_instance
def qG (at' : Nat) (q : Int) (f : FrV) : Int := if at' = 0 then f.2.1 else q
def kG (at' : Nat) (k : Int) (f : FrV) : Int := if at' = 0 then f.2.2.2.1 else k
def takeE (lsn : Int) (at' : Nat) (q k : Int) (l : List UInt8) : Int := if (getF l).2 ≠ 0 then (getF l).2 else if badG lsn at' (qG at' q (getF l).1) (kG at' k (getF l).1) (getF l).1 then 20 else 0
theorem takeE_err {lsn : Int} {at' : Nat} {q k : Int} {l : List UInt8} (h : (getF l).2 ≠ 0) : takeE lsn at' q k l = (getF l).2 := if_pos h
theorem takeE_bad {lsn : Int} {at' : Nat} {q k : Int} {l : List UInt8} (h : (getF l).2 = 0) (hb : badG lsn at' (qG at' q (getF l).1) (kG at' k (getF l).1) (getF l).1) : takeE lsn at' q k l = 20 := by unfold takeE; rw [if_neg (by simp [h]), if_pos hb]
theorem takeE_ok {lsn : Int} {at' : Nat} {q k : Int} {l : List UInt8} (h : (getF l).2 = 0) (hb : ¬ badG lsn at' (qG at' q (getF l).1) (kG at' k (getF l).1) (getF l).1) : takeE lsn at' q k l = 0 := by unfold takeE; rw [if_neg (by simp [h]), if_neg hb]
/-- How many sectors are asked for; the body, how many, the error. -/
def gathN (lsn : Int) (sec : Nat → List UInt8) : Nat → Nat → Int → Int → List UInt8 → Nat × List UInt8 × Int × Int
  | 0, i, _, _, _ => (i, [], 0, 20)
  | m + 1, i, q, k, body => if takeE lsn i q k (sec i) ≠ 0 then (i + 1, [], 0, takeE lsn i q k (sec i))
      else if ((i : Int) + 1) = kG i k (getF (sec i)).1 then (i + 1, body ++ (getF (sec i)).1.2.2.2.2, (i : Int) + 1, 0)
      else gathN lsn sec m (i + 1) (qG i q (getF (sec i)).1) (kG i k (getF (sec i)).1) (body ++ (getF (sec i)).1.2.2.2.2)
theorem gathN_err {lsn : Int} {sec : Nat → List UInt8} {m i : Nat} {q k : Int} {body : List UInt8} (h : takeE lsn i q k (sec i) ≠ 0) : gathN lsn sec (m + 1) i q k body = (i + 1, [], 0, takeE lsn i q k (sec i)) := by unfold gathN; rw [if_pos h]
theorem gathN_last {lsn : Int} {sec : Nat → List UInt8} {m i : Nat} {q k : Int} {body : List UInt8} (h : takeE lsn i q k (sec i) = 0) (h2 : ((i : Int) + 1) = kG i k (getF (sec i)).1) : gathN lsn sec (m + 1) i q k body = (i + 1, body ++ (getF (sec i)).1.2.2.2.2, (i : Int) + 1, 0) := by unfold gathN; rw [if_neg (by simp [h]), if_pos h2]
theorem gathN_next {lsn : Int} {sec : Nat → List UInt8} {m i : Nat} {q k : Int} {body : List UInt8} (h : takeE lsn i q k (sec i) = 0) (h2 : ¬ ((i : Int) + 1) = kG i k (getF (sec i)).1) :
    gathN lsn sec (m + 1) i q k body = gathN lsn sec m (i + 1) (qG i q (getF (sec i)).1) (kG i k (getF (sec i)).1) (body ++ (getF (sec i)).1.2.2.2.2) := by conv => lhs; unfold gathN; rw [if_neg (by simp [h]), if_neg h2]
theorem okV_frV {p q : Int} {l : List UInt8} {i : Nat} (hp : 0 ≤ p) (hpn : p + secN l ≤ 4611686018427387904) (hq : 0 ≤ q ∧ q ≤ 4294967295) (hl : l.length ≤ 2621400) (hi : i < secN l) : okV (frV p q l i) := by
  have hs : secN l ≤ 65535 := by unfold secN; split <;> omega
  refine ⟨⟨?_, ?_⟩, hq, ⟨?_, ?_⟩, ⟨?_, ?_⟩, ?_⟩
  · show 0 ≤ p + (i : Int); omega
  · show p + (i : Int) ≤ _; omega
  · show 1 ≤ (secN l : Int); omega
  · show (secN l : Int) ≤ _; omega
  · show 0 ≤ (i : Int); omega
  · show (i : Int) ≤ (secN l : Int) - 1; omega
  · show (bodyF l i).length ≤ 40; rw [part_length]; omega
theorem spread_length {p q : Int} {l : List UInt8} (hp : 0 ≤ p) (hpn : p + secN l ≤ 4611686018427387904) (hq : 0 ≤ q ∧ q ≤ 4294967295) (hl : l.length ≤ 2621400) : ∀ i, i ≤ secN l → (spreadN p q l i).length = 64 * i
  | 0, _ => rfl
  | i + 1, h => by
    rw [spreadN_succ, List.length_append, spread_length hp hpn hq hl i (by omega), secV_length (okV_frV hp hpn hq hl (by omega))]
    omega
/-- The sectors of what is spread. -/
theorem spread_sec {p q : Int} {l : List UInt8} (hp : 0 ≤ p) (hpn : p + secN l ≤ 4611686018427387904) (hq : 0 ≤ q ∧ q ≤ 4294967295) (hl : l.length ≤ 2621400) : ∀ m, m ≤ secN l → ∀ i, i < m → ((spreadN p q l m).drop (64 * i)).take 64 = secV (frV p q l i)
  | 0, _, i, hi => by omega
  | m + 1, hm, i, hi => by
    have hlen := spread_length hp hpn hq hl m (by omega)
    have h64 := secV_length (okV_frV hp hpn hq hl (show m < secN l by omega))
    rw [spreadN_succ]
    rcases Nat.lt_or_ge i m with h | h
    · rw [List.drop_append_of_le_length (by omega), List.take_append_of_le_length (by rw [List.length_drop]; omega)]
      exact spread_sec hp hpn hq hl m (by omega) i h
    · obtain rfl : i = m := by omega
      rw [List.drop_left' (by omega), List.take_of_length_le (by omega)]
theorem secN_body (l : List UInt8) : 40 * (secN l - 1) ≤ l.length ∧ l.length ≤ 40 * secN l ∧ 1 ≤ secN l ∧ (secN l ≠ 1 → 40 * (secN l - 1) < l.length) := by unfold secN; split <;> omega
/-- What is spread is gathered. -/
theorem gath_spread {p : Int} {q : Int} {l : List UInt8} {sec : Nat → List UInt8} (hp : 0 ≤ p) (hpn : p + secN l ≤ 4611686018427387904) (hq : 0 ≤ q ∧ q ≤ 4294967295) (hl : l.length ≤ 2621400) (hsec : ∀ i, i < secN l → sec i = secV (frV p q l i)) :
    ∀ (m i : Nat) (q1 k1 : Int), m + i = secN l → 0 < m → (i ≠ 0 → q1 = q ∧ k1 = secN l) → gathN p sec m i q1 k1 (l.take (40 * i)) = (secN l, l, (secN l : Int), 0)
  | 0, i, _, _, _, h, _ => by omega
  | m + 1, i, q1, k1, hmi, _, hqk => by
    have hi : i < secN l := by omega
    have hok := okV_frV hp hpn hq hl hi
    have hg : getF (sec i) = (frV p q l i, 0) := by rw [hsec i hi]; exact get_put hok
    have hq' : qG i q1 (frV p q l i) = q := by
      unfold qG; split
      · rfl
      · rename_i h; exact (hqk h).1
    have hk' : kG i k1 (frV p q l i) = secN l := by
      unfold kG; split
      · rfl
      · rename_i h; exact (hqk h).2
    obtain ⟨b1, b2, b3, b4⟩ := secN_body l
    have hpl := part_length l i
    have ht : takeE p i q1 k1 (sec i) = 0 := by
      refine takeE_ok (by rw [hg]) ?_
      rw [hg]
      show ¬ badG p i (qG i q1 (frV p q l i)) (kG i k1 (frV p q l i)) (frV p q l i)
      rw [hq', hk']
      unfold badG
      show ¬ (((i : Int) + 1 < (secN l : Int) ∧ ((bodyF l i).length : Int) < 40) ∨ (0 < (i : Int) ∧ ((bodyF l i).length : Int) = 0) ∨ p + (i : Int) ≠ p + (i : Int) ∨ (i : Int) ≠ (i : Int) ∨ q ≠ q ∨ (secN l : Int) ≠ (secN l : Int))
      rw [hpl]
      rintro (⟨h1, h2⟩ | ⟨h1, h2⟩ | h | h | h | h)
      · omega
      · have := b4 (by omega); omega
      · exact h rfl
      · exact h rfl
      · exact h rfl
      · exact h rfl
    have hbody : l.take (40 * i) ++ bodyF l i = l.take (40 * (i + 1)) := by rw [show 40 * (i + 1) = 40 * i + 40 by omega, List.take_add]; rfl
    by_cases hlast : i + 1 = secN l
    · rw [gathN_last ht (by rw [hg]; show (i : Int) + 1 = kG i k1 (frV p q l i); rw [hk']; omega), hg]
      show (i + 1, l.take (40 * i) ++ bodyF l i, (i : Int) + 1, (0 : Int)) = _
      rw [hbody, List.take_of_length_le (by omega), hlast, show (i : Int) + 1 = (secN l : Int) by omega]
    · rw [gathN_next ht (by rw [hg]; show ¬ (i : Int) + 1 = kG i k1 (frV p q l i); rw [hk']; omega), hg]
      show gathN p sec m (i + 1) (qG i q1 (frV p q l i)) (kG i k1 (frV p q l i)) (l.take (40 * i) ++ bodyF l i) = _
      rw [hbody, hq', hk']
      exact gath_spread hp hpn hq hl hsec m (i + 1) q (secN l) (by omega) (by omega) (fun _ => ⟨rfl, rfl⟩)
end Brv.Frame
namespace Brv.Frame
theorem part_eq (l : List UInt8) (i : Nat) : (l.drop (40 * i)).take (bodyF l i).length = bodyF l i := by
  unfold bodyF
  rw [List.length_take, List.take_eq_take_iff]
  omega
end Brv.Frame
namespace Brv.Frame
open Go Brv Brv.Crc Brv.Pack
theorem takeE_zero {lsn : Int} {at' : Nat} {q k : Int} {l : List UInt8} (h : takeE lsn at' q k l = 0) : (getF l).2 = 0 ∧ (getF l).1.2.2.2.2.length ≤ 40 := by
  by_cases h0 : (getF l).2 = 0
  · exact ⟨h0, (getF_ok h0).1.2.2.2.2⟩
  · rw [takeE_err h0] at h; exact absurd h h0
end Brv.Frame
namespace Brv.Frame
open Go Brv Brv.Crc Brv.Pack
/-- A sector laid over another one. -/
def overL (l : List UInt8) (o : Nat) (s : List UInt8) : List UInt8 := l.take o ++ s ++ l.drop (o + s.length)
theorem overL_length {l s : List UInt8} {o : Nat} (h : o + s.length ≤ l.length) : (overL l o s).length = l.length := by simp [overL]; omega
theorem over_sec {l s : List UInt8} {i j : Nat} (hs : s.length = 64) (h : 64 * i + 64 ≤ l.length) : ((overL l (64 * i) s).drop (64 * j)).take 64 = if j = i then s else (l.drop (64 * j)).take 64 := by
  refine List.ext_getElem? (fun n => ?_)
  rw [List.getElem?_take]
  by_cases hn : n < 64
  · rw [if_pos hn, List.getElem?_drop]
    have e : (overL l (64 * i) s)[64 * j + n]? = if 64 * j + n < 64 * i then l[64 * j + n]? else if 64 * j + n < 64 * i + 64 then s[64 * j + n - 64 * i]? else l[64 * j + n]? := by
      unfold overL
      rw [List.append_assoc]
      split
      · rename_i h1
        rw [List.getElem?_append_left (by rw [List.length_take]; omega), List.getElem?_take, if_pos h1]
      · rename_i h1
        rw [List.getElem?_append_right (by rw [List.length_take]; omega), List.length_take, Nat.min_eq_left (by omega)]
        split
        · rw [List.getElem?_append_left (by omega)]
        · rw [List.getElem?_append_right (by omega), List.getElem?_drop, hs]
          congr 1
          omega
    rw [e]
    by_cases hj : j = i
    · subst hj
      rw [if_neg (by omega), if_pos (by omega), if_pos rfl]
      congr 1
      omega
    · rw [if_neg hj, List.getElem?_take, if_pos hn, List.getElem?_drop]
      split
      · rfl
      · rw [if_neg (by omega)]
  · rw [if_neg hn]
    split
    · rw [List.getElem?_eq_none (by omega)]
    · rw [List.getElem?_take, if_neg hn]
/-- A sector of another epoch among them: they aren't gathered, unless it is the only one. -/
theorem gath_mixed {p q q' : Int} {l : List UInt8} {sec : Nat → List UInt8} {i : Nat} (hp : 0 ≤ p) (hpn : p + secN l ≤ 4611686018427387904) (hq : 0 ≤ q ∧ q ≤ 4294967295) (hq' : 0 ≤ q' ∧ q' ≤ 4294967295) (hne : q' ≠ q) (hl : l.length ≤ 2621400) (h2 : 2 ≤ secN l) (hi : i < secN l)
    (hsec : ∀ j, j < secN l → sec j = secV (frV p (if j = i then q' else q) l j)) :
    ∀ (m j : Nat) (q1 k1 : Int) (body : List UInt8), m + j = secN l → 0 < m → (j = 0 ∨ (j = 1 ∧ i = 0 ∧ q1 = q' ∧ k1 = secN l) ∨ (0 < j ∧ j ≤ i ∧ q1 = q ∧ k1 = secN l)) → (gathN p sec m j q1 k1 body).2.2.2 = 20
  | 0, j, _, _, _, _, h, _ => by omega
  | m + 1, j, q1, k1, body, hmj, _, hst => by
    have hj : j < secN l := by omega
    have hok : okV (frV p (if j = i then q' else q) l j) := by
      split
      · exact okV_frV hp hpn hq' hl hj
      · exact okV_frV hp hpn hq hl hj
    have hg : getF (sec j) = (frV p (if j = i then q' else q) l j, 0) := by rw [hsec j hj]; exact get_put hok
    by_cases hbad : badG p j (qG j q1 (getF (sec j)).1) (kG j k1 (getF (sec j)).1) (getF (sec j)).1
    · have ht := takeE_bad (lsn := p) (at' := j) (q := q1) (k := k1) (l := sec j) (by rw [hg]) hbad
      rw [gathN_err (by rw [ht]; decide), ht]
    · have ht := takeE_ok (lsn := p) (at' := j) (q := q1) (k := k1) (l := sec j) (by rw [hg]) hbad
      rw [hg] at hbad
      have hk1 : kG j k1 (frV p (if j = i then q' else q) l j) = (secN l : Int) := by
        unfold kG
        split
        · rfl
        · rename_i h0
          rcases hst with h | ⟨_, _, _, h⟩ | ⟨_, _, _, h⟩
          · exact absurd h h0
          · exact h
          · exact h
      have hqq : qG j q1 (frV p (if j = i then q' else q) l j) = (if j = i then q' else q) := by
        refine Classical.byContradiction fun h => hbad ?_
        refine .inr (.inr (.inr (.inr (.inl ?_))))
        exact fun e => h e.symm
      have hlt : ¬ ((j : Int) + 1) = kG j k1 (getF (sec j)).1 := by
        rw [hg]
        show ¬ ((j : Int) + 1) = kG j k1 (frV p (if j = i then q' else q) l j)
        rw [hk1]
        intro he
        rcases hst with h | ⟨h1, h3, h4, _⟩ | ⟨h1, h3, h4, _⟩
        · omega
        · have hz : j ≠ 0 := by omega
          unfold qG at hqq
          rw [if_neg hz, if_neg (by omega), h4] at hqq
          exact hne hqq
        · have hz : j ≠ 0 := by omega
          have hji : j = i := by omega
          unfold qG at hqq
          rw [if_neg hz, if_pos hji, h4] at hqq
          exact hne hqq.symm
      rw [gathN_next ht hlt, hg]
      show (gathN p sec m (j + 1) (qG j q1 (frV p (if j = i then q' else q) l j)) (kG j k1 (frV p (if j = i then q' else q) l j)) _).2.2.2 = 20
      rw [hk1, hqq]
      refine gath_mixed hp hpn hq hq' hne hl h2 hi hsec m (j + 1) _ _ _ (by omega) (by rw [hg] at hlt; have hh : ¬ ((j : Int) + 1) = kG j k1 (frV p (if j = i then q' else q) l j) := hlt; rw [hk1] at hh; omega) ?_
      rcases hst with h | ⟨h1, h3, h4, _⟩ | ⟨h1, h3, h4, _⟩
      · by_cases hi0 : i = 0
        · exact .inr (.inl ⟨by omega, hi0, if_pos (by omega), rfl⟩)
        · exact .inr (.inr ⟨by omega, by omega, if_neg (by omega), rfl⟩)
      · have hz : j ≠ 0 := by omega
        unfold qG at hqq
        rw [if_neg hz, if_neg (by omega), h4] at hqq
        exact absurd hqq hne
      · have hz : j ≠ 0 := by omega
        by_cases hji : j = i
        · unfold qG at hqq
          rw [if_neg hz, if_pos hji, h4] at hqq
          exact absurd hqq.symm hne
        · exact .inr (.inr ⟨by omega, by omega, if_neg hji, rfl⟩)
end Brv.Frame
/-
  Things that grow: how the blocks of a thing change, and slices that are held.
-/
set_option linter.unusedVariables false
namespace Brv
open Go

/-- A thing of the blocks S becomes one of the blocks S'. -/
def Grown (S S' : List Nat) (w w' : World) : Prop := Ext S w w' ∧ ∀ g ∈ S', g ∈ S ∨ w.heap.size ≤ g
theorem Grown.refl (S : List Nat) (w : World) : Grown S S w w := ⟨Ext.refl _ _, fun _ h => .inl h⟩
theorem Grown.trans {S S₁ S₂ : List Nat} {a b c : World} (h : Grown S S₁ a b) (k : Grown S₁ S₂ b c) : Grown S S₂ a c := by
  refine ⟨h.1.transN k.1 h.2, fun g hg => ?_⟩
  rcases k.2 g hg with hg | hg
  · exact h.2 g hg
  · exact .inr (Nat.le_trans h.1.size hg)
theorem Grown.then0 {S S' : List Nat} {a b c : World} (h : Grown S S' a b) (k : Ext [] b c) : Grown S S' a c := ⟨h.1.trans0 k, h.2⟩
theorem Grown.after0 {S S' : List Nat} {a b c : World} (k : Ext [] a b) (h : Grown S S' b c) : Grown S S' a c := ⟨h.1.after k, fun g hg => (h.2 g hg).imp id (Nat.le_trans k.size)⟩
theorem Grown.of0 {a b : World} (S : List Nat) (h : Ext [] a b) : Grown S S a b := ⟨h.mono (by simp), fun _ h => .inl h⟩
/-- What was there and is none of S is as it was. -/
theorem Grown.apart {S S' Z : List Nat} {a b : World} (h : Grown S S' a b) (hz : ∀ z ∈ Z, z ∉ S) (hl : ∀ z ∈ Z, z < a.heap.size) : ∀ z ∈ Z, z ∉ S' := by
  intro z hz' hs
  rcases h.2 z hs with hs | hs
  · exact hz z hz' hs
  · have := hl z hz'; omega

theorem Ext.fresh {S : List Nat} {w a b : World} (E : Ext [] w a) (e : Ext S a b) (h : ∀ g ∈ S, w.heap.size ≤ g) : Ext [] w b := E.trans e (by simp) (fun x hx => .inr (h x hx))
theorem Grown.fresh {S S' : List Nat} {s : Nat} {a b : World} (h : Grown S S' a b) (hs : ∀ g ∈ S, s ≤ g) (ha : s ≤ a.heap.size) : ∀ g ∈ S', s ≤ g := fun g hg => (h.2 g hg).elim (hs g) (Nat.le_trans ha)
/-- A value that is a slice of n elements, which it owns; its blocks are of M, or from s on. -/
def Held (M : List Nat) (s E size n : Nat) (xs : List Value) (v : Value) (w : World) : Prop := ∃ a c M', v = .slice a n c ∧ Own w E size a n c xs M' ∧ ∀ g ∈ M', g ∈ M ∨ s ≤ g
theorem Held.keep (M : List Nat) (s E size n : Nat) (xs : List Value) : ∀ v w w', Ext [] w w' → Held M s E size n xs v w → Held M s E size n xs v w' := fun _ _ _ he ⟨a, c, M', hv, ho, hM⟩ => ⟨a, c, M', hv, ho.ext0 he, hM⟩
theorem Held.app {w₀ w w' : World} {E size m n : Nat} {M : List Nat} {xs ys : List Value} {v : Value} (h : Appended w E size M m xs v w') (hJ : Ext [] w₀ w) (hm : m = n) (hx : xs = ys) :
    Held M w₀.heap.size E size n ys v w' ∧ Ext M w w' ∧ Ext M w₀ w' := by
  subst hm; subst hx
  obtain ⟨a, c, M', rfl, e, hM', o⟩ := h
  exact ⟨⟨a, c, M', rfl, o, fun g hg => (hM' g hg).imp id (Nat.le_trans hJ.size)⟩, e, e.after hJ⟩
theorem NewS.bs {w w' : World} {cs : Array Value} {E n : Nat} {v : Value} {l : List UInt8} (h : NewS w cs E n n v w') (hc : cs.toList = vbs l) (hn : n = l.length) : IsBs n l v w' ∧ Ext [] w w' := by
  obtain ⟨b, rfl, hb, hs, e, B⟩ := h
  exact ⟨⟨_, _, rfl, Nat.le_refl _, Bs.of_blk B l hc n hn⟩, e⟩

theorem zeroCells_bytes (m : Nat) : (Builtin.zeroCells (Value.int .u8 0).cells m).toList = vbs (List.replicate m 0) := by
  refine List.ext_getElem (by simp [Builtin.zeroCells, vbs, Value.cells]) (fun i h1 h2 => ?_)
  simp [Builtin.zeroCells, vbs, Value.cells, vb, Nat.mod_one]
theorem Own.typ {w : World} {E size : Nat} {a : Option Addr} {n cap : Nat} {xs : List Value} {M : List Nat} (h : Own w E size a n cap xs M) : ∀ g ∈ M, ∃ cs, Blk w g cs E (0, 0) := by
  rcases h.2 with ⟨_, _, _, rfl⟩ | ⟨g, cur, _, rfl, hb, _⟩
  · simp
  · intro b hm; rw [List.mem_singleton.1 hm]; exact ⟨cur, hb⟩
theorem Blk.ne {w : World} {b b' : Nat} {cs cs' : Array Value} {T T' : TypeId} {fz fz' : Nat × Nat} (h : Blk w b cs T fz) (h' : Blk w b' cs' T' fz') (ht : T ≠ T') : b ≠ b' := by
  rintro rfl
  have : some (Obj.cells cs T fz) = some (Obj.cells cs' T' fz') := h.symm.trans h'
  cases this; exact ht rfl
/-- A clipped row. -/
theorem Own.clip {w : World} {E size : Nat} {a : Option Addr} {n cap : Nat} {xs : List Value} {M : List Nat} (h : Own w E size a n cap xs M) : Own w E size a n n xs M := by
  refine ⟨h.1, ?_⟩
  rcases h.2 with ⟨h1, h2, h3, h4⟩ | ⟨g, cur, h1, h2, h3, h4, h5, h6, h7⟩
  · exact .inl ⟨h1, h2, h2, h4⟩
  · exact .inr ⟨g, cur, h1, h2, h3, Nat.le_refl _, by omega, Nat.le_trans (Nat.mul_le_mul_right _ h4) h6, h7⟩
/-- A pen at p (a block with one slice), that wrote the bytes l. S: its blocks. -/
def PenAt (T E : Nat) (w : World) (p : Nat) (l : List UInt8) (S : List Nat) : Prop :=
  ∃ a n c M, S = p :: M ∧ p ∉ M ∧ n = l.length ∧ Blk w p #[.slice a n c] T (0, 0) ∧ Own w E 1 a n c (vbs l) M
theorem PenAt.ext {T E : Nat} {w w' : World} {p : Nat} {l : List UInt8} {S M' : List Nat} (h : PenAt T E w p l S) (he : Ext M' w w') (hm : ∀ x ∈ S, x ∉ M') : PenAt T E w' p l S := by
  obtain ⟨a, n, c, M, rfl, h1, h2, h3, h4⟩ := h
  exact ⟨a, n, c, M, rfl, h1, h2, h3.ext he (hm p (by simp)), h4.ext he (fun b hb => hm b (by simp [hb]))⟩
theorem PenAt.ext0 {T E : Nat} {w w' : World} {p : Nat} {l : List UInt8} {S : List Nat} (h : PenAt T E w p l S) (he : Ext [] w w') : PenAt T E w' p l S := h.ext he (by simp)
theorem PenAt.lt {T E : Nat} {w : World} {p : Nat} {l : List UInt8} {S : List Nat} (h : PenAt T E w p l S) : ∀ g ∈ S, g < w.heap.size := by
  obtain ⟨a, n, c, M, rfl, h1, h2, h3, h4⟩ := h
  intro g hg
  rcases List.mem_cons.1 hg with rfl | hg
  · exact h3.lt
  · exact h4.lt g hg
theorem PenAt.mem {T E : Nat} {w : World} {p : Nat} {l : List UInt8} {S : List Nat} (h : PenAt T E w p l S) : p ∈ S := by
  obtain ⟨a, n, c, M, rfl, _⟩ := h; simp
theorem PenAt.new {T E : Nat} {w : World} {p : Nat} (B : Blk w p #[.slice none 0 0] T (0, 0)) : PenAt T E w p [] [p] := ⟨none, 0, 0, [], rfl, by simp, rfl, B, Own.nil _ _ _⟩
/-- A held slice is put into the pen. -/
theorem PenAt.put {T E : Nat} {w₀ w w' : World} {p m : Nat} {k : List UInt8} {M : List Nat} {v : Value} (hs : p < w₀.heap.size) (hpM : p ∉ M) (hk : m = k.length) (h : Held M w₀.heap.size E 1 m (vbs k) v w) (hJ : Ext M w₀ w) (hp : Put w p #[v] T w') :
    ∃ S', PenAt T E w' p k S' ∧ Grown (p :: M) S' w₀ w' := by
  obtain ⟨a, c, M', rfl, ho, hM'⟩ := h
  obtain ⟨e, hsz, B⟩ := hp
  have hpM' : p ∉ M' := fun hm => (hM' p hm).elim hpM (fun h => by omega)
  refine ⟨p :: M', ⟨a, m, c, M', rfl, hpM', hk, B, ho.ext e (fun b hb => by intro h; rw [List.mem_singleton.1 h] at hb; exact hpM' hb)⟩, ?_, ?_⟩
  · exact hJ.trans e (fun x hx => .inl (by simp [hx])) (fun x hx => .inl (by rw [List.mem_singleton.1 hx]; simp))
  · intro g hg
    rcases List.mem_cons.1 hg with rfl | hg
    · exact .inl (by simp)
    · exact (hM' g hg).imp (fun h => by simp [h]) id
/-- A scan at s (a block with a slice and an error): the bytes l are left, in blocks of D. -/
def ScanAt (T : Nat) (w : World) (s : Nat) (D : List Nat) (l : List UInt8) (e : Int) : Prop :=
  ∃ a n c, s ∉ D ∧ n ≤ c ∧ (∀ q, a = some q → q.block ∈ D) ∧ Blk w s #[.slice a n c, .int .i64 e] T (0, 0) ∧ Bs w a n l
theorem ScanAt.ext {T : Nat} {w w' : World} {s : Nat} {D : List Nat} {l : List UInt8} {e : Int} {M : List Nat} (h : ScanAt T w s D l e) (he : Ext M w w') (hs : s ∉ M) (hD : ∀ d ∈ D, d ∉ M) : ScanAt T w' s D l e := by
  obtain ⟨a, n, c, h1, h2, h3, h4, h5⟩ := h
  exact ⟨a, n, c, h1, h2, h3, h4.ext he hs, h5.ext he (fun q hq => hD _ (h3 q hq))⟩
theorem ScanAt.ext0 {T : Nat} {w w' : World} {s : Nat} {D : List Nat} {l : List UInt8} {e : Int} (h : ScanAt T w s D l e) (he : Ext [] w w') : ScanAt T w' s D l e := h.ext he (by simp) (by simp)
theorem ScanAt.lt {T : Nat} {w : World} {s : Nat} {D : List Nat} {l : List UInt8} {e : Int} (h : ScanAt T w s D l e) : s < w.heap.size := by
  obtain ⟨a, n, c, h1, h2, h3, h4, h5⟩ := h; exact h4.lt
/-- A value that is a new scan; a value that is a new block of a string and an error. -/
def IsScan (T E s0 : Nat) (l : List UInt8) (v : Value) (w : World) : Prop := ∃ s D, v = .pointer (some ⟨s, 0, none⟩) ∧ ScanAt T w s D l 0 ∧ s0 ≤ s ∧ (∀ d ∈ D, s0 ≤ d) ∧ (∃ cs, Blk w s cs T (0, 0)) ∧ ∀ d ∈ D, ∃ cs, Blk w d cs E (0, 0)
theorem IsScan.keep (T E s0 : Nat) (l : List UInt8) : ∀ v w w', Ext [] w w' → IsScan T E s0 l v w → IsScan T E s0 l v w' :=
  fun _ _ _ he ⟨s, D, h1, h2, h3, h4, ⟨cs, h5⟩, h6⟩ => ⟨s, D, h1, h2.ext0 he, h3, h4, ⟨cs, h5.ext0 he⟩, fun d hd => (h6 d hd).imp fun _ h => h.ext0 he⟩
def IsBox (T s0 : Nat) (cs : Array Value) (v : Value) (w : World) : Prop := ∃ x, v = .pointer (some ⟨x, 0, none⟩) ∧ Blk w x cs T (0, 0) ∧ s0 ≤ x
theorem IsBox.keep (T s0 : Nat) (cs : Array Value) : ∀ v w w', Ext [] w w' → IsBox T s0 cs v w → IsBox T s0 cs v w' := fun _ _ _ he ⟨x, h1, h2, h3⟩ => ⟨x, h1, h2.ext0 he, h3⟩
theorem New.is {w₀ w w' : World} {cs : Array Value} {T : TypeId} {v : Value} (h : New w cs T v w') (hJ : Ext [] w₀ w) : IsBox T w₀.heap.size cs v w' ∧ Ext [] w w' := by
  obtain ⟨b, rfl, hb, hs, e, B⟩ := h
  exact ⟨⟨b, rfl, B, by rw [← hb]; exact hJ.size⟩, e⟩
/-- Bytes in blocks of D. -/
def BsIn (D : List Nat) (l : List UInt8) (v : Value) (w : World) : Prop := ∃ a c, v = .slice a l.length c ∧ l.length ≤ c ∧ Bs w a l.length l ∧ ∀ q, a = some q → q.block ∈ D
theorem BsIn.keep {D : List Nat} {l : List UInt8} {M : List Nat} (hM : ∀ d ∈ D, d ∉ M) : ∀ v w w', Ext M w w' → BsIn D l v w → BsIn D l v w' :=
  fun _ _ _ he ⟨a, c, h1, h2, h3, h4⟩ => ⟨a, c, h1, h2, h3.ext he (fun q hq => hM _ (h4 q hq)), h4⟩
theorem PenAt.apart {T E F : Nat} {w : World} {p : Nat} {l : List UInt8} {S : List Nat} {size : Nat} {a : Option Addr} {n c : Nat} {xs : List Value} {M : List Nat} (h : PenAt T E w p l S) (ho : Own w F size a n c xs M) (h1 : T ≠ F) (h2 : E ≠ F) : ∀ g ∈ S, g ∉ M := by
  obtain ⟨_, _, _, M', rfl, _, _, hB, hO⟩ := h
  intro g hg hm
  obtain ⟨_, hb⟩ := ho.typ g hm
  rcases List.mem_cons.1 hg with rfl | hg
  · exact hB.ne hb h1 rfl
  · obtain ⟨_, hb'⟩ := hO.typ g hg
    exact hb'.ne hb h2 rfl
theorem Blk.cellsAll {w : World} {b : Nat} {cs : Array Value} {T : TypeId} {fz : Nat × Nat} (h : Blk w b cs T fz) : Cells w (some ⟨b, 0, none⟩) cs.toList := Cells.of_blk h 0 _ (fun j v hj => by simpa using hj)
end Brv
/-
  What a law's arguments read as, for every type of plain data: out of the reading that the row gives.
-/
set_option linter.unusedVariables false
namespace Brv
open Go

/-- The cells cs read as plain data of type t. -/
def Rd (P : Program) (w : World) : Nat → TypeId → List Value → Prop
  | 0, _, _ => False
  | f + 1, t, cs => match P.underlying t with
    | some .bool => ∃ b, cs = [.bool b]
    | some (.int k) => ∃ n, cs = [.int k n] ∧ (Lit.int k n).wf = true
    | some .string => ∃ l : List UInt8, cs = [.string (str l)] ∧ l.length ≤ 140737488351232
    | some (.slice e) => ∃ a n c, cs = [.slice a n c] ∧ n ≤ c ∧ (a = none → c = 0) ∧ c * P.bytesOf e ≤ 140737488351232 ∧
        ∃ vss : List (List Value), vss.length = n ∧ Cells w a vss.flatten ∧ ∀ vs ∈ vss, vs.length = P.cellsOf e ∧ Rd P w f e vs
    | some (.struct fs) => cs.length = P.cellsOf t ∧ ∀ (i : Nat) (f' : Field), fs[i]? = some f' → Rd P w f f'.type ((cs.drop f'.offset).take (P.cellsOf f'.type))
    | some (.array m e) => cs.length = P.cellsOf t ∧ ∀ i, i < m → Rd P w f e ((cs.drop (i * P.cellsOf e)).take (P.cellsOf e))
    | _ => True

theorem cells?_get {w : World} {base : Nat} {a : Addr} {n : Nat} {vs : List Value} (h : w.cells? base a n = some vs) : vs.length = n ∧ ∀ j v, vs[j]? = some v → w.cell? (a.add j) = some v := by
  unfold World.cells? at h
  split at h
  · have hl : vs.length = n := by simpa using mapM_some_length h
    refine ⟨hl, fun j v hj => ?_⟩
    have hlt : j < n := by have := (List.getElem?_eq_some_iff.1 hj).1; omega
    have := mapM_some_get h j j (by simp [hlt])
    rw [this]; exact hj
  · cases h

theorem mem_weightsAll {H : Type} {P : Program} {e : TypeId} {x : Nat} : ∀ {ds : List (DataW H)} {d : DataW H}, d ∈ ds → x ∈ d.weights P e → x ∈ DataW.weightsAll P e ds
  | y :: r, d, hd, hx => by
    simp only [DataW.weightsAll, List.mem_append]
    rcases List.mem_cons.1 hd with rfl | hd
    · exact .inl hx
    · exact .inr (mem_weightsAll hd hx)

theorem flatten_cells {w : World} {p : Addr} {size : Nat} : ∀ (vss : List (List Value)) (k : Nat), (∀ i vs, vss[i]? = some vs → vs.length = size ∧ ∀ j v, vs[j]? = some v → w.cell? ((p.add ((k + i) * size)).add j) = some v) →
    ∀ j v, vss.flatten[j]? = some v → w.cell? (p.add (k * size + j)) = some v
  | [], k, _, j, v, hj => by simp at hj
  | vs :: r, k, h, j, v, hj => by
    obtain ⟨hl, hc⟩ := h 0 vs rfl
    rw [List.flatten_cons] at hj
    by_cases hlt : j < size
    · rw [List.getElem?_append_left (by omega)] at hj
      have := hc j v hj
      rw [add_add] at this
      simpa using this
    · rw [List.getElem?_append_right (by omega)] at hj
      have := flatten_cells r (k + 1) (fun i us hu => by
        have := h (i + 1) us (by simpa using hu)
        rw [show k + (i + 1) = k + 1 + i by omega] at this
        exact this) (j - vs.length) v hj
      rw [show (k + 1) * size + (j - vs.length) = k * size + j by rw [Nat.add_mul]; omega] at this
      exact this

theorem rd_of_trod {H : Type} {enc : TypeId × Value → H} {P : Program} {w : World} {base : Nat} {sp : Nat → Bool} (hsp : ∀ b, sp b = true) : ∀ (fuel : Nat) (t : TypeId) (cs : List Value) (x : DataW H × List MemPlace), DataW.trod enc P w base sp true fuel t cs = some x →
    (∀ n ∈ x.1.weights P t, n ≤ 140737488351232) → Rd P w fuel t cs
  | 0, t, cs, x, h, _ => by simp [DataW.trod] at h
  | fuel + 1, t, cs, x, h, hw => by
    unfold Rd
    cases hu : P.underlying t with
    | none => trivial
    | some dsc =>
      cases dsc with
      | bool => obtain ⟨b, rfl, _⟩ := DataW.trod_bool hu h; exact ⟨b, rfl⟩
      | int k => obtain ⟨n, rfl, _, hwf⟩ := DataW.trod_int hu h; exact ⟨n, rfl, hwf⟩
      | string =>
        obtain ⟨s, rfl, rfl, _⟩ := DataW.trod_string hu h
        refine ⟨s.data.toList, by rw [str_toList], ?_⟩
        exact hw _ (by simp [DataW.weights])
      | slice e =>
        rcases DataW.trod_slice hu h with ⟨rfl, rfl⟩ | ⟨a, len, cap, elems, rest, n, hf, rfl, rfl, _, hlc, _, hel, hcell, hsr, _⟩
        · exact ⟨none, 0, 0, rfl, Nat.le_refl _, fun _ => rfl, by simp, [], rfl, Cells.nil _ _, by simp⟩
        · cases hf
          have hrest := (hsr (hsp _)).1
          have hget : ∀ i, i < len → ∃ vs y, w.cells? base (a.add (i * P.cellsOf e)) (P.cellsOf e) = some vs ∧ DataW.trod enc P w base sp true fuel e vs = some y ∧ elems[i]? = some y := by
            intro i hi
            have := hcell i hi
            rw [List.getElem?_eq_getElem (by omega)] at this
            obtain ⟨vs, h1, h2⟩ := Option.bind_eq_some_iff.1 this
            exact ⟨vs, _, h1, h2, List.getElem?_eq_getElem (by omega)⟩
          refine ⟨some a, len, cap, rfl, hlc, (fun h => by cases h), ?_, ?_⟩
          · have := hw ((elems.length + rest.length) * P.bytesOf e) (by simp [DataW.weights, hu])
            rw [hel, hrest, show len + (cap - len) = cap by omega] at this
            exact this
          · let vss : List (List Value) := (List.range len).map fun i => (w.cells? base (a.add (i * P.cellsOf e)) (P.cellsOf e)).getD []
            have hvget : ∀ i vs, vss[i]? = some vs → i < len ∧ w.cells? base (a.add (i * P.cellsOf e)) (P.cellsOf e) = some vs := by
              intro i vs hi
              have hlt : i < len := by have := (List.getElem?_eq_some_iff.1 hi).1; simpa [vss] using this
              obtain ⟨vs', _, h1, _⟩ := hget i hlt
              simp [vss, hlt, h1] at hi
              subst hi
              exact ⟨hlt, h1⟩
            refine ⟨vss, by simp [vss], ?_, ?_⟩
            · intro j v hj
              refine ⟨a, rfl, ?_⟩
              have := flatten_cells (w := w) (p := a) (size := P.cellsOf e) vss 0 (fun i vs hi => by
                obtain ⟨_, h1⟩ := hvget i vs hi
                obtain ⟨hl, hc⟩ := cells?_get h1
                refine ⟨hl, fun j v hj => ?_⟩
                rw [Nat.zero_add]; exact hc j v hj) j v hj
              simpa using this
            · intro vs hvs
              obtain ⟨i, hi⟩ := List.getElem?_of_mem hvs
              obtain ⟨hlt, h1⟩ := hvget i vs hi
              obtain ⟨vs', y, h1', h2, h3⟩ := hget i hlt
              rw [h1] at h1'; cases h1'
              refine ⟨(cells?_get h1).1, rd_of_trod hsp fuel e vs y h2 (fun m hm => ?_)⟩
              refine hw m ?_
              simp only [DataW.weights, hu, List.mem_cons, List.mem_append]
              refine .inr (.inl (mem_weightsAll (List.mem_map.2 ⟨y, List.mem_of_getElem? h3, rfl⟩) hm))
      | struct fs =>
        obtain ⟨xs, n, hf, rfl, hl, hxl, hget⟩ := DataW.trod_struct hu h
        cases hf
        refine ⟨hl, fun i f' hf' => ?_⟩
        have := hget i f' hf'
        have hlt : i < xs.length := by have := (Array.getElem?_eq_some_iff.1 hf').1; omega
        rw [List.getElem?_eq_getElem hlt] at this
        refine rd_of_trod hsp fuel f'.type _ _ this (fun m hm => ?_)
        refine hw m ?_
        simp only [DataW.weights, hu]
        exact DataW.weights_mem_each (j := i) (by simp [hf']) (by simp [List.getElem?_eq_getElem hlt]) m hm
      | array m e =>
        obtain ⟨xs, n, hf, rfl, hl, hxl, hget⟩ := DataW.trod_array hu h
        cases hf
        refine ⟨hl, fun i hi => ?_⟩
        have := hget i hi
        rw [List.getElem?_eq_getElem (by omega)] at this
        refine rd_of_trod hsp fuel e _ _ this (fun q hm => ?_)
        refine hw q ?_
        simp only [DataW.weights, hu]
        exact mem_weightsAll (List.mem_map.2 ⟨_, List.getElem_mem (by omega), rfl⟩) hm
      | _ => trivial

theorem okWide_array {P : Program} {w : World} {r : Reach} {base : Nat} {t : TypeId} {v : Value} {m : Nat} {e : TypeId} (ht : P.underlying t = some (.array m e)) (h : Value.okWide P w r base t v) : ∃ cs, v = .agg cs ∧ cs.size = P.cellsOf t := by
  simp only [Value.okWide, ht] at h
  obtain ⟨cs, h1, h2, _⟩ := h
  exact ⟨cs, h1, h2⟩
theorem Rd.arr {P : Program} {w : World} {f : Nat} {T m e s : Nat} (ht : P.underlying T = some (.array m e)) (hs : P.cellsOf e = s) {cs : List Value} (h : Rd P w f T cs) : ∀ i, i < m → ∃ f, Rd P w f e ((cs.drop (i * s)).take s) := by
  cases f with
  | zero => exact h.elim
  | succ f =>
    unfold Rd at h
    rw [ht] at h
    subst hs
    exact fun i hi => ⟨f, h.2 i hi⟩

theorem Rd.of {H : Type} {enc : TypeId × Value → H} {P : Program} {w : World} {t : TypeId} {v : Value} {d : DataW H} {ps : List MemPlace} {ts : List TypeId} {ds : List (DataW H)} {j : Nat}
    (h : DataW.Trod enc P w 0 (fun _ => true) true t v d ps) (hsz : (DataW.weightsEach P ts ds).all (· ≤ reachBytes) = true) (ht : ts[j]? = some t) (hd : ds[j]? = some d) : ∃ f, Rd P w f t v.cells.toList := by
  obtain ⟨fuel, hf⟩ := h
  refine ⟨fuel, rd_of_trod (fun _ => rfl) fuel t _ _ hf (fun n hn => ?_)⟩
  have := List.all_eq_true.1 hsz n (DataW.weights_mem_each ht hd n hn)
  exact of_decide_eq_true this

theorem wf_bounds {k : IntKind} {n : Int} (h : (Lit.int k n).wf = true) : k.min ≤ n ∧ n ≤ k.max := by
  simpa [Lit.wf] using h
theorem wf_i64 {n : Int} (h : (Lit.int .i64 n).wf = true) : -9223372036854775808 ≤ n ∧ n ≤ 9223372036854775807 := by
  have := wf_bounds h
  simpa [IntKind.min, IntKind.max, IntKind.signed, IntKind.bits] using this
theorem wf_u8 {n : Int} (h : (Lit.int .u8 n).wf = true) : 0 ≤ n ∧ n ≤ 255 := by
  have := wf_bounds h
  simpa [IntKind.min, IntKind.max, IntKind.signed, IntKind.bits] using this
theorem wf_u16 {n : Int} (h : (Lit.int .u16 n).wf = true) : 0 ≤ n ∧ n ≤ 65535 := by
  have := wf_bounds h
  simpa [IntKind.min, IntKind.max, IntKind.signed, IntKind.bits] using this
theorem wf_u32 {n : Int} (h : (Lit.int .u32 n).wf = true) : 0 ≤ n ∧ n ≤ 4294967295 := by
  have := wf_bounds h
  simpa [IntKind.min, IntKind.max, IntKind.signed, IntKind.bits] using this

theorem i64_wf {n : Int} (h : -9223372036854775808 ≤ n ∧ n ≤ 9223372036854775807) : (Lit.int .i64 n).wf = true := by
  simp [Lit.wf, IntKind.min, IntKind.max, IntKind.signed, IntKind.bits]; omega
theorem u8_of_wf {n : Int} (h : (Lit.int .u8 n).wf = true) : ∃ y : UInt8, n = (y.toNat : Int) := by
  have := wf_u8 h
  exact ⟨UInt8.ofNat n.toNat, by simp only [UInt8.toNat_ofNat']; omega⟩
theorem u32_of_wf {n : Int} (h : (Lit.int .u32 n).wf = true) : ∃ y : UInt32, n = (y.toNat : Int) := by
  have := wf_u32 h
  exact ⟨UInt32.ofNat n.toNat, by simp only [UInt32.toNat_ofNat']; omega⟩

/-- A slice of bytes. -/
theorem Rd.bytes {P : Program} {w : World} {f : Nat} {T E : TypeId} [t : TyBytes P T E] (hc : P.cellsOf E = 1) (hby : P.bytesOf E = 1) {cs : List Value} (h : Rd P w f T cs) :
    ∃ a n c l, cs = [.slice a n c] ∧ n ≤ c ∧ (a = none → c = 0) ∧ c ≤ 140737488351232 ∧ Bs w a n l := by
  cases f with
  | zero => exact h.elim
  | succ f =>
    unfold Rd at h
    rw [t.h] at h
    obtain ⟨a, n, c, rfl, hnc, ha, hb, vss, hl, hcell, hv⟩ := h
    have hel : ∀ vs ∈ vss, ∃ b : UInt8, vs = [vb b] := by
      intro vs hvs
      obtain ⟨_, hr⟩ := hv vs hvs
      cases f with
      | zero => exact hr.elim
      | succ f =>
        unfold Rd at hr
        rw [t.e] at hr
        obtain ⟨x, rfl, hwf⟩ := hr
        have := wf_u8 hwf
        refine ⟨UInt8.ofNat x.toNat, ?_⟩
        simp only [vb, UInt8.toNat_ofNat', List.cons.injEq, Value.int.injEq, true_and, and_true]
        omega
    have hex : ∃ l : List UInt8, vss = l.map (fun b => [vb b]) := by
      clear hcell hl hv
      induction vss with
      | nil => exact ⟨[], rfl⟩
      | cons vs r ih =>
        obtain ⟨b, rfl⟩ := hel vs (by simp)
        obtain ⟨l, rfl⟩ := ih (fun x hx => hel x (by simp [hx]))
        exact ⟨b :: l, rfl⟩
    obtain ⟨l, rfl⟩ := hex
    refine ⟨a, n, c, l, rfl, hnc, ha, by rw [hby] at hb; omega, ?_, by simpa using hl.symm⟩
    have : (l.map (fun b => [vb b])).flatten = vbs l := by
      clear hcell hl hv hel
      induction l with
      | nil => rfl
      | cons b r ih => simp [vbs, ih]
    rw [this] at hcell; exact hcell
theorem Rd.int {P : Program} {w : World} {f : Nat} {T : TypeId} {k : IntKind} [t : TyInt P T k] {cs : List Value} (h : Rd P w f T cs) : ∃ n, cs = [.int k n] ∧ (Lit.int k n).wf = true := by
  cases f with
  | zero => exact h.elim
  | succ f => unfold Rd at h; rw [t.h] at h; exact h
theorem Rd.bool {P : Program} {w : World} {f : Nat} {T : TypeId} [t : TyBool P T] {cs : List Value} (h : Rd P w f T cs) : ∃ b, cs = [.bool b] := by
  cases f with
  | zero => exact h.elim
  | succ f => unfold Rd at h; rw [t.h] at h; exact h
theorem Rd.str {P : Program} {w : World} {f : Nat} {T : TypeId} [t : TyStr P T] {cs : List Value} (h : Rd P w f T cs) : ∃ l : List UInt8, cs = [.string (str l)] ∧ l.length ≤ 140737488351232 := by
  cases f with
  | zero => exact h.elim
  | succ f => unfold Rd at h; rw [t.h] at h; exact h
end Brv
/-
  Structs in memory: stores of several cells, rows of structs.
-/
set_option linter.unusedVariables false
namespace Brv
open Go
section
variable {P : Program} {n : Fm} {ρ : Env} {w : World} {pos : String} {af : Array Edge} {gd : Option (Nat × Bool)} {ty : TypeId} {d : Nat}

theorem madeCells_bytes (m : Nat) : (madeCells (Value.int .u8 0).cells m).toList = vbs (List.replicate m 0) := by
  refine List.ext_getElem (by simp [madeCells, vbs, Value.cells]) (fun i h1 h2 => ?_)
  simp [madeCells, vbs, Value.cells, vb, Nat.mod_one]
/-- A struct is stored. -/
theorem R.stN {T : TypeId} {s : Nat} [t : TyAgg P T s] {x y : Operand} {b o : Nat} {cs vs : Array Value} {U : TypeId} (hx : ev ρ x = some (.pointer (some ⟨b, o, none⟩))) (hy : ev ρ y = some (.agg vs)) (hb : Blk w b cs U (0, 0))
    (hs : vs.size = s) (ho : o + vs.size ≤ cs.size) (h1 : ∀ u ∈ vs.toList, u.oneCell' = true) :
    Sets P n ρ w ⟨none, .store T x y, ty, pos, af, gd⟩ (Put w b (cs.toList.take o ++ vs.toList ++ cs.toList.drop (o + vs.size)).toArray U) := by
  obtain ⟨j, hj, hs'⟩ := TyAgg.info (P := P) (T := T) (s := s)
  have hst := run_storeCells_at P b o U vs.toList 0 cs w hb (by simpa using ho) h1
  simp only [Nat.add_zero, Array.length_toList] at hst
  refine ⟨w.setRow b (cs.toList.take o ++ vs.toList ++ cs.toList.drop (o + vs.size)).toArray, fun f hf => ?_, ⟨rfl, rfl, rfl, by simp, fun k _ hk => setRow_other w b k _ (fun e => hk (by simp [e]))⟩, by simp, setRow_heap w b cs _ U (0, 0) hb⟩
  simp only [execOp, hf.eval hx, hf.eval hy, Sem.run_bind]
  simp [Instr.storeAt, Instr.sureAddr, storeVar, Value.cells, Go.sizeOf, typeInfo, hj, hs', hs] at hst ⊢
  simp [hst]
end
/-- A slice of n elements, of size cells each. -/
structure Tab (w : World) (a : Option Addr) (n size : Nat) (vss : List (List Value)) : Prop where
  cells : Cells w a vss.flatten
  len : n = vss.length
  each : ∀ vs ∈ vss, vs.length = size
theorem Tab.ext0 {w w' : World} {a : Option Addr} {n size : Nat} {vss : List (List Value)} (h : Tab w a n size vss) (he : Ext [] w w') : Tab w' a n size vss := ⟨h.cells.ext0 he, h.len, h.each⟩
theorem flatten_get {size : Nat} : ∀ (vss : List (List Value)) (i : Nat), (∀ vs ∈ vss, vs.length = size) → ∀ (h : i < vss.length) (j : Nat), j < size → vss.flatten[i * size + j]? = vss[i][j]?
  | [], i, _, h, _, _ => by simp at h
  | vs :: r, 0, he, _, j, hj => by
    have := he vs (by simp)
    rw [List.flatten_cons, Nat.zero_mul, Nat.zero_add, List.getElem?_append_left (by omega)]; rfl
  | vs :: r, i + 1, he, h, j, hj => by
    have := he vs (by simp)
    rw [List.flatten_cons, List.getElem?_append_right (by rw [this, Nat.add_mul]; omega), this]
    rw [show (i + 1) * size + j - size = i * size + j by rw [Nat.add_mul]; omega]
    exact flatten_get r i (fun x hx => he x (by simp [hx])) (by simpa using h) j hj
theorem Tab.at {w : World} {a : Option Addr} {n size : Nat} {vss : List (List Value)} (h : Tab w a n size vss) (hs : 0 < size) (i : Nat) (hi : i < vss.length) : ∃ p, a = some p ∧ Cells w (some (p.add (i * size))) vss[i] := by
  have hlen := h.each vss[i] (List.getElem_mem hi)
  have get : ∀ j (v : Value), vss[i][j]? = some v → ∃ p, a = some p ∧ w.cell? (p.add (i * size + j)) = some v := by
    intro j v hv
    have hj : j < size := by rw [← hlen]; exact (List.getElem?_eq_some_iff.1 hv).1
    rw [← flatten_get vss i h.each hi j hj] at hv
    exact h.cells _ _ hv
  obtain ⟨p, hp, _⟩ := get 0 vss[i][0] (List.getElem?_eq_getElem (by omega))
  refine ⟨p, hp, fun j v hv => ⟨_, rfl, ?_⟩⟩
  obtain ⟨q, hq, hc⟩ := get j v hv
  rw [hp] at hq; cases hq
  rw [add_add]; exact hc
section
variable {P : Program} {n : Nat} {ks : List K} {ρ : Env} {w : World} {fn : Func} {Φ : Value → World → Prop}
/-- A return of a struct that lives in a block, and of a plain result. -/
theorem G.retCT {t u : Nat} {T : TypeId} {s b : Nat} [ta : TyAgg P T s] {cs : Array Value} {U : TypeId} {fz : Nat × Nat} {x : Value} (hr : fn.results = #[.cell t T, .tmp u]) (hv : look ρ t = some (.pointer (some ⟨b, 0, none⟩))) (hx : look ρ u = some x)
    (hb : Blk w b cs U fz) (hs : cs.size = s) (h : Φ (.tuple #[.agg cs, x]) w) : G P (Func.base P fn Φ) ⟨n, [], none⟩ ks ρ w .ret := by
  refine G.retM (n := ⟨n, [], none⟩) rfl (fun a ha => ?_) h
  have h1 := ha.vals t _ hv
  have h2 := ha.vals u x hx
  rw [results_cell_tmp hr]
  have hl := run_loadN (P := P) (T := T) (s := s) (w := w) (p := ⟨b, 0, none⟩) (vs := cs.toList) hb.cellsAll (by simpa using hs)
  simp only [Instr.loadAt, Instr.sureAddr] at hl
  simp [h1, h2, asAddr] at hl ⊢
  simp [hl]
end
end Brv
/-
  Rules: copy; calls of functions that the library's tables give; numbers of 64 bits without a sign.
-/
set_option linter.unusedVariables false
namespace Brv
open Go

/-- A row, with cells laid over it. -/
def Over (cur : Array Value) (o : Nat) (cs : List Value) : Array Value := (cur.toList.take o ++ cs ++ cur.toList.drop (o + cs.length)).toArray
theorem Over.size {cur : Array Value} {o : Nat} {cs : List Value} (h : o + cs.length ≤ cur.size) : (Over cur o cs).size = cur.size := by
  simp [Over]; omega
theorem Over.take {cur : Array Value} {o : Nat} {cs : List Value} (h : o ≤ cur.size) : (Over cur o cs).toList.take (o + cs.length) = cur.toList.take o ++ cs := by
  simp only [Over]
  have hl : (cur.toList.take o ++ cs).length = o + cs.length := by simp; omega
  rw [← hl, List.take_left]
section
variable {P : Program} {n : Fm} {ρ : Env} {w : World} {ty : TypeId} {pos : String} {af : Array Edge} {gd : Option (Nat × Bool)}
theorem R.copyB {T S E bytes : Nat} {z : Value} [t : TySlice P T E 1 bytes z] {d : Option Nat} {x y : Operand} {g o dl dc sl sc : Nat} {a : Addr} {cur : Array Value} {U : TypeId} {cs : List Value}
    (hx : ev ρ x = some (.slice (some ⟨g, o, none⟩) dl dc)) (hy : ev ρ y = some (.slice (some a) sl sc)) (hb : Blk w g cur U (0, 0)) (hc : Cells w (some a) cs) (hn : cs.length = Nat.min sl dl) (hfit : o + cs.length ≤ cur.size)
    (h1 : ∀ u ∈ cs, u.oneCell' = true) :
    Does P n ρ w ⟨d, .call ⟨.builtin .copy, #[x, y], #[T, S]⟩, ty, pos, af, gd⟩ (fun v w' => v = .int .i64 (cs.length : Int) ∧ Put w g (Over cur o cs) U w') := by
  obtain ⟨i, hi, hs, _, _⟩ := t.i
  have hr := run_copy_row (P := P) w T S ty E g o dl dc a sl sc cur U cs t.h (by rw [hi]; simp [hs]) hb hn (fun j v hj => hc.load hj) hfit h1
  exact ⟨.int .i64 (cs.length : Int), w.setRow g (Over cur o cs), fun f hf => by
    simp only [execOp, resolve, invoke, builtin, Sem.run_bind, Sem.run_pure, Result.andThen_ok, List.map_toArray, List.map_cons, List.map_nil, hf.eval hx, hf.eval hy, hr]
    rfl, rfl,
    ⟨rfl, rfl, rfl, by simp, fun k _ hk => setRow_other w g k _ (fun e => hk (by simp [e]))⟩, by simp, setRow_heap w g cur _ U _ hb⟩
/-- .. where nothing goes over. -/
theorem R.copy0 {T S E bytes : Nat} {z : Value} [t : TySlice P T E 1 bytes z] {d : Option Nat} {x y : Operand} {dl dc sl sc : Nat} {a b : Option Addr}
    (hx : ev ρ x = some (.slice b dl dc)) (hy : ev ρ y = some (.slice a sl sc)) (hn : Nat.min sl dl = 0) :
    Does P n ρ w ⟨d, .call ⟨.builtin .copy, #[x, y], #[T, S]⟩, ty, pos, af, gd⟩ (fun v w' => v = .int .i64 0 ∧ w' = w) := by
  obtain ⟨i, hi, hs, _, _⟩ := t.i
  have hr := run_copy_none (P := P) w T S ty E b a dl dc sl sc t.h (by rw [hi]; simp [hs]) hn
  exact ⟨.int .i64 0, w, fun f hf => by
    simp only [execOp, resolve, invoke, builtin, Sem.run_bind, Sem.run_pure, Result.andThen_ok, List.map_toArray, List.map_cons, List.map_nil, hf.eval hx, hf.eval hy, hr]
    rfl, rfl, rfl⟩
/-- A call that the library's tables answer. -/
theorem R.callX {d : Option Nat} {f : FuncId} {args : Array Operand} {ats : Array TypeId} {vs : List Value} {v : Value} {w' : World} (hargs : evs ρ args.toList = some vs)
    (hc : (callFunc f vs.toArray).run P w = .ok (.value v) w') : Runs P n ρ w ⟨d, .call ⟨.value (.func f), args, ats⟩, ty, pos, af, gd⟩ v w' := by
  intro a ha
  have he : args.map a.eval = vs.toArray := by
    apply Array.toList_inj.1
    simpa using ha.evals hargs
  have h2 : execOp a.eval ⟨d, .call ⟨.value (.func f), args, ats⟩, ty, pos, af, gd⟩ = (do let x ← resolve a.eval ⟨.value (.func f), args, ats⟩ ty; invoke x.target x.args) := rfl
  have h3 : resolve a.eval ⟨.value (.func f), args, ats⟩ ty = pure ⟨.fn (.func f) #[], #[] ++ vs.toArray⟩ := by
    simp only [resolve, he]
    rfl
  rw [h2, h3]
  simp only [Sem.run_bind, Sem.run_pure, Result.andThen_ok]
  show (callFunc f ((#[] ++ vs.toArray) ++ #[])).run P w = _
  rw [show (#[] ++ vs.toArray) ++ #[] = vs.toArray by simp]
  exact hc
/-- bytealg.MakeNoZero. -/
theorem R.noZero {ps : Array TypeId} {T E size bytes : Nat} {z : Value} [t : TySlice P T E size bytes z] {d : Option Nat} {f : FuncId} {fn : Func} {x : Operand} {ats : Array TypeId} {k : Int}
    (hf : P.funcs[f]? = some fn) (hname : (fn.name == "runtime.NumGoroutine") = false) (hb : fn.body.isNone = true) (hn : Extern.findNext fn = none) (he : Extern.find fn = some (Extern.BytealgMakeNoZero.makeNoZero ps #[T]))
    (hx : ev ρ x = some (.int .i64 k)) (h0 : 0 ≤ k) (h1 : k ≤ 140737488355328) :
    Does P n ρ w ⟨d, .call ⟨.value (.func f), #[x], ats⟩, ty, pos, af, gd⟩ (fun v w' => ∃ b cs, v = .slice (some ⟨b, 0, none⟩) k.toNat cs.size ∧ w.heap.size = b ∧ w'.heap.size = b + 1 ∧ Ext [] w w' ∧ Blk w' b cs E (0, 0) ∧ k.toNat ≤ cs.size ∧ cs.size ≤ maxLen) := by
  obtain ⟨cs, hrun, hle, hmax⟩ := Lib.run_makeNoZero (P := P) w ps T E t.h k.toNat (by omega)
  have hk : ((k.toNat : Nat) : Int) = k := by omega
  rw [hk] at hrun
  refine ⟨_, _, R.callX (vs := [.int .i64 k]) (by simp [evs, hx]) (by rw [run_callFunc_extern hf hname hb hn he, hrun]; rfl), _, cs, rfl, rfl, by simp, ?_, Blk.new w.drew.drew _ _ _, hle, hmax (by simp [maxLen]; omega)⟩
  exact ((Ext.drew w).trans0 (Ext.drew _)).trans0 (Ext.alloc w.drew.drew _)
end

theorem Mine.grow {s : Nat} {w w' : World} {E size m n : Nat} {M : List Nat} {xs ys : List Value} {v : Value} (h : Appended w E size M m xs v w') (hM : ∀ g ∈ M, s ≤ g) (hs : s ≤ w.heap.size) (hm : m = n) (hx : xs = ys) :
    Mine s E size n ys v w' ∧ Above s w w' := by
  subst hm; subst hx
  obtain ⟨a, c, M', rfl, e, hM', o⟩ := h
  exact ⟨⟨a, c, M', rfl, o, fun g hg => (hM' g hg).elim (hM g) (Nat.le_trans hs)⟩, Above.of e hM⟩
/-- A block that is marked behind its end (a string's bytes): it may be written as any other. -/
theorem run_storeF {P : Program} {w : World} {T : TypeId} [t : TyOne P T] {b o : Nat} {cs : Array Value} {U : TypeId} {fz : Nat × Nat} {v : Value} (hb : Blk w b cs U fz) (ho : o < cs.size) (hf : cs.size ≤ fz.1) (h1 : v.oneCell' = true) :
    (Instr.storeAt T (.pointer (some ⟨b, o, none⟩)) v).run P w = .ok () (w.setCell ⟨b, o, none⟩ v) := by
  obtain ⟨i, hi, hs⟩ := TyOne.info (P := P) (T := T)
  have hc : v.cells = #[v] := by cases v <;> simp_all [Value.cells, Value.oneCell']
  have hcell : w.cell? ⟨b, o, none⟩ = some cs[o] := by rw [hb.cell]; simp [ho]
  have hfr : w.frozen? ⟨b, o, none⟩ = false := by
    simp only [World.frozen?]
    rw [show w.heap[b]? = some (.cells cs U fz) from hb]
    simp; omega
  have hst := run_store P w ⟨b, o, none⟩ v .plain h1
  simp only [hcell, hfr] at hst
  simp [Instr.storeAt, Instr.sureAddr, storeVar, hc, Go.sizeOf, typeInfo, hi, hs, storeCells, Go.Addr.add_zero', hst]
section
variable {P : Program} {n : Fm} {ρ : Env} {w : World} {ty : TypeId} {pos : String} {af : Array Edge} {gd : Option (Nat × Bool)}
theorem R.stF {T : TypeId} [t : TyOne P T] {x y : Operand} {b o : Nat} {cs : Array Value} {U : TypeId} {fz : Nat × Nat} {v : Value} (hx : ev ρ x = some (.pointer (some ⟨b, o, none⟩))) (hy : ev ρ y = some v) (hb : Blk w b cs U fz) (ho : o < cs.size) (hf : cs.size ≤ fz.1) (h1 : v.oneCell' = true) :
    Sets P n ρ w ⟨none, .store T x y, ty, pos, af, gd⟩ (fun w' => Ext [b] w w' ∧ w'.heap.size = w.heap.size ∧ Blk w' b (cs.setIfInBounds o v) U fz) :=
  ⟨_, fun f hff => by
    simp only [execOp, hff.eval hx, hff.eval hy, Sem.run_bind, run_storeF (T := T) hb ho hf h1]
    rfl, Ext.setCell _ ⟨b, o, none⟩ _, by simp, hb.set o v⟩
/-- A string's bytes in a new row of its own. -/
def NewO (w : World) (E : TypeId) (l : List UInt8) (v : Value) (w' : World) : Prop := ∃ b cs fz, v = .slice (some ⟨b, 0, none⟩) l.length cs.size ∧ w.heap.size = b ∧ w'.heap.size = b + 1 ∧ Ext [] w w' ∧ Blk w' b cs E fz ∧ cs.size ≤ fz.1 ∧ l.length ≤ cs.size ∧ cs.toList.take l.length = vbs l
theorem R.strBytesO {S T E : TypeId} [s : TyStr P S] [t : TyBytes P T E] {d : Nat} {x : Operand} {l : List UInt8} (hx : ev ρ x = some (.string (str l))) :
    Does P n ρ w ⟨some d, .convert S T x, ty, pos, af, gd⟩ (NewO w E l) := by
  have hr := run_bytes_of_string w S T E (str l) s.h t.h t.e
  have hge := grownCap_ge w l.length 0 E
  rw [str_size] at hr
  have hsz : (bytesRow (str l) (grownCap w l.length 0 E)).size = grownCap w l.length 0 E := by
    simp [bytesRow, str, ByteArray.size]
    omega
  have htk : (bytesRow (str l) (grownCap w l.length 0 E)).toList.take l.length = vbs l := by
    simp only [bytesRow, Array.toList_append]
    rw [List.take_left' (by simp [str])]
    simp [str, vbs, vb]
  refine ⟨_, _, fun f hf => ?_, w.heap.size, bytesRow (str l) (grownCap w l.length 0 E), ((bytesRow (str l) (grownCap w l.length 0 E)).size, (bytesRow (str l) (grownCap w l.length 0 E)).size + 1), by rw [hsz], rfl, by simp, (Ext.drew w).trans0 (Ext.alloc w.drew _), Blk.new w.drew _ _ _, Nat.le_refl _, by rw [hsz]; simpa using hge, htk⟩
  simp only [execOp, hf.eval hx, Sem.run_bind, hr, Result.andThen_ok]
  rfl
end
section
variable {P : Program} {n : Fm} {ρ : Env} {w : World} {d : Nat} {ty : TypeId} {pos : String} {af : Array Edge} {gd : Option (Nat × Bool)}
/-- &xs[i] of an array. -/
theorem R.idxA {T m E size : Nat} [t : TyArr P T m E size] {x y : Operand} {k : IntKind} {b o : Nat} {i : Int} (hx : ev ρ x = some (.pointer (some ⟨b, o, none⟩))) (hy : ev ρ y = some (.int k i)) (h0 : 0 ≤ i) (h1 : i < m) (j : Nat) (hj : o + i.toNat * size = j) :
    Runs P n ρ w ⟨some d, .indexAddr T x y, ty, pos, af, gd⟩ (.pointer (some ⟨b, j, none⟩)) w := by
  subst hj
  exact (fun f hf => by
    cases hq : P.info? E with
    | none => have := t.i; simp [hq] at this
    | some q =>
      have hs : q.size = size := by have := t.i; simpa [hq] using this
      subst hs
      simp [execOp, hf.eval hx, hf.eval hy, Instr.indexAt, asIntOf, Instr.sureAddr, run_underlying t.h, h0, h1, Go.sizeOf, typeInfo, hq, Go.Addr.add_lit])
/-- xs[:] of an array. -/
theorem R.slA {T m E size : Nat} [t : TyArr P T m E size] {x : Operand} {p : Addr} (hx : ev ρ x = some (.pointer (some p))) :
    Runs P n ρ w ⟨some d, .slice T x none none none, ty, pos, af, gd⟩ (.slice (some p) m m) w := (fun f hf => by
    cases hq : P.info? E with
    | none => have := t.i; simp [hq] at this
    | some q =>
      have hs : q.size = size := by have := t.i; simpa [hq] using this
      subst hs
      simp [execOp, hf.eval hx, Instr.sliceAt, Instr.sureAddr, Instr.sliceBounds, run_underlying t.h, Go.sizeOf, typeInfo, hq, Go.Addr.add_zero'])
end
theorem subA_lit {b o l m size : Nat} (h : m ≠ l) : subA (some ⟨b, o, none⟩) l m size = some ⟨b, o + l * size, none⟩ := by
  unfold subA
  rw [if_neg h, Option.map_some, Go.Addr.add_lit]
theorem wrap_u64 {z : Int} (h : 0 ≤ z ∧ z ≤ 18446744073709551615) : IntKind.u64.wrap z = z := by
  simp only [IntKind.wrap, IntKind.bits, IntKind.signed]
  simp; omega
theorem and32 {a : Int} (h0 : 0 ≤ a) (h1 : a ≤ 4294967295) : andI .u64 a 4294967295 = a := by
  obtain ⟨m, rfl⟩ := Int.eq_ofNat_of_zero_le h0
  unfold andI
  have e : (BitVec.ofInt IntKind.u64.bits (m : Int) &&& BitVec.ofInt IntKind.u64.bits 4294967295).toNat = m := by
    show (BitVec.ofInt 64 (m : Int) &&& BitVec.ofInt 64 ((4294967295 : Nat) : Int)).toNat = m
    rw [BitVec.ofInt_natCast, BitVec.ofInt_natCast, BitVec.toNat_and, BitVec.toNat_ofNat, BitVec.toNat_ofNat]
    rw [Nat.mod_eq_of_lt (show m < 2 ^ 64 by omega), Nat.mod_eq_of_lt (show 4294967295 < 2 ^ 64 by decide)]
    rw [show (4294967295 : Nat) = 2 ^ 32 - 1 by decide, Nat.and_two_pow_sub_one_eq_mod]
    exact Nat.mod_eq_of_lt (by omega)
  rw [e]
  exact wrap_u64 (by omega)
theorem shr32 (a : Int) : a.fdiv (2 ^ (Min.min (32 : Int).toNat IntKind.u64.bits)) = a / 4294967296 := Int.fdiv_eq_ediv_of_nonneg a (by decide)
end Brv
namespace Brv
open Go
/-- Cells laid over an owned row. -/
theorem Own.over {w : World} {E : Nat} {a : Option Addr} {n cap : Nat} {xs : List Value} {M : List Nat} (h : Own w E 1 a n cap xs M) {o : Nat} {cs : List Value} (ho : o + cs.length ≤ n) (hn : 0 < n) :
    ∃ g cur, a = some ⟨g, 0, none⟩ ∧ M = [g] ∧ Blk w g cur E (0, 0) ∧ o + cs.length ≤ cur.size ∧ ∀ w', Blk w' g (Over cur o cs) E (0, 0) → Own w' E 1 a n cap (xs.take o ++ cs ++ xs.drop (o + cs.length)) M := by
  rcases h.2 with ⟨_, rfl, _, _⟩ | ⟨g, cur, ha, hM, hb, hnc, hcm, hcs, ht⟩
  · omega
  · have hl := h.1
    rw [Nat.mul_one] at hl ht hcs
    refine ⟨g, cur, ha, hM, hb, by omega, fun w' hb' => ⟨by simp [hl]; omega, .inr ⟨g, _, ha, hM, hb', hnc, hcm, by rw [Over.size (by omega)]; simpa using hcs, ?_⟩⟩⟩
    rw [Nat.mul_one, ← ht]
    simp only [Over]
    rw [List.take_take, Nat.min_eq_left (by omega), List.take_append, List.take_append, List.take_of_length_le (l := List.take o cur.toList) (by rw [List.length_take]; omega), List.length_append, List.length_take, Array.length_toList, Nat.min_eq_left (show o ≤ cur.size by omega), List.take_of_length_le (l := cs) (by omega), List.drop_take]
end Brv
namespace Brv
open Go
theorem Own.mem {w : World} {E size : Nat} {a : Option Addr} {n cap : Nat} {xs : List Value} {M : List Nat} (h : Own w E size a n cap xs M) : ∀ p, a = some p → p.block ∈ M ∧ p.block < w.heap.size := by
  rcases h.2 with ⟨rfl, _⟩ | ⟨g, cur, rfl, rfl, hb, _⟩
  · intro p h; cases h
  · intro p h; cases h; exact ⟨by simp, hb.lt⟩
/-- Only what is new was written. -/
theorem Ext.news {M : List Nat} {w w' : World} (h : Ext M w w') (hM : ∀ x ∈ M, w.heap.size ≤ x) : Ext [] w w' := (Ext.refl [] w).trans h (by simp) (fun x hx => .inr (hM x hx))
theorem Ext.news2 {b : Nat} {w w' w'' : World} (h : Ext [] w w') (h2 : Ext [b] w' w'') (hb : w.heap.size ≤ b) : Ext [] w w'' := h.trans h2 (by simp) (fun x hx => .inr (by rw [List.mem_singleton.1 hx]; exact hb))
end Brv
/-
  Ranges over functions: what an iterator promises (Iter), the statement (G.range), a round's walk, calls of yield.
-/
set_option linter.unusedVariables false
namespace Brv
open Go

/-! ## Worlds in which no cells were turned -/
structure Still (w w' : World) : Prop where
  os : w'.os = w.os
  tape : w'.tape = w.tape
  output : w'.output = w.output
  size : w.heap.size ≤ w'.heap.size
  keep : ∀ (k : Nat) (cs : Array Value) (T : TypeId) (fz : Nat × Nat), w.heap[k]? = some (.cells cs T fz) → w'.heap[k]? = some (.cells cs T fz)
theorem Still.of {w w' : World} (h : Ext [] w w') : Still w w' := ⟨h.os, h.tape, h.output, h.size, fun k cs T fz hk => (h.keep k (Array.getElem?_eq_some_iff.1 hk).1 (by simp)).trans hk⟩
theorem Still.trans {a b c : World} (h : Still a b) (k : Still b c) : Still a c := ⟨k.os.trans h.os, k.tape.trans h.tape, k.output.trans h.output, Nat.le_trans h.size k.size, fun i cs T fz hi => k.keep i cs T fz (h.keep i cs T fz hi)⟩
def isCells : Obj → Bool
  | .cells .. => true
  | _ => false
theorem cells_of_cell {W : World} {a : Addr} {v : Value} (h : W.cell? a = some v) : ∃ o : Obj, W.heap[a.block]? = some o ∧ isCells o = true := by
  unfold World.cell? at h
  cases ho : W.heap[a.block]? with
  | none => simp [ho] at h
  | some o => exact ⟨o, rfl, by cases o <;> simp_all [isCells]⟩
theorem Still.cell {w w' : World} (h : Still w w') {p : Addr} {v : Value} (hc : w.cell? p = some v) : w'.cell? p = some v := by
  obtain ⟨o, ho, hcs⟩ := cells_of_cell hc
  cases o with
  | cells cs T fz => exact (World.cell?_of_block ((h.keep _ cs T fz ho).trans ho.symm)).trans hc
  | _ => cases hcs
theorem Blk.still {w w' : World} {b : Nat} {cs : Array Value} {T : TypeId} {fz : Nat × Nat} (h : Blk w b cs T fz) (hc : Still w w') : Blk w' b cs T fz := hc.keep _ _ _ _ h
theorem Cells.still {w w' : World} {a : Option Addr} {vs : List Value} (h : Cells w a vs) (hc : Still w w') : Cells w' a vs := fun j v hv => let ⟨p, hp, hq⟩ := h j v hv; ⟨p, hp, hc.cell hq⟩
theorem Bs.still {w w' : World} {a : Option Addr} {n : Nat} {l : List UInt8} (h : Bs w a n l) (hc : Still w w') : Bs w' a n l := ⟨h.cells.still hc, h.len⟩
theorem Own.still {w w' : World} {E size : Nat} {a : Option Addr} {n cap : Nat} {xs : List Value} {M : List Nat} (h : Own w E size a n cap xs M) (hc : Still w w') : Own w' E size a n cap xs M := by
  refine ⟨h.1, ?_⟩
  rcases h.2 with h | ⟨g, cur, ha, hM, hb, h⟩
  · exact .inl h
  · exact .inr ⟨g, cur, ha, hM, hb.still hc, h⟩
theorem Ext.putObj (w : World) (l : Nat) (o : Obj) : Ext [l] w (w.putObj l o) := ⟨rfl, rfl, rfl, by simp, fun k _ hk => World.putObj_heap_other (fun e => hk (by simp [e]))⟩
theorem Still.putObj {w : World} {l : Nat} {o : Obj} (o' : Obj) (h : w.heap[l]? = some o) (ho : isCells o = false) : Still w (w.putObj l o') :=
  ⟨rfl, rfl, rfl, by simp, fun k cs T fz hk => by
    by_cases e : k = l
    · subst e; rw [h] at hk; cases hk; cases ho
    · exact (World.putObj_heap_other e).trans hk⟩

/-! ## Yield -/
/-- A call of the function that an iterator was handed: it gives a bool. -/
def YCall (P : Program) (y : Value) (vs : List Value) (W : World) (R : Bool → World → Prop) : Prop :=
  (∃ l, y = .func (.yield l) #[] #[] ∧ YieldAt Fence.wide 0 P l vs.toArray W (fun e w' => ∃ b, e = .returned (.bool b) ∧ R b w')) ∨
  (∃ f first cap, y = .func (.func f) first cap ∧ (∀ (vs : Array Value) w, (callFunc f vs).run P w = .ok (.enter f vs) w) ∧ Meets P f (first.toList ++ vs ++ cap.toList) W (fun v w' => ∃ b, v = .bool b ∧ R b w'))

section
variable {P : Program} {B : Exit → Act → World → Prop} {n : Fm} {ops : List Oper} {ks : List K} {ρ : Env} {w : World} {rest : List Oper}
theorem run_callY {a : Act} {d : Option Tmp} {x : Operand} {l : Nat} {args : Array Operand} {ats : Array TypeId} {ty : TypeId} {pos : String} {af : Array Edge} {gd : Option (Nat × Bool)} {vs : List Value}
    (hx : a.eval x = .func (.yield l) #[] #[]) (he : args.toList.map a.eval = vs) (w : World) {r : Next} (hr : (Instr.yield l vs.toArray).run P w = .ok r w) :
    (execOp a.eval ⟨d, .call ⟨.value x, args, ats⟩, ty, pos, af, gd⟩).run P w = .ok r w := by
  have he' : args.map a.eval = vs.toArray := by
    apply Array.toList_inj.1
    simpa using he
  have h2 : execOp a.eval ⟨d, .call ⟨.value x, args, ats⟩, ty, pos, af, gd⟩ = (do let x ← resolve a.eval ⟨.value x, args, ats⟩ ty; invoke x.target x.args) := rfl
  have h3 : resolve a.eval ⟨.value x, args, ats⟩ ty = pure ⟨.fn (.yield l) #[], #[] ++ vs.toArray⟩ := by
    simp only [resolve, he', hx]
    rfl
  rw [h2, h3]
  simp only [Sem.run_bind, Sem.run_pure, Result.andThen_ok]
  show (Instr.yield l (#[] ++ vs.toArray)).run P w = _
  rw [show #[] ++ vs.toArray = vs.toArray by simp]
  exact hr
theorem L.ycall {d : Nat} {x : Operand} {y : Value} {args : Array Operand} {ats : Array TypeId} {ty : TypeId} {pos : String} {af : Array Edge} {gd : Option (Nat × Bool)} {vs : List Value} {R : Bool → World → Prop}
    (hg : wants ops ρ gd = some true) (hd : Nat.blt d n = true) (hx : ev ρ x = some y) (hargs : evs ρ args.toList = some vs) (hY : YCall P y vs w R)
    (h : ∀ b w', R b w' → L P B n ops ks ((d, .bool b) :: ρ) w' rest) : L P B n ops ks ρ w (⟨some d, .call ⟨.value x, args, ats⟩, ty, pos, af, gd⟩ :: rest) := by
  intro a ha
  have hd' : d < n := by simpa [Nat.blt_eq] using hd
  unfold wpListIn
  rw [if_pos (wants_spec ha hg)]
  rcases hY with ⟨l, rfl, fn, tmps, assign, body, hrun, hround⟩ | ⟨f, first, cap, rfl, hc, hf⟩
  · refine wpIn_run rfl (run_callY (ha.eval hx) (ha.evals hargs) w hrun) ?_
    refine ⟨fun h => (by rw [fen_depth] at h; cases h), ?_⟩
    have hr2 : RoundIn (fen n.ro) 0 P l fn tmps assign body w (fun e w' => ∃ b, e = .returned (.bool b) ∧ R b w') := by
      cases n.ro
      · exact hround
      · exact hround
    refine RoundIn.mono hr2 ?_
    rintro e w' ⟨b, rfl, hR⟩
    exact h b w' hR _ (ha.put hd' _)
  · refine wpIn_run rfl (run_callV (ha.eval hx) (ha.evals hargs) rfl (hc _) w) ⟨fun h => (by rw [fen_depth] at h; cases h), fen_calls ?_⟩
    refine Calls.mono hf ?_
    intro e w' he
    cases e with
    | returned v => obtain ⟨b, rfl, hR⟩ := he; exact h b w' hR _ (ha.put hd' _)
    | panicked c => exact he.elim
    | outgrown => exact he.elim
end

section
variable {P : Program} {n : Fm} {ρ : Env} {w : World} {d : Nat} {ty : TypeId} {pos : String} {af : Array Edge} {gd : Option (Nat × Bool)}
theorem R.mkFunc {fn : Fn} {first cap : Array Operand} {us vs : List Value} (h1 : evs ρ first.toList = some us) (h2 : evs ρ cap.toList = some vs) :
    Runs P n ρ w ⟨some d, .makeFunc fn first cap, ty, pos, af, gd⟩ (.func fn us.toArray vs.toArray) w := (fun f hf => by
    have e1 : first.map f.eval = us.toArray := by apply Array.toList_inj.1; simpa using hf.evals h1
    have e2 : cap.map f.eval = vs.toArray := by apply Array.toList_inj.1; simpa using hf.evals h2
    simp [execOp, Instr.makeFunc, e1, e2])
theorem R.eqNilF {T T' : TypeId} {ps rs : Array TypeId} {va : Bool} {x y : Operand} {fn : Fn} {us vs : Array Value} (hu : P.underlying T = some (.func ps rs va)) (hx : ev ρ x = some (.func fn us vs)) (hy : ev ρ y = some .nilFunc) :
    Runs P n ρ w ⟨some d, .binOp .eql T x y T', ty, pos, af, gd⟩ (.bool false) w := R.bin hx hy (fun w => by
    have he := run_equal (P := P) (T := T) (x := .func fn us vs) (y := .nilFunc) (r := false) w (fun d => by simp only [Op.equalIn, Sem.run_bind, run_underlying hu, Result.andThen_ok]; rfl)
    have hg : (eqGuard .eql T x y (.func fn us vs) .nilFunc).run P w = .ok () w := rfl
    simp only [hg, binOp, Sem.run_bind, Sem.run_pure, Result.andThen_ok, he])
theorem run_loadV {T : TypeId} [t : TyOne P T] {p : Addr} {v : Value} (hc : w.cell? p = some v) : (loadVar T p).run P w = .ok v w := by
  have := run_load1 (P := P) (T := T) hc
  simpa [Instr.loadAt, Instr.sureAddr] using this
theorem res3C {fn : Func} {ρ : Env} {a : Act} {t u s : Nat} {T U V : TypeId} [TyOne P T] [TyOne P U] [TyOne P V] {p q r : Addr} {v x y : Value} (hr : fn.results = #[.cell t T, .cell u U, .cell s V])
    (hv : look ρ t = some (.pointer (some p))) (hx : look ρ u = some (.pointer (some q))) (hy : look ρ s = some (.pointer (some r))) (ha : Fr n ρ a) (h1 : w.cell? p = some v) (h2 : w.cell? q = some x) (h3 : w.cell? r = some y) :
    (results fn a.tmps).run P w = .ok (.tuple #[v, x, y]) w := by
  have e1 := ha.getD hv
  have e2 := ha.getD hx
  have e3 := ha.getD hy
  have l1 := run_loadV (P := P) (T := T) h1
  have l2 := run_loadV (P := P) (T := U) h2
  have l3 := run_loadV (P := P) (T := V) h3
  rw [Array.getD_eq_getD_getElem?] at e1 e2 e3
  simp [results, hr, e1, e2, e3, asAddr, l1, l2, l3]
end
theorem leave1 {P : Program} {w : World} {d : Nat} (h : w.heap[d]? = some (.deferred (some []))) : Leave P [⟨.collected d, #[]⟩] w (w.putObj d (.deferred none)) := ⟨d, _, rfl, run_takeDeferred h, rfl⟩

/-! ## Iterators -/
/-- What the function gf (with what it has captured, lb) promises when it is ranged over from world w on: it yields N times, the k-th time what E k tells; it reads the blocks of F, writes those of M; behind its k-th yield S k holds of those. The consumer writes blocks of its own list, which may grow. -/
def Iter (P : Program) (gf : FuncId) (lb : List Value) (w : World) (N : Nat) (E : Nat → List Value → World → Prop) (S : Nat → World → Prop) (F M : List Nat) : Prop :=
  ∀ (y : Value) (D₀ : List Nat) (J Jx : Nat → List Nat → World → Prop) (W : World), Ext [] w W → (∀ g ∈ D₀, g < W.heap.size ∧ g ∉ F ∧ g ∉ M) →
    (∀ k D W₁ W₂ M', J k D W₁ → Ext M' W₁ W₂ → (∀ g ∈ M', g ∉ D ∧ (g ∈ M ∨ w.heap.size ≤ g)) → J k D W₂) →
    (∀ k D W₁ W₂ M', Jx k D W₁ → Ext M' W₁ W₂ → (∀ g ∈ M', g ∉ D ∧ (g ∈ M ∨ w.heap.size ≤ g)) → Jx k D W₂) →
    (∀ k D vs W₁, k < N → J k D W₁ → E k vs W₁ → (∀ g ∈ D, g < W₁.heap.size) → YCall P y vs W₁ fun b W₂ => ∃ D', Ext D W₁ W₂ ∧ (∀ g ∈ D', g < W₂.heap.size ∧ (g ∈ D ∨ W₁.heap.size ≤ g)) ∧ (b = true → J (k + 1) D' W₂) ∧ (b = false → Jx (k + 1) D' W₂)) →
    J 0 D₀ W → Meets P gf (y :: lb) W fun _ W₂ => (∃ D, J N D W₂ ∧ S N W₂) ∨ ∃ k D, k ≤ N ∧ Jx k D W₂ ∧ S k W₂

/-- How a round's body may be left. -/
def roundB (k : Nat) (D : List Nat) (W : World) (I : Nat → List Nat → World → Prop) (Ix : Code → Nat → List Nat → World → Prop) : Exit → Act → World → Prop
  | .normal, _, w' => ∃ D', Ext D W w' ∧ (∀ g ∈ D', g < w'.heap.size ∧ (g ∈ D ∨ W.heap.size ≤ g)) ∧ I (k + 1) D' w'
  | .ret, _, w' => ∃ D', Ext D W w' ∧ (∀ g ∈ D', g < w'.heap.size ∧ (g ∈ D ∨ W.heap.size ≤ g)) ∧ Ix .ret (k + 1) D' w'
  | .exit id, _, w' => ∃ D', Ext D W w' ∧ (∀ g ∈ D', g < w'.heap.size ∧ (g ∈ D ∨ W.heap.size ≤ g)) ∧ Ix (.exit id) (k + 1) D' w'
  | .goto t, _, w' => ∃ D', Ext D W w' ∧ (∀ g ∈ D', g < w'.heap.size ∧ (g ∈ D ∨ W.heap.size ≤ g)) ∧ Ix (.goto t) (k + 1) D' w'
  | _, _, _ => False
/-- Behind the assignment of the loop's variables: the body. -/
def assignB (P : Program) (l k : Nat) (D : List Nat) (W : World) (I : Nat → List Nat → World → Prop) (Ix : Code → Nat → List Nat → World → Prop) (body : Code) : Exit → Act → World → Prop
  | .normal, a, w₂ => Ext [] W w₂ ∧ ∀ wb, Ext [l] w₂ wb → Still w₂ wb → body.wpIn (fen (some l)) 0 P (roundB k D wb I Ix) a wb
  | _, _, _ => False

def bindEnv : List Tmp → List Value → Env → Env
  | p :: ps, v :: vs, ρ => bindEnv ps vs ((p, v) :: ρ)
  | _, _, ρ => ρ

theorem bind_fr {n : Fm} : ∀ (ps : List Tmp) (vs : List Value) {ρ : Env} {a : Act}, Fr n ρ a → (∀ p ∈ ps, p < n.n) → Fr n (bindEnv ps vs ρ) { a with tmps := (ps.zip vs).foldl (fun t (p, v) => t.setIfInBounds p v) a.tmps }
  | [], _, ρ, a, h, _ => by cases a; exact h
  | p :: ps, [], ρ, a, h, _ => by cases a; exact h
  | p :: ps, v :: vs, ρ, a, h, hp => by
    have h1 : Fr n ((p, v) :: ρ) (a.put (some p) v) := h.put (hp p (by simp)) v
    exact bind_fr ps vs h1 (fun q hq => hp q (by simp [hq]))

section
variable {P : Program} {B : Exit → Act → World → Prop} {n : Nat} {df : List Deferred} {ks : List K} {ρ : Env} {w : World}
theorem N.round {l k : Nat} {D : List Nat} {W : World} {I : Nat → List Nat → World → Prop} {Ix : Code → Nat → List Nat → World → Prop} {body : Code} (hE : Ext [] W w)
    (h : ∀ wb, Ext [l] w wb → Still w wb → G P (roundB k D wb I Ix) ⟨n, [], some l⟩ [] ρ wb body) : N P (assignB P l k D W I Ix body) ⟨n, [], some l⟩ [] ρ w :=
  N.done fun a ha => ⟨hE, fun wb h1 h2 => h wb h1 h2 a ha⟩

/-- for .. := range g { body } -/
theorem G.range {g : Operand} {ps : Array Tmp} {assign body : Code} {gf : FuncId} {lb : List Value} {Nn : Nat} {E : Nat → List Value → World → Prop} {S : Nat → World → Prop} {F M : List Nat}
    (hps : ps.toList.all (fun p => Nat.blt p n) = true) (hg : ev ρ g = some (.func (.func gf) #[] lb.toArray)) (eg : ∀ (vs : Array Value) w, (callFunc gf vs).run P w = .ok (.enter gf vs) w)
    (hit : Iter P gf lb w Nn E S F M) (hS : ∀ k W W', S k W → Still W W' → S k W') (D₀ : List Nat) (hD : ∀ x ∈ D₀, x < w.heap.size ∧ x ∉ F ∧ x ∉ M) (hFM : ∀ x, x ∈ F ∨ x ∈ M → x < w.heap.size)
    (I : Nat → List Nat → World → Prop) (Ix : Code → Nat → List Nat → World → Prop)
    (hI : ∀ k D W₁ W₂ M', I k D W₁ → Ext M' W₁ W₂ → (∀ g ∈ M', g ∉ D ∧ (g ∈ M ∨ w.heap.size ≤ g)) → I k D W₂)
    (hIx : ∀ c k D W₁ W₂ M', Ix c k D W₁ → Ext M' W₁ W₂ → (∀ g ∈ M', g ∉ D ∧ (g ∈ M ∨ w.heap.size ≤ g)) → Ix c k D W₂)
    (h0 : I 0 D₀ w)
    (hround : ∀ l k D vs W₁, w.heap.size ≤ l → l < W₁.heap.size → l ∉ D → (∀ g ∈ D, g < W₁.heap.size) → k < Nn → I k D W₁ → E k vs W₁ → vs.length = ps.size ∧ G P (assignB P l k D W₁ I Ix body) ⟨n, [], some l⟩ [] (bindEnv ps.toList vs ρ) W₁ assign)
    (hdone : ∀ d D W₂, w.heap.size ≤ d → d ∉ D → W₂.heap[d]? = some (.deferred (some [])) → I Nn D W₂ → S Nn W₂ → N P B ⟨n, ⟨.collected d, #[]⟩ :: df, none⟩ ks ρ W₂)
    (hstop : ∀ d D k c W₂, w.heap.size ≤ d → d ∉ D → W₂.heap[d]? = some (.deferred (some [])) → k ≤ Nn → Ix c k D W₂ → S k W₂ → G P B ⟨n, ⟨.collected d, #[]⟩ :: df, none⟩ ks ρ W₂ c) :
    G P B ⟨n, df, none⟩ ks ρ w (.rangeFunc g ps assign body) := by
  intro a ha
  refine wpIn_rangeFunc (F := Fence.wide) ?_
  intro fn hfn
  obtain ⟨rec, hrec⟩ : ∃ rec : LoopState → Option Code → Loop, rec = fun st pe => { state := st, pending := pe, fn, tmps := a.tmps, params := ps, assign, body, defers := w.heap.size } := ⟨_, rfl⟩
  obtain ⟨W1, hW1⟩ : ∃ W1, (w.alloc (.deferred (some []))).alloc (.loop (rec .ready none)) = W1 := ⟨_, rfl⟩
  have hL1 : W1.heap[w.heap.size + 1]? = some (.loop (rec .ready none)) := by
    rw [← hW1]; have := World.alloc_heap_new (w.alloc (.deferred (some []))) (.loop (rec .ready none)); rwa [World.size_alloc] at this
  have hK1 : W1.heap[w.heap.size]? = some (.deferred (some [])) := by
    rw [← hW1]; exact ((Ext.alloc (w.alloc (.deferred (some []))) _).keep _ (by simp) (by simp)).trans (World.alloc_heap_new w _)
  have hE1 : Ext [] w W1 := by rw [← hW1]; exact (Ext.alloc w _).trans0 (Ext.alloc _ _)
  have hs1 : W1.heap.size = w.heap.size + 2 := by rw [← hW1]; simp
  refine ⟨w.heap.size + 1, [{ target := .collected w.heap.size, args := #[] }], W1, { target := .fn (.func gf) lb.toArray, args := #[.func (.yield (w.heap.size + 1)) #[] #[]] }, W1, gf,
    #[.func (.yield (w.heap.size + 1)) #[] #[]] ++ lb.toArray, W1, ?_, ?_, fun _ _ => trivial, ?_, fun h => (by cases h), ?_⟩
  · rw [← hW1, hrec]; exact run_enterLoop_outer _ _ _ _ _
  · simp only [resolve, ha.eval hg]
    simp [go_sem]
  · simp [invoke, go_sem, eg]
  · -- the iterator
    have hrel : ∀ {D : List Nat} {W A : World} {M' : List Nat}, (∀ g ∈ M', g ∉ (w.heap.size + 1) :: D ∧ g ≠ w.heap.size ∧ (g ∈ M ∨ w.heap.size ≤ g)) → Ext M' W A → ∀ {o : Obj} {j : Nat}, W.heap[j]? = some o → (j = w.heap.size + 1 ∨ j = w.heap.size) → A.heap[j]? = some o := by
      intro D W A M' hM' he o j hj hjj
      refine (he.keep j (Array.getElem?_eq_some_iff.1 hj).1 (fun hm => ?_)).trans hj
      obtain ⟨h1, h2, _⟩ := hM' j hm
      rcases hjj with rfl | rfl
      · exact h1 (by simp)
      · exact h2 rfl
    have hm := hit (.func (.yield (w.heap.size + 1)) #[] #[]) ((w.heap.size + 1) :: w.heap.size :: D₀)
      (fun k DD W => ∃ D, DD = (w.heap.size + 1) :: w.heap.size :: D ∧ I k D W ∧ W.heap[w.heap.size + 1]? = some (.loop (rec .ready none)) ∧ W.heap[w.heap.size]? = some (.deferred (some [])) ∧ w.heap.size + 1 ∉ D ∧ w.heap.size ∉ D)
      (fun k DD W => ∃ D c, DD = (w.heap.size + 1) :: w.heap.size :: D ∧ Ix c k D W ∧ W.heap[w.heap.size + 1]? = some (.loop (rec .done (some c))) ∧ W.heap[w.heap.size]? = some (.deferred (some [])) ∧ w.heap.size + 1 ∉ D ∧ w.heap.size ∉ D)
      W1 hE1 (by
        intro x hx
        simp only [List.mem_cons] at hx
        rcases hx with rfl | rfl | hx
        · exact ⟨by omega, fun h => by have := hFM _ (.inl h); omega, fun h => by have := hFM _ (.inr h); omega⟩
        · exact ⟨by omega, fun h => by have := hFM _ (.inl h); omega, fun h => by have := hFM _ (.inr h); omega⟩
        · exact ⟨by have := (hD x hx).1; omega, (hD x hx).2⟩)
      (by
        rintro k _ A A' M' ⟨D, rfl, hi, hl, hd, h1, h2⟩ he hM'
        refine ⟨D, rfl, hI k D A A' M' hi he (fun x hx => ⟨fun h => (hM' x hx).1 (by simp [h]), (hM' x hx).2⟩), ?_, ?_, h1, h2⟩
        · exact (he.keep _ (Array.getElem?_eq_some_iff.1 hl).1 (fun h => (hM' _ h).1 (by simp))).trans hl
        · exact (he.keep _ (Array.getElem?_eq_some_iff.1 hd).1 (fun h => (hM' _ h).1 (by simp))).trans hd)
      (by
        rintro k _ A A' M' ⟨D, c, rfl, hi, hl, hd, h1, h2⟩ he hM'
        refine ⟨D, c, rfl, hIx c k D A A' M' hi he (fun x hx => ⟨fun h => (hM' x hx).1 (by simp [h]), (hM' x hx).2⟩), ?_, ?_, h1, h2⟩
        · exact (he.keep _ (Array.getElem?_eq_some_iff.1 hl).1 (fun h => (hM' _ h).1 (by simp))).trans hl
        · exact (he.keep _ (Array.getElem?_eq_some_iff.1 hd).1 (fun h => (hM' _ h).1 (by simp))).trans hd)
      (by
        rintro k _ vs A hk ⟨D, rfl, hi, hl, hd, h1, h2⟩ hEv hDl
        refine .inl ⟨_, rfl, ?_⟩
        have hlt : w.heap.size + 1 < A.heap.size := (Array.getElem?_eq_some_iff.1 hl).1
        obtain ⟨hlen, hG⟩ := hround (w.heap.size + 1) k D vs A (by omega) hlt h1 (fun x hx => hDl x (by simp [hx])) hk hi hEv
        have hy := run_yield (P := P) (args := vs.toArray) hl (by rw [hrec]; simpa using hlen)
        rw [hrec] at hy
        refine ⟨fn, _, assign, body, hy, roundIn_of_wpIn hfn ?_⟩
        have hfr : Fr ⟨n, [], some (w.heap.size + 1)⟩ (bindEnv ps.toList vs ρ) { tmps := (ps.toList.zip vs).foldl (fun t (p, v) => t.setIfInBounds p v) a.tmps, defers := [] } :=
          bind_fr (n := ⟨n, [], some (w.heap.size + 1)⟩) ps.toList vs (a := { tmps := a.tmps, defers := [] }) ⟨ha.size, rfl, ha.vals⟩ (fun p hp => by simpa [Nat.blt_eq] using List.all_eq_true.1 hps p hp)
        have hz : (ps.zip vs.toArray).foldl (fun t (p, v) => t.setIfInBounds p v) a.tmps = (ps.toList.zip vs).foldl (fun t (p, v) => t.setIfInBounds p v) a.tmps := by
          rw [← Array.foldl_toList, Array.toList_zip]
        rw [hz]
        have hw := hG _ hfr
        refine wpIn_mono (F := Fence.wide.inRound (w.heap.size + 1)) (fen_wp (r := some (w.heap.size + 1)) hw) ?_
        intro e a₁ w₂ hq
        cases e with
        | normal =>
          obtain ⟨hE2, hq⟩ := hq
          have hl2 : w₂.heap[w.heap.size + 1]? = some (.loop (rec .ready none)) := (hE2.keep _ hlt (by simp)).trans hl
          have hd2 : w₂.heap[w.heap.size]? = some (.deferred (some [])) := (hE2.keep _ (by omega) (by simp)).trans hd
          have hbr := run_beginRound (P := P) hl2 (by rw [hrec])
          refine ⟨_, hbr, ?_⟩
          have hlt2 : w.heap.size + 1 < w₂.heap.size := Nat.lt_of_lt_of_le hlt hE2.size
          have hl3 : (w₂.putObj (w.heap.size + 1) (.loop { rec .ready none with state := .busy })).heap[w.heap.size + 1]? = some (.loop { rec .ready none with state := .busy }) := World.putObj_heap_same hlt2
          have hd3 : (w₂.putObj (w.heap.size + 1) (.loop { rec .ready none with state := .busy })).heap[w.heap.size]? = some (.deferred (some [])) := (World.putObj_heap_other (by omega)).trans hd2
          have hE3 := Ext.putObj w₂ (w.heap.size + 1) (.loop { rec .ready none with state := .busy })
          refine wpIn_mono (F := Fence.wide.inRound (w.heap.size + 1)) (fen_wp (r := some (w.heap.size + 1)) (hq _ hE3 (Still.putObj _ hl2 rfl))) ?_
          have fin : ∀ (jump : Option Code) (W3 : World) (D' : List Nat), Ext D (w₂.putObj (w.heap.size + 1) (.loop { rec .ready none with state := .busy })) W3 → (∀ g ∈ D', g < W3.heap.size ∧ (g ∈ D ∨ (w₂.putObj (w.heap.size + 1) (.loop { rec .ready none with state := .busy })).heap.size ≤ g)) →
              (Instr.endRound (w.heap.size + 1) jump).run P W3 = .ok (.bool jump.isNone) (W3.putObj (w.heap.size + 1) (.loop (rec (if jump.isNone then .ready else .done) jump))) ∧
              (W3.putObj (w.heap.size + 1) (.loop (rec (if jump.isNone then .ready else .done) jump))).heap[w.heap.size + 1]? = some (.loop (rec (if jump.isNone then .ready else .done) jump)) ∧
              (W3.putObj (w.heap.size + 1) (.loop (rec (if jump.isNone then .ready else .done) jump))).heap[w.heap.size]? = some (.deferred (some [])) ∧ w.heap.size + 1 ∉ D' ∧ w.heap.size ∉ D' ∧
              Ext ((w.heap.size + 1) :: w.heap.size :: D) A (W3.putObj (w.heap.size + 1) (.loop (rec (if jump.isNone then .ready else .done) jump))) ∧
              (∀ g ∈ (w.heap.size + 1) :: w.heap.size :: D', g < (W3.putObj (w.heap.size + 1) (.loop (rec (if jump.isNone then .ready else .done) jump))).heap.size ∧ (g ∈ (w.heap.size + 1) :: w.heap.size :: D ∨ A.heap.size ≤ g)) ∧
              Ext [w.heap.size + 1] W3 (W3.putObj (w.heap.size + 1) (.loop (rec (if jump.isNone then .ready else .done) jump))) := fun jump W3 D' hx hD' => by
            have hl4 : W3.heap[w.heap.size + 1]? = some (.loop { rec .ready none with state := .busy }) := (hx.keep _ (by simpa using hlt2) h1).trans hl3
            have hd4 : W3.heap[w.heap.size]? = some (.deferred (some [])) := (hx.keep _ (by simp; omega) h2).trans hd3
            have hlt4 : w.heap.size + 1 < W3.heap.size := (Array.getElem?_eq_some_iff.1 hl4).1
            have her := run_endRound (P := P) jump hl4
            rw [hrec] at her ⊢
            have hsz : w₂.heap.size ≤ W3.heap.size := by have := hx.size; simpa using this
            have n1 : w.heap.size + 1 ∉ D' := fun h => (hD' _ h).2.elim h1 (fun h => by simp at h; omega)
            have n2 : w.heap.size ∉ D' := fun h => (hD' _ h).2.elim h2 (fun h => by simp at h; omega)
            have hx2 := Ext.putObj W3 (w.heap.size + 1) (.loop { state := if jump.isNone = true then LoopState.ready else LoopState.done, pending := jump, fn := fn, tmps := a.tmps, params := ps, assign := assign, body := body, defers := w.heap.size })
            refine ⟨her, World.putObj_heap_same hlt4, (World.putObj_heap_other (by omega)).trans hd4, n1, n2, ?_, ?_, hx2⟩
            · have e1 : Ext ((w.heap.size + 1) :: w.heap.size :: D) A _ := hE3.after hE2 |>.mono (fun x hx => .inl (by simp at hx ⊢; exact .inl hx))
              have e2 := e1.transN hx (fun x hx => .inl (by simp [hx]))
              exact e2.transN hx2 (fun x hx => .inl (by simp at hx ⊢; exact .inl hx))
            · intro x hx'
              simp only [List.mem_cons] at hx'
              rcases hx' with rfl | rfl | hx'
              · exact ⟨by simpa using hlt4, .inl (by simp)⟩
              · exact ⟨by simp; omega, .inl (by simp)⟩
              · obtain ⟨h3, h4⟩ := hD' x hx'
                refine ⟨by simpa using h3, h4.elim (fun h => .inl (by simp [h])) (fun h => .inr ?_)⟩
                simp at h
                exact Nat.le_trans hE2.size h
          have stabM : ∀ {D' : List Nat}, w.heap.size + 1 ∉ D' → ∀ g ∈ [w.heap.size + 1], g ∉ D' ∧ (g ∈ M ∨ w.heap.size ≤ g) := fun h g hg => by
            rw [List.mem_singleton.1 hg]; exact ⟨h, .inr (by omega)⟩
          rintro e a3 W3 hp
          cases e with
          | normal =>
            obtain ⟨D', hx, hD', hi'⟩ := hp
            obtain ⟨f1, f2, f3, n1, n2, f4, f5, f6⟩ := fin none W3 D' hx hD'
            exact ⟨_, _, f1, true, rfl, _, f4, f5, fun _ => ⟨D', rfl, hI _ _ _ _ _ hi' f6 (stabM n1), f2, f3, n1, n2⟩, fun h => by cases h⟩
          | ret =>
            obtain ⟨D', hx, hD', hi'⟩ := hp
            obtain ⟨f1, f2, f3, n1, n2, f4, f5, f6⟩ := fin (some .ret) W3 D' hx hD'
            exact ⟨_, _, f1, false, rfl, _, f4, f5, fun h => (by cases h), fun _ => ⟨D', _, rfl, hIx _ _ _ _ _ _ hi' f6 (stabM n1), f2, f3, n1, n2⟩⟩
          | exit id =>
            obtain ⟨D', hx, hD', hi'⟩ := hp
            obtain ⟨f1, f2, f3, n1, n2, f4, f5, f6⟩ := fin (some (.exit id)) W3 D' hx hD'
            exact ⟨_, _, f1, false, rfl, _, f4, f5, fun h => (by cases h), fun _ => ⟨D', _, rfl, hIx _ _ _ _ _ _ hi' f6 (stabM n1), f2, f3, n1, n2⟩⟩
          | goto t =>
            obtain ⟨D', hx, hD', hi'⟩ := hp
            obtain ⟨f1, f2, f3, n1, n2, f4, f5, f6⟩ := fin (some (.goto t)) W3 D' hx hD'
            exact ⟨_, _, f1, false, rfl, _, f4, f5, fun h => (by cases h), fun _ => ⟨D', _, rfl, hIx _ _ _ _ _ _ hi' f6 (stabM n1), f2, f3, n1, n2⟩⟩
          | panic ch => exact hp.elim
          | outgrown => exact hp.elim
        | _ => exact hq.elim)
      ⟨D₀, rfl, hI 0 D₀ w W1 [] h0 hE1 (by simp), hL1, hK1, fun h => by have := (hD _ h).1; omega, fun h => by have := (hD _ h).1; omega⟩
    have e : (Value.func (.yield (w.heap.size + 1)) #[] #[] :: lb).toArray = #[.func (.yield (w.heap.size + 1)) #[] #[]] ++ lb.toArray := by simp
    unfold Meets at hm
    rw [e] at hm
    refine CallsIn.mono (callsIn_wide.2 hm) ?_
    intro e W2 he
    cases e with
    | returned v =>
      have stabM : ∀ {D' : List Nat}, w.heap.size + 1 ∉ D' → ∀ g ∈ [w.heap.size + 1], g ∉ D' ∧ (g ∈ M ∨ w.heap.size ≤ g) := fun h g hg => by
        rw [List.mem_singleton.1 hg]; exact ⟨h, .inr (by omega)⟩
      rcases he with ⟨_, ⟨D, rfl, hi, hl, hd, h1, h2⟩, hs⟩ | ⟨k, _, hk, ⟨D, c, rfl, hi, hl, hd, h1, h2⟩, hs⟩
      · refine ⟨none, _, by have := run_endLoop (P := P) hl (by rw [hrec]; simp); rw [hrec] at this; exact this, ?_⟩
        exact hdone w.heap.size D _ (Nat.le_refl _) h2 ((World.putObj_heap_other (by omega)).trans hd) (hI _ _ _ _ _ hi (Ext.putObj _ _ _) (stabM h1)) (hS _ _ _ hs (Still.putObj _ hl rfl)) _ ⟨ha.size, by simp [ha.defers], ha.vals⟩
      · refine ⟨some c, _, by have := run_endLoop (P := P) hl (by rw [hrec]; simp); rw [hrec] at this; exact this, ?_⟩
        exact fen_wp (r := none) (hstop w.heap.size D k c _ (Nat.le_refl _) h2 ((World.putObj_heap_other (by omega)).trans hd) hk (hIx _ _ _ _ _ _ hi (Ext.putObj _ _ _) (stabM h1)) (hS _ _ _ hs (Still.putObj _ hl rfl)) _ ⟨ha.size, by simp [ha.defers], ha.vals⟩)
    | panicked ch => exact he.elim
    | outgrown => exact he.elim
end
end Brv
/-
  Structures among a row's arguments.
-/
set_option linter.unusedVariables false
namespace Brv
open Go
theorem okWide_struct {P : Program} {w : World} {r : Reach} {base : Nat} {t : TypeId} {v : Value} {fs : Array Field} (ht : P.underlying t = some (.struct fs)) (h : Value.okWide P w r base t v) : ∃ cs, v = .agg cs ∧ cs.size = P.cellsOf t := by
  simp only [Value.okWide, ht] at h
  obtain ⟨cs, h1, h2, _⟩ := h
  exact ⟨cs, h1, h2⟩
end Brv
/-
  Arrays of bytes as values: from slices, compared.
-/
set_option linter.unusedVariables false
namespace Brv
open Go
section
variable {P : Program} {n : Fm} {ρ : Env} {w : World} {d : Nat} {ty : TypeId} {pos : String} {af : Array Edge} {gd : Option (Nat × Bool)}
/-- (*[m]E)(xs). -/
theorem R.s2ap {T m E size : Nat} [t : TyArr P T m E size] {x : Operand} {a : Option Addr} {k c : Nat} (hx : ev ρ x = some (.slice a k c)) (hk : m ≤ k) :
    Runs P n ρ w ⟨some d, .sliceToArrayPointer T x, ty, pos, af, gd⟩ (.pointer a) w := (fun f hf => by
    simp [execOp, hf.eval hx, run_arrayAt w T E m a k c t.h hk])
/-- An array type of bytes, that may be compared. -/
class TyBArr (P : Program) (T : TypeId) (m : outParam Nat) : Prop where
  h : ∃ E, P.underlying T = some (.array m E) ∧ P.underlying E = some (.int .u8) ∧ (P.info? E).map (·.size) = some 1
  g : P.eqGuardType P.depth T = false
theorem vbs_cell (l : List UInt8) : vbs l = l.map Extern.Stop.cell := rfl
theorem R.neArr {T T' : TypeId} {m : Nat} [t : TyBArr P T m] {x y : Operand} {a b : List UInt8} (hx : ev ρ x = some (.agg (vbs a).toArray)) (hy : ev ρ y = some (.agg (vbs b).toArray)) (ha : a.length = m) (hb : b.length = m) :
    Runs P n ρ w ⟨some d, .binOp .neq T x y T', ty, pos, af, gd⟩ (.bool (decide (a ≠ b))) w := R.bin hx hy (fun w => by
    obtain ⟨E, h1, h2, h3⟩ := t.h
    have hsz : ∀ w, (Go.sizeOf E).run P w = .ok 1 w := by
      intro w
      cases hq : P.info? E with
      | none => simp [hq] at h3
      | some q => have : q.size = 1 := by simpa [hq] using h3
                  simp [Go.sizeOf, typeInfo, hq, this]
    simp only [Sem.run_bind, run_eqGuard_agg (w := w) .neq T x y _ _ t.g, Result.andThen_ok, run_neq_struct, vbs_cell, run_equalIn_bytes w 9998 T E m h1 h2 hsz a b ha hb]
    congr 2
    by_cases h : a = b <;> simp [h])
end
theorem cells_repV {cur : Array Value} {p q : Nat} {y : Value} (h : cur.toList.take p = List.replicate p y) (hq : q ≤ p) (j : Nat) (v : Value) (hj : (List.replicate q y)[j]? = some v) : cur[0 + j]? = some v := by
  have hlt : j < q := by have := (List.getElem?_eq_some_iff.1 hj).1; simpa using this
  have h1 : (List.replicate p y)[j]? = some v := by rw [List.getElem?_replicate] at hj ⊢; rw [if_pos hlt] at hj; rw [if_pos (by omega)]; exact hj
  rw [← h, List.getElem?_take, if_pos (by omega)] at h1
  simpa using h1
theorem Cells.none {w : World} {vs : List Value} (h : Cells w none vs) : vs = [] := by
  cases vs with
  | nil => rfl
  | cons v vs => obtain ⟨p, hp, _⟩ := h 0 v rfl; cases hp
end Brv
namespace Brv
open Go
def ptr (b : Nat) : Value := .pointer (some ⟨b, 0, none⟩)
theorem ptrs_one (ps : List Nat) : ∀ u ∈ ps.map ptr, u.oneCell' = true := by
  intro u hu
  obtain ⟨b, _, rfl⟩ := List.mem_map.1 hu
  rfl
theorem R.lenT {P : Program} {n : Fm} {ρ : Env} {w : World} {d : Nat} {ty : TypeId} {pos : String} {af : Array Edge} {gd : Option (Nat × Bool)} {T : Nat} [t : TyStr P T] {x : Operand} {l : List UInt8} (hx : ev ρ x = some (.string (str l))) :
    Runs P n ρ w ⟨some d, .call ⟨.builtin .len, #[x], #[T]⟩, ty, pos, af, gd⟩ (.int .i64 (l.length : Int)) w := R.lenStr hx
theorem all_stored {cs vs : Array Value} (h : cs.size = vs.size) : (cs.toList.take 0 ++ vs.toList ++ cs.toList.drop (0 + vs.size)).toArray = vs := by
  rw [List.take_zero, List.nil_append, List.drop_of_length_le (by rw [Array.length_toList]; omega), List.append_nil]
end Brv
/-
  Disks of blocks of 64 bytes, as plain bytes.
-/
set_option linter.unusedVariables false
namespace Brv.Image
open Go Brv
def dn (x : List UInt8) : Nat := x.length / 64
def blk (x : List UInt8) (k : Nat) : List UInt8 := (x.drop (64 * k)).take 64
def laid (x : List UInt8) (k : Nat) (s : List UInt8) : List UInt8 := x.take (64 * k) ++ s ++ x.drop (64 * k + 64)
theorem blk_length {x : List UInt8} {k : Nat} (hk : k < dn x) : (blk x k).length = 64 := by
  simp only [dn] at hk
  simp only [blk, List.length_take, List.length_drop]; omega
theorem blk_ge {x : List UInt8} {k : Nat} (h : x.length = 64 * dn x) (hk : dn x ≤ k) : blk x k = [] := by
  apply List.eq_nil_of_length_eq_zero
  simp only [blk, List.length_take, List.length_drop]; omega
theorem blk_ne {x y : List UInt8} {i : Nat} (hx : x.length = 64 * dn x) (h : dn x ≤ i) (h2 : i < dn y) : blk x i ≠ blk y i := by
  rw [blk_ge hx h]; intro e; have := blk_length h2; rw [← e] at this; cases this
theorem laid_length {x s : List UInt8} {k : Nat} (hs : s.length = 64) (hk : k < dn x) : (laid x k s).length = x.length := by
  simp only [dn] at hk
  simp only [laid, List.length_append, List.length_take, List.length_drop]; omega
theorem laid_dn {x s : List UInt8} {k : Nat} (hs : s.length = 64) (hk : k < dn x) : dn (laid x k s) = dn x := by
  unfold dn; rw [laid_length hs hk]
theorem laid_blk {x s : List UInt8} {k j : Nat} (hs : s.length = 64) (hk : k < dn x) : blk (laid x k s) j = if j = k then s else blk x j := by
  simp only [dn] at hk
  refine List.ext_getElem? (fun n => ?_)
  unfold blk
  rw [List.getElem?_take]
  by_cases hn : n < 64
  · rw [if_pos hn, List.getElem?_drop]
    have e : (laid x k s)[64 * j + n]? = if 64 * j + n < 64 * k then x[64 * j + n]? else if 64 * j + n < 64 * k + 64 then s[64 * j + n - 64 * k]? else x[64 * j + n]? := by
      unfold laid
      rw [List.append_assoc]
      split
      · rename_i h1
        rw [List.getElem?_append_left (by rw [List.length_take]; omega), List.getElem?_take, if_pos h1]
      · rename_i h1
        rw [List.getElem?_append_right (by rw [List.length_take]; omega), List.length_take, Nat.min_eq_left (by omega)]
        split
        · rw [List.getElem?_append_left (by omega)]
        · rw [List.getElem?_append_right (by omega), List.getElem?_drop, hs]
          congr 1
          omega
    rw [e]
    by_cases hj : j = k
    · subst hj
      rw [if_neg (by omega), if_pos (by omega), if_pos rfl]
      congr 1
      omega
    · rw [if_neg hj, List.getElem?_take, if_pos hn, List.getElem?_drop]
      split
      · rfl
      · rw [if_neg (by omega)]
  · rw [if_neg hn]
    split
    · rw [List.getElem?_eq_none (by omega)]
    · rw [List.getElem?_take, if_neg hn]
theorem eq_of_blk {x y : List UInt8} (hl : x.length = y.length) (hm : x.length = 64 * dn x) (h : ∀ k, k < dn x → blk x k = blk y k) : x = y := by
  refine List.ext_getElem? (fun n => ?_)
  by_cases hn : n < x.length
  · have hk : n / 64 < dn x := by omega
    have e := congrArg (fun l : List UInt8 => l[n % 64]?) (h (n / 64) hk)
    simp only [blk, List.getElem?_take, List.getElem?_drop, if_pos (Nat.mod_lt n (show 0 < 64 by decide)), Nat.div_add_mod] at e
    exact e
  · rw [List.getElem?_eq_none (by omega), List.getElem?_eq_none (by omega)]
theorem blk_zero {n k : Nat} (hk : k < n) : blk (List.replicate (64 * n) 0) k = List.replicate 64 0 := by
  unfold blk
  rw [List.drop_replicate, List.take_replicate]
  congr 1
  omega
theorem dn_zero (n : Nat) : dn (List.replicate (64 * n) 0) = n := by simp [dn]
theorem blks_join (x : List UInt8) (i : Nat) : ((List.range i).map (blk x)).flatten = x.take (64 * i) := by
  induction i with
  | zero => simp
  | succ i ih =>
    rw [List.range_succ, List.map_append, List.flatten_append, ih]
    simp only [List.map_cons, List.map_nil, List.flatten_cons, List.flatten_nil, List.append_nil, blk]
    rw [show 64 * (i + 1) = 64 * i + 64 by omega, List.take_add]
theorem take_succ_blk (x : List UInt8) (i : Nat) : x.take (64 * i) ++ blk x i = x.take (64 * (i + 1)) := by
  rw [show 64 * (i + 1) = 64 * i + 64 by omega, List.take_add]; rfl
/-- What is written, and the error. -/
def withF (x : List UInt8) : List (Int × List UInt8) → List UInt8 × Int
  | [] => (x, 0)
  | w :: ws => if w.1 < 0 ∨ (dn x : Int) ≤ w.1 then ([], 41) else if w.2.length ≠ 64 then ([], 42) else withF (laid x w.1.toNat w.2) ws
theorem withF_nil (x : List UInt8) : withF x [] = (x, 0) := rfl
theorem withF_blk {x : List UInt8} {w : Int × List UInt8} {ws : List (Int × List UInt8)} (h : w.1 < 0 ∨ (dn x : Int) ≤ w.1) : withF x (w :: ws) = ([], 41) := by rw [withF, if_pos h]
theorem withF_size {x : List UInt8} {w : Int × List UInt8} {ws : List (Int × List UInt8)} (h : ¬ (w.1 < 0 ∨ (dn x : Int) ≤ w.1)) (h2 : w.2.length ≠ 64) : withF x (w :: ws) = ([], 42) := by rw [withF, if_neg h, if_pos h2]
theorem withF_next {x : List UInt8} {w : Int × List UInt8} {ws : List (Int × List UInt8)} (h : ¬ (w.1 < 0 ∨ (dn x : Int) ≤ w.1)) (h2 : w.2.length = 64) : withF x (w :: ws) = withF (laid x w.1.toNat w.2) ws := by rw [withF, if_neg h, if_neg (by simp [h2])]
theorem withF_length {x : List UInt8} : ∀ {ws : List (Int × List UInt8)} {x : List UInt8}, (withF x ws).2 = 0 → (withF x ws).1.length = x.length
  | [], x, _ => rfl
  | w :: ws, x, h => by
    by_cases h1 : w.1 < 0 ∨ (dn x : Int) ≤ w.1
    · rw [withF_blk h1] at h; cases h
    by_cases h2 : w.2.length = 64
    · rw [withF_next h1 h2] at h ⊢
      rw [withF_length (x := x) h, laid_length h2 (by omega)]
    · rw [withF_size h1 h2] at h; cases h
theorem withF_err {ws : List (Int × List UInt8)} {x : List UInt8} (h : (withF x ws).2 ≠ 0) : (withF x ws).1 = [] := by
  induction ws generalizing x with
  | nil => exact absurd rfl h
  | cons w ws ih =>
    by_cases h1 : w.1 < 0 ∨ (dn x : Int) ≤ w.1
    · rw [withF_blk h1]
    by_cases h2 : w.2.length = 64
    · rw [withF_next h1 h2] at h ⊢; exact ih h
    · rw [withF_size h1 h2]
theorem withF_append {ws vs : List (Int × List UInt8)} {x : List UInt8} : withF x (ws ++ vs) = if (withF x ws).2 = 0 then withF (withF x ws).1 vs else ([], (withF x ws).2) := by
  induction ws generalizing x with
  | nil => rw [withF_nil, if_pos rfl]; rfl
  | cons w ws ih =>
    rw [List.cons_append]
    by_cases h1 : w.1 < 0 ∨ (dn x : Int) ≤ w.1
    · rw [withF_blk h1, withF_blk h1, if_neg (by decide)]
    by_cases h2 : w.2.length = 64
    · rw [withF_next h1 h2, withF_next h1 h2]; exact ih
    · rw [withF_size h1 h2, withF_size h1 h2, if_neg (by decide)]
/-- A block; whether there is one. -/
def okK (x : List UInt8) (k : Int) : Prop := 0 ≤ k ∧ k < (dn x : Int)
instance (x : List UInt8) (k : Int) : Decidable (okK x k) := by unfold okK; infer_instance
def getB (x : List UInt8) (k : Int) : List UInt8 := if okK x k then blk x k.toNat else []
/-- The blocks that aren't alike. -/
def diffN (x y : List UInt8) (m : Nat) : List Nat := (List.range m).filter (fun i => decide (blk x i ≠ blk y i))
def diffF (x y : List UInt8) : List Nat := diffN x y (max (dn x) (dn y))
theorem diffN_succ (x y : List UInt8) (m : Nat) : diffN x y (m + 1) = diffN x y m ++ if blk x m ≠ blk y m then [m] else [] := by
  unfold diffN
  rw [List.range_succ, List.filter_append]
  congr 1
  by_cases h : blk x m = blk y m <;> simp [h]
theorem diffN_length (x y : List UInt8) (m : Nat) : (diffN x y m).length ≤ m := by
  have := List.length_filter_le (fun i => decide (blk x i ≠ blk y i)) (List.range m)
  simpa [diffN] using this
theorem diff_nil {x y : List UInt8} (hx : x.length = 64 * dn x) (hy : y.length = 64 * dn y) : diffF x y = [] ↔ x = y := by
  constructor
  · intro h
    have hb : ∀ i, i < max (dn x) (dn y) → blk x i = blk y i := by
      intro i hi
      refine Classical.byContradiction fun hne => ?_
      have : i ∈ diffF x y := by
        unfold diffF diffN
        rw [List.mem_filter]
        exact ⟨List.mem_range.2 hi, decide_eq_true hne⟩
      rw [h] at this
      cases this
    have hd : dn x = dn y := by
      refine Classical.byContradiction fun hne => ?_
      rcases Nat.lt_or_ge (dn x) (dn y) with hlt | hge
      · have e := hb (dn x) (by omega)
        rw [blk_ge hx (Nat.le_refl _)] at e
        have := blk_length hlt
        rw [← e] at this; cases this
      · have hlt : dn y < dn x := by omega
        have e := hb (dn y) (by omega)
        rw [blk_ge hy (Nat.le_refl _)] at e
        have := blk_length hlt
        rw [e] at this; cases this
    exact eq_of_blk (by omega) hx (fun k hk => hb k (by omega))
  · rintro rfl
    unfold diffF diffN
    rw [List.filter_eq_nil_iff]
    intro i _
    simp
/-- What is written back is as it was. -/
theorem with_back {x y : List UInt8} (hx : x.length = 64 * dn x) (hl : y.length = x.length) : withF y ((diffF y x).map fun i : Nat => ((i : Int), blk x i)) = (x, 0) := by
  have hd : dn y = dn x := by unfold dn; rw [hl]
  have key : ∀ m, m ≤ dn x → ∃ z, withF y ((diffN y x m).map fun i : Nat => ((i : Int), blk x i)) = (z, 0) ∧ z.length = x.length ∧ ∀ j, blk z j = if j < m then blk x j else blk y j := by
    intro m
    induction m with
    | zero => intro _; exact ⟨y, rfl, hl, fun j => by simp⟩
    | succ m ih =>
      intro hm
      obtain ⟨z, h1, h2, h3⟩ := ih (by omega)
      rw [diffN_succ]
      have hdz : dn z = dn x := by unfold dn; rw [h2]
      by_cases he : blk y m = blk x m
      · rw [if_neg (by simp [he]), List.append_nil]
        refine ⟨z, h1, h2, fun j => ?_⟩
        rw [h3 j]
        by_cases hj : j = m
        · subst hj; rw [if_neg (Nat.lt_irrefl _), if_pos (by omega), he]
        · by_cases hj2 : j < m
          · rw [if_pos hj2, if_pos (by omega)]
          · rw [if_neg hj2, if_neg (by omega)]
      · rw [if_pos he, List.map_append, withF_append, h1, if_pos rfl]
        have hs := blk_length (x := x) (k := m) (by omega)
        have hm' : m < dn z := by omega
        show ∃ z', withF z [((m : Int), blk x m)] = (z', 0) ∧ _
        rw [withF_next (by show ¬ ((m : Int) < 0 ∨ (dn z : Int) ≤ (m : Int)); omega) hs, withF_nil]
        refine ⟨_, rfl, (laid_length hs hm').trans h2, fun j => ?_⟩
        show blk (laid z m (blk x m)) j = _
        rw [laid_blk hs hm']
        by_cases hj : j = m
        · subst hj; rw [if_pos rfl, if_pos (by omega)]
        · rw [if_neg hj, h3 j]
          by_cases hj2 : j < m
          · rw [if_pos hj2, if_pos (by omega)]
          · rw [if_neg hj2, if_neg (by omega)]
  obtain ⟨z, h1, h2, h3⟩ := key (dn x) (Nat.le_refl _)
  have hz : z = x := eq_of_blk h2 (by unfold dn; rw [h2]; exact hx) (fun k hk => by rw [h3 k, if_pos (by unfold dn at hk ⊢; rw [h2] at hk; exact hk)])
  have e : diffF y x = diffN y x (dn x) := by unfold diffF; rw [hd, Nat.max_self]
  rw [e, h1, hz]
end Brv.Image
namespace Brv.Image
open Go Brv
def wB : List UInt8 := (List.replicate 64 0).set 3 9
def x2 : List UInt8 := List.replicate (64 * 2) 0
def x1 : List UInt8 := laid x2 1 wB
theorem f1 : withF x2 [(1, wB)] = (x1, 0) := by decide +kernel
theorem f2 : withF x2 [(2, wB)] = ([], 41) := by decide +kernel
theorem f3 : withF x2 [(0, wB.take 5)] = ([], 42) := by decide +kernel
theorem f4 : getB x1 1 = wB := by decide +kernel
theorem f4' : okK x1 1 := by decide +kernel
theorem f5 : diffF x2 x1 = [1] := by decide +kernel
theorem f6 : x2 ≠ x1 := by decide +kernel
end Brv.Image
namespace Brv.Image
theorem diffF_comm (x y : List UInt8) : diffF x y = diffF y x := by
  unfold diffF diffN
  rw [Nat.max_comm]
  congr 1
  funext i
  rw [decide_eq_decide]
  exact ne_comm
theorem mem_diff {x y : List UInt8} {i : Nat} (h : i ∈ diffF x y) : i < max (dn x) (dn y) := by
  unfold diffF diffN at h
  exact List.mem_range.1 (List.mem_filter.1 h).1
end Brv.Image
/-
  A device of sectors of 64 bytes, as plain values.
-/
set_option linter.unusedVariables false
namespace Brv.Dev
open Go Brv Brv.Image
structure DevV where
  stay : List UInt8
  wt : List (Nat × List UInt8)
  calls : Int
  left : Int
  off : Bool
/-- Of so many sectors; what waits lies on it. -/
structure DevV.Wf (v : DevV) (N : Nat) : Prop where
  len : v.stay.length = 64 * N
  wt : ∀ x ∈ v.wt, x.1 < N ∧ x.2.length = 64
  left : -1 ≤ v.left ∧ v.left ≤ 9223372036854775807
def newV (N : Nat) : DevV := ⟨List.replicate (64 * N) 0, [], 0, -1, false⟩
theorem newV_wf (N : Nat) : (newV N).Wf N := ⟨by simp [newV], by simp [newV], by simp [newV]⟩
def thereP (N : Nat) (at' n : Int) : Prop := 0 ≤ at' ∧ 0 ≤ n ∧ n ≤ N ∧ at' ≤ N - n
instance (N : Nat) (at' n : Int) : Decidable (thereP N at' n) := by unfold thereP; infer_instance
def setl (s : List UInt8) (x : Nat × List UInt8) : List UInt8 := laid s x.1 x.2
def laidAll (s : List UInt8) (wt : List (Nat × List UInt8)) : List UInt8 := wt.foldl setl s
theorem laidAll_append (s : List UInt8) (a b : List (Nat × List UInt8)) : laidAll s (a ++ b) = laidAll (laidAll s a) b := by simp [laidAll, List.foldl_append]
theorem laidAll_succ {s : List UInt8} {wt : List (Nat × List UInt8)} {k : Nat} {x : Nat × List UInt8} (h : wt[k]? = some x) : laidAll s (wt.take (k + 1)) = laid (laidAll s (wt.take k)) x.1 x.2 := by
  rw [List.take_add_one, h, laidAll_append]; rfl
theorem dn_of {s : List UInt8} {N : Nat} (h : s.length = 64 * N) : dn s = N := by unfold dn; omega
theorem laidAll_length {s : List UInt8} {N : Nat} : ∀ {wt : List (Nat × List UInt8)} {s : List UInt8}, s.length = 64 * N → (∀ x ∈ wt, x.1 < N ∧ x.2.length = 64) → (laidAll s wt).length = 64 * N
  | [], s, h, _ => h
  | x :: r, s, h, hw => by
    have hx := hw x (by simp)
    exact laidAll_length (s := s) (wt := r) ((laid_length hx.2 (by rw [dn_of h]; exact hx.1)).trans h) (fun y hy => hw y (by simp [hy]))
/-- A part of the sectors. -/
def win (s : List UInt8) (a n : Nat) : List UInt8 := (s.drop (64 * a)).take (64 * n)
theorem win_length {s : List UInt8} {N a n : Nat} (h : s.length = 64 * N) (hn : a + n ≤ N) : (win s a n).length = 64 * n := by
  simp only [win, List.length_take, List.length_drop]; omega
theorem win_blk {s : List UInt8} {a n j : Nat} (hj : j < n) : blk (win s a n) j = blk s (a + j) := by
  unfold blk win
  rw [List.drop_take, List.take_take, List.drop_drop, Nat.min_eq_left (by omega), Nat.mul_add]
theorem win_laid {s b : List UInt8} {N a n k : Nat} (h : s.length = 64 * N) (hn : a + n ≤ N) (hk : k < N) (hb : b.length = 64) : win (laid s k b) a n = if a ≤ k ∧ k < a + n then laid (win s a n) (k - a) b else win s a n := by
  have hl := laid_length hb (show k < dn s by rw [dn_of h]; exact hk)
  have hw := win_length (s := laid s k b) (hl.trans h) hn
  have hw0 := win_length h hn
  have key : ∀ j, j < n → blk (win (laid s k b) a n) j = if a + j = k then b else blk (win s a n) j := by
    intro j hj
    rw [win_blk hj, laid_blk hb (by rw [dn_of h]; exact hk), win_blk hj]
  split
  · rename_i hin
    have hkn : k - a < dn (win s a n) := by rw [dn_of hw0]; omega
    refine eq_of_blk (by rw [laid_length hb hkn, hw, hw0]) (by rw [dn_of hw]; exact hw) (fun j hj => ?_)
    rw [dn_of hw] at hj
    rw [key j hj, laid_blk hb hkn]
    by_cases e : a + j = k
    · rw [if_pos e, if_pos (by omega)]
    · rw [if_neg e, if_neg (by omega)]
  · rename_i hout
    refine eq_of_blk (by rw [hw, hw0]) (by rw [dn_of hw]; exact hw) (fun j hj => ?_)
    rw [dn_of hw] at hj
    rw [key j hj, if_neg (by omega)]
/-- What is read over a part. -/
def rd1 (a n : Nat) (s : List UInt8) (x : Nat × List UInt8) : List UInt8 := if a ≤ x.1 ∧ x.1 < a + n then laid s (x.1 - a) x.2 else s
theorem rd_fold {N a n : Nat} (hn : a + n ≤ N) : ∀ {wt : List (Nat × List UInt8)} {s : List UInt8}, s.length = 64 * N → (∀ x ∈ wt, x.1 < N ∧ x.2.length = 64) → wt.foldl (rd1 a n) (win s a n) = win (laidAll s wt) a n
  | [], s, _, _ => rfl
  | x :: r, s, h, hw => by
    have hx := hw x (by simp)
    have e : rd1 a n (win s a n) x = win (laid s x.1 x.2) a n := (win_laid h hn hx.1 hx.2).symm
    rw [List.foldl_cons, e]
    exact rd_fold hn ((laid_length hx.2 (by rw [dn_of h]; exact hx.1)).trans h) (fun y hy => hw y (by simp [hy]))
theorem rd_length {a n : Nat} : ∀ {wt : List (Nat × List UInt8)} {s : List UInt8}, s.length = 64 * n → (∀ x ∈ wt, x.2.length = 64) → (wt.foldl (rd1 a n) s).length = 64 * n
  | [], s, h, _ => h
  | x :: r, s, h, hw => by
    have hx := hw x (by simp)
    rw [List.foldl_cons]
    refine rd_length ?_ (fun y hy => hw y (by simp [hy]))
    unfold rd1
    split
    · rw [laid_length hx (by rw [dn_of h]; omega)]; exact h
    · exact h
def readV (v : DevV) (N : Nat) (at' n : Int) : List UInt8 × Int :=
  if v.off then ([], 10) else if thereP N at' n then (win (laidAll v.stay v.wt) at'.toNat n.toNat, 0) else ([], 11)
/-- A call that is counted. -/
def callV (v : DevV) : DevV × Bool :=
  if v.left = 0 then ({ v with off := true }, false) else ({ v with left := if 0 < v.left then v.left - 1 else v.left, calls := v.calls + 1 }, true)
theorem callV_wf {v : DevV} {N : Nat} (h : v.Wf N) : (callV v).1.Wf N := by
  unfold callV
  have := h.left
  split
  · exact ⟨h.len, h.wt, h.left⟩
  · exact ⟨h.len, h.wt, by dsimp only; split <;> omega⟩
/-- The sectors of bytes, from a place on. -/
def secsF (at' : Nat) (b : List UInt8) (k : Nat) : List (Nat × List UInt8) := (List.range k).map fun i => (at' + i, blk b i)
theorem secsF_succ (at' : Nat) (b : List UInt8) (k : Nat) : secsF at' b (k + 1) = secsF at' b k ++ [(at' + k, blk b k)] := by simp [secsF, List.range_succ]
theorem secsF_length (at' : Nat) (b : List UInt8) (k : Nat) : (secsF at' b k).length = k := by simp [secsF]
def writeV (v : DevV) (N : Nat) (at' : Int) (b : List UInt8) : DevV × Int :=
  if v.off then (v, 10) else if b.length % 64 ≠ 0 then (v, 2) else if ¬ thereP N at' (dn b) then (v, 11)
  else if (callV v).2 then ({ (callV v).1 with wt := (callV v).1.wt ++ secsF at'.toNat b (dn b) }, 0) else ((callV v).1, 10)
theorem writeV_wf {v : DevV} {N : Nat} {at' : Int} {b : List UInt8} (h : v.Wf N) : (writeV v N at' b).1.Wf N := by
  unfold writeV
  split
  · exact h
  split
  · exact h
  split
  · exact h
  rename_i hb ht
  have hc := callV_wf h
  split
  · refine ⟨hc.len, fun x hx => ?_, hc.left⟩
    rcases List.mem_append.1 hx with hx | hx
    · exact hc.wt x hx
    · obtain ⟨i, hi, rfl⟩ := List.mem_map.1 hx
      have hi := List.mem_range.1 hi
      have ht := Classical.not_not.1 ht
      unfold thereP at ht
      exact ⟨by dsimp only; omega, blk_length hi⟩
  · exact hc
def flushV (v : DevV) : DevV × Int :=
  if v.off then (v, 10) else if (callV v).2 then ({ (callV v).1 with stay := laidAll (callV v).1.stay (callV v).1.wt, wt := [] }, 0) else ((callV v).1, 10)
theorem flushV_wf {v : DevV} {N : Nat} (h : v.Wf N) : (flushV v).1.Wf N := by
  unfold flushV
  split
  · exact h
  have hc := callV_wf h
  split
  · exact ⟨laidAll_length (s := []) hc.len hc.wt, by simp, hc.left⟩
  · exact hc
/-- Some of what waits stays. -/
def keepN (s : List UInt8) (wt : List (Nat × List UInt8)) (keep : List Bool) : Nat → List UInt8
  | 0 => s
  | k + 1 => match wt[k]? with
    | some x => if keep[k]? = some true then laid (keepN s wt keep k) x.1 x.2 else keepN s wt keep k
    | none => keepN s wt keep k
theorem keepN_length {s : List UInt8} {wt : List (Nat × List UInt8)} {keep : List Bool} {N : Nat} (h : s.length = 64 * N) (hw : ∀ x ∈ wt, x.1 < N ∧ x.2.length = 64) : ∀ k, (keepN s wt keep k).length = 64 * N
  | 0 => h
  | k + 1 => by
    have ih := keepN_length h hw (keep := keep) k
    unfold keepN
    split
    · rename_i x hx
      have hx := hw x (List.mem_of_getElem? hx)
      split
      · exact (laid_length hx.2 (by rw [dn_of ih]; exact hx.1)).trans ih
      · exact ih
    · exact ih
def crashV (v : DevV) (keep : List Bool) : DevV := ⟨keepN v.stay v.wt keep v.wt.length, [], v.calls, -1, false⟩
theorem crashV_wf {v : DevV} {N : Nat} {keep : List Bool} (h : v.Wf N) : (crashV v keep).Wf N := ⟨keepN_length h.len h.wt _, by simp [crashV], by simp [crashV]⟩
def turnB (s : List UInt8) (i : Nat) (m : UInt8) : List UInt8 := s.set i (s.getD i 0 ^^^ m)
def turnV (v : DevV) (N : Nat) (at' bit : Int) : DevV × Int :=
  if at' < 0 ∨ (N : Int) ≤ at' ∨ bit < 0 ∨ 511 < bit then (v, 11) else ({ v with stay := turnB v.stay (64 * at'.toNat + bit.toNat / 8) (Crc.oneBit (bit.toNat % 8)) }, 0)
theorem turnV_wf {v : DevV} {N : Nat} {at' bit : Int} (h : v.Wf N) : (turnV v N at' bit).1.Wf N := by
  unfold turnV
  split
  · exact h
  · exact ⟨by simp [turnB, h.len], h.wt, h.left⟩
def limitV (v : DevV) (n : Int) : DevV := { v with left := max n (-1) }
theorem limitV_wf {v : DevV} {N : Nat} {n : Int} (h : v.Wf N) (hn : n ≤ 9223372036854775807) : (limitV v n).Wf N := ⟨h.len, h.wt, by simp only [limitV]; omega⟩
end Brv.Dev
namespace Brv.Dev
open Brv Brv.Image
theorem keepN_yes {s : List UInt8} {wt : List (Nat × List UInt8)} {keep : List Bool} {k : Nat} {x : Nat × List UInt8} (h : wt[k]? = some x) (hk : keep[k]? = some true) : keepN s wt keep (k + 1) = laid (keepN s wt keep k) x.1 x.2 := by rw [keepN, h]; exact if_pos hk
theorem keepN_no {s : List UInt8} {wt : List (Nat × List UInt8)} {keep : List Bool} {k : Nat} {x : Nat × List UInt8} (h : wt[k]? = some x) (hk : ¬ keep[k]? = some true) : keepN s wt keep (k + 1) = keepN s wt keep k := by rw [keepN, h]; exact if_neg hk
theorem callV_same (v : DevV) : (callV v).1.stay = v.stay ∧ (callV v).1.wt = v.wt := by unfold callV; split <;> exact ⟨rfl, rfl⟩
end Brv.Dev
namespace Brv.Dev
open Brv Brv.Image
theorem secs_wf {v : DevV} {N p k : Nat} {b : List UInt8} (h : v.Wf N) (hp : p + dn b ≤ N) (hk : k ≤ dn b) : ({ v with wt := v.wt ++ secsF p b k } : DevV).Wf N := by
  refine ⟨h.len, fun x hx => ?_, h.left⟩
  rcases List.mem_append.1 hx with hx | hx
  · exact h.wt x hx
  · obtain ⟨i, hi, rfl⟩ := List.mem_map.1 hx
    have hi := List.mem_range.1 hi
    exact ⟨by dsimp only; omega, blk_length (by omega)⟩
end Brv.Dev
namespace Brv.Dev
open Brv Brv.Image
def b7 : List UInt8 := (List.replicate 64 0).set 0 7
def u1 : DevV := (writeV (newV 3) 3 1 b7).1
def u2 : DevV := crashV u1 []
def u3 : DevV := (writeV u2 3 2 b7).1
def u4 : DevV := (flushV u3).1
def u5 : DevV := crashV u4 []
theorem fu1 : (writeV (newV 3) 3 1 b7).2 = 0 := by decide +kernel
theorem fu1r : readV u1 3 1 1 = (b7, 0) := by decide +kernel
theorem fu2r : readV u2 3 1 1 = (List.replicate 64 0, 0) := by decide +kernel
theorem fu3 : (writeV u2 3 2 b7).2 = 0 := by decide +kernel
theorem fu4 : (flushV u3).2 = 0 := by decide +kernel
theorem fu5r : readV u5 3 2 1 = (b7, 0) := by decide +kernel
theorem fu5c : u5.calls = 3 := by decide +kernel
theorem fu5l : u5.stay.length = 192 := by decide +kernel
theorem fuc : u1.calls = 1 ∧ u2.calls = 1 ∧ u3.calls = 2 ∧ u4.calls = 3 := by decide +kernel
theorem fuw : u1.wt.length = 1 ∧ u2.wt.length = 0 ∧ u3.wt.length = 1 ∧ u4.wt.length = 0 ∧ u5.wt.length = 0 := by decide +kernel
end Brv.Dev
namespace Brv.Dev
open Brv Brv.Image
/-- The last of several writes. -/
def lastV (N n : Nat) (ls : List (List UInt8)) : DevV := ⟨List.replicate (64 * N) 0, ls.map (fun b => (n, b)), ls.length, -1, false⟩
def lastB (ls : List (List UInt8)) : List UInt8 := ls.getLastD (List.replicate 64 0)
theorem lastV_nil (N n : Nat) : lastV N n [] = newV N := rfl
theorem blk_self {b : List UInt8} (h : b.length = 64) : blk b 0 = b := by unfold blk; rw [Nat.mul_zero, List.drop_zero, List.take_of_length_le (by omega)]
theorem lastV_write {N n : Nat} {ls : List (List UInt8)} {b : List UInt8} (hn : n < N) (hb : b.length = 64) : writeV (lastV N n ls) N (n : Int) b = (lastV N n (ls ++ [b]), 0) := by
  have hd : dn b = 1 := by unfold dn; rw [hb]
  unfold writeV
  rw [if_neg (by simp [lastV]), if_neg (by omega), if_neg (by unfold thereP; omega)]
  have hc : callV (lastV N n ls) = ({ lastV N n ls with left := -1, calls := (ls.length : Int) + 1 }, true) := by
    unfold callV
    rw [if_neg (by simp [lastV])]
    rfl
  rw [hc, if_pos rfl, hd]
  simp [lastV, secsF, blk_self hb]
theorem lastB_snoc (ls : List (List UInt8)) (b : List UInt8) : lastB (ls ++ [b]) = b := by simp [lastB]
theorem lastV_wf {N n : Nat} {ls : List (List UInt8)} (hn : n < N) (hl : ∀ b ∈ ls, b.length = 64) : (lastV N n ls).Wf N := ⟨by simp [lastV], fun x hx => by obtain ⟨b, hb, rfl⟩ := List.mem_map.1 hx; exact ⟨hn, hl b hb⟩, by simp [lastV]⟩
theorem laid_last {N n : Nat} (hn : n < N) : ∀ {ls : List (List UInt8)} {s : List UInt8}, s.length = 64 * N → (∀ b ∈ ls, b.length = 64) → blk (laidAll s (ls.map (fun b => (n, b)))) n = ls.getLastD (blk s n)
  | [], s, _, _ => rfl
  | b :: r, s, h, hl => by
    have hb := hl b (by simp)
    have hd : n < dn s := by rw [dn_of h]; exact hn
    have ih := laid_last hn (ls := r) (s := laid s n b) ((laid_length hb hd).trans h) (fun x hx => hl x (by simp [hx]))
    show blk (laidAll (laid s n b) (r.map (fun b => (n, b)))) n = _
    rw [ih, laid_blk hb hd, if_pos rfl]
    cases r <;> simp [List.getLastD]
theorem last_blk {N n : Nat} {ls : List (List UInt8)} (hn : n < N) (hl : ∀ b ∈ ls, b.length = 64) : blk (laidAll (lastV N n ls).stay (lastV N n ls).wt) n = lastB ls := by
  have h := laid_last hn (s := List.replicate (64 * N) 0) (by simp) hl
  rw [show laidAll (lastV N n ls).stay (lastV N n ls).wt = laidAll (List.replicate (64 * N) 0) (ls.map (fun b => (n, b))) from rfl, h, blk_zero hn]
  rfl
theorem win_one (s : List UInt8) (n : Nat) : win s n 1 = blk s n := rfl
theorem lastV_read {N n : Nat} {ls : List (List UInt8)} (hn : n < N) (hl : ∀ b ∈ ls, b.length = 64) : readV (lastV N n ls) N (n : Int) 1 = (lastB ls, 0) := by
  unfold readV
  rw [if_neg (by simp [lastV]), if_pos (by unfold thereP; omega)]
  rw [show (1 : Int).toNat = 1 from rfl, Int.toNat_natCast, win_one, last_blk hn hl]
theorem lastV_flush {N n : Nat} {ls : List (List UInt8)} : flushV (lastV N n ls) = (⟨laidAll (lastV N n ls).stay (lastV N n ls).wt, [], (ls.length : Int) + 1, -1, false⟩, 0) := by
  unfold flushV
  have hc : callV (lastV N n ls) = ({ lastV N n ls with left := -1, calls := (ls.length : Int) + 1 }, true) := by
    unfold callV
    rw [if_neg (by simp [lastV])]
    rfl
  rw [if_neg (by simp [lastV]), hc]
  rfl
end Brv.Dev
namespace Brv.Dev
theorem lastV_wt (N n : Nat) (ls : List (List UInt8)) : (lastV N n ls).wt.length = ls.length := by simp [lastV]
theorem lastV_calls (N n : Nat) (ls : List (List UInt8)) : (lastV N n ls).calls = (ls.length : Int) := rfl
end Brv.Dev
/-
  A device that is limited.
-/
set_option linter.unusedVariables false
namespace Brv.Dev
open Brv Brv.Image
theorem dn_64 {b : List UInt8} (h : b.length = 64) : dn b = 1 := by unfold dn; rw [h]
theorem write_ok {v : DevV} {N p : Nat} {b : List UInt8} (ho : v.off = false) (hb : b.length = 64) (hp : p < N) (hl : v.left ≠ 0) : writeV v N (p : Int) b = ({ v with left := if 0 < v.left then v.left - 1 else v.left, calls := v.calls + 1, wt := v.wt ++ [(p, b)] }, 0) := by
  unfold writeV
  rw [if_neg (by simp [ho]), if_neg (by omega), if_neg (by rw [dn_64 hb]; unfold thereP; omega)]
  have hc : callV v = ({ v with left := if 0 < v.left then v.left - 1 else v.left, calls := v.calls + 1 }, true) := if_neg hl
  rw [hc, if_pos rfl, dn_64 hb]
  simp [secsF, blk_self hb]
theorem write_lim {v : DevV} {N p : Nat} {b : List UInt8} (ho : v.off = false) (hb : b.length = 64) (hp : p < N) (hl : v.left = 0) : writeV v N (p : Int) b = ({ v with off := true }, 10) := by
  unfold writeV
  rw [if_neg (by simp [ho]), if_neg (by omega), if_neg (by rw [dn_64 hb]; unfold thereP; omega)]
  have hc : callV v = ({ v with off := true }, false) := if_pos hl
  rw [hc, if_neg (by simp)]
theorem write_off {v : DevV} {N : Nat} {p : Int} {b : List UInt8} (ho : v.off = true) : writeV v N p b = (v, 10) := if_pos ho
theorem flush_ok {v : DevV} (ho : v.off = false) (hl : v.left ≠ 0) : flushV v = (⟨laidAll v.stay v.wt, [], v.calls + 1, if 0 < v.left then v.left - 1 else v.left, false⟩, 0) := by
  unfold flushV
  have hc : callV v = ({ v with left := if 0 < v.left then v.left - 1 else v.left, calls := v.calls + 1 }, true) := if_neg hl
  rw [if_neg (by simp [ho]), hc, if_pos rfl]
  simp [ho]
def kS (la : List UInt8) : List UInt8 := laid (List.replicate (64 * 4) 0) 1 la
def k1 (la : List UInt8) : DevV := ⟨List.replicate (64 * 4) 0, [(1, la)], 1, -1, false⟩
def k2 (la : List UInt8) : DevV := ⟨kS la, [], 2, -1, false⟩
def k3 (la lb : List UInt8) : DevV := ⟨kS la, [(1, lb)], 3, -1, false⟩
def k4 (la lb : List UInt8) : DevV := ⟨kS la, [(1, lb), (2, lb)], 4, -1, false⟩
theorem k1_eq {la : List UInt8} (h : la.length = 64) : writeV (newV 4) 4 1 la = (k1 la, 0) := write_ok (v := newV 4) (N := 4) (p := 1) rfl h (by decide) (by decide)
theorem k2_eq (la : List UInt8) : flushV (k1 la) = (k2 la, 0) := flush_ok (v := k1 la) rfl (by show (-1 : Int) ≠ 0; decide)
theorem k3_eq {la lb : List UInt8} (h : lb.length = 64) : writeV (k2 la) 4 1 lb = (k3 la lb, 0) := write_ok (v := k2 la) (N := 4) (p := 1) rfl h (by decide) (by show (-1 : Int) ≠ 0; decide)
theorem k4_eq {la lb : List UInt8} (h : lb.length = 64) : writeV (k3 la lb) 4 2 lb = (k4 la lb, 0) := write_ok (v := k3 la lb) (N := 4) (p := 2) rfl h (by decide) (by show (-1 : Int) ≠ 0; decide)
def kV (la lb : List UInt8) (m j : Nat) : DevV := ⟨kS la, (1, lb) :: (2, lb) :: List.replicate (min j m) (3, la), 4 + (min j m : Nat), (m : Int) - (min j m : Nat), decide (m < j)⟩
theorem kV_zero (la lb : List UInt8) (m : Nat) : limitV (k4 la lb) (m : Int) = kV la lb m 0 := by
  have : max (m : Int) (-1) = m := by omega
  simp [limitV, k4, kV, this]
theorem kV_succ {la lb : List UInt8} {m j : Nat} (h : la.length = 64) : (writeV (kV la lb m j) 4 3 la).1 = kV la lb m (j + 1) := by
  rcases Nat.lt_trichotomy j m with hlt | rfl | hgt
  · have hm : min j m = j := by omega
    have hm2 : min (j + 1) m = j + 1 := by omega
    rw [show (3 : Int) = ((3 : Nat) : Int) from rfl, write_ok (v := kV la lb m j) (N := 4) (p := 3) (by simp [kV]; omega) h (by decide) (by simp only [kV, hm]; omega)]
    simp only [kV, hm, hm2, DevV.mk.injEq, true_and]
    refine ⟨by simp [List.replicate_succ'], by omega, by rw [if_pos (by omega)]; omega, by simp; omega⟩
  · rw [show (3 : Int) = ((3 : Nat) : Int) from rfl, write_lim (v := kV la lb j j) (N := 4) (p := 3) (by simp [kV]) h (by decide) (by simp [kV])]
    have hm2 : min (j + 1) j = j := by omega
    simp [kV, hm2]
  · rw [write_off (by simp [kV]; omega)]
    have hm : min j m = m := by omega
    have hm2 : min (j + 1) m = m := by omega
    simp only [kV, hm, hm2, DevV.mk.injEq, true_and]
    simp
    omega
theorem kV_off {la lb : List UInt8} {m : Nat} (h : m < 4) : (kV la lb m 4).off = true := by simp [kV, h]
theorem kV_len (la lb : List UInt8) (m j : Nat) : (kV la lb m j).wt.length = 2 + min j m := by simp [kV]; omega
theorem keep_one {s : List UInt8} {x : Nat × List UInt8} {r : List (Nat × List UInt8)} {kp : Bool} : ∀ k, keepN s (x :: r) [kp] (k + 1) = if kp then laid s x.1 x.2 else s
  | 0 => by
    cases kp
    · rw [keepN_no (x := x) rfl (by simp)]; rfl
    · rw [keepN_yes (x := x) rfl rfl]; rfl
  | k + 1 => by
    have ih := keep_one (s := s) (x := x) (r := r) (kp := kp) k
    cases hx : (x :: r)[k + 1]? with
    | none => rw [keepN, hx]; exact ih
    | some y => rw [keepN_no hx (by simp)]; exact ih
def kEnd (la lb : List UInt8) (kp : Bool) : List UInt8 := if kp then laid (kS la) 1 lb else kS la
theorem kV_crash (la lb : List UInt8) (m j : Nat) (kp : Bool) : crashV (kV la lb m j) [kp] = ⟨kEnd la lb kp, [], 4 + (min j m : Nat), -1, false⟩ := by
  unfold crashV
  have : (kV la lb m j).wt.length = (1 + min j m) + 1 := by rw [kV_len]; omega
  rw [this]
  show DevV.mk (keepN (kS la) ((1, lb) :: (2, lb) :: List.replicate (min j m) (3, la)) [kp] ((1 + min j m) + 1)) [] _ _ _ = _
  rw [keep_one]
  rfl
theorem kS_len {la : List UInt8} (h : la.length = 64) : (kS la).length = 256 := by unfold kS; rw [laid_length h (by rw [dn_zero]; decide), List.length_replicate]
theorem kEnd_len {la lb : List UInt8} {kp : Bool} (h : la.length = 64) (h2 : lb.length = 64) : (kEnd la lb kp).length = 256 := by
  unfold kEnd
  split
  · rw [laid_length h2 (by rw [dn_of (N := 4) (kS_len h)]; decide), kS_len h]
  · exact kS_len h
theorem kEnd_one {la lb : List UInt8} {kp : Bool} (h : la.length = 64) (h2 : lb.length = 64) : blk (kEnd la lb kp) 1 = if kp then lb else la := by
  have h1 : blk (kS la) 1 = la := by unfold kS; rw [laid_blk h (by rw [dn_zero]; decide), if_pos rfl]
  unfold kEnd
  cases kp
  · exact h1
  · show blk (laid (kS la) 1 lb) 1 = lb
    rw [laid_blk h2 (by rw [dn_of (N := 4) (kS_len h)]; decide), if_pos rfl]
theorem kEnd_rest {la lb : List UInt8} {kp : Bool} (h : la.length = 64) (h2 : lb.length = 64) : (kEnd la lb kp).drop 128 = List.replicate 128 0 := by
  have h1 : (kS la).drop 128 = List.replicate 128 0 := by
    unfold kS laid
    rw [List.append_assoc, List.drop_append, List.drop_of_length_le (by rw [List.length_take, List.length_replicate]; decide), List.nil_append, List.drop_append, List.length_take, List.length_replicate, List.drop_of_length_le (by rw [h]; decide), List.nil_append, h, List.drop_replicate, List.drop_replicate]
    exact congrArg (fun n => List.replicate n (0 : UInt8)) (by decide)
  unfold kEnd
  cases kp
  · exact h1
  · show (laid (kS la) 1 lb).drop 128 = _
    unfold laid
    have hk := kS_len h
    rw [List.append_assoc, List.drop_append, List.drop_of_length_le (by rw [List.length_take]; omega), List.nil_append, List.drop_append, List.length_take, List.drop_of_length_le (by omega), List.nil_append, List.drop_drop]
    rw [show 64 * 1 + 64 + (128 - min (64 * 1) (kS la).length - lb.length) = 128 by rw [h2, hk]; rfl]
    exact h1
theorem kEnd_read {la lb : List UInt8} {kp : Bool} {c : Int} (h : la.length = 64) (h2 : lb.length = 64) : readV ⟨kEnd la lb kp, [], c, -1, false⟩ 4 0 4 = (kEnd la lb kp, 0) := by
  unfold readV
  rw [if_neg (by simp), if_pos (by decide)]
  have : win (laidAll (kEnd la lb kp) []) (0 : Int).toNat (4 : Int).toNat = kEnd la lb kp := by
    show ((kEnd la lb kp).drop 0).take 256 = _
    rw [List.drop_zero, List.take_of_length_le (by rw [kEnd_len h h2]; exact Nat.le_refl _)]
  exact congrArg (fun l => (l, (0 : Int))) this
theorem callV_bd (v : DevV) : v.calls ≤ (callV v).1.calls ∧ (callV v).1.calls ≤ v.calls + 1 := by unfold callV; split <;> (constructor <;> dsimp only <;> omega)
/-- A step of a play: how calls and what waits grow. -/
def Stp (v v' : DevV) (k : Nat) : Prop := v.calls ≤ v'.calls ∧ v'.calls ≤ v.calls + 1 ∧ v'.wt.length ≤ v.wt.length + k
theorem Stp.refl (v : DevV) (k : Nat) : Stp v v k := ⟨Int.le_refl _, by omega, by omega⟩
theorem Stp.c {v v' : DevV} {k i : Nat} (h : Stp v v' k) (hc : 0 ≤ v.calls ∧ v.calls ≤ (i : Int)) : 0 ≤ v'.calls ∧ v'.calls ≤ ((i + 1 : Nat) : Int) := by obtain ⟨h1, h2, _⟩ := h; omega
theorem Stp.w {v v' : DevV} {k i : Nat} (h : Stp v v' k) (hw : v.wt.length ≤ 40 * i) (hk : k ≤ 40) : v'.wt.length ≤ 40 * (i + 1) := by obtain ⟨_, _, h3⟩ := h; omega
theorem writeV_bd (v : DevV) (N : Nat) (p : Int) (b : List UInt8) : Stp v (writeV v N p b).1 (dn b) := by
  have h1 := callV_bd v
  have h2 := callV_same v
  unfold writeV
  split
  · exact Stp.refl _ _
  split
  · exact Stp.refl _ _
  split
  · exact Stp.refl _ _
  split
  · exact ⟨h1.1, h1.2, by dsimp only; rw [List.length_append, secsF_length, h2.2]; exact Nat.le_refl _⟩
  · exact ⟨h1.1, h1.2, by dsimp only; rw [h2.2]; omega⟩
theorem flushV_bd (v : DevV) : Stp v (flushV v).1 0 := by
  have h1 := callV_bd v
  have h2 := callV_same v
  unfold flushV
  split
  · exact Stp.refl _ _
  split
  · exact ⟨h1.1, h1.2, by dsimp only; simp⟩
  · exact ⟨h1.1, h1.2, by dsimp only; rw [h2.2]; omega⟩
theorem crashV_bd (v : DevV) (ks : List Bool) : Stp v (crashV v ks) 0 := ⟨Int.le_refl _, by simp only [crashV]; omega, by simp [crashV]⟩
theorem limitV_bd (v : DevV) (n : Int) : Stp v (limitV v n) 0 := ⟨Int.le_refl _, by simp only [limitV]; omega, by simp [limitV]⟩
theorem turnV_bd (v : DevV) (N : Nat) (p q : Int) : Stp v (turnV v N p q).1 0 := by
  unfold turnV
  split
  · exact ⟨Int.le_refl _, by dsimp only; omega, by dsimp only; omega⟩
  · exact Stp.refl _ _
end Brv.Dev
/-
  Arrays of bytes among a row's arguments.
-/
set_option linter.unusedVariables false
namespace Brv
open Go
theorem arrB_of {P : Program} {w : World} {f : Nat} {T m E : Nat} (ht : P.underlying T = some (.array m E)) [t : TyInt P E .u8] (hs : P.cellsOf E = 1) (hT : P.cellsOf T = m) {cs : List Value} (h : Rd P w f T cs) : ∃ l : List UInt8, cs = vbs l ∧ l.length = m := by
  cases f with
  | zero => exact h.elim
  | succ f =>
    unfold Rd at h
    rw [ht] at h
    obtain ⟨hl, hi⟩ := h
    rw [hT] at hl
    have key : ∀ v ∈ cs, vb (match v with | .int _ n => UInt8.ofNat n.toNat | _ => 0) = v := by
      intro v hv
      obtain ⟨i, hil, rfl⟩ := List.mem_iff_getElem.1 hv
      have hr := hi i (by omega)
      rw [hs, Nat.mul_one, show (cs.drop i).take 1 = [cs[i]] from by rw [List.drop_eq_getElem_cons hil]; rfl] at hr
      obtain ⟨n, hn, hw⟩ := hr.int (k := .u8)
      have hn : cs[i] = .int .u8 n := by simpa using hn
      rw [hn]
      have := wf_u8 hw
      unfold vb
      simp
      omega
    refine ⟨cs.map (fun v => match v with | .int _ n => UInt8.ofNat n.toNat | _ => 0), ?_, by rw [List.length_map]; exact hl⟩
    unfold vbs
    rw [List.map_map]
    refine List.ext_getElem (by simp) (fun i h1 h2 => ?_)
    rw [List.getElem_map]
    exact (key _ (List.getElem_mem h1)).symm
theorem arrs_rows {P : Program} {w : World} {f : Nat} {S T m E : Nat} (hS : P.underlying S = some (.slice T)) (ht : P.underlying T = some (.array m E)) [t : TyInt P E .u8] (hs : P.cellsOf E = 1) (hT : P.cellsOf T = m) {cs : List Value} (h : Rd P w f S cs) : ∃ a n c, ∃ ls : List (List UInt8), cs = [.slice a n c] ∧ n ≤ c ∧ Tab w a n m (ls.map vbs) ∧ ∀ l ∈ ls, l.length = m := by
  cases f with
  | zero => exact h.elim
  | succ f =>
    unfold Rd at h
    rw [hS] at h
    obtain ⟨a, n, c, rfl, hnc, _, hb, vss, hl, hcell, hv⟩ := h
    have hex : ∃ ls : List (List UInt8), vss = ls.map vbs ∧ ∀ l ∈ ls, l.length = m := by
      clear hcell hl
      induction vss with
      | nil => exact ⟨[], rfl, by simp⟩
      | cons vs r ih =>
        obtain ⟨l, rfl, hl⟩ := arrB_of ht hs hT (hv vs (by simp)).2
        obtain ⟨ls, rfl, hls⟩ := ih (fun x hx => hv x (by simp [hx]))
        exact ⟨l :: ls, rfl, fun x hx => (List.mem_cons.1 hx).elim (fun e => e ▸ hl) (hls x)⟩
    obtain ⟨ls, rfl, hls⟩ := hex
    exact ⟨a, n, c, ls, rfl, hnc, ⟨hcell, hl.symm, fun vs hvs => by obtain ⟨l, hl, rfl⟩ := List.mem_map.1 hvs; rw [vbs_length]; exact hls l hl⟩, hls⟩
/-- A slice of bools. -/
theorem Rd.bools {P : Program} {w : World} {f : Nat} {T E : TypeId} (hT : P.underlying T = some (.slice E)) [t : TyBool P E] (hby : P.bytesOf E = 1) {cs : List Value} (h : Rd P w f T cs) :
    ∃ a n c, ∃ l : List Bool, cs = [.slice a n c] ∧ n ≤ c ∧ c ≤ 140737488351232 ∧ Cells w a (l.map Value.bool) ∧ n = l.length := by
  cases f with
  | zero => exact h.elim
  | succ f =>
    unfold Rd at h
    rw [hT] at h
    obtain ⟨a, n, c, rfl, hnc, ha, hb, vss, hl, hcell, hv⟩ := h
    have hex : ∃ l : List Bool, vss = l.map (fun b => [Value.bool b]) := by
      clear hcell hl
      induction vss with
      | nil => exact ⟨[], rfl⟩
      | cons vs r ih =>
        obtain ⟨b, rfl⟩ := (hv vs (by simp)).2.bool
        obtain ⟨l, rfl⟩ := ih (fun x hx => hv x (by simp [hx]))
        exact ⟨b :: l, rfl⟩
    obtain ⟨l, rfl⟩ := hex
    refine ⟨a, n, c, l, rfl, hnc, by rw [hby] at hb; omega, ?_, by simpa using hl.symm⟩
    have : (l.map (fun b => [Value.bool b])).flatten = l.map Value.bool := by
      clear hcell hl hv
      induction l with
      | nil => rfl
      | cons b r ih => simp [ih]
    rw [this] at hcell; exact hcell
end Brv
/-
  Structs of plain fields, compared.
-/
set_option linter.unusedVariables false
namespace Brv
open Go
inductive Kd where
  | i (k : IntKind)
  | s
  | b
  | no
  | other
def Kd.eq : Kd → Kd → Bool
  | .i x, .i y => decide (x = y)
  | .s, .s => true
  | .b, .b => true
  | _, _ => false
theorem Kd.of_eq {x y : Kd} (h : Kd.eq x y = true) : x = y := by
  cases x <;> cases y <;> simp_all [Kd.eq]
def kindOf : Value → Kd
  | .int k _ => .i k
  | .string _ => .s
  | .bool _ => .b
  | _ => .no
def kindD : Option TypeDesc → Kd
  | some (.int k) => .i k
  | some .string => .s
  | some .bool => .b
  | _ => .other
def kindT (P : Program) (T : TypeId) : Kd := kindD (P.underlying T)
def veq : Value → Value → Bool
  | .int _ a, .int _ b => a == b
  | .string a, .string b => a.toList == b.toList
  | .bool a, .bool b => a == b
  | _, _ => false
def eqL : List Value → List Value → Bool
  | [], [] => true
  | x :: xs, y :: ys => veq x y && eqL xs ys
  | _, _ => false
/-- The fields lie one behind the other, each a cell, of these kinds. -/
def okFs (P : Program) : List Field → Nat → List Kd → Bool
  | [], _, [] => true
  | f :: fs, i, k :: ks => decide (f.name ≠ "_") && P.plainKey f.type && Nat.beq f.offset i && Kd.eq (kindT P f.type) k && okFs P fs (i + 1) ks
  | _, _, _ => false
class TyEqS (P : Program) (T : TypeId) (ks : outParam (List Kd)) : Prop where
  h : P.underlying T = some (.struct (P.fieldsOf T))
  s : P.stoodInHeld T = false
  g : P.eqGuardType P.depth T = false
  f : okFs P (P.fieldsOf T).toList 0 ks = true
theorem run_veq {P : Program} (w : World) (d : Nat) {T : TypeId} {u v : Value} {k : Kd} (hk : kindT P T = k) (hp : P.plainKey T = true) (hu : kindOf u = k) (hv : kindOf v = k) : (Op.equalIn (d + 1) T u v).run P w = .ok (veq u v) w := by
  unfold Program.plainKey at hp
  cases ht : P.underlying T with
  | none => simp [ht] at hp
  | some t =>
    unfold kindT at hk
    rw [ht] at hk
    cases t <;> simp [ht] at hp
    · simp only [kindD] at hk
      subst hk
      cases u <;> simp [kindOf] at hu
      cases v <;> simp [kindOf] at hv
      simp [Op.equalIn, run_underlying ht, veq]
    · simp only [kindD] at hk
      subst hk
      cases u <;> simp [kindOf] at hu
      cases v <;> simp [kindOf] at hv
      subst hu; subst hv
      exact run_equalIn_int w d T _ _ _ _ ht
    · simp only [kindD] at hk
      subst hk
      cases u <;> simp [kindOf] at hu
      cases v <;> simp [kindOf] at hv
      exact run_equalIn_string w d T _ _ ht
theorem run_eqFields {P : Program} (w : World) (d : Nat) (xs ys : Array Value) : ∀ (fs : List Field) (i : Nat) (ks : List Kd), okFs P fs i ks = true → (xs.toList.drop i).map kindOf = ks → (ys.toList.drop i).map kindOf = ks →
    (Op.eqFields (d + 1) xs ys fs).run P w = .ok (eqL (xs.toList.drop i) (ys.toList.drop i)) w
  | [], i, ks, h, hx, hy => by
    cases ks with
    | nil =>
      have h1 : xs.toList.drop i = [] := List.map_eq_nil_iff.1 hx
      have h2 : ys.toList.drop i = [] := List.map_eq_nil_iff.1 hy
      rw [h1, h2]; simp [Op.eqFields, eqL]
    | cons k ks => simp [okFs] at h
  | f :: fs, i, ks, h, hx, hy => by
    cases ks with
    | nil => simp [okFs] at h
    | cons k ks =>
      simp only [okFs, Bool.and_eq_true, decide_eq_true_eq] at h
      obtain ⟨⟨⟨⟨h1, h2⟩, h3⟩, h4⟩, h5⟩ := h
      replace h3 := Nat.eq_of_beq_eq_true h3
      replace h4 := Kd.of_eq h4
      have ex : ∀ {zs : Array Value}, (zs.toList.drop i).map kindOf = k :: ks → ∃ u, zs[i]? = some u ∧ zs.toList.drop i = u :: zs.toList.drop (i + 1) ∧ kindOf u = k ∧ (zs.toList.drop (i + 1)).map kindOf = ks := by
        intro zs hz
        cases hd : zs.toList.drop i with
        | nil => rw [hd] at hz; cases hz
        | cons u r =>
          rw [hd] at hz
          have hi : i < zs.toList.length := by
            rcases Nat.lt_or_ge i zs.toList.length with h | h
            · exact h
            · rw [List.drop_of_length_le h] at hd; cases hd
          rw [List.drop_eq_getElem_cons hi] at hd
          injection hd with e1 e2
          injection hz with e3 e4
          refine ⟨u, ?_, by rw [e2], e3, by rw [e2]; exact e4⟩
          rw [← Array.getElem?_toList, List.getElem?_eq_getElem hi, e1]
      obtain ⟨u, u1, u2, u3, u4⟩ := ex hx
      obtain ⟨v, v1, v2, v3, v4⟩ := ex hy
      have ih := run_eqFields (P := P) w d xs ys fs (i + 1) ks h5 u4 v4
      rw [u2, v2]
      simp only [Op.eqFields, if_pos h1, Sem.run_bind, h3, run_part_plain w h2 u1, run_part_plain w h2 v1, Result.andThen_ok, run_veq w d h4 h2 u3 v3, eqL]
      cases veq u v
      · simp
      · simpa using ih
section
variable {P : Program} {n : Fm} {ρ : Env} {w : World} {d : Nat} {ty : TypeId} {pos : String} {af : Array Edge} {gd : Option (Nat × Bool)}
theorem run_eqS {T : TypeId} {ks : List Kd} [t : TyEqS P T ks] {xs ys : Array Value} (hx : xs.toList.map kindOf = ks) (hy : ys.toList.map kindOf = ks) (w : World) : (Op.equalIn 10000 T (.agg xs) (.agg ys)).run P w = .ok (eqL xs.toList ys.toList) w := by
  have := run_eqFields (P := P) w 9998 xs ys (P.fieldsOf T).toList 0 ks t.f (by simpa using hx) (by simpa using hy)
  rw [run_equalIn_agg (w := w) 9999 T xs ys t.h t.s, this]
  simp
theorem R.eqS {T T' : TypeId} {ks : List Kd} [t : TyEqS P T ks] {x y : Operand} {xs ys : Array Value} {b : Bool} (hx : ev ρ x = some (.agg xs)) (hy : ev ρ y = some (.agg ys)) (h1 : xs.toList.map kindOf = ks) (h2 : ys.toList.map kindOf = ks) (hb : eqL xs.toList ys.toList = b) :
    Runs P n ρ w ⟨some d, .binOp .eql T x y T', ty, pos, af, gd⟩ (.bool b) w := R.bin hx hy (fun w => by
    subst hb
    simp only [Sem.run_bind, run_eqGuard_agg (w := w) .eql T x y _ _ t.g, Result.andThen_ok, run_eql_struct, run_eqS h1 h2])
theorem R.neS {T T' : TypeId} {ks : List Kd} [t : TyEqS P T ks] {x y : Operand} {xs ys : Array Value} {b : Bool} (hx : ev ρ x = some (.agg xs)) (hy : ev ρ y = some (.agg ys)) (h1 : xs.toList.map kindOf = ks) (h2 : ys.toList.map kindOf = ks) (hb : (!eqL xs.toList ys.toList) = b) :
    Runs P n ρ w ⟨some d, .binOp .neq T x y T', ty, pos, af, gd⟩ (.bool b) w := R.bin hx hy (fun w => by
    subst hb
    simp only [Sem.run_bind, run_eqGuard_agg (w := w) .neq T x y _ _ t.g, Result.andThen_ok, run_neq_struct, run_eqS h1 h2])
end
end Brv
/-
  Controls: their sectors, the one that counts, the next one; what two devices' slots have.
-/
set_option linter.unusedVariables false
namespace Brv.Control
open Go Brv Brv.Pack Brv.Frame Brv.Image Brv.Dev
/-- Gen, Epoch, Area, Timeline, Number, Redo, Low. -/
abbrev Ctl := Int × Int × Int × Int × Int × Int × Int
def zeroC : Ctl := (0, 0, 0, 0, 0, 0, 0)
def ctlC (c : Ctl) : Array Value := #[.int .i64 c.1, .int .i64 c.2.1, .int .i64 c.2.2.1, .int .i64 c.2.2.2.1, .int .i64 c.2.2.2.2.1, .int .i64 c.2.2.2.2.2.1, .int .i64 c.2.2.2.2.2.2]
theorem ctlC_one (c : Ctl) : ∀ u ∈ (ctlC c).toList, u.oneCell' = true := by
  intro u hu
  simp only [ctlC, List.mem_cons, List.not_mem_nil, or_false] at hu
  rcases hu with rfl | rfl | rfl | rfl | rfl | rfl | rfl <;> rfl
theorem eqL_ctl (a b : Ctl) : eqL (ctlC a).toList (ctlC b).toList = decide (a = b) := by
  obtain ⟨a1, a2, a3, a4, a5, a6, a7⟩ := a
  obtain ⟨b1, b2, b3, b4, b5, b6, b7⟩ := b
  simp only [ctlC, eqL, veq, Bool.and_true]
  rw [Bool.eq_iff_iff]
  simp
def i64 (x : Int) : Prop := -9223372036854775808 ≤ x ∧ x ≤ 9223372036854775807
structure InC (c : Ctl) : Prop where
  g : i64 c.1
  e : i64 c.2.1
  a : i64 c.2.2.1
  t : i64 c.2.2.2.1
  n : i64 c.2.2.2.2.1
  r : i64 c.2.2.2.2.2.1
  l : i64 c.2.2.2.2.2.2
def okC (c : Ctl) : Prop := (1 ≤ c.1 ∧ c.1 ≤ 2305843009213693952) ∧ (0 ≤ c.2.1 ∧ c.2.1 ≤ 4294967295) ∧ (0 ≤ c.2.2.1 ∧ c.2.2.1 ≤ 1) ∧ (1 ≤ c.2.2.2.1 ∧ c.2.2.2.1 ≤ 2147483647) ∧ (0 ≤ c.2.2.2.2.1 ∧ c.2.2.2.2.1 ≤ 1099511627776) ∧ (0 ≤ c.2.2.2.2.2.1 ∧ c.2.2.2.2.2.1 ≤ 2305843009213693952) ∧ (0 ≤ c.2.2.2.2.2.2 ∧ c.2.2.2.2.2.2 ≤ 2305843009213693952)
instance (c : Ctl) : Decidable (okC c) := by unfold okC; infer_instance
def ctlB (c : Ctl) : List UInt8 := be 1 c.2.2.1.toNat ++ (be 4 c.2.2.2.1.toNat ++ (be 8 c.2.2.2.2.1.toNat ++ (be 8 c.2.2.2.2.2.1.toNat ++ be 8 c.2.2.2.2.2.2.toNat)))
theorem ctlB_length (c : Ctl) : (ctlB c).length = 29 := by simp [ctlB, be_length]
def ctlFr (c : Ctl) : FrV := (c.1, c.2.1, 0, 1, ctlB c)
theorem ctlFr_ok {c : Ctl} (h : okC c) : okV (ctlFr c) := by
  obtain ⟨⟨h1, h2⟩, ⟨h3, h4⟩, _⟩ := h
  refine ⟨⟨by show 0 ≤ c.1; omega, by show c.1 ≤ _; omega⟩, ⟨h3, h4⟩, ⟨by show (1 : Int) ≤ 1; decide, by show (1 : Int) ≤ _; decide⟩, ⟨by show (0 : Int) ≤ 0; decide, by show (0 : Int) ≤ 1 - 1; decide⟩, ?_⟩
  show (ctlB c).length ≤ 40
  rw [ctlB_length]; decide
def ctlS (c : Ctl) : List UInt8 := secV (ctlFr c)
theorem ctlS_length {c : Ctl} (h : okC c) : (ctlS c).length = 64 := secV_length (ctlFr_ok h)
def putC (c : Ctl) : List UInt8 := if okC c then ctlS c else []
/-- Five numbers. -/
def five (l : List UInt8) : (Nat × Nat × Nat × Nat × Nat) × List UInt8 × Int :=
  ((( numF l 0 1).1, (numF (numF l 0 1).2.1 (numF l 0 1).2.2 4).1,
    (numF (numF (numF l 0 1).2.1 (numF l 0 1).2.2 4).2.1 (numF (numF l 0 1).2.1 (numF l 0 1).2.2 4).2.2 8).1,
    (numF (numF (numF (numF l 0 1).2.1 (numF l 0 1).2.2 4).2.1 (numF (numF l 0 1).2.1 (numF l 0 1).2.2 4).2.2 8).2.1 (numF (numF (numF l 0 1).2.1 (numF l 0 1).2.2 4).2.1 (numF (numF l 0 1).2.1 (numF l 0 1).2.2 4).2.2 8).2.2 8).1,
    (numF (numF (numF (numF (numF l 0 1).2.1 (numF l 0 1).2.2 4).2.1 (numF (numF l 0 1).2.1 (numF l 0 1).2.2 4).2.2 8).2.1 (numF (numF (numF l 0 1).2.1 (numF l 0 1).2.2 4).2.1 (numF (numF l 0 1).2.1 (numF l 0 1).2.2 4).2.2 8).2.2 8).2.1 (numF (numF (numF (numF l 0 1).2.1 (numF l 0 1).2.2 4).2.1 (numF (numF l 0 1).2.1 (numF l 0 1).2.2 4).2.2 8).2.1 (numF (numF (numF l 0 1).2.1 (numF l 0 1).2.2 4).2.1 (numF (numF l 0 1).2.1 (numF l 0 1).2.2 4).2.2 8).2.2 8).2.2 8).1),
   (numF (numF (numF (numF (numF l 0 1).2.1 (numF l 0 1).2.2 4).2.1 (numF (numF l 0 1).2.1 (numF l 0 1).2.2 4).2.2 8).2.1 (numF (numF (numF l 0 1).2.1 (numF l 0 1).2.2 4).2.1 (numF (numF l 0 1).2.1 (numF l 0 1).2.2 4).2.2 8).2.2 8).2.1 (numF (numF (numF (numF l 0 1).2.1 (numF l 0 1).2.2 4).2.1 (numF (numF l 0 1).2.1 (numF l 0 1).2.2 4).2.2 8).2.1 (numF (numF (numF l 0 1).2.1 (numF l 0 1).2.2 4).2.1 (numF (numF l 0 1).2.1 (numF l 0 1).2.2 4).2.2 8).2.2 8).2.2 8).2)
theorem five_eq {l : List UInt8} {a b c d e : Nat} {l1 l2 l3 l4 l5 : List UInt8} {e1 e2 e3 e4 e5 : Int} (h1 : numF l 0 1 = (a, l1, e1)) (h2 : numF l1 e1 4 = (b, l2, e2)) (h3 : numF l2 e2 8 = (c, l3, e3)) (h4 : numF l3 e3 8 = (d, l4, e4)) (h5 : numF l4 e4 8 = (e, l5, e5)) :
    five l = ((a, b, c, d, e), l5, e5) := by simp only [five, h1, h2, h3, h4, h5]
def mkC (f : FrV) : Ctl := (f.1, f.2.1, ((five f.2.2.2.2).1.1 : Int), ((five f.2.2.2.2).1.2.1 : Int), ((five f.2.2.2.2).1.2.2.1 : Int), ((five f.2.2.2.2).1.2.2.2.1 : Int), ((five f.2.2.2.2).1.2.2.2.2 : Int))
def okG (f : FrV) : Prop := (five f.2.2.2.2).2.2 = 0 ∧ (five f.2.2.2.2).2.1.length = 0 ∧ f.2.2.2.1 = 1 ∧ okC (mkC f)
instance (f : FrV) : Decidable (okG f) := by unfold okG; infer_instance
def getC (b : List UInt8) : Ctl × Int := if (getF b).2 ≠ 0 then (zeroC, (getF b).2) else if okG (getF b).1 then (mkC (getF b).1, 0) else (zeroC, 20)
theorem getC_err {b : List UInt8} (h : (getF b).2 ≠ 0) : getC b = (zeroC, (getF b).2) := if_pos h
theorem getC_no {b : List UInt8} (h : (getF b).2 = 0) (hg : ¬ okG (getF b).1) : getC b = (zeroC, 20) := by unfold getC; rw [if_neg (by simp [h]), if_neg hg]
theorem getC_yes {b : List UInt8} (h : (getF b).2 = 0) (hg : okG (getF b).1) : getC b = (mkC (getF b).1, 0) := by unfold getC; rw [if_neg (by simp [h]), if_pos hg]
theorem five_b {c : Ctl} (h : okC c) : five (ctlB c) = ((c.2.2.1.toNat, c.2.2.2.1.toNat, c.2.2.2.2.1.toNat, c.2.2.2.2.2.1.toNat, c.2.2.2.2.2.2.toNat), [], 0) := by
  obtain ⟨_, _, ⟨h1, h2⟩, ⟨h3, h4⟩, ⟨h5, h6⟩, ⟨h7, h8⟩, ⟨h9, h10⟩⟩ := h
  have p1 : (256 : Nat) ^ 1 = 256 := by decide
  have p4 : (256 : Nat) ^ 4 = 4294967296 := by decide
  have p8 : (256 : Nat) ^ 8 = 18446744073709551616 := by decide
  have a5 := numF_be (y := 8) (x := c.2.2.2.2.2.2.toNat) (r := []) (by decide) (by decide) (by omega) (by omega)
  rw [List.append_nil] at a5
  exact five_eq (numF_be (y := 1) (by decide) (by decide) (by omega) (by omega)) (numF_be (y := 4) (by decide) (by decide) (by omega) (by omega)) (numF_be (y := 8) (by decide) (by decide) (by omega) (by omega)) (numF_be (y := 8) (by decide) (by decide) (by omega) (by omega)) a5
theorem mkC_fr {c : Ctl} (h : okC c) : mkC (ctlFr c) = c := by
  have h5 := five_b h
  obtain ⟨_, _, ⟨h1, h2⟩, ⟨h3, h4⟩, ⟨h6, _⟩, ⟨h7, _⟩, ⟨h9, _⟩⟩ := h
  obtain ⟨a1, a2, a3, a4, a5, a6, a7⟩ := c
  simp only [mkC, ctlFr, h5, Prod.mk.injEq, true_and]
  simp only at h1 h3 h6 h7 h9
  refine ⟨by omega, by omega, by omega, by omega, by omega⟩
theorem getC_put {c : Ctl} (h : okC c) : getC (ctlS c) = (c, 0) := by
  have hg : getF (ctlS c) = (ctlFr c, 0) := get_put (ctlFr_ok h)
  have h5 := five_b h
  have hm := mkC_fr h
  have h6 : five (ctlFr c).2.2.2.2 = ((c.2.2.1.toNat, c.2.2.2.1.toNat, c.2.2.2.2.1.toNat, c.2.2.2.2.2.1.toNat, c.2.2.2.2.2.2.toNat), [], 0) := h5
  have hk : okG (ctlFr c) := by
    unfold okG
    rw [h6, hm]
    exact ⟨rfl, rfl, rfl, h⟩
  have h0 : (getF (ctlS c)).2 = 0 := by rw [hg]
  rw [getC_yes h0 (by rw [hg]; exact hk), hg, hm]
/-- What a number's reading says of the bytes. -/
theorem numF_inv {l l' : List UInt8} {e y : Int} {x : Nat} (h : numF l e y = (x, l', 0)) : e = 0 ∧ 1 ≤ y ∧ l = be y.toNat x ++ l' := by
  have he := numF_zero h
  subst he
  by_cases hok : okN l y
  · rw [numF_ok hok] at h
    obtain ⟨h1, _, h3, _⟩ := hok
    injection h with e1 e2
    injection e2 with e2 _
    refine ⟨rfl, h1, ?_⟩
    have hb := be_num (l.take y.toNat)
    rw [List.length_take, Nat.min_eq_left (by omega), e1] at hb
    rw [hb, ← e2, List.take_append_drop]
  · rw [numF_no hok] at h
    injection h with _ e2
    injection e2 with _ e3
    cases e3
theorem five_inv {l : List UInt8} (h : (five l).2.2 = 0) (hl : (five l).2.1 = []) : l = be 1 (five l).1.1 ++ (be 4 (five l).1.2.1 ++ (be 8 (five l).1.2.2.1 ++ (be 8 (five l).1.2.2.2.1 ++ be 8 (five l).1.2.2.2.2))) := by
  obtain ⟨⟨a, l1, e1⟩, h1⟩ : ∃ r, numF l 0 1 = r := ⟨_, rfl⟩
  obtain ⟨⟨b, l2, e2⟩, h2⟩ : ∃ r, numF l1 e1 4 = r := ⟨_, rfl⟩
  obtain ⟨⟨c, l3, e3⟩, h3⟩ : ∃ r, numF l2 e2 8 = r := ⟨_, rfl⟩
  obtain ⟨⟨d, l4, e4⟩, h4⟩ : ∃ r, numF l3 e3 8 = r := ⟨_, rfl⟩
  obtain ⟨⟨e, l5, e5⟩, h5⟩ : ∃ r, numF l4 e4 8 = r := ⟨_, rfl⟩
  have hf := five_eq h1 h2 h3 h4 h5
  rw [hf] at h hl ⊢
  simp only at h hl ⊢
  subst h; subst hl
  obtain ⟨rfl, _, g5⟩ := numF_inv h5
  obtain ⟨rfl, _, g4⟩ := numF_inv h4
  obtain ⟨rfl, _, g3⟩ := numF_inv h3
  obtain ⟨rfl, _, g2⟩ := numF_inv h2
  obtain ⟨_, _, g1⟩ := numF_inv h1
  rw [g1, g2, g3, g4, g5, List.append_nil]
  rfl
/-- The document's way to say that a sector is a control. -/
theorem okG_ref {b : List UInt8} (h : (getF b).2 = 0) : okG (getF b).1 ↔ (five (getF b).1.2.2.2.2).2.2 = 0 ∧ okC (mkC (getF b).1) ∧ ctlS (mkC (getF b).1) = b := by
  obtain ⟨hv, hs⟩ := getF_ok h
  obtain ⟨f, hf⟩ : ∃ f, f = (getF b).1 := ⟨_, rfl⟩
  rw [← hf] at hv hs ⊢
  constructor
  · rintro ⟨h1, h2, h3, h4⟩
    refine ⟨h1, h4, ?_⟩
    rw [← hs]
    show secV (ctlFr (mkC f)) = secV f
    have hB := five_inv h1 (List.eq_nil_of_length_eq_zero h2)
    have : ctlFr (mkC f) = f := by
      obtain ⟨p, q, i, k, l⟩ := f
      simp only at h3 hB
      subst h3
      obtain ⟨_, _, _, ⟨i1, i2⟩, _⟩ := hv
      simp only at i1 i2
      have : i = 0 := by omega
      subst this
      simp only [ctlFr, mkC, ctlB, Int.toNat_natCast]
      rw [← hB]
    rw [this]
  · rintro ⟨h1, h4, h5⟩
    have he : ctlFr (mkC f) = f := (secV_inj (ctlFr_ok h4) hv).1 (h5.trans hs.symm)
    have hb := five_b h4
    refine ⟨h1, ?_, ?_, h4⟩
    · have : f.2.2.2.2 = ctlB (mkC f) := by rw [← congrArg (fun f : FrV => f.2.2.2.2) he]; rfl
      rw [this, hb]; rfl
    · have : f.2.2.2.1 = 1 := by rw [← congrArg (fun f : FrV => f.2.2.2.1) he]; rfl
      exact this
theorem getC_gen {b : List UInt8} (h : (getC b).2 = 0) : okC (getC b).1 := by
  by_cases h1 : (getF b).2 = 0
  · by_cases h2 : okG (getF b).1
    · rw [getC_yes h1 h2]; exact h2.2.2.2
    · rw [getC_no h1 h2] at h; cases h
  · rw [getC_err h1] at h; exact absurd h h1
theorem InC.of {c : Ctl} (h : okC c) : InC c := by
  obtain ⟨⟨a1, a2⟩, ⟨b1, b2⟩, ⟨c1, c2⟩, ⟨d1, d2⟩, ⟨e1, e2⟩, ⟨f1, f2⟩, ⟨g1, g2⟩⟩ := h
  exact ⟨⟨by omega, by omega⟩, ⟨by omega, by omega⟩, ⟨by omega, by omega⟩, ⟨by omega, by omega⟩, ⟨by omega, by omega⟩, ⟨by omega, by omega⟩, ⟨by omega, by omega⟩⟩
theorem InC.zero : InC zeroC := ⟨⟨by decide, by decide⟩, ⟨by decide, by decide⟩, ⟨by decide, by decide⟩, ⟨by decide, by decide⟩, ⟨by decide, by decide⟩, ⟨by decide, by decide⟩, ⟨by decide, by decide⟩⟩
/-- One slot. -/
def step (best : Ctl) (r : Ctl × Int) (i : Int) : Ctl := if r.2 = 0 ∧ r.1.1.tmod 2 = i ∧ best.1 < r.1.1 then r.1 else best
def pickC (b : List UInt8) : Ctl × Int := if (step (step zeroC (getC (blk b 0)) 0) (getC (blk b 1)) 1).1 = 0 then (zeroC, 20) else (step (step zeroC (getC (blk b 0)) 0) (getC (blk b 1)) 1, 0)
def readCV (v : DevV) (N : Nat) (p : Int) : Ctl × Int := if (readV v N p 2).2 ≠ 0 then (zeroC, (readV v N p 2).2) else pickC (readV v N p 2).1
def nextC (c : Ctl) : Ctl := (c.1 + 1, c.2)
def writeCV (v : DevV) (N : Nat) (p : Int) (c : Ctl) : DevV × Ctl × Int :=
  if 2305843009213693952 ≤ c.1 then (v, zeroC, 33) else if ¬ okC (nextC c) ∨ p < 0 ∨ (N : Int) < p then (v, zeroC, 2)
  else if (writeV v N (p + (nextC c).1.tmod 2) (ctlS (nextC c))).2 ≠ 0 then ((writeV v N (p + (nextC c).1.tmod 2) (ctlS (nextC c))).1, zeroC, (writeV v N (p + (nextC c).1.tmod 2) (ctlS (nextC c))).2)
  else if (flushV (writeV v N (p + (nextC c).1.tmod 2) (ctlS (nextC c))).1).2 ≠ 0 then ((flushV (writeV v N (p + (nextC c).1.tmod 2) (ctlS (nextC c))).1).1, zeroC, (flushV (writeV v N (p + (nextC c).1.tmod 2) (ctlS (nextC c))).1).2)
  else ((flushV (writeV v N (p + (nextC c).1.tmod 2) (ctlS (nextC c))).1).1, nextC c, 0)
theorem step_ok {best : Ctl} {r : Ctl × Int} {i : Int} (hb : best.1 = 0 → best = zeroC) (h : r.2 = 0 → okC r.1) : (step best r i).1 = 0 → step best r i = zeroC := by
  unfold step
  split
  · rename_i hc
    intro h0
    obtain ⟨⟨h1, _⟩, _⟩ := h hc.1
    omega
  · exact hb
def stepN (q : List UInt8) : Nat → Ctl
  | 0 => zeroC
  | k + 1 => step (stepN q k) (getC (blk q k)) (k : Int)
theorem pickC_eq (q : List UInt8) : pickC q = if (stepN q 2).1 = 0 then (zeroC, 20) else (stepN q 2, 0) := rfl
theorem stepN_yes {q : List UInt8} {k : Nat} (h1 : (getC (blk q k)).2 = 0) (h2 : (getC (blk q k)).1.1.tmod 2 = (k : Int)) (h3 : (stepN q k).1 < (getC (blk q k)).1.1) : stepN q (k + 1) = (getC (blk q k)).1 := if_pos ⟨h1, h2, h3⟩
theorem stepN_no {q : List UInt8} {k : Nat} (h : ¬ ((getC (blk q k)).2 = 0 ∧ (getC (blk q k)).1.1.tmod 2 = (k : Int) ∧ (stepN q k).1 < (getC (blk q k)).1.1)) : stepN q (k + 1) = stepN q k := if_neg h
theorem readV_two {v : DevV} {N : Nat} {p : Int} (hw : v.Wf N) (h : (readV v N p 2).2 = 0) : (readV v N p 2).1.length = 128 := by
  unfold readV at h ⊢
  split at h
  · cases h
  · split at h
    · rename_i h1 h2
      rw [if_neg h1, if_pos h2]
      obtain ⟨t1, t2, t3, t4⟩ := h2
      show (win (laidAll v.stay v.wt) p.toNat (2 : Int).toNat).length = 128
      rw [win_length (N := N) (laidAll_length (s := []) hw.len hw.wt) (by show p.toNat + 2 ≤ N; omega)]
      rfl
    · cases h
theorem readCV_err {v : DevV} {N : Nat} {p : Int} (h : (readV v N p 2).2 ≠ 0) : readCV v N p = (zeroC, (readV v N p 2).2) := if_pos h
theorem readCV_ok {v : DevV} {N : Nat} {p : Int} (h : (readV v N p 2).2 = 0) : readCV v N p = pickC (readV v N p 2).1 := if_neg (by simp [h])
theorem writeCV_spent {v : DevV} {N : Nat} {p : Int} {c : Ctl} (h : 2305843009213693952 ≤ c.1) : writeCV v N p c = (v, zeroC, 33) := if_pos h
theorem writeCV_arg {v : DevV} {N : Nat} {p : Int} {c : Ctl} (h : ¬ 2305843009213693952 ≤ c.1) (h2 : ¬ okC (nextC c) ∨ p < 0 ∨ (N : Int) < p) : writeCV v N p c = (v, zeroC, 2) := by unfold writeCV; rw [if_neg h, if_pos h2]
section
variable {v : DevV} {N : Nat} {p : Int} {c : Ctl} {wr fl : DevV × Int} (h : ¬ 2305843009213693952 ≤ c.1) (h2 : ¬ (¬ okC (nextC c) ∨ p < 0 ∨ (N : Int) < p)) (hw : wr = writeV v N (p + (nextC c).1.tmod 2) (ctlS (nextC c)))
include h h2 hw
theorem writeCV_w (h3 : wr.2 ≠ 0) : writeCV v N p c = (wr.1, zeroC, wr.2) := by subst hw; unfold writeCV; rw [if_neg h, if_neg h2, if_pos h3]
theorem writeCV_f (h3 : ¬ wr.2 ≠ 0) (hf : fl = flushV wr.1) (h4 : fl.2 ≠ 0) : writeCV v N p c = (fl.1, zeroC, fl.2) := by subst hf; subst hw; unfold writeCV; rw [if_neg h, if_neg h2, if_neg h3, if_pos h4]
theorem writeCV_ok (h3 : ¬ wr.2 ≠ 0) (hf : fl = flushV wr.1) (h4 : ¬ fl.2 ≠ 0) : writeCV v N p c = (fl.1, nextC c, 0) := by subst hf; subst hw; unfold writeCV; rw [if_neg h, if_neg h2, if_neg h3, if_neg h4]
end
end Brv.Control
/-
  What this seat's types are, as instances.
-/
namespace Go.Proofs.Ythpolibakkmmeaa
open Go Brv
instance : TyOne Try.prog 1 := ⟨by kernel_rfl, by kernel_rfl⟩
instance : TyInt Try.prog 2 .i64 := ⟨Try.underlying2⟩
instance : TyOne Try.prog 2 := ⟨by kernel_rfl, by kernel_rfl⟩
instance : TyZero Try.prog 2 (.int .i64 0) := ⟨by kernel_rfl⟩
instance : TyInt Try.prog 3 .i64 := ⟨Try.underlying3⟩
instance : TyOne Try.prog 3 := ⟨by kernel_rfl, by kernel_rfl⟩
instance : TyZero Try.prog 3 (.int .i64 0) := ⟨by kernel_rfl⟩
instance : TyBool Try.prog 4 := ⟨Try.underlying4⟩
instance : TyOne Try.prog 4 := ⟨by kernel_rfl, by kernel_rfl⟩
instance : TyZero Try.prog 4 (.bool false) := ⟨by kernel_rfl⟩
instance : TyInt Try.prog 5 .u8 := ⟨Try.underlying5⟩
instance : TyOne Try.prog 5 := ⟨by kernel_rfl, by kernel_rfl⟩
instance : TyZero Try.prog 5 (.int .u8 0) := ⟨by kernel_rfl⟩
instance : TyAgg Try.prog 7 4 := ⟨by kernel_rfl, by kernel_rfl⟩
instance : TyField Try.prog 7 0 0 := ⟨_, _, Try.underlying7, rfl, rfl, by kernel_rfl⟩
instance : TyField Try.prog 7 1 1 := ⟨_, _, Try.underlying7, rfl, rfl, by kernel_rfl⟩
instance : TyField Try.prog 7 2 2 := ⟨_, _, Try.underlying7, rfl, rfl, by kernel_rfl⟩
instance : TyField Try.prog 7 3 3 := ⟨_, _, Try.underlying7, rfl, rfl, by kernel_rfl⟩
instance : TyBuilt Try.prog 7 (fun i => (#[(0, 1), (1, 1), (2, 1), (3, 1)] : Array (Nat × Nat))[i]?) (.agg #[.int .i64 0, .int .i64 0, .bool false, .int .u8 0]) := TyBuilt.struct (ps := [(0, 1), (1, 1), (2, 1), (3, 1)]) Try.underlying7 (by kernel_rfl) (by kernel_rfl)
instance : TyZero Try.prog 7 (.agg #[.int .i64 0, .int .i64 0, .bool false, .int .u8 0]) := ⟨by kernel_rfl⟩
instance : TyStr Try.prog 9 := ⟨Try.underlying9⟩
instance : TyOne Try.prog 9 := ⟨by kernel_rfl, by kernel_rfl⟩
instance : TyZero Try.prog 9 (.string ByteArray.empty) := ⟨by kernel_rfl⟩
instance : TyInt Try.prog 12 .u64 := ⟨Try.underlying12⟩
instance : TyOne Try.prog 12 := ⟨by kernel_rfl, by kernel_rfl⟩
instance : TyZero Try.prog 12 (.int .u64 0) := ⟨by kernel_rfl⟩
instance : TyAgg Try.prog 13 2 := ⟨by kernel_rfl, by kernel_rfl⟩
instance : TyField Try.prog 13 0 0 := ⟨_, _, Try.underlying13, rfl, rfl, by kernel_rfl⟩
instance : TyField Try.prog 13 1 1 := ⟨_, _, Try.underlying13, rfl, rfl, by kernel_rfl⟩
instance : TyBuilt Try.prog 13 (fun i => (#[(0, 1), (1, 1)] : Array (Nat × Nat))[i]?) (.agg #[.string ByteArray.empty, .int .u64 0]) := TyBuilt.struct (ps := [(0, 1), (1, 1)]) Try.underlying13 (by kernel_rfl) (by kernel_rfl)
instance : TyZero Try.prog 13 (.agg #[.string ByteArray.empty, .int .u64 0]) := ⟨by kernel_rfl⟩
instance : TyAgg Try.prog 18 1 := ⟨by kernel_rfl, by kernel_rfl⟩
instance : TyField Try.prog 18 0 0 := ⟨_, _, Try.underlying18, rfl, rfl, by kernel_rfl⟩
instance : TyBuilt Try.prog 18 (fun i => (#[(0, 1)] : Array (Nat × Nat))[i]?) (.agg #[.pointer none]) := TyBuilt.struct (ps := [(0, 1)]) Try.underlying18 (by kernel_rfl) (by kernel_rfl)
instance : TyZero Try.prog 18 (.agg #[.pointer none]) := ⟨by kernel_rfl⟩
instance : TyOne Try.prog 20 := ⟨by kernel_rfl, by kernel_rfl⟩
instance : TyInt Try.prog 21 .i32 := ⟨Try.underlying21⟩
instance : TyOne Try.prog 21 := ⟨by kernel_rfl, by kernel_rfl⟩
instance : TyZero Try.prog 21 (.int .i32 0) := ⟨by kernel_rfl⟩
instance : TyOne Try.prog 22 := ⟨by kernel_rfl, by kernel_rfl⟩
instance : TyZero Try.prog 22 (.slice none 0 0) := ⟨by kernel_rfl⟩
instance : TySlice Try.prog 22 5 1 1 (.int .u8 0) := TySlice.of Try.underlying22 (by kernel_rfl) (by kernel_rfl) (by decide)
instance : TyBytes Try.prog 22 5 := ⟨Try.underlying22, Try.underlying5⟩
instance : TyOne Try.prog 23 := ⟨by kernel_rfl, by kernel_rfl⟩
instance : TyZero Try.prog 23 (.slice none 0 0) := ⟨by kernel_rfl⟩
instance : TySlice Try.prog 23 25 1 8 (.int .u64 0) := TySlice.of Try.underlying23 (by kernel_rfl) (by kernel_rfl) (by decide)
instance : TyOne Try.prog 24 := ⟨by kernel_rfl, by kernel_rfl⟩
instance : TyInt Try.prog 25 .u64 := ⟨Try.underlying25⟩
instance : TyOne Try.prog 25 := ⟨by kernel_rfl, by kernel_rfl⟩
instance : TyZero Try.prog 25 (.int .u64 0) := ⟨by kernel_rfl⟩
instance : TyOne Try.prog 26 := ⟨by kernel_rfl, by kernel_rfl⟩
instance : TyOne Try.prog 27 := ⟨by kernel_rfl, by kernel_rfl⟩
instance : TyOne Try.prog 28 := ⟨by kernel_rfl, by kernel_rfl⟩
instance : TyOne Try.prog 29 := ⟨by kernel_rfl, by kernel_rfl⟩
instance : TyPtr Try.prog 30 := ⟨_, Try.underlying30⟩
instance : TyOne Try.prog 30 := ⟨by kernel_rfl, by kernel_rfl⟩
instance : TyZero Try.prog 30 (.pointer none) := ⟨by kernel_rfl⟩
instance : TyInt Try.prog 31 .i64 := ⟨Try.underlying31⟩
instance : TyOne Try.prog 31 := ⟨by kernel_rfl, by kernel_rfl⟩
instance : TyZero Try.prog 31 (.int .i64 0) := ⟨by kernel_rfl⟩
instance : TyOne Try.prog 33 := ⟨by kernel_rfl, by kernel_rfl⟩
instance : TyOne Try.prog 34 := ⟨by kernel_rfl, by kernel_rfl⟩
instance : TyZero Try.prog 34 (.slice none 0 0) := ⟨by kernel_rfl⟩
instance : TySlice Try.prog 34 23 1 24 (.slice none 0 0) := TySlice.of Try.underlying34 (by kernel_rfl) (by kernel_rfl) (by decide)
instance : TyOne Try.prog 35 := ⟨by kernel_rfl, by kernel_rfl⟩
instance : TyOne Try.prog 36 := ⟨by kernel_rfl, by kernel_rfl⟩
instance : TyZero Try.prog 36 (.slice none 0 0) := ⟨by kernel_rfl⟩
instance : TySlice Try.prog 36 3 1 8 (.int .i64 0) := TySlice.of Try.underlying36 (by kernel_rfl) (by kernel_rfl) (by decide)
instance : TyOne Try.prog 38 := ⟨by kernel_rfl, by kernel_rfl⟩
instance : TyOne Try.prog 39 := ⟨by kernel_rfl, by kernel_rfl⟩
instance : TyOne Try.prog 40 := ⟨by kernel_rfl, by kernel_rfl⟩
instance : TyOne Try.prog 41 := ⟨by kernel_rfl, by kernel_rfl⟩
instance : TyOne Try.prog 42 := ⟨by kernel_rfl, by kernel_rfl⟩
instance : TyOne Try.prog 43 := ⟨by kernel_rfl, by kernel_rfl⟩
instance : TyOne Try.prog 44 := ⟨by kernel_rfl, by kernel_rfl⟩
instance : TyOne Try.prog 45 := ⟨by kernel_rfl, by kernel_rfl⟩
instance : TyOne Try.prog 46 := ⟨by kernel_rfl, by kernel_rfl⟩
instance : TyOne Try.prog 48 := ⟨by kernel_rfl, by kernel_rfl⟩
instance : TyOne Try.prog 49 := ⟨by kernel_rfl, by kernel_rfl⟩
instance : TyOne Try.prog 50 := ⟨by kernel_rfl, by kernel_rfl⟩
instance : TyOne Try.prog 51 := ⟨by kernel_rfl, by kernel_rfl⟩
instance : TyOne Try.prog 52 := ⟨by kernel_rfl, by kernel_rfl⟩
instance : TyZero Try.prog 52 (.slice none 0 0) := ⟨by kernel_rfl⟩
instance : TySlice Try.prog 52 9 1 16 (.string ByteArray.empty) := TySlice.of Try.underlying52 (by kernel_rfl) (by kernel_rfl) (by decide)
instance : TyPtr Try.prog 53 := ⟨_, Try.underlying53⟩
instance : TyOne Try.prog 53 := ⟨by kernel_rfl, by kernel_rfl⟩
instance : TyZero Try.prog 53 (.pointer none) := ⟨by kernel_rfl⟩
instance : TyOne Try.prog 54 := ⟨by kernel_rfl, by kernel_rfl⟩
instance : TyOne Try.prog 55 := ⟨by kernel_rfl, by kernel_rfl⟩
instance : TyOne Try.prog 56 := ⟨by kernel_rfl, by kernel_rfl⟩
instance : TyOne Try.prog 57 := ⟨by kernel_rfl, by kernel_rfl⟩
instance : TyOne Try.prog 59 := ⟨by kernel_rfl, by kernel_rfl⟩
instance : TyOne Try.prog 60 := ⟨by kernel_rfl, by kernel_rfl⟩
instance : TyOne Try.prog 61 := ⟨by kernel_rfl, by kernel_rfl⟩
instance : TyZero Try.prog 61 (.slice none 0 0) := ⟨by kernel_rfl⟩
instance : TySlice Try.prog 61 66 4 40 (.agg #[.int .i64 0, .int .i64 0, .int .i64 0, .string ByteArray.empty]) := TySlice.of Try.underlying61 (by kernel_rfl) (by kernel_rfl) (by decide)
instance : TyPtr Try.prog 62 := ⟨_, Try.underlying62⟩
instance : TyOne Try.prog 62 := ⟨by kernel_rfl, by kernel_rfl⟩
instance : TyZero Try.prog 62 (.pointer none) := ⟨by kernel_rfl⟩
instance : TyOne Try.prog 63 := ⟨by kernel_rfl, by kernel_rfl⟩
instance : TyOne Try.prog 64 := ⟨by kernel_rfl, by kernel_rfl⟩
instance : TyZero Try.prog 64 (.slice none 0 0) := ⟨by kernel_rfl⟩
instance : TySlice Try.prog 64 77 2 24 (.agg #[.int .i64 0, .string ByteArray.empty]) := TySlice.of Try.underlying64 (by kernel_rfl) (by kernel_rfl) (by decide)
instance : TyAgg Try.prog 65 4 := ⟨by kernel_rfl, by kernel_rfl⟩
instance : TyField Try.prog 65 0 0 := ⟨_, _, Try.underlying65, rfl, rfl, by kernel_rfl⟩
instance : TyField Try.prog 65 1 1 := ⟨_, _, Try.underlying65, rfl, rfl, by kernel_rfl⟩
instance : TyField Try.prog 65 2 2 := ⟨_, _, Try.underlying65, rfl, rfl, by kernel_rfl⟩
instance : TyField Try.prog 65 3 3 := ⟨_, _, Try.underlying65, rfl, rfl, by kernel_rfl⟩
instance : TyBuilt Try.prog 65 (fun i => (#[(0, 1), (1, 1), (2, 1), (3, 1)] : Array (Nat × Nat))[i]?) (.agg #[.int .i64 0, .int .i64 0, .int .i64 0, .string ByteArray.empty]) := TyBuilt.struct (ps := [(0, 1), (1, 1), (2, 1), (3, 1)]) Try.underlying65 (by kernel_rfl) (by kernel_rfl)
instance : TyZero Try.prog 65 (.agg #[.int .i64 0, .int .i64 0, .int .i64 0, .string ByteArray.empty]) := ⟨by kernel_rfl⟩
instance : TyAgg Try.prog 66 4 := ⟨by kernel_rfl, by kernel_rfl⟩
instance : TyField Try.prog 66 0 0 := ⟨_, _, Try.underlying66, rfl, rfl, by kernel_rfl⟩
instance : TyField Try.prog 66 1 1 := ⟨_, _, Try.underlying66, rfl, rfl, by kernel_rfl⟩
instance : TyField Try.prog 66 2 2 := ⟨_, _, Try.underlying66, rfl, rfl, by kernel_rfl⟩
instance : TyField Try.prog 66 3 3 := ⟨_, _, Try.underlying66, rfl, rfl, by kernel_rfl⟩
instance : TyBuilt Try.prog 66 (fun i => (#[(0, 1), (1, 1), (2, 1), (3, 1)] : Array (Nat × Nat))[i]?) (.agg #[.int .i64 0, .int .i64 0, .int .i64 0, .string ByteArray.empty]) := TyBuilt.struct (ps := [(0, 1), (1, 1), (2, 1), (3, 1)]) Try.underlying66 (by kernel_rfl) (by kernel_rfl)
instance : TyZero Try.prog 66 (.agg #[.int .i64 0, .int .i64 0, .int .i64 0, .string ByteArray.empty]) := ⟨by kernel_rfl⟩
instance : TyInt Try.prog 67 .u64 := ⟨Try.underlying67⟩
instance : TyOne Try.prog 67 := ⟨by kernel_rfl, by kernel_rfl⟩
instance : TyZero Try.prog 67 (.int .u64 0) := ⟨by kernel_rfl⟩
instance : TyOne Try.prog 69 := ⟨by kernel_rfl, by kernel_rfl⟩
instance : TyOne Try.prog 70 := ⟨by kernel_rfl, by kernel_rfl⟩
instance : TyOne Try.prog 72 := ⟨by kernel_rfl, by kernel_rfl⟩
instance : TyOne Try.prog 73 := ⟨by kernel_rfl, by kernel_rfl⟩
instance : TyOne Try.prog 74 := ⟨by kernel_rfl, by kernel_rfl⟩
instance : TyOne Try.prog 75 := ⟨by kernel_rfl, by kernel_rfl⟩
instance : TyAgg Try.prog 76 2 := ⟨by kernel_rfl, by kernel_rfl⟩
instance : TyField Try.prog 76 0 0 := ⟨_, _, Try.underlying76, rfl, rfl, by kernel_rfl⟩
instance : TyField Try.prog 76 1 1 := ⟨_, _, Try.underlying76, rfl, rfl, by kernel_rfl⟩
instance : TyBuilt Try.prog 76 (fun i => (#[(0, 1), (1, 1)] : Array (Nat × Nat))[i]?) (.agg #[.int .i64 0, .string ByteArray.empty]) := TyBuilt.struct (ps := [(0, 1), (1, 1)]) Try.underlying76 (by kernel_rfl) (by kernel_rfl)
instance : TyZero Try.prog 76 (.agg #[.int .i64 0, .string ByteArray.empty]) := ⟨by kernel_rfl⟩
instance : TyAgg Try.prog 77 2 := ⟨by kernel_rfl, by kernel_rfl⟩
instance : TyField Try.prog 77 0 0 := ⟨_, _, Try.underlying77, rfl, rfl, by kernel_rfl⟩
instance : TyField Try.prog 77 1 1 := ⟨_, _, Try.underlying77, rfl, rfl, by kernel_rfl⟩
instance : TyBuilt Try.prog 77 (fun i => (#[(0, 1), (1, 1)] : Array (Nat × Nat))[i]?) (.agg #[.int .i64 0, .string ByteArray.empty]) := TyBuilt.struct (ps := [(0, 1), (1, 1)]) Try.underlying77 (by kernel_rfl) (by kernel_rfl)
instance : TyZero Try.prog 77 (.agg #[.int .i64 0, .string ByteArray.empty]) := ⟨by kernel_rfl⟩
instance : TyOne Try.prog 78 := ⟨by kernel_rfl, by kernel_rfl⟩
instance : TyOne Try.prog 80 := ⟨by kernel_rfl, by kernel_rfl⟩
instance : TyOne Try.prog 81 := ⟨by kernel_rfl, by kernel_rfl⟩
instance : TyOne Try.prog 82 := ⟨by kernel_rfl, by kernel_rfl⟩
instance : TyOne Try.prog 83 := ⟨by kernel_rfl, by kernel_rfl⟩
instance : TyOne Try.prog 84 := ⟨by kernel_rfl, by kernel_rfl⟩
instance : TyZero Try.prog 84 (.slice none 0 0) := ⟨by kernel_rfl⟩
instance : TySlice Try.prog 84 92 4 48 (.agg #[.int .i64 0, .int .i64 0, .int .i64 0, .slice none 0 0]) := TySlice.of Try.underlying84 (by kernel_rfl) (by kernel_rfl) (by decide)
instance : TyPtr Try.prog 85 := ⟨_, Try.underlying85⟩
instance : TyOne Try.prog 85 := ⟨by kernel_rfl, by kernel_rfl⟩
instance : TyZero Try.prog 85 (.pointer none) := ⟨by kernel_rfl⟩
instance : TyOne Try.prog 87 := ⟨by kernel_rfl, by kernel_rfl⟩
instance : TyOne Try.prog 89 := ⟨by kernel_rfl, by kernel_rfl⟩
instance : TyOne Try.prog 90 := ⟨by kernel_rfl, by kernel_rfl⟩
instance : TyAgg Try.prog 91 4 := ⟨by kernel_rfl, by kernel_rfl⟩
instance : TyField Try.prog 91 0 0 := ⟨_, _, Try.underlying91, rfl, rfl, by kernel_rfl⟩
instance : TyField Try.prog 91 1 1 := ⟨_, _, Try.underlying91, rfl, rfl, by kernel_rfl⟩
instance : TyField Try.prog 91 2 2 := ⟨_, _, Try.underlying91, rfl, rfl, by kernel_rfl⟩
instance : TyField Try.prog 91 3 3 := ⟨_, _, Try.underlying91, rfl, rfl, by kernel_rfl⟩
instance : TyBuilt Try.prog 91 (fun i => (#[(0, 1), (1, 1), (2, 1), (3, 1)] : Array (Nat × Nat))[i]?) (.agg #[.int .i64 0, .int .i64 0, .int .i64 0, .slice none 0 0]) := TyBuilt.struct (ps := [(0, 1), (1, 1), (2, 1), (3, 1)]) Try.underlying91 (by kernel_rfl) (by kernel_rfl)
instance : TyZero Try.prog 91 (.agg #[.int .i64 0, .int .i64 0, .int .i64 0, .slice none 0 0]) := ⟨by kernel_rfl⟩
instance : TyAgg Try.prog 92 4 := ⟨by kernel_rfl, by kernel_rfl⟩
instance : TyField Try.prog 92 0 0 := ⟨_, _, Try.underlying92, rfl, rfl, by kernel_rfl⟩
instance : TyField Try.prog 92 1 1 := ⟨_, _, Try.underlying92, rfl, rfl, by kernel_rfl⟩
instance : TyField Try.prog 92 2 2 := ⟨_, _, Try.underlying92, rfl, rfl, by kernel_rfl⟩
instance : TyField Try.prog 92 3 3 := ⟨_, _, Try.underlying92, rfl, rfl, by kernel_rfl⟩
instance : TyBuilt Try.prog 92 (fun i => (#[(0, 1), (1, 1), (2, 1), (3, 1)] : Array (Nat × Nat))[i]?) (.agg #[.int .i64 0, .int .i64 0, .int .i64 0, .slice none 0 0]) := TyBuilt.struct (ps := [(0, 1), (1, 1), (2, 1), (3, 1)]) Try.underlying92 (by kernel_rfl) (by kernel_rfl)
instance : TyZero Try.prog 92 (.agg #[.int .i64 0, .int .i64 0, .int .i64 0, .slice none 0 0]) := ⟨by kernel_rfl⟩
instance : TyOne Try.prog 93 := ⟨by kernel_rfl, by kernel_rfl⟩
instance : TyOne Try.prog 95 := ⟨by kernel_rfl, by kernel_rfl⟩
instance : TyOne Try.prog 96 := ⟨by kernel_rfl, by kernel_rfl⟩
instance : TyZero Try.prog 96 (.slice none 0 0) := ⟨by kernel_rfl⟩
instance : TySlice Try.prog 96 101 2 32 (.agg #[.int .i64 0, .slice none 0 0]) := TySlice.of Try.underlying96 (by kernel_rfl) (by kernel_rfl) (by decide)
instance : TyOne Try.prog 98 := ⟨by kernel_rfl, by kernel_rfl⟩
instance : TyOne Try.prog 99 := ⟨by kernel_rfl, by kernel_rfl⟩
instance : TyAgg Try.prog 100 2 := ⟨by kernel_rfl, by kernel_rfl⟩
instance : TyField Try.prog 100 0 0 := ⟨_, _, Try.underlying100, rfl, rfl, by kernel_rfl⟩
instance : TyField Try.prog 100 1 1 := ⟨_, _, Try.underlying100, rfl, rfl, by kernel_rfl⟩
instance : TyBuilt Try.prog 100 (fun i => (#[(0, 1), (1, 1)] : Array (Nat × Nat))[i]?) (.agg #[.int .i64 0, .slice none 0 0]) := TyBuilt.struct (ps := [(0, 1), (1, 1)]) Try.underlying100 (by kernel_rfl) (by kernel_rfl)
instance : TyZero Try.prog 100 (.agg #[.int .i64 0, .slice none 0 0]) := ⟨by kernel_rfl⟩
instance : TyAgg Try.prog 101 2 := ⟨by kernel_rfl, by kernel_rfl⟩
instance : TyField Try.prog 101 0 0 := ⟨_, _, Try.underlying101, rfl, rfl, by kernel_rfl⟩
instance : TyField Try.prog 101 1 1 := ⟨_, _, Try.underlying101, rfl, rfl, by kernel_rfl⟩
instance : TyBuilt Try.prog 101 (fun i => (#[(0, 1), (1, 1)] : Array (Nat × Nat))[i]?) (.agg #[.int .i64 0, .slice none 0 0]) := TyBuilt.struct (ps := [(0, 1), (1, 1)]) Try.underlying101 (by kernel_rfl) (by kernel_rfl)
instance : TyZero Try.prog 101 (.agg #[.int .i64 0, .slice none 0 0]) := ⟨by kernel_rfl⟩
instance : TyOne Try.prog 102 := ⟨by kernel_rfl, by kernel_rfl⟩
instance : TyOne Try.prog 103 := ⟨by kernel_rfl, by kernel_rfl⟩
instance : TyZero Try.prog 103 (.slice none 0 0) := ⟨by kernel_rfl⟩
instance : TySlice Try.prog 103 118 2 32 (.agg #[.int .i64 0, .slice none 0 0]) := TySlice.of Try.underlying103 (by kernel_rfl) (by kernel_rfl) (by decide)
instance : TyAgg Try.prog 104 3 := ⟨by kernel_rfl, by kernel_rfl⟩
instance : TyField Try.prog 104 0 0 := ⟨_, _, Try.underlying104, rfl, rfl, by kernel_rfl⟩
instance : TyField Try.prog 104 1 1 := ⟨_, _, Try.underlying104, rfl, rfl, by kernel_rfl⟩
instance : TyField Try.prog 104 2 2 := ⟨_, _, Try.underlying104, rfl, rfl, by kernel_rfl⟩
instance : TyBuilt Try.prog 104 (fun i => (#[(0, 1), (1, 1), (2, 1)] : Array (Nat × Nat))[i]?) (.agg #[.int .i64 0, .int .i64 0, .slice none 0 0]) := TyBuilt.struct (ps := [(0, 1), (1, 1), (2, 1)]) Try.underlying104 (by kernel_rfl) (by kernel_rfl)
instance : TyZero Try.prog 104 (.agg #[.int .i64 0, .int .i64 0, .slice none 0 0]) := ⟨by kernel_rfl⟩
instance : TyAgg Try.prog 105 3 := ⟨by kernel_rfl, by kernel_rfl⟩
instance : TyField Try.prog 105 0 0 := ⟨_, _, Try.underlying105, rfl, rfl, by kernel_rfl⟩
instance : TyField Try.prog 105 1 1 := ⟨_, _, Try.underlying105, rfl, rfl, by kernel_rfl⟩
instance : TyField Try.prog 105 2 2 := ⟨_, _, Try.underlying105, rfl, rfl, by kernel_rfl⟩
instance : TyBuilt Try.prog 105 (fun i => (#[(0, 1), (1, 1), (2, 1)] : Array (Nat × Nat))[i]?) (.agg #[.int .i64 0, .int .i64 0, .slice none 0 0]) := TyBuilt.struct (ps := [(0, 1), (1, 1), (2, 1)]) Try.underlying105 (by kernel_rfl) (by kernel_rfl)
instance : TyZero Try.prog 105 (.agg #[.int .i64 0, .int .i64 0, .slice none 0 0]) := ⟨by kernel_rfl⟩
instance : TyOne Try.prog 106 := ⟨by kernel_rfl, by kernel_rfl⟩
instance : TyOne Try.prog 108 := ⟨by kernel_rfl, by kernel_rfl⟩
instance : TyOne Try.prog 110 := ⟨by kernel_rfl, by kernel_rfl⟩
instance : TyOne Try.prog 112 := ⟨by kernel_rfl, by kernel_rfl⟩
instance : TyOne Try.prog 114 := ⟨by kernel_rfl, by kernel_rfl⟩
instance : TyOne Try.prog 115 := ⟨by kernel_rfl, by kernel_rfl⟩
instance : TyOne Try.prog 116 := ⟨by kernel_rfl, by kernel_rfl⟩
instance : TyAgg Try.prog 117 2 := ⟨by kernel_rfl, by kernel_rfl⟩
instance : TyField Try.prog 117 0 0 := ⟨_, _, Try.underlying117, rfl, rfl, by kernel_rfl⟩
instance : TyField Try.prog 117 1 1 := ⟨_, _, Try.underlying117, rfl, rfl, by kernel_rfl⟩
instance : TyBuilt Try.prog 117 (fun i => (#[(0, 1), (1, 1)] : Array (Nat × Nat))[i]?) (.agg #[.int .i64 0, .slice none 0 0]) := TyBuilt.struct (ps := [(0, 1), (1, 1)]) Try.underlying117 (by kernel_rfl) (by kernel_rfl)
instance : TyZero Try.prog 117 (.agg #[.int .i64 0, .slice none 0 0]) := ⟨by kernel_rfl⟩
instance : TyAgg Try.prog 118 2 := ⟨by kernel_rfl, by kernel_rfl⟩
instance : TyField Try.prog 118 0 0 := ⟨_, _, Try.underlying118, rfl, rfl, by kernel_rfl⟩
instance : TyField Try.prog 118 1 1 := ⟨_, _, Try.underlying118, rfl, rfl, by kernel_rfl⟩
instance : TyBuilt Try.prog 118 (fun i => (#[(0, 1), (1, 1)] : Array (Nat × Nat))[i]?) (.agg #[.int .i64 0, .slice none 0 0]) := TyBuilt.struct (ps := [(0, 1), (1, 1)]) Try.underlying118 (by kernel_rfl) (by kernel_rfl)
instance : TyZero Try.prog 118 (.agg #[.int .i64 0, .slice none 0 0]) := ⟨by kernel_rfl⟩
instance : TyOne Try.prog 119 := ⟨by kernel_rfl, by kernel_rfl⟩
instance : TyAgg Try.prog 120 7 := ⟨by kernel_rfl, by kernel_rfl⟩
instance : TyField Try.prog 120 0 0 := ⟨_, _, Try.underlying120, rfl, rfl, by kernel_rfl⟩
instance : TyField Try.prog 120 1 1 := ⟨_, _, Try.underlying120, rfl, rfl, by kernel_rfl⟩
instance : TyField Try.prog 120 2 2 := ⟨_, _, Try.underlying120, rfl, rfl, by kernel_rfl⟩
instance : TyField Try.prog 120 3 3 := ⟨_, _, Try.underlying120, rfl, rfl, by kernel_rfl⟩
instance : TyField Try.prog 120 4 4 := ⟨_, _, Try.underlying120, rfl, rfl, by kernel_rfl⟩
instance : TyField Try.prog 120 5 5 := ⟨_, _, Try.underlying120, rfl, rfl, by kernel_rfl⟩
instance : TyField Try.prog 120 6 6 := ⟨_, _, Try.underlying120, rfl, rfl, by kernel_rfl⟩
instance : TyBuilt Try.prog 120 (fun i => (#[(0, 1), (1, 1), (2, 1), (3, 1), (4, 1), (5, 1), (6, 1)] : Array (Nat × Nat))[i]?) (.agg #[.int .i64 0, .int .i64 0, .int .i64 0, .int .i64 0, .int .i64 0, .int .i64 0, .int .i64 0]) := TyBuilt.struct (ps := [(0, 1), (1, 1), (2, 1), (3, 1), (4, 1), (5, 1), (6, 1)]) Try.underlying120 (by kernel_rfl) (by kernel_rfl)
instance : TyZero Try.prog 120 (.agg #[.int .i64 0, .int .i64 0, .int .i64 0, .int .i64 0, .int .i64 0, .int .i64 0, .int .i64 0]) := ⟨by kernel_rfl⟩
instance : TyAgg Try.prog 121 7 := ⟨by kernel_rfl, by kernel_rfl⟩
instance : TyField Try.prog 121 0 0 := ⟨_, _, Try.underlying121, rfl, rfl, by kernel_rfl⟩
instance : TyField Try.prog 121 1 1 := ⟨_, _, Try.underlying121, rfl, rfl, by kernel_rfl⟩
instance : TyField Try.prog 121 2 2 := ⟨_, _, Try.underlying121, rfl, rfl, by kernel_rfl⟩
instance : TyField Try.prog 121 3 3 := ⟨_, _, Try.underlying121, rfl, rfl, by kernel_rfl⟩
instance : TyField Try.prog 121 4 4 := ⟨_, _, Try.underlying121, rfl, rfl, by kernel_rfl⟩
instance : TyField Try.prog 121 5 5 := ⟨_, _, Try.underlying121, rfl, rfl, by kernel_rfl⟩
instance : TyField Try.prog 121 6 6 := ⟨_, _, Try.underlying121, rfl, rfl, by kernel_rfl⟩
instance : TyBuilt Try.prog 121 (fun i => (#[(0, 1), (1, 1), (2, 1), (3, 1), (4, 1), (5, 1), (6, 1)] : Array (Nat × Nat))[i]?) (.agg #[.int .i64 0, .int .i64 0, .int .i64 0, .int .i64 0, .int .i64 0, .int .i64 0, .int .i64 0]) := TyBuilt.struct (ps := [(0, 1), (1, 1), (2, 1), (3, 1), (4, 1), (5, 1), (6, 1)]) Try.underlying121 (by kernel_rfl) (by kernel_rfl)
instance : TyZero Try.prog 121 (.agg #[.int .i64 0, .int .i64 0, .int .i64 0, .int .i64 0, .int .i64 0, .int .i64 0, .int .i64 0]) := ⟨by kernel_rfl⟩
instance : TyOne Try.prog 122 := ⟨by kernel_rfl, by kernel_rfl⟩
instance : TyOne Try.prog 123 := ⟨by kernel_rfl, by kernel_rfl⟩
instance : TyOne Try.prog 125 := ⟨by kernel_rfl, by kernel_rfl⟩
instance : TyOne Try.prog 127 := ⟨by kernel_rfl, by kernel_rfl⟩
instance : TyOne Try.prog 128 := ⟨by kernel_rfl, by kernel_rfl⟩
instance : TyOne Try.prog 129 := ⟨by kernel_rfl, by kernel_rfl⟩
instance : TyOne Try.prog 130 := ⟨by kernel_rfl, by kernel_rfl⟩
instance : TyZero Try.prog 130 (.slice none 0 0) := ⟨by kernel_rfl⟩
instance : TySlice Try.prog 130 121 7 56 (.agg #[.int .i64 0, .int .i64 0, .int .i64 0, .int .i64 0, .int .i64 0, .int .i64 0, .int .i64 0]) := TySlice.of Try.underlying130 (by kernel_rfl) (by kernel_rfl) (by decide)
instance : TyPtr Try.prog 131 := ⟨_, Try.underlying131⟩
instance : TyOne Try.prog 131 := ⟨by kernel_rfl, by kernel_rfl⟩
instance : TyZero Try.prog 131 (.pointer none) := ⟨by kernel_rfl⟩
instance : TyOne Try.prog 133 := ⟨by kernel_rfl, by kernel_rfl⟩
instance : TyOne Try.prog 134 := ⟨by kernel_rfl, by kernel_rfl⟩
instance : TyOne Try.prog 135 := ⟨by kernel_rfl, by kernel_rfl⟩
instance : TyOne Try.prog 136 := ⟨by kernel_rfl, by kernel_rfl⟩
instance : TyOne Try.prog 137 := ⟨by kernel_rfl, by kernel_rfl⟩
instance : TyOne Try.prog 138 := ⟨by kernel_rfl, by kernel_rfl⟩
instance : TyZero Try.prog 138 (.slice none 0 0) := ⟨by kernel_rfl⟩
instance : TySlice Try.prog 138 4 1 1 (.bool false) := TySlice.of Try.underlying138 (by kernel_rfl) (by kernel_rfl) (by decide)
instance : TyOne Try.prog 139 := ⟨by kernel_rfl, by kernel_rfl⟩
instance : TyOne Try.prog 140 := ⟨by kernel_rfl, by kernel_rfl⟩
instance : TyOne Try.prog 141 := ⟨by kernel_rfl, by kernel_rfl⟩
instance : TyAgg Try.prog 142 4 := ⟨by kernel_rfl, by kernel_rfl⟩
instance : TyField Try.prog 142 0 0 := ⟨_, _, Try.underlying142, rfl, rfl, by kernel_rfl⟩
instance : TyField Try.prog 142 1 1 := ⟨_, _, Try.underlying142, rfl, rfl, by kernel_rfl⟩
instance : TyField Try.prog 142 2 2 := ⟨_, _, Try.underlying142, rfl, rfl, by kernel_rfl⟩
instance : TyField Try.prog 142 3 3 := ⟨_, _, Try.underlying142, rfl, rfl, by kernel_rfl⟩
instance : TyBuilt Try.prog 142 (fun i => (#[(0, 1), (1, 1), (2, 1), (3, 1)] : Array (Nat × Nat))[i]?) (.agg #[.int .i64 0, .int .i64 0, .int .i64 0, .slice none 0 0]) := TyBuilt.struct (ps := [(0, 1), (1, 1), (2, 1), (3, 1)]) Try.underlying142 (by kernel_rfl) (by kernel_rfl)
instance : TyZero Try.prog 142 (.agg #[.int .i64 0, .int .i64 0, .int .i64 0, .slice none 0 0]) := ⟨by kernel_rfl⟩
instance : TyAgg Try.prog 143 4 := ⟨by kernel_rfl, by kernel_rfl⟩
instance : TyField Try.prog 143 0 0 := ⟨_, _, Try.underlying143, rfl, rfl, by kernel_rfl⟩
instance : TyField Try.prog 143 1 1 := ⟨_, _, Try.underlying143, rfl, rfl, by kernel_rfl⟩
instance : TyField Try.prog 143 2 2 := ⟨_, _, Try.underlying143, rfl, rfl, by kernel_rfl⟩
instance : TyField Try.prog 143 3 3 := ⟨_, _, Try.underlying143, rfl, rfl, by kernel_rfl⟩
instance : TyBuilt Try.prog 143 (fun i => (#[(0, 1), (1, 1), (2, 1), (3, 1)] : Array (Nat × Nat))[i]?) (.agg #[.int .i64 0, .int .i64 0, .int .i64 0, .slice none 0 0]) := TyBuilt.struct (ps := [(0, 1), (1, 1), (2, 1), (3, 1)]) Try.underlying143 (by kernel_rfl) (by kernel_rfl)
instance : TyZero Try.prog 143 (.agg #[.int .i64 0, .int .i64 0, .int .i64 0, .slice none 0 0]) := ⟨by kernel_rfl⟩
instance : TyOne Try.prog 144 := ⟨by kernel_rfl, by kernel_rfl⟩
instance : TyOne Try.prog 145 := ⟨by kernel_rfl, by kernel_rfl⟩
instance : TyOne Try.prog 146 := ⟨by kernel_rfl, by kernel_rfl⟩
instance : TyOne Try.prog 148 := ⟨by kernel_rfl, by kernel_rfl⟩
instance : TyOne Try.prog 150 := ⟨by kernel_rfl, by kernel_rfl⟩
instance : TyOne Try.prog 151 := ⟨by kernel_rfl, by kernel_rfl⟩
instance : TyOne Try.prog 152 := ⟨by kernel_rfl, by kernel_rfl⟩
instance : TyOne Try.prog 153 := ⟨by kernel_rfl, by kernel_rfl⟩
instance : TyOne Try.prog 154 := ⟨by kernel_rfl, by kernel_rfl⟩
instance : TyZero Try.prog 154 (.slice none 0 0) := ⟨by kernel_rfl⟩
instance : TySlice Try.prog 154 96 1 24 (.slice none 0 0) := TySlice.of Try.underlying154 (by kernel_rfl) (by kernel_rfl) (by decide)
instance : TyOne Try.prog 155 := ⟨by kernel_rfl, by kernel_rfl⟩
instance : TyOne Try.prog 156 := ⟨by kernel_rfl, by kernel_rfl⟩
instance : TyOne Try.prog 157 := ⟨by kernel_rfl, by kernel_rfl⟩
instance : TyOne Try.prog 158 := ⟨by kernel_rfl, by kernel_rfl⟩
instance : TyOne Try.prog 159 := ⟨by kernel_rfl, by kernel_rfl⟩
instance : TyOne Try.prog 160 := ⟨by kernel_rfl, by kernel_rfl⟩
instance : TyOne Try.prog 161 := ⟨by kernel_rfl, by kernel_rfl⟩
instance : TyOne Try.prog 162 := ⟨by kernel_rfl, by kernel_rfl⟩
instance : TyZero Try.prog 162 (.slice none 0 0) := ⟨by kernel_rfl⟩
instance : TySlice Try.prog 162 167 1 8 (.pointer none) := TySlice.of Try.underlying162 (by kernel_rfl) (by kernel_rfl) (by decide)
instance : TyAgg Try.prog 163 1 := ⟨by kernel_rfl, by kernel_rfl⟩
instance : TyField Try.prog 163 0 0 := ⟨_, _, Try.underlying163, rfl, rfl, by kernel_rfl⟩
instance : TyBuilt Try.prog 163 (fun i => (#[(0, 1)] : Array (Nat × Nat))[i]?) (.agg #[.slice none 0 0]) := TyBuilt.struct (ps := [(0, 1)]) Try.underlying163 (by kernel_rfl) (by kernel_rfl)
instance : TyZero Try.prog 163 (.agg #[.slice none 0 0]) := ⟨by kernel_rfl⟩
instance : TyAgg Try.prog 164 1 := ⟨by kernel_rfl, by kernel_rfl⟩
instance : TyField Try.prog 164 0 0 := ⟨_, _, Try.underlying164, rfl, rfl, by kernel_rfl⟩
instance : TyBuilt Try.prog 164 (fun i => (#[(0, 1)] : Array (Nat × Nat))[i]?) (.agg #[.slice none 0 0]) := TyBuilt.struct (ps := [(0, 1)]) Try.underlying164 (by kernel_rfl) (by kernel_rfl)
instance : TyZero Try.prog 164 (.agg #[.slice none 0 0]) := ⟨by kernel_rfl⟩
instance : TyAgg Try.prog 165 64 := ⟨by kernel_rfl, by kernel_rfl⟩
instance : TyArr Try.prog 165 64 5 1 := ⟨Try.underlying165, by kernel_rfl⟩
instance : TyBuilt Try.prog 165 (fun i => some (i * 1, 1)) (.agg (Array.replicate 64 (.int .u8 0))) := TyBuilt.array Try.underlying165 (by kernel_rfl) (by kernel_rfl)
instance : TyZero Try.prog 165 (.agg (Array.replicate 64 (.int .u8 0))) := ⟨by kernel_rfl⟩
instance : TyAgg Try.prog 166 64 := ⟨by kernel_rfl, by kernel_rfl⟩
instance : TyArr Try.prog 166 64 5 1 := ⟨Try.underlying166, by kernel_rfl⟩
instance : TyBuilt Try.prog 166 (fun i => some (i * 1, 1)) (.agg (Array.replicate 64 (.int .u8 0))) := TyBuilt.array Try.underlying166 (by kernel_rfl) (by kernel_rfl)
instance : TyZero Try.prog 166 (.agg (Array.replicate 64 (.int .u8 0))) := ⟨by kernel_rfl⟩
instance : TyPtr Try.prog 167 := ⟨_, Try.underlying167⟩
instance : TyOne Try.prog 167 := ⟨by kernel_rfl, by kernel_rfl⟩
instance : TyZero Try.prog 167 (.pointer none) := ⟨by kernel_rfl⟩
instance : TyOne Try.prog 168 := ⟨by kernel_rfl, by kernel_rfl⟩
instance : TyOne Try.prog 169 := ⟨by kernel_rfl, by kernel_rfl⟩
instance : TyOne Try.prog 170 := ⟨by kernel_rfl, by kernel_rfl⟩
instance : TyOne Try.prog 171 := ⟨by kernel_rfl, by kernel_rfl⟩
instance : TyOne Try.prog 172 := ⟨by kernel_rfl, by kernel_rfl⟩
instance : TyOne Try.prog 173 := ⟨by kernel_rfl, by kernel_rfl⟩
instance : TyOne Try.prog 174 := ⟨by kernel_rfl, by kernel_rfl⟩
instance : TyOne Try.prog 175 := ⟨by kernel_rfl, by kernel_rfl⟩
instance : TyOne Try.prog 176 := ⟨by kernel_rfl, by kernel_rfl⟩
instance : TyOne Try.prog 177 := ⟨by kernel_rfl, by kernel_rfl⟩
instance : TyOne Try.prog 178 := ⟨by kernel_rfl, by kernel_rfl⟩
instance : TyZero Try.prog 178 (.slice none 0 0) := ⟨by kernel_rfl⟩
instance : TySlice Try.prog 178 182 2 24 (.agg #[.string ByteArray.empty, .int .i64 0]) := TySlice.of Try.underlying178 (by kernel_rfl) (by kernel_rfl) (by decide)
instance : TyAgg Try.prog 179 1 := ⟨by kernel_rfl, by kernel_rfl⟩
instance : TyField Try.prog 179 0 0 := ⟨_, _, Try.underlying179, rfl, rfl, by kernel_rfl⟩
instance : TyBuilt Try.prog 179 (fun i => (#[(0, 1)] : Array (Nat × Nat))[i]?) (.agg #[.slice none 0 0]) := TyBuilt.struct (ps := [(0, 1)]) Try.underlying179 (by kernel_rfl) (by kernel_rfl)
instance : TyZero Try.prog 179 (.agg #[.slice none 0 0]) := ⟨by kernel_rfl⟩
instance : TyAgg Try.prog 180 1 := ⟨by kernel_rfl, by kernel_rfl⟩
instance : TyField Try.prog 180 0 0 := ⟨_, _, Try.underlying180, rfl, rfl, by kernel_rfl⟩
instance : TyBuilt Try.prog 180 (fun i => (#[(0, 1)] : Array (Nat × Nat))[i]?) (.agg #[.slice none 0 0]) := TyBuilt.struct (ps := [(0, 1)]) Try.underlying180 (by kernel_rfl) (by kernel_rfl)
instance : TyZero Try.prog 180 (.agg #[.slice none 0 0]) := ⟨by kernel_rfl⟩
instance : TyAgg Try.prog 181 2 := ⟨by kernel_rfl, by kernel_rfl⟩
instance : TyField Try.prog 181 0 0 := ⟨_, _, Try.underlying181, rfl, rfl, by kernel_rfl⟩
instance : TyField Try.prog 181 1 1 := ⟨_, _, Try.underlying181, rfl, rfl, by kernel_rfl⟩
instance : TyBuilt Try.prog 181 (fun i => (#[(0, 1), (1, 1)] : Array (Nat × Nat))[i]?) (.agg #[.string ByteArray.empty, .int .i64 0]) := TyBuilt.struct (ps := [(0, 1), (1, 1)]) Try.underlying181 (by kernel_rfl) (by kernel_rfl)
instance : TyZero Try.prog 181 (.agg #[.string ByteArray.empty, .int .i64 0]) := ⟨by kernel_rfl⟩
instance : TyAgg Try.prog 182 2 := ⟨by kernel_rfl, by kernel_rfl⟩
instance : TyField Try.prog 182 0 0 := ⟨_, _, Try.underlying182, rfl, rfl, by kernel_rfl⟩
instance : TyField Try.prog 182 1 1 := ⟨_, _, Try.underlying182, rfl, rfl, by kernel_rfl⟩
instance : TyBuilt Try.prog 182 (fun i => (#[(0, 1), (1, 1)] : Array (Nat × Nat))[i]?) (.agg #[.string ByteArray.empty, .int .i64 0]) := TyBuilt.struct (ps := [(0, 1), (1, 1)]) Try.underlying182 (by kernel_rfl) (by kernel_rfl)
instance : TyZero Try.prog 182 (.agg #[.string ByteArray.empty, .int .i64 0]) := ⟨by kernel_rfl⟩
instance : TyOne Try.prog 183 := ⟨by kernel_rfl, by kernel_rfl⟩
instance : TyOne Try.prog 184 := ⟨by kernel_rfl, by kernel_rfl⟩
instance : TyOne Try.prog 185 := ⟨by kernel_rfl, by kernel_rfl⟩
instance : TyOne Try.prog 186 := ⟨by kernel_rfl, by kernel_rfl⟩
instance : TyOne Try.prog 187 := ⟨by kernel_rfl, by kernel_rfl⟩
instance : TyOne Try.prog 188 := ⟨by kernel_rfl, by kernel_rfl⟩
instance : TyOne Try.prog 189 := ⟨by kernel_rfl, by kernel_rfl⟩
instance : TyZero Try.prog 189 (.slice none 0 0) := ⟨by kernel_rfl⟩
instance : TySlice Try.prog 189 194 2 24 (.agg #[.int .i64 0, .string ByteArray.empty]) := TySlice.of Try.underlying189 (by kernel_rfl) (by kernel_rfl) (by decide)
instance : TyAgg Try.prog 190 1 := ⟨by kernel_rfl, by kernel_rfl⟩
instance : TyField Try.prog 190 0 0 := ⟨_, _, Try.underlying190, rfl, rfl, by kernel_rfl⟩
instance : TyBuilt Try.prog 190 (fun i => (#[(0, 1)] : Array (Nat × Nat))[i]?) (.agg #[.slice none 0 0]) := TyBuilt.struct (ps := [(0, 1)]) Try.underlying190 (by kernel_rfl) (by kernel_rfl)
instance : TyZero Try.prog 190 (.agg #[.slice none 0 0]) := ⟨by kernel_rfl⟩
instance : TyAgg Try.prog 191 1 := ⟨by kernel_rfl, by kernel_rfl⟩
instance : TyField Try.prog 191 0 0 := ⟨_, _, Try.underlying191, rfl, rfl, by kernel_rfl⟩
instance : TyBuilt Try.prog 191 (fun i => (#[(0, 1)] : Array (Nat × Nat))[i]?) (.agg #[.slice none 0 0]) := TyBuilt.struct (ps := [(0, 1)]) Try.underlying191 (by kernel_rfl) (by kernel_rfl)
instance : TyZero Try.prog 191 (.agg #[.slice none 0 0]) := ⟨by kernel_rfl⟩
instance : TyOne Try.prog 192 := ⟨by kernel_rfl, by kernel_rfl⟩
instance : TyAgg Try.prog 193 2 := ⟨by kernel_rfl, by kernel_rfl⟩
instance : TyField Try.prog 193 0 0 := ⟨_, _, Try.underlying193, rfl, rfl, by kernel_rfl⟩
instance : TyField Try.prog 193 1 1 := ⟨_, _, Try.underlying193, rfl, rfl, by kernel_rfl⟩
instance : TyBuilt Try.prog 193 (fun i => (#[(0, 1), (1, 1)] : Array (Nat × Nat))[i]?) (.agg #[.int .i64 0, .string ByteArray.empty]) := TyBuilt.struct (ps := [(0, 1), (1, 1)]) Try.underlying193 (by kernel_rfl) (by kernel_rfl)
instance : TyZero Try.prog 193 (.agg #[.int .i64 0, .string ByteArray.empty]) := ⟨by kernel_rfl⟩
instance : TyAgg Try.prog 194 2 := ⟨by kernel_rfl, by kernel_rfl⟩
instance : TyField Try.prog 194 0 0 := ⟨_, _, Try.underlying194, rfl, rfl, by kernel_rfl⟩
instance : TyField Try.prog 194 1 1 := ⟨_, _, Try.underlying194, rfl, rfl, by kernel_rfl⟩
instance : TyBuilt Try.prog 194 (fun i => (#[(0, 1), (1, 1)] : Array (Nat × Nat))[i]?) (.agg #[.int .i64 0, .string ByteArray.empty]) := TyBuilt.struct (ps := [(0, 1), (1, 1)]) Try.underlying194 (by kernel_rfl) (by kernel_rfl)
instance : TyZero Try.prog 194 (.agg #[.int .i64 0, .string ByteArray.empty]) := ⟨by kernel_rfl⟩
instance : TyOne Try.prog 195 := ⟨by kernel_rfl, by kernel_rfl⟩
instance : TyOne Try.prog 196 := ⟨by kernel_rfl, by kernel_rfl⟩
instance : TyOne Try.prog 198 := ⟨by kernel_rfl, by kernel_rfl⟩
instance : TyOne Try.prog 199 := ⟨by kernel_rfl, by kernel_rfl⟩
instance : TyOne Try.prog 200 := ⟨by kernel_rfl, by kernel_rfl⟩
instance : TyOne Try.prog 201 := ⟨by kernel_rfl, by kernel_rfl⟩
instance : TyOne Try.prog 202 := ⟨by kernel_rfl, by kernel_rfl⟩
instance : TyOne Try.prog 203 := ⟨by kernel_rfl, by kernel_rfl⟩
instance : TyPtr Try.prog 204 := ⟨_, Try.underlying204⟩
instance : TyOne Try.prog 204 := ⟨by kernel_rfl, by kernel_rfl⟩
instance : TyZero Try.prog 204 (.pointer none) := ⟨by kernel_rfl⟩
instance : TyOne Try.prog 205 := ⟨by kernel_rfl, by kernel_rfl⟩
instance : TyAgg Try.prog 206 3 := ⟨by kernel_rfl, by kernel_rfl⟩
instance : TyField Try.prog 206 0 0 := ⟨_, _, Try.underlying206, rfl, rfl, by kernel_rfl⟩
instance : TyField Try.prog 206 1 1 := ⟨_, _, Try.underlying206, rfl, rfl, by kernel_rfl⟩
instance : TyField Try.prog 206 2 2 := ⟨_, _, Try.underlying206, rfl, rfl, by kernel_rfl⟩
instance : TyBuilt Try.prog 206 (fun i => (#[(0, 1), (1, 1), (2, 1)] : Array (Nat × Nat))[i]?) (.agg #[.int .i64 0, .int .i64 0, .pointer none]) := TyBuilt.struct (ps := [(0, 1), (1, 1), (2, 1)]) Try.underlying206 (by kernel_rfl) (by kernel_rfl)
instance : TyZero Try.prog 206 (.agg #[.int .i64 0, .int .i64 0, .pointer none]) := ⟨by kernel_rfl⟩
instance : TyAgg Try.prog 207 3 := ⟨by kernel_rfl, by kernel_rfl⟩
instance : TyField Try.prog 207 0 0 := ⟨_, _, Try.underlying207, rfl, rfl, by kernel_rfl⟩
instance : TyField Try.prog 207 1 1 := ⟨_, _, Try.underlying207, rfl, rfl, by kernel_rfl⟩
instance : TyField Try.prog 207 2 2 := ⟨_, _, Try.underlying207, rfl, rfl, by kernel_rfl⟩
instance : TyBuilt Try.prog 207 (fun i => (#[(0, 1), (1, 1), (2, 1)] : Array (Nat × Nat))[i]?) (.agg #[.int .i64 0, .int .i64 0, .pointer none]) := TyBuilt.struct (ps := [(0, 1), (1, 1), (2, 1)]) Try.underlying207 (by kernel_rfl) (by kernel_rfl)
instance : TyZero Try.prog 207 (.agg #[.int .i64 0, .int .i64 0, .pointer none]) := ⟨by kernel_rfl⟩
instance : TyOne Try.prog 208 := ⟨by kernel_rfl, by kernel_rfl⟩
instance : TyOne Try.prog 209 := ⟨by kernel_rfl, by kernel_rfl⟩
instance : TyOne Try.prog 210 := ⟨by kernel_rfl, by kernel_rfl⟩
instance : TyOne Try.prog 211 := ⟨by kernel_rfl, by kernel_rfl⟩
instance : TyOne Try.prog 212 := ⟨by kernel_rfl, by kernel_rfl⟩
instance : TyAgg Try.prog 213 5 := ⟨by kernel_rfl, by kernel_rfl⟩
instance : TyField Try.prog 213 0 0 := ⟨_, _, Try.underlying213, rfl, rfl, by kernel_rfl⟩
instance : TyField Try.prog 213 1 1 := ⟨_, _, Try.underlying213, rfl, rfl, by kernel_rfl⟩
instance : TyField Try.prog 213 2 2 := ⟨_, _, Try.underlying213, rfl, rfl, by kernel_rfl⟩
instance : TyField Try.prog 213 3 3 := ⟨_, _, Try.underlying213, rfl, rfl, by kernel_rfl⟩
instance : TyField Try.prog 213 4 4 := ⟨_, _, Try.underlying213, rfl, rfl, by kernel_rfl⟩
instance : TyBuilt Try.prog 213 (fun i => (#[(0, 1), (1, 1), (2, 1), (3, 1), (4, 1)] : Array (Nat × Nat))[i]?) (.agg #[.int .i64 0, .int .i64 0, .int .i64 0, .int .i64 0, .slice none 0 0]) := TyBuilt.struct (ps := [(0, 1), (1, 1), (2, 1), (3, 1), (4, 1)]) Try.underlying213 (by kernel_rfl) (by kernel_rfl)
instance : TyZero Try.prog 213 (.agg #[.int .i64 0, .int .i64 0, .int .i64 0, .int .i64 0, .slice none 0 0]) := ⟨by kernel_rfl⟩
instance : TyAgg Try.prog 214 5 := ⟨by kernel_rfl, by kernel_rfl⟩
instance : TyField Try.prog 214 0 0 := ⟨_, _, Try.underlying214, rfl, rfl, by kernel_rfl⟩
instance : TyField Try.prog 214 1 1 := ⟨_, _, Try.underlying214, rfl, rfl, by kernel_rfl⟩
instance : TyField Try.prog 214 2 2 := ⟨_, _, Try.underlying214, rfl, rfl, by kernel_rfl⟩
instance : TyField Try.prog 214 3 3 := ⟨_, _, Try.underlying214, rfl, rfl, by kernel_rfl⟩
instance : TyField Try.prog 214 4 4 := ⟨_, _, Try.underlying214, rfl, rfl, by kernel_rfl⟩
instance : TyBuilt Try.prog 214 (fun i => (#[(0, 1), (1, 1), (2, 1), (3, 1), (4, 1)] : Array (Nat × Nat))[i]?) (.agg #[.int .i64 0, .int .i64 0, .int .i64 0, .int .i64 0, .slice none 0 0]) := TyBuilt.struct (ps := [(0, 1), (1, 1), (2, 1), (3, 1), (4, 1)]) Try.underlying214 (by kernel_rfl) (by kernel_rfl)
instance : TyZero Try.prog 214 (.agg #[.int .i64 0, .int .i64 0, .int .i64 0, .int .i64 0, .slice none 0 0]) := ⟨by kernel_rfl⟩
instance : TyOne Try.prog 216 := ⟨by kernel_rfl, by kernel_rfl⟩
instance : TyPtr Try.prog 217 := ⟨_, Try.underlying217⟩
instance : TyOne Try.prog 217 := ⟨by kernel_rfl, by kernel_rfl⟩
instance : TyZero Try.prog 217 (.pointer none) := ⟨by kernel_rfl⟩
instance : TyOne Try.prog 218 := ⟨by kernel_rfl, by kernel_rfl⟩
instance : TyOne Try.prog 219 := ⟨by kernel_rfl, by kernel_rfl⟩
instance : TyOne Try.prog 221 := ⟨by kernel_rfl, by kernel_rfl⟩
instance : TyPtr Try.prog 222 := ⟨_, Try.underlying222⟩
instance : TyOne Try.prog 222 := ⟨by kernel_rfl, by kernel_rfl⟩
instance : TyZero Try.prog 222 (.pointer none) := ⟨by kernel_rfl⟩
instance : TyAgg Try.prog 223 2 := ⟨by kernel_rfl, by kernel_rfl⟩
instance : TyField Try.prog 223 0 0 := ⟨_, _, Try.underlying223, rfl, rfl, by kernel_rfl⟩
instance : TyField Try.prog 223 1 1 := ⟨_, _, Try.underlying223, rfl, rfl, by kernel_rfl⟩
instance : TyBuilt Try.prog 223 (fun i => (#[(0, 1), (1, 1)] : Array (Nat × Nat))[i]?) (.agg #[.string ByteArray.empty, .int .i64 0]) := TyBuilt.struct (ps := [(0, 1), (1, 1)]) Try.underlying223 (by kernel_rfl) (by kernel_rfl)
instance : TyZero Try.prog 223 (.agg #[.string ByteArray.empty, .int .i64 0]) := ⟨by kernel_rfl⟩
instance : TyAgg Try.prog 224 2 := ⟨by kernel_rfl, by kernel_rfl⟩
instance : TyField Try.prog 224 0 0 := ⟨_, _, Try.underlying224, rfl, rfl, by kernel_rfl⟩
instance : TyField Try.prog 224 1 1 := ⟨_, _, Try.underlying224, rfl, rfl, by kernel_rfl⟩
instance : TyBuilt Try.prog 224 (fun i => (#[(0, 1), (1, 1)] : Array (Nat × Nat))[i]?) (.agg #[.string ByteArray.empty, .int .i64 0]) := TyBuilt.struct (ps := [(0, 1), (1, 1)]) Try.underlying224 (by kernel_rfl) (by kernel_rfl)
instance : TyZero Try.prog 224 (.agg #[.string ByteArray.empty, .int .i64 0]) := ⟨by kernel_rfl⟩
instance : TyOne Try.prog 225 := ⟨by kernel_rfl, by kernel_rfl⟩
instance : TyPtr Try.prog 226 := ⟨_, Try.underlying226⟩
instance : TyOne Try.prog 226 := ⟨by kernel_rfl, by kernel_rfl⟩
instance : TyZero Try.prog 226 (.pointer none) := ⟨by kernel_rfl⟩
instance : TyAgg Try.prog 227 1 := ⟨by kernel_rfl, by kernel_rfl⟩
instance : TyField Try.prog 227 0 0 := ⟨_, _, Try.underlying227, rfl, rfl, by kernel_rfl⟩
instance : TyBuilt Try.prog 227 (fun i => (#[(0, 1)] : Array (Nat × Nat))[i]?) (.agg #[.slice none 0 0]) := TyBuilt.struct (ps := [(0, 1)]) Try.underlying227 (by kernel_rfl) (by kernel_rfl)
instance : TyZero Try.prog 227 (.agg #[.slice none 0 0]) := ⟨by kernel_rfl⟩
instance : TyAgg Try.prog 228 1 := ⟨by kernel_rfl, by kernel_rfl⟩
instance : TyField Try.prog 228 0 0 := ⟨_, _, Try.underlying228, rfl, rfl, by kernel_rfl⟩
instance : TyBuilt Try.prog 228 (fun i => (#[(0, 1)] : Array (Nat × Nat))[i]?) (.agg #[.slice none 0 0]) := TyBuilt.struct (ps := [(0, 1)]) Try.underlying228 (by kernel_rfl) (by kernel_rfl)
instance : TyZero Try.prog 228 (.agg #[.slice none 0 0]) := ⟨by kernel_rfl⟩
instance : TyOne Try.prog 229 := ⟨by kernel_rfl, by kernel_rfl⟩
instance : TyAgg Try.prog 230 3 := ⟨by kernel_rfl, by kernel_rfl⟩
instance : TyArr Try.prog 230 3 3 1 := ⟨Try.underlying230, by kernel_rfl⟩
instance : TyBuilt Try.prog 230 (fun i => some (i * 1, 1)) (.agg #[.int .i64 0, .int .i64 0, .int .i64 0]) := TyBuilt.array Try.underlying230 (by kernel_rfl) (by kernel_rfl)
instance : TyZero Try.prog 230 (.agg #[.int .i64 0, .int .i64 0, .int .i64 0]) := ⟨by kernel_rfl⟩
instance : TyOne Try.prog 231 := ⟨by kernel_rfl, by kernel_rfl⟩
instance : TyOne Try.prog 232 := ⟨by kernel_rfl, by kernel_rfl⟩
instance : TyZero Try.prog 232 (.slice none 0 0) := ⟨by kernel_rfl⟩
instance : TySlice Try.prog 232 238 65 72 (.agg #[.int .i64 0, .int .u8 0, .int .u8 0, .int .u8 0, .int .u8 0, .int .u8 0, .int .u8 0, .int .u8 0, .int .u8 0, .int .u8 0, .int .u8 0, .int .u8 0, .int .u8 0, .int .u8 0, .int .u8 0, .int .u8 0, .int .u8 0, .int .u8 0, .int .u8 0, .int .u8 0, .int .u8 0, .int .u8 0, .int .u8 0, .int .u8 0, .int .u8 0, .int .u8 0, .int .u8 0, .int .u8 0, .int .u8 0, .int .u8 0, .int .u8 0, .int .u8 0, .int .u8 0, .int .u8 0, .int .u8 0, .int .u8 0, .int .u8 0, .int .u8 0, .int .u8 0, .int .u8 0, .int .u8 0, .int .u8 0, .int .u8 0, .int .u8 0, .int .u8 0, .int .u8 0, .int .u8 0, .int .u8 0, .int .u8 0, .int .u8 0, .int .u8 0, .int .u8 0, .int .u8 0, .int .u8 0, .int .u8 0, .int .u8 0, .int .u8 0, .int .u8 0, .int .u8 0, .int .u8 0, .int .u8 0, .int .u8 0, .int .u8 0, .int .u8 0, .int .u8 0]) := TySlice.of Try.underlying232 (by kernel_rfl) (by kernel_rfl) (by decide)
instance : TyAgg Try.prog 233 5 := ⟨by kernel_rfl, by kernel_rfl⟩
instance : TyField Try.prog 233 0 0 := ⟨_, _, Try.underlying233, rfl, rfl, by kernel_rfl⟩
instance : TyField Try.prog 233 1 1 := ⟨_, _, Try.underlying233, rfl, rfl, by kernel_rfl⟩
instance : TyField Try.prog 233 2 2 := ⟨_, _, Try.underlying233, rfl, rfl, by kernel_rfl⟩
instance : TyField Try.prog 233 3 3 := ⟨_, _, Try.underlying233, rfl, rfl, by kernel_rfl⟩
instance : TyField Try.prog 233 4 4 := ⟨_, _, Try.underlying233, rfl, rfl, by kernel_rfl⟩
instance : TyBuilt Try.prog 233 (fun i => (#[(0, 1), (1, 1), (2, 1), (3, 1), (4, 1)] : Array (Nat × Nat))[i]?) (.agg #[.slice none 0 0, .slice none 0 0, .int .i64 0, .int .i64 0, .bool false]) := TyBuilt.struct (ps := [(0, 1), (1, 1), (2, 1), (3, 1), (4, 1)]) Try.underlying233 (by kernel_rfl) (by kernel_rfl)
instance : TyZero Try.prog 233 (.agg #[.slice none 0 0, .slice none 0 0, .int .i64 0, .int .i64 0, .bool false]) := ⟨by kernel_rfl⟩
instance : TyAgg Try.prog 234 5 := ⟨by kernel_rfl, by kernel_rfl⟩
instance : TyField Try.prog 234 0 0 := ⟨_, _, Try.underlying234, rfl, rfl, by kernel_rfl⟩
instance : TyField Try.prog 234 1 1 := ⟨_, _, Try.underlying234, rfl, rfl, by kernel_rfl⟩
instance : TyField Try.prog 234 2 2 := ⟨_, _, Try.underlying234, rfl, rfl, by kernel_rfl⟩
instance : TyField Try.prog 234 3 3 := ⟨_, _, Try.underlying234, rfl, rfl, by kernel_rfl⟩
instance : TyField Try.prog 234 4 4 := ⟨_, _, Try.underlying234, rfl, rfl, by kernel_rfl⟩
instance : TyBuilt Try.prog 234 (fun i => (#[(0, 1), (1, 1), (2, 1), (3, 1), (4, 1)] : Array (Nat × Nat))[i]?) (.agg #[.slice none 0 0, .slice none 0 0, .int .i64 0, .int .i64 0, .bool false]) := TyBuilt.struct (ps := [(0, 1), (1, 1), (2, 1), (3, 1), (4, 1)]) Try.underlying234 (by kernel_rfl) (by kernel_rfl)
instance : TyZero Try.prog 234 (.agg #[.slice none 0 0, .slice none 0 0, .int .i64 0, .int .i64 0, .bool false]) := ⟨by kernel_rfl⟩
instance : TyOne Try.prog 235 := ⟨by kernel_rfl, by kernel_rfl⟩
instance : TyOne Try.prog 236 := ⟨by kernel_rfl, by kernel_rfl⟩
instance : TyAgg Try.prog 237 65 := ⟨by kernel_rfl, by kernel_rfl⟩
instance : TyField Try.prog 237 0 0 := ⟨_, _, Try.underlying237, rfl, rfl, by kernel_rfl⟩
instance : TyField Try.prog 237 1 1 := ⟨_, _, Try.underlying237, rfl, rfl, by kernel_rfl⟩
instance : TyBuilt Try.prog 237 (fun i => (#[(0, 1), (1, 64)] : Array (Nat × Nat))[i]?) (.agg #[.int .i64 0, .int .u8 0, .int .u8 0, .int .u8 0, .int .u8 0, .int .u8 0, .int .u8 0, .int .u8 0, .int .u8 0, .int .u8 0, .int .u8 0, .int .u8 0, .int .u8 0, .int .u8 0, .int .u8 0, .int .u8 0, .int .u8 0, .int .u8 0, .int .u8 0, .int .u8 0, .int .u8 0, .int .u8 0, .int .u8 0, .int .u8 0, .int .u8 0, .int .u8 0, .int .u8 0, .int .u8 0, .int .u8 0, .int .u8 0, .int .u8 0, .int .u8 0, .int .u8 0, .int .u8 0, .int .u8 0, .int .u8 0, .int .u8 0, .int .u8 0, .int .u8 0, .int .u8 0, .int .u8 0, .int .u8 0, .int .u8 0, .int .u8 0, .int .u8 0, .int .u8 0, .int .u8 0, .int .u8 0, .int .u8 0, .int .u8 0, .int .u8 0, .int .u8 0, .int .u8 0, .int .u8 0, .int .u8 0, .int .u8 0, .int .u8 0, .int .u8 0, .int .u8 0, .int .u8 0, .int .u8 0, .int .u8 0, .int .u8 0, .int .u8 0, .int .u8 0]) := TyBuilt.struct (ps := [(0, 1), (1, 64)]) Try.underlying237 (by kernel_rfl) (by kernel_rfl)
instance : TyZero Try.prog 237 (.agg #[.int .i64 0, .int .u8 0, .int .u8 0, .int .u8 0, .int .u8 0, .int .u8 0, .int .u8 0, .int .u8 0, .int .u8 0, .int .u8 0, .int .u8 0, .int .u8 0, .int .u8 0, .int .u8 0, .int .u8 0, .int .u8 0, .int .u8 0, .int .u8 0, .int .u8 0, .int .u8 0, .int .u8 0, .int .u8 0, .int .u8 0, .int .u8 0, .int .u8 0, .int .u8 0, .int .u8 0, .int .u8 0, .int .u8 0, .int .u8 0, .int .u8 0, .int .u8 0, .int .u8 0, .int .u8 0, .int .u8 0, .int .u8 0, .int .u8 0, .int .u8 0, .int .u8 0, .int .u8 0, .int .u8 0, .int .u8 0, .int .u8 0, .int .u8 0, .int .u8 0, .int .u8 0, .int .u8 0, .int .u8 0, .int .u8 0, .int .u8 0, .int .u8 0, .int .u8 0, .int .u8 0, .int .u8 0, .int .u8 0, .int .u8 0, .int .u8 0, .int .u8 0, .int .u8 0, .int .u8 0, .int .u8 0, .int .u8 0, .int .u8 0, .int .u8 0, .int .u8 0]) := ⟨by kernel_rfl⟩
instance : TyAgg Try.prog 238 65 := ⟨by kernel_rfl, by kernel_rfl⟩
instance : TyField Try.prog 238 0 0 := ⟨_, _, Try.underlying238, rfl, rfl, by kernel_rfl⟩
instance : TyField Try.prog 238 1 1 := ⟨_, _, Try.underlying238, rfl, rfl, by kernel_rfl⟩
instance : TyBuilt Try.prog 238 (fun i => (#[(0, 1), (1, 64)] : Array (Nat × Nat))[i]?) (.agg #[.int .i64 0, .int .u8 0, .int .u8 0, .int .u8 0, .int .u8 0, .int .u8 0, .int .u8 0, .int .u8 0, .int .u8 0, .int .u8 0, .int .u8 0, .int .u8 0, .int .u8 0, .int .u8 0, .int .u8 0, .int .u8 0, .int .u8 0, .int .u8 0, .int .u8 0, .int .u8 0, .int .u8 0, .int .u8 0, .int .u8 0, .int .u8 0, .int .u8 0, .int .u8 0, .int .u8 0, .int .u8 0, .int .u8 0, .int .u8 0, .int .u8 0, .int .u8 0, .int .u8 0, .int .u8 0, .int .u8 0, .int .u8 0, .int .u8 0, .int .u8 0, .int .u8 0, .int .u8 0, .int .u8 0, .int .u8 0, .int .u8 0, .int .u8 0, .int .u8 0, .int .u8 0, .int .u8 0, .int .u8 0, .int .u8 0, .int .u8 0, .int .u8 0, .int .u8 0, .int .u8 0, .int .u8 0, .int .u8 0, .int .u8 0, .int .u8 0, .int .u8 0, .int .u8 0, .int .u8 0, .int .u8 0, .int .u8 0, .int .u8 0, .int .u8 0, .int .u8 0]) := TyBuilt.struct (ps := [(0, 1), (1, 64)]) Try.underlying238 (by kernel_rfl) (by kernel_rfl)
instance : TyZero Try.prog 238 (.agg #[.int .i64 0, .int .u8 0, .int .u8 0, .int .u8 0, .int .u8 0, .int .u8 0, .int .u8 0, .int .u8 0, .int .u8 0, .int .u8 0, .int .u8 0, .int .u8 0, .int .u8 0, .int .u8 0, .int .u8 0, .int .u8 0, .int .u8 0, .int .u8 0, .int .u8 0, .int .u8 0, .int .u8 0, .int .u8 0, .int .u8 0, .int .u8 0, .int .u8 0, .int .u8 0, .int .u8 0, .int .u8 0, .int .u8 0, .int .u8 0, .int .u8 0, .int .u8 0, .int .u8 0, .int .u8 0, .int .u8 0, .int .u8 0, .int .u8 0, .int .u8 0, .int .u8 0, .int .u8 0, .int .u8 0, .int .u8 0, .int .u8 0, .int .u8 0, .int .u8 0, .int .u8 0, .int .u8 0, .int .u8 0, .int .u8 0, .int .u8 0, .int .u8 0, .int .u8 0, .int .u8 0, .int .u8 0, .int .u8 0, .int .u8 0, .int .u8 0, .int .u8 0, .int .u8 0, .int .u8 0, .int .u8 0, .int .u8 0, .int .u8 0, .int .u8 0, .int .u8 0]) := ⟨by kernel_rfl⟩
instance : TyOne Try.prog 239 := ⟨by kernel_rfl, by kernel_rfl⟩
instance : TyOne Try.prog 241 := ⟨by kernel_rfl, by kernel_rfl⟩
instance : TyOne Try.prog 242 := ⟨by kernel_rfl, by kernel_rfl⟩
instance : TyOne Try.prog 243 := ⟨by kernel_rfl, by kernel_rfl⟩
instance : TyOne Try.prog 244 := ⟨by kernel_rfl, by kernel_rfl⟩
instance : TyPtr Try.prog 245 := ⟨_, Try.underlying245⟩
instance : TyOne Try.prog 245 := ⟨by kernel_rfl, by kernel_rfl⟩
instance : TyZero Try.prog 245 (.pointer none) := ⟨by kernel_rfl⟩
instance : TyOne Try.prog 246 := ⟨by kernel_rfl, by kernel_rfl⟩
instance : TyOne Try.prog 247 := ⟨by kernel_rfl, by kernel_rfl⟩
instance : TyOne Try.prog 248 := ⟨by kernel_rfl, by kernel_rfl⟩
instance : TyOne Try.prog 249 := ⟨by kernel_rfl, by kernel_rfl⟩
instance : TyOne Try.prog 250 := ⟨by kernel_rfl, by kernel_rfl⟩
instance : TyOne Try.prog 251 := ⟨by kernel_rfl, by kernel_rfl⟩
instance : TyOne Try.prog 252 := ⟨by kernel_rfl, by kernel_rfl⟩
instance : TyOne Try.prog 253 := ⟨by kernel_rfl, by kernel_rfl⟩
instance : TyOne Try.prog 254 := ⟨by kernel_rfl, by kernel_rfl⟩
instance : TyOne Try.prog 255 := ⟨by kernel_rfl, by kernel_rfl⟩
instance : TyOne Try.prog 256 := ⟨by kernel_rfl, by kernel_rfl⟩
instance : TyOne Try.prog 257 := ⟨by kernel_rfl, by kernel_rfl⟩
instance : TyOne Try.prog 258 := ⟨by kernel_rfl, by kernel_rfl⟩
instance : TyOne Try.prog 259 := ⟨by kernel_rfl, by kernel_rfl⟩
instance : TyOne Try.prog 260 := ⟨by kernel_rfl, by kernel_rfl⟩
instance : TyOne Try.prog 261 := ⟨by kernel_rfl, by kernel_rfl⟩
instance : TyOne Try.prog 262 := ⟨by kernel_rfl, by kernel_rfl⟩
instance : TyOne Try.prog 263 := ⟨by kernel_rfl, by kernel_rfl⟩
instance : TyOne Try.prog 264 := ⟨by kernel_rfl, by kernel_rfl⟩
instance : TyOne Try.prog 265 := ⟨by kernel_rfl, by kernel_rfl⟩
instance : TyOne Try.prog 266 := ⟨by kernel_rfl, by kernel_rfl⟩
instance : TyOne Try.prog 267 := ⟨by kernel_rfl, by kernel_rfl⟩
instance : TyOne Try.prog 268 := ⟨by kernel_rfl, by kernel_rfl⟩
instance : TyOne Try.prog 269 := ⟨by kernel_rfl, by kernel_rfl⟩
instance : TyOne Try.prog 270 := ⟨by kernel_rfl, by kernel_rfl⟩
instance : TyZero Try.prog 270 (.slice none 0 0) := ⟨by kernel_rfl⟩
instance : TySlice Try.prog 270 274 2 32 (.agg #[.int .i64 0, .slice none 0 0]) := TySlice.of Try.underlying270 (by kernel_rfl) (by kernel_rfl) (by decide)
instance : TyAgg Try.prog 271 1 := ⟨by kernel_rfl, by kernel_rfl⟩
instance : TyField Try.prog 271 0 0 := ⟨_, _, Try.underlying271, rfl, rfl, by kernel_rfl⟩
instance : TyBuilt Try.prog 271 (fun i => (#[(0, 1)] : Array (Nat × Nat))[i]?) (.agg #[.slice none 0 0]) := TyBuilt.struct (ps := [(0, 1)]) Try.underlying271 (by kernel_rfl) (by kernel_rfl)
instance : TyZero Try.prog 271 (.agg #[.slice none 0 0]) := ⟨by kernel_rfl⟩
instance : TyAgg Try.prog 272 1 := ⟨by kernel_rfl, by kernel_rfl⟩
instance : TyField Try.prog 272 0 0 := ⟨_, _, Try.underlying272, rfl, rfl, by kernel_rfl⟩
instance : TyBuilt Try.prog 272 (fun i => (#[(0, 1)] : Array (Nat × Nat))[i]?) (.agg #[.slice none 0 0]) := TyBuilt.struct (ps := [(0, 1)]) Try.underlying272 (by kernel_rfl) (by kernel_rfl)
instance : TyZero Try.prog 272 (.agg #[.slice none 0 0]) := ⟨by kernel_rfl⟩
instance : TyAgg Try.prog 273 2 := ⟨by kernel_rfl, by kernel_rfl⟩
instance : TyField Try.prog 273 0 0 := ⟨_, _, Try.underlying273, rfl, rfl, by kernel_rfl⟩
instance : TyField Try.prog 273 1 1 := ⟨_, _, Try.underlying273, rfl, rfl, by kernel_rfl⟩
instance : TyBuilt Try.prog 273 (fun i => (#[(0, 1), (1, 1)] : Array (Nat × Nat))[i]?) (.agg #[.int .i64 0, .slice none 0 0]) := TyBuilt.struct (ps := [(0, 1), (1, 1)]) Try.underlying273 (by kernel_rfl) (by kernel_rfl)
instance : TyZero Try.prog 273 (.agg #[.int .i64 0, .slice none 0 0]) := ⟨by kernel_rfl⟩
instance : TyAgg Try.prog 274 2 := ⟨by kernel_rfl, by kernel_rfl⟩
instance : TyField Try.prog 274 0 0 := ⟨_, _, Try.underlying274, rfl, rfl, by kernel_rfl⟩
instance : TyField Try.prog 274 1 1 := ⟨_, _, Try.underlying274, rfl, rfl, by kernel_rfl⟩
instance : TyBuilt Try.prog 274 (fun i => (#[(0, 1), (1, 1)] : Array (Nat × Nat))[i]?) (.agg #[.int .i64 0, .slice none 0 0]) := TyBuilt.struct (ps := [(0, 1), (1, 1)]) Try.underlying274 (by kernel_rfl) (by kernel_rfl)
instance : TyZero Try.prog 274 (.agg #[.int .i64 0, .slice none 0 0]) := ⟨by kernel_rfl⟩
instance : TyOne Try.prog 275 := ⟨by kernel_rfl, by kernel_rfl⟩
instance : TyOne Try.prog 277 := ⟨by kernel_rfl, by kernel_rfl⟩
instance : TyOne Try.prog 278 := ⟨by kernel_rfl, by kernel_rfl⟩
instance : TyOne Try.prog 279 := ⟨by kernel_rfl, by kernel_rfl⟩
instance : TyOne Try.prog 280 := ⟨by kernel_rfl, by kernel_rfl⟩
instance : TyOne Try.prog 281 := ⟨by kernel_rfl, by kernel_rfl⟩
instance : TyOne Try.prog 282 := ⟨by kernel_rfl, by kernel_rfl⟩
instance : TyOne Try.prog 283 := ⟨by kernel_rfl, by kernel_rfl⟩
instance : TyOne Try.prog 284 := ⟨by kernel_rfl, by kernel_rfl⟩
instance : TyOne Try.prog 285 := ⟨by kernel_rfl, by kernel_rfl⟩
instance : TyAgg Try.prog 286 2 := ⟨by kernel_rfl, by kernel_rfl⟩
instance : TyField Try.prog 286 0 0 := ⟨_, _, Try.underlying286, rfl, rfl, by kernel_rfl⟩
instance : TyField Try.prog 286 1 1 := ⟨_, _, Try.underlying286, rfl, rfl, by kernel_rfl⟩
instance : TyBuilt Try.prog 286 (fun i => (#[(0, 1), (1, 1)] : Array (Nat × Nat))[i]?) (.agg #[.slice none 0 0, .int .i64 0]) := TyBuilt.struct (ps := [(0, 1), (1, 1)]) Try.underlying286 (by kernel_rfl) (by kernel_rfl)
instance : TyZero Try.prog 286 (.agg #[.slice none 0 0, .int .i64 0]) := ⟨by kernel_rfl⟩
instance : TyAgg Try.prog 287 2 := ⟨by kernel_rfl, by kernel_rfl⟩
instance : TyField Try.prog 287 0 0 := ⟨_, _, Try.underlying287, rfl, rfl, by kernel_rfl⟩
instance : TyField Try.prog 287 1 1 := ⟨_, _, Try.underlying287, rfl, rfl, by kernel_rfl⟩
instance : TyBuilt Try.prog 287 (fun i => (#[(0, 1), (1, 1)] : Array (Nat × Nat))[i]?) (.agg #[.slice none 0 0, .int .i64 0]) := TyBuilt.struct (ps := [(0, 1), (1, 1)]) Try.underlying287 (by kernel_rfl) (by kernel_rfl)
instance : TyZero Try.prog 287 (.agg #[.slice none 0 0, .int .i64 0]) := ⟨by kernel_rfl⟩
instance : TyOne Try.prog 289 := ⟨by kernel_rfl, by kernel_rfl⟩
instance : TyOne Try.prog 290 := ⟨by kernel_rfl, by kernel_rfl⟩
instance : TyOne Try.prog 291 := ⟨by kernel_rfl, by kernel_rfl⟩
instance : TyOne Try.prog 292 := ⟨by kernel_rfl, by kernel_rfl⟩
instance : TyOne Try.prog 293 := ⟨by kernel_rfl, by kernel_rfl⟩
instance : TyOne Try.prog 294 := ⟨by kernel_rfl, by kernel_rfl⟩
instance : TyOne Try.prog 295 := ⟨by kernel_rfl, by kernel_rfl⟩
instance : TyZero Try.prog 295 (.slice none 0 0) := ⟨by kernel_rfl⟩
instance : TySlice Try.prog 295 299 2 32 (.agg #[.int .i64 0, .slice none 0 0]) := TySlice.of Try.underlying295 (by kernel_rfl) (by kernel_rfl) (by decide)
instance : TyAgg Try.prog 296 1 := ⟨by kernel_rfl, by kernel_rfl⟩
instance : TyField Try.prog 296 0 0 := ⟨_, _, Try.underlying296, rfl, rfl, by kernel_rfl⟩
instance : TyBuilt Try.prog 296 (fun i => (#[(0, 1)] : Array (Nat × Nat))[i]?) (.agg #[.slice none 0 0]) := TyBuilt.struct (ps := [(0, 1)]) Try.underlying296 (by kernel_rfl) (by kernel_rfl)
instance : TyZero Try.prog 296 (.agg #[.slice none 0 0]) := ⟨by kernel_rfl⟩
instance : TyAgg Try.prog 297 1 := ⟨by kernel_rfl, by kernel_rfl⟩
instance : TyField Try.prog 297 0 0 := ⟨_, _, Try.underlying297, rfl, rfl, by kernel_rfl⟩
instance : TyBuilt Try.prog 297 (fun i => (#[(0, 1)] : Array (Nat × Nat))[i]?) (.agg #[.slice none 0 0]) := TyBuilt.struct (ps := [(0, 1)]) Try.underlying297 (by kernel_rfl) (by kernel_rfl)
instance : TyZero Try.prog 297 (.agg #[.slice none 0 0]) := ⟨by kernel_rfl⟩
instance : TyAgg Try.prog 298 2 := ⟨by kernel_rfl, by kernel_rfl⟩
instance : TyField Try.prog 298 0 0 := ⟨_, _, Try.underlying298, rfl, rfl, by kernel_rfl⟩
instance : TyField Try.prog 298 1 1 := ⟨_, _, Try.underlying298, rfl, rfl, by kernel_rfl⟩
instance : TyBuilt Try.prog 298 (fun i => (#[(0, 1), (1, 1)] : Array (Nat × Nat))[i]?) (.agg #[.int .i64 0, .slice none 0 0]) := TyBuilt.struct (ps := [(0, 1), (1, 1)]) Try.underlying298 (by kernel_rfl) (by kernel_rfl)
instance : TyZero Try.prog 298 (.agg #[.int .i64 0, .slice none 0 0]) := ⟨by kernel_rfl⟩
instance : TyAgg Try.prog 299 2 := ⟨by kernel_rfl, by kernel_rfl⟩
instance : TyField Try.prog 299 0 0 := ⟨_, _, Try.underlying299, rfl, rfl, by kernel_rfl⟩
instance : TyField Try.prog 299 1 1 := ⟨_, _, Try.underlying299, rfl, rfl, by kernel_rfl⟩
instance : TyBuilt Try.prog 299 (fun i => (#[(0, 1), (1, 1)] : Array (Nat × Nat))[i]?) (.agg #[.int .i64 0, .slice none 0 0]) := TyBuilt.struct (ps := [(0, 1), (1, 1)]) Try.underlying299 (by kernel_rfl) (by kernel_rfl)
instance : TyZero Try.prog 299 (.agg #[.int .i64 0, .slice none 0 0]) := ⟨by kernel_rfl⟩
instance : TyOne Try.prog 300 := ⟨by kernel_rfl, by kernel_rfl⟩
instance : TyOne Try.prog 301 := ⟨by kernel_rfl, by kernel_rfl⟩
instance : TyOne Try.prog 302 := ⟨by kernel_rfl, by kernel_rfl⟩
instance : TyOne Try.prog 303 := ⟨by kernel_rfl, by kernel_rfl⟩
instance : TyOne Try.prog 304 := ⟨by kernel_rfl, by kernel_rfl⟩
instance : TyOne Try.prog 305 := ⟨by kernel_rfl, by kernel_rfl⟩
instance : TyOne Try.prog 307 := ⟨by kernel_rfl, by kernel_rfl⟩
instance : TyOne Try.prog 308 := ⟨by kernel_rfl, by kernel_rfl⟩
instance : TyOne Try.prog 309 := ⟨by kernel_rfl, by kernel_rfl⟩
instance : TyOne Try.prog 310 := ⟨by kernel_rfl, by kernel_rfl⟩
instance : TyOne Try.prog 311 := ⟨by kernel_rfl, by kernel_rfl⟩
instance : TyOne Try.prog 312 := ⟨by kernel_rfl, by kernel_rfl⟩
instance : TyOne Try.prog 313 := ⟨by kernel_rfl, by kernel_rfl⟩
instance : TyOne Try.prog 314 := ⟨by kernel_rfl, by kernel_rfl⟩
instance : TyOne Try.prog 315 := ⟨by kernel_rfl, by kernel_rfl⟩
instance : TyOne Try.prog 316 := ⟨by kernel_rfl, by kernel_rfl⟩
instance : TyOne Try.prog 317 := ⟨by kernel_rfl, by kernel_rfl⟩
instance : TyOne Try.prog 318 := ⟨by kernel_rfl, by kernel_rfl⟩
instance : TyOne Try.prog 319 := ⟨by kernel_rfl, by kernel_rfl⟩
instance : TyInt Try.prog 320 .u32 := ⟨Try.underlying320⟩
instance : TyOne Try.prog 320 := ⟨by kernel_rfl, by kernel_rfl⟩
instance : TyZero Try.prog 320 (.int .u32 0) := ⟨by kernel_rfl⟩
instance : TyOne Try.prog 321 := ⟨by kernel_rfl, by kernel_rfl⟩
instance : TyOne Try.prog 322 := ⟨by kernel_rfl, by kernel_rfl⟩
instance : TyOne Try.prog 323 := ⟨by kernel_rfl, by kernel_rfl⟩
instance : TyOne Try.prog 324 := ⟨by kernel_rfl, by kernel_rfl⟩
instance : TyOne Try.prog 325 := ⟨by kernel_rfl, by kernel_rfl⟩
instance : TyOne Try.prog 326 := ⟨by kernel_rfl, by kernel_rfl⟩
instance : TyOne Try.prog 327 := ⟨by kernel_rfl, by kernel_rfl⟩
instance : TyOne Try.prog 329 := ⟨by kernel_rfl, by kernel_rfl⟩
instance : TyOne Try.prog 331 := ⟨by kernel_rfl, by kernel_rfl⟩
instance : TyOne Try.prog 332 := ⟨by kernel_rfl, by kernel_rfl⟩
instance : TyOne Try.prog 333 := ⟨by kernel_rfl, by kernel_rfl⟩
instance : TyOne Try.prog 334 := ⟨by kernel_rfl, by kernel_rfl⟩
instance : TyOne Try.prog 335 := ⟨by kernel_rfl, by kernel_rfl⟩
instance : TyOne Try.prog 336 := ⟨by kernel_rfl, by kernel_rfl⟩
instance : TyOne Try.prog 337 := ⟨by kernel_rfl, by kernel_rfl⟩
instance : TyOne Try.prog 338 := ⟨by kernel_rfl, by kernel_rfl⟩
instance : TyAgg Try.prog 339 4 := ⟨by kernel_rfl, by kernel_rfl⟩
instance : TyField Try.prog 339 0 0 := ⟨_, _, Try.underlying339, rfl, rfl, by kernel_rfl⟩
instance : TyField Try.prog 339 1 1 := ⟨_, _, Try.underlying339, rfl, rfl, by kernel_rfl⟩
instance : TyField Try.prog 339 2 2 := ⟨_, _, Try.underlying339, rfl, rfl, by kernel_rfl⟩
instance : TyField Try.prog 339 3 3 := ⟨_, _, Try.underlying339, rfl, rfl, by kernel_rfl⟩
instance : TyBuilt Try.prog 339 (fun i => (#[(0, 1), (1, 1), (2, 1), (3, 1)] : Array (Nat × Nat))[i]?) (.agg #[.pointer none, .pointer none, .pointer none, .string ByteArray.empty]) := TyBuilt.struct (ps := [(0, 1), (1, 1), (2, 1), (3, 1)]) Try.underlying339 (by kernel_rfl) (by kernel_rfl)
instance : TyZero Try.prog 339 (.agg #[.pointer none, .pointer none, .pointer none, .string ByteArray.empty]) := ⟨by kernel_rfl⟩
instance : TyAgg Try.prog 341 0 := ⟨by kernel_rfl, by kernel_rfl⟩
instance : TyArr Try.prog 341 0 16 1 := ⟨Try.underlying341, by kernel_rfl⟩
instance : TyBuilt Try.prog 341 (fun i => some (i * 1, 1)) (.agg #[]) := TyBuilt.array Try.underlying341 (by kernel_rfl) (by kernel_rfl)
instance : TyZero Try.prog 341 (.agg #[]) := ⟨by kernel_rfl⟩
instance : TyAgg Try.prog 342 0 := ⟨by kernel_rfl, by kernel_rfl⟩
instance : TyBuilt Try.prog 342 (fun i => (#[(0, 0)] : Array (Nat × Nat))[i]?) (.agg #[]) := TyBuilt.struct (ps := [(0, 0)]) Try.underlying342 (by kernel_rfl) (by kernel_rfl)
instance : TyZero Try.prog 342 (.agg #[]) := ⟨by kernel_rfl⟩
instance : TyOne Try.prog 346 := ⟨by kernel_rfl, by kernel_rfl⟩
instance : TyPtr Try.prog 347 := ⟨_, Try.underlying347⟩
instance : TyOne Try.prog 347 := ⟨by kernel_rfl, by kernel_rfl⟩
instance : TyZero Try.prog 347 (.pointer none) := ⟨by kernel_rfl⟩
instance : TyOne Try.prog 352 := ⟨by kernel_rfl, by kernel_rfl⟩
instance : TyOne Try.prog 353 := ⟨by kernel_rfl, by kernel_rfl⟩
instance : TyOne Try.prog 354 := ⟨by kernel_rfl, by kernel_rfl⟩
instance : TyOne Try.prog 355 := ⟨by kernel_rfl, by kernel_rfl⟩
instance : TyOne Try.prog 356 := ⟨by kernel_rfl, by kernel_rfl⟩
instance : TyOne Try.prog 357 := ⟨by kernel_rfl, by kernel_rfl⟩
instance : Mixed Try.prog := ⟨by kernel_rfl⟩
end Go.Proofs.Ythpolibakkmmeaa
/-
  What a call of each function enters.
-/
set_option maxRecDepth 100000
namespace Go.Proofs.Ythpolibakkmmeaa
open Go Brv
theorem go3 : ∀ (vs : Array Value) w, (callFunc 3 vs).run Try.prog w = .ok (.enter 3 vs) w := callFunc_run Try.func3 (by decide) rfl
theorem go4 : ∀ (vs : Array Value) w, (callFunc 4 vs).run Try.prog w = .ok (.enter 4 vs) w := callFunc_run Try.func4 (by decide) rfl
theorem go5 : ∀ (vs : Array Value) w, (callFunc 5 vs).run Try.prog w = .ok (.enter 5 vs) w := callFunc_run Try.func5 (by decide) rfl
theorem go6 : ∀ (vs : Array Value) w, (callFunc 6 vs).run Try.prog w = .ok (.enter 6 vs) w := callFunc_run Try.func6 (by decide) rfl
theorem go7 : ∀ (vs : Array Value) w, (callFunc 7 vs).run Try.prog w = .ok (.enter 7 vs) w := callFunc_run Try.func7 (by decide) rfl
theorem go8 : ∀ (vs : Array Value) w, (callFunc 8 vs).run Try.prog w = .ok (.enter 8 vs) w := callFunc_run Try.func8 (by decide) rfl
theorem go9 : ∀ (vs : Array Value) w, (callFunc 9 vs).run Try.prog w = .ok (.enter 9 vs) w := callFunc_run Try.func9 (by decide) rfl
theorem go10 : ∀ (vs : Array Value) w, (callFunc 10 vs).run Try.prog w = .ok (.enter 10 vs) w := callFunc_run Try.func10 (by decide) rfl
theorem go11 : ∀ (vs : Array Value) w, (callFunc 11 vs).run Try.prog w = .ok (.enter 11 vs) w := callFunc_run Try.func11 (by decide) rfl
theorem go12 : ∀ (vs : Array Value) w, (callFunc 12 vs).run Try.prog w = .ok (.enter 12 vs) w := callFunc_run Try.func12 (by decide) rfl
theorem go13 : ∀ (vs : Array Value) w, (callFunc 13 vs).run Try.prog w = .ok (.enter 13 vs) w := callFunc_run Try.func13 (by decide) rfl
theorem go14 : ∀ (vs : Array Value) w, (callFunc 14 vs).run Try.prog w = .ok (.enter 14 vs) w := callFunc_run Try.func14 (by decide) rfl
theorem go15 : ∀ (vs : Array Value) w, (callFunc 15 vs).run Try.prog w = .ok (.enter 15 vs) w := callFunc_run Try.func15 (by decide) rfl
theorem go16 : ∀ (vs : Array Value) w, (callFunc 16 vs).run Try.prog w = .ok (.enter 16 vs) w := callFunc_run Try.func16 (by decide) rfl
theorem go17 : ∀ (vs : Array Value) w, (callFunc 17 vs).run Try.prog w = .ok (.enter 17 vs) w := callFunc_run Try.func17 (by decide) rfl
theorem go18 : ∀ (vs : Array Value) w, (callFunc 18 vs).run Try.prog w = .ok (.enter 18 vs) w := callFunc_run Try.func18 (by decide) rfl
theorem go19 : ∀ (vs : Array Value) w, (callFunc 19 vs).run Try.prog w = .ok (.enter 19 vs) w := callFunc_run Try.func19 (by decide) rfl
theorem go20 : ∀ (vs : Array Value) w, (callFunc 20 vs).run Try.prog w = .ok (.enter 20 vs) w := callFunc_run Try.func20 (by decide) rfl
theorem go21 : ∀ (vs : Array Value) w, (callFunc 21 vs).run Try.prog w = .ok (.enter 21 vs) w := callFunc_run Try.func21 (by decide) rfl
theorem go22 : ∀ (vs : Array Value) w, (callFunc 22 vs).run Try.prog w = .ok (.enter 22 vs) w := callFunc_run Try.func22 (by decide) rfl
theorem go23 : ∀ (vs : Array Value) w, (callFunc 23 vs).run Try.prog w = .ok (.enter 23 vs) w := callFunc_run Try.func23 (by decide) rfl
theorem go24 : ∀ (vs : Array Value) w, (callFunc 24 vs).run Try.prog w = .ok (.enter 24 vs) w := callFunc_run Try.func24 (by decide) rfl
theorem go25 : ∀ (vs : Array Value) w, (callFunc 25 vs).run Try.prog w = .ok (.enter 25 vs) w := callFunc_run Try.func25 (by decide) rfl
theorem go26 : ∀ (vs : Array Value) w, (callFunc 26 vs).run Try.prog w = .ok (.enter 26 vs) w := callFunc_run Try.func26 (by decide) rfl
theorem go27 : ∀ (vs : Array Value) w, (callFunc 27 vs).run Try.prog w = .ok (.enter 27 vs) w := callFunc_run Try.func27 (by decide) rfl
theorem go28 : ∀ (vs : Array Value) w, (callFunc 28 vs).run Try.prog w = .ok (.enter 28 vs) w := callFunc_run Try.func28 (by decide) rfl
theorem go29 : ∀ (vs : Array Value) w, (callFunc 29 vs).run Try.prog w = .ok (.enter 29 vs) w := callFunc_run Try.func29 (by decide) rfl
theorem go30 : ∀ (vs : Array Value) w, (callFunc 30 vs).run Try.prog w = .ok (.enter 30 vs) w := callFunc_run Try.func30 (by decide) rfl
theorem go31 : ∀ (vs : Array Value) w, (callFunc 31 vs).run Try.prog w = .ok (.enter 31 vs) w := callFunc_run Try.func31 (by decide) rfl
theorem go32 : ∀ (vs : Array Value) w, (callFunc 32 vs).run Try.prog w = .ok (.enter 32 vs) w := callFunc_run Try.func32 (by decide) rfl
theorem go33 : ∀ (vs : Array Value) w, (callFunc 33 vs).run Try.prog w = .ok (.enter 33 vs) w := callFunc_run Try.func33 (by decide) rfl
theorem go34 : ∀ (vs : Array Value) w, (callFunc 34 vs).run Try.prog w = .ok (.enter 34 vs) w := callFunc_run Try.func34 (by decide) rfl
theorem go35 : ∀ (vs : Array Value) w, (callFunc 35 vs).run Try.prog w = .ok (.enter 35 vs) w := callFunc_run Try.func35 (by decide) rfl
theorem go36 : ∀ (vs : Array Value) w, (callFunc 36 vs).run Try.prog w = .ok (.enter 36 vs) w := callFunc_run Try.func36 (by decide) rfl
theorem go37 : ∀ (vs : Array Value) w, (callFunc 37 vs).run Try.prog w = .ok (.enter 37 vs) w := callFunc_run Try.func37 (by decide) rfl
theorem go38 : ∀ (vs : Array Value) w, (callFunc 38 vs).run Try.prog w = .ok (.enter 38 vs) w := callFunc_run Try.func38 (by decide) rfl
theorem go39 : ∀ (vs : Array Value) w, (callFunc 39 vs).run Try.prog w = .ok (.enter 39 vs) w := callFunc_run Try.func39 (by decide) rfl
theorem go40 : ∀ (vs : Array Value) w, (callFunc 40 vs).run Try.prog w = .ok (.enter 40 vs) w := callFunc_run Try.func40 (by decide) rfl
theorem go41 : ∀ (vs : Array Value) w, (callFunc 41 vs).run Try.prog w = .ok (.enter 41 vs) w := callFunc_run Try.func41 (by decide) rfl
theorem go42 : ∀ (vs : Array Value) w, (callFunc 42 vs).run Try.prog w = .ok (.enter 42 vs) w := callFunc_run Try.func42 (by decide) rfl
theorem go43 : ∀ (vs : Array Value) w, (callFunc 43 vs).run Try.prog w = .ok (.enter 43 vs) w := callFunc_run Try.func43 (by decide) rfl
theorem go44 : ∀ (vs : Array Value) w, (callFunc 44 vs).run Try.prog w = .ok (.enter 44 vs) w := callFunc_run Try.func44 (by decide) rfl
theorem go45 : ∀ (vs : Array Value) w, (callFunc 45 vs).run Try.prog w = .ok (.enter 45 vs) w := callFunc_run Try.func45 (by decide) rfl
theorem go46 : ∀ (vs : Array Value) w, (callFunc 46 vs).run Try.prog w = .ok (.enter 46 vs) w := callFunc_run Try.func46 (by decide) rfl
theorem go47 : ∀ (vs : Array Value) w, (callFunc 47 vs).run Try.prog w = .ok (.enter 47 vs) w := callFunc_run Try.func47 (by decide) rfl
theorem go48 : ∀ (vs : Array Value) w, (callFunc 48 vs).run Try.prog w = .ok (.enter 48 vs) w := callFunc_run Try.func48 (by decide) rfl
theorem go49 : ∀ (vs : Array Value) w, (callFunc 49 vs).run Try.prog w = .ok (.enter 49 vs) w := callFunc_run Try.func49 (by decide) rfl
theorem go50 : ∀ (vs : Array Value) w, (callFunc 50 vs).run Try.prog w = .ok (.enter 50 vs) w := callFunc_run Try.func50 (by decide) rfl
theorem go51 : ∀ (vs : Array Value) w, (callFunc 51 vs).run Try.prog w = .ok (.enter 51 vs) w := callFunc_run Try.func51 (by decide) rfl
theorem go52 : ∀ (vs : Array Value) w, (callFunc 52 vs).run Try.prog w = .ok (.enter 52 vs) w := callFunc_run Try.func52 (by decide) rfl
theorem go53 : ∀ (vs : Array Value) w, (callFunc 53 vs).run Try.prog w = .ok (.enter 53 vs) w := callFunc_run Try.func53 (by decide) rfl
theorem go54 : ∀ (vs : Array Value) w, (callFunc 54 vs).run Try.prog w = .ok (.enter 54 vs) w := callFunc_run Try.func54 (by decide) rfl
theorem go55 : ∀ (vs : Array Value) w, (callFunc 55 vs).run Try.prog w = .ok (.enter 55 vs) w := callFunc_run Try.func55 (by decide) rfl
theorem go56 : ∀ (vs : Array Value) w, (callFunc 56 vs).run Try.prog w = .ok (.enter 56 vs) w := callFunc_run Try.func56 (by decide) rfl
theorem go57 : ∀ (vs : Array Value) w, (callFunc 57 vs).run Try.prog w = .ok (.enter 57 vs) w := callFunc_run Try.func57 (by decide) rfl
theorem go58 : ∀ (vs : Array Value) w, (callFunc 58 vs).run Try.prog w = .ok (.enter 58 vs) w := callFunc_run Try.func58 (by decide) rfl
theorem go59 : ∀ (vs : Array Value) w, (callFunc 59 vs).run Try.prog w = .ok (.enter 59 vs) w := callFunc_run Try.func59 (by decide) rfl
theorem go60 : ∀ (vs : Array Value) w, (callFunc 60 vs).run Try.prog w = .ok (.enter 60 vs) w := callFunc_run Try.func60 (by decide) rfl
theorem go61 : ∀ (vs : Array Value) w, (callFunc 61 vs).run Try.prog w = .ok (.enter 61 vs) w := callFunc_run Try.func61 (by decide) rfl
theorem go62 : ∀ (vs : Array Value) w, (callFunc 62 vs).run Try.prog w = .ok (.enter 62 vs) w := callFunc_run Try.func62 (by decide) rfl
theorem go63 : ∀ (vs : Array Value) w, (callFunc 63 vs).run Try.prog w = .ok (.enter 63 vs) w := callFunc_run Try.func63 (by decide) rfl
theorem go64 : ∀ (vs : Array Value) w, (callFunc 64 vs).run Try.prog w = .ok (.enter 64 vs) w := callFunc_run Try.func64 (by decide) rfl
theorem go65 : ∀ (vs : Array Value) w, (callFunc 65 vs).run Try.prog w = .ok (.enter 65 vs) w := callFunc_run Try.func65 (by decide) rfl
theorem go66 : ∀ (vs : Array Value) w, (callFunc 66 vs).run Try.prog w = .ok (.enter 66 vs) w := callFunc_run Try.func66 (by decide) rfl
theorem go67 : ∀ (vs : Array Value) w, (callFunc 67 vs).run Try.prog w = .ok (.enter 67 vs) w := callFunc_run Try.func67 (by decide) rfl
theorem go68 : ∀ (vs : Array Value) w, (callFunc 68 vs).run Try.prog w = .ok (.enter 68 vs) w := callFunc_run Try.func68 (by decide) rfl
theorem go69 : ∀ (vs : Array Value) w, (callFunc 69 vs).run Try.prog w = .ok (.enter 69 vs) w := callFunc_run Try.func69 (by decide) rfl
theorem go70 : ∀ (vs : Array Value) w, (callFunc 70 vs).run Try.prog w = .ok (.enter 70 vs) w := callFunc_run Try.func70 (by decide) rfl
theorem go71 : ∀ (vs : Array Value) w, (callFunc 71 vs).run Try.prog w = .ok (.enter 71 vs) w := callFunc_run Try.func71 (by decide) rfl
theorem go72 : ∀ (vs : Array Value) w, (callFunc 72 vs).run Try.prog w = .ok (.enter 72 vs) w := callFunc_run Try.func72 (by decide) rfl
theorem go73 : ∀ (vs : Array Value) w, (callFunc 73 vs).run Try.prog w = .ok (.enter 73 vs) w := callFunc_run Try.func73 (by decide) rfl
theorem go74 : ∀ (vs : Array Value) w, (callFunc 74 vs).run Try.prog w = .ok (.enter 74 vs) w := callFunc_run Try.func74 (by decide) rfl
theorem go75 : ∀ (vs : Array Value) w, (callFunc 75 vs).run Try.prog w = .ok (.enter 75 vs) w := callFunc_run Try.func75 (by decide) rfl
theorem go76 : ∀ (vs : Array Value) w, (callFunc 76 vs).run Try.prog w = .ok (.enter 76 vs) w := callFunc_run Try.func76 (by decide) rfl
theorem go77 : ∀ (vs : Array Value) w, (callFunc 77 vs).run Try.prog w = .ok (.enter 77 vs) w := callFunc_run Try.func77 (by decide) rfl
theorem go78 : ∀ (vs : Array Value) w, (callFunc 78 vs).run Try.prog w = .ok (.enter 78 vs) w := callFunc_run Try.func78 (by decide) rfl
theorem go79 : ∀ (vs : Array Value) w, (callFunc 79 vs).run Try.prog w = .ok (.enter 79 vs) w := callFunc_run Try.func79 (by decide) rfl
theorem go80 : ∀ (vs : Array Value) w, (callFunc 80 vs).run Try.prog w = .ok (.enter 80 vs) w := callFunc_run Try.func80 (by decide) rfl
theorem go81 : ∀ (vs : Array Value) w, (callFunc 81 vs).run Try.prog w = .ok (.enter 81 vs) w := callFunc_run Try.func81 (by decide) rfl
theorem go82 : ∀ (vs : Array Value) w, (callFunc 82 vs).run Try.prog w = .ok (.enter 82 vs) w := callFunc_run Try.func82 (by decide) rfl
theorem go83 : ∀ (vs : Array Value) w, (callFunc 83 vs).run Try.prog w = .ok (.enter 83 vs) w := callFunc_run Try.func83 (by decide) rfl
theorem go84 : ∀ (vs : Array Value) w, (callFunc 84 vs).run Try.prog w = .ok (.enter 84 vs) w := callFunc_run Try.func84 (by decide) rfl
theorem go85 : ∀ (vs : Array Value) w, (callFunc 85 vs).run Try.prog w = .ok (.enter 85 vs) w := callFunc_run Try.func85 (by decide) rfl
theorem go86 : ∀ (vs : Array Value) w, (callFunc 86 vs).run Try.prog w = .ok (.enter 86 vs) w := callFunc_run Try.func86 (by decide) rfl
theorem go87 : ∀ (vs : Array Value) w, (callFunc 87 vs).run Try.prog w = .ok (.enter 87 vs) w := callFunc_run Try.func87 (by decide) rfl
theorem go88 : ∀ (vs : Array Value) w, (callFunc 88 vs).run Try.prog w = .ok (.enter 88 vs) w := callFunc_run Try.func88 (by decide) rfl
theorem go89 : ∀ (vs : Array Value) w, (callFunc 89 vs).run Try.prog w = .ok (.enter 89 vs) w := callFunc_run Try.func89 (by decide) rfl
theorem go90 : ∀ (vs : Array Value) w, (callFunc 90 vs).run Try.prog w = .ok (.enter 90 vs) w := callFunc_run Try.func90 (by decide) rfl
theorem go91 : ∀ (vs : Array Value) w, (callFunc 91 vs).run Try.prog w = .ok (.enter 91 vs) w := callFunc_run Try.func91 (by decide) rfl
theorem go92 : ∀ (vs : Array Value) w, (callFunc 92 vs).run Try.prog w = .ok (.enter 92 vs) w := callFunc_run Try.func92 (by decide) rfl
theorem go93 : ∀ (vs : Array Value) w, (callFunc 93 vs).run Try.prog w = .ok (.enter 93 vs) w := callFunc_run Try.func93 (by decide) rfl
theorem go94 : ∀ (vs : Array Value) w, (callFunc 94 vs).run Try.prog w = .ok (.enter 94 vs) w := callFunc_run Try.func94 (by decide) rfl
theorem go95 : ∀ (vs : Array Value) w, (callFunc 95 vs).run Try.prog w = .ok (.enter 95 vs) w := callFunc_run Try.func95 (by decide) rfl
theorem go96 : ∀ (vs : Array Value) w, (callFunc 96 vs).run Try.prog w = .ok (.enter 96 vs) w := callFunc_run Try.func96 (by decide) rfl
theorem go97 : ∀ (vs : Array Value) w, (callFunc 97 vs).run Try.prog w = .ok (.enter 97 vs) w := callFunc_run Try.func97 (by decide) rfl
theorem go98 : ∀ (vs : Array Value) w, (callFunc 98 vs).run Try.prog w = .ok (.enter 98 vs) w := callFunc_run Try.func98 (by decide) rfl
theorem go99 : ∀ (vs : Array Value) w, (callFunc 99 vs).run Try.prog w = .ok (.enter 99 vs) w := callFunc_run Try.func99 (by decide) rfl
theorem go100 : ∀ (vs : Array Value) w, (callFunc 100 vs).run Try.prog w = .ok (.enter 100 vs) w := callFunc_run Try.func100 (by decide) rfl
theorem go101 : ∀ (vs : Array Value) w, (callFunc 101 vs).run Try.prog w = .ok (.enter 101 vs) w := callFunc_run Try.func101 (by decide) rfl
theorem go102 : ∀ (vs : Array Value) w, (callFunc 102 vs).run Try.prog w = .ok (.enter 102 vs) w := callFunc_run Try.func102 (by decide) rfl
theorem go103 : ∀ (vs : Array Value) w, (callFunc 103 vs).run Try.prog w = .ok (.enter 103 vs) w := callFunc_run Try.func103 (by decide) rfl
theorem go104 : ∀ (vs : Array Value) w, (callFunc 104 vs).run Try.prog w = .ok (.enter 104 vs) w := callFunc_run Try.func104 (by decide) rfl
theorem go105 : ∀ (vs : Array Value) w, (callFunc 105 vs).run Try.prog w = .ok (.enter 105 vs) w := callFunc_run Try.func105 (by decide) rfl
theorem go106 : ∀ (vs : Array Value) w, (callFunc 106 vs).run Try.prog w = .ok (.enter 106 vs) w := callFunc_run Try.func106 (by decide) rfl
theorem go107 : ∀ (vs : Array Value) w, (callFunc 107 vs).run Try.prog w = .ok (.enter 107 vs) w := callFunc_run Try.func107 (by decide) rfl
theorem go108 : ∀ (vs : Array Value) w, (callFunc 108 vs).run Try.prog w = .ok (.enter 108 vs) w := callFunc_run Try.func108 (by decide) rfl
theorem go109 : ∀ (vs : Array Value) w, (callFunc 109 vs).run Try.prog w = .ok (.enter 109 vs) w := callFunc_run Try.func109 (by decide) rfl
theorem go110 : ∀ (vs : Array Value) w, (callFunc 110 vs).run Try.prog w = .ok (.enter 110 vs) w := callFunc_run Try.func110 (by decide) rfl
theorem go111 : ∀ (vs : Array Value) w, (callFunc 111 vs).run Try.prog w = .ok (.enter 111 vs) w := callFunc_run Try.func111 (by decide) rfl
theorem go112 : ∀ (vs : Array Value) w, (callFunc 112 vs).run Try.prog w = .ok (.enter 112 vs) w := callFunc_run Try.func112 (by decide) rfl
theorem go113 : ∀ (vs : Array Value) w, (callFunc 113 vs).run Try.prog w = .ok (.enter 113 vs) w := callFunc_run Try.func113 (by decide) rfl
theorem go114 : ∀ (vs : Array Value) w, (callFunc 114 vs).run Try.prog w = .ok (.enter 114 vs) w := callFunc_run Try.func114 (by decide) rfl
theorem go115 : ∀ (vs : Array Value) w, (callFunc 115 vs).run Try.prog w = .ok (.enter 115 vs) w := callFunc_run Try.func115 (by decide) rfl
theorem go116 : ∀ (vs : Array Value) w, (callFunc 116 vs).run Try.prog w = .ok (.enter 116 vs) w := callFunc_run Try.func116 (by decide) rfl
theorem go117 : ∀ (vs : Array Value) w, (callFunc 117 vs).run Try.prog w = .ok (.enter 117 vs) w := callFunc_run Try.func117 (by decide) rfl
theorem go118 : ∀ (vs : Array Value) w, (callFunc 118 vs).run Try.prog w = .ok (.enter 118 vs) w := callFunc_run Try.func118 (by decide) rfl
theorem go119 : ∀ (vs : Array Value) w, (callFunc 119 vs).run Try.prog w = .ok (.enter 119 vs) w := callFunc_run Try.func119 (by decide) rfl
theorem go120 : ∀ (vs : Array Value) w, (callFunc 120 vs).run Try.prog w = .ok (.enter 120 vs) w := callFunc_run Try.func120 (by decide) rfl
theorem go121 : ∀ (vs : Array Value) w, (callFunc 121 vs).run Try.prog w = .ok (.enter 121 vs) w := callFunc_run Try.func121 (by decide) rfl
theorem go122 : ∀ (vs : Array Value) w, (callFunc 122 vs).run Try.prog w = .ok (.enter 122 vs) w := callFunc_run Try.func122 (by decide) rfl
theorem go123 : ∀ (vs : Array Value) w, (callFunc 123 vs).run Try.prog w = .ok (.enter 123 vs) w := callFunc_run Try.func123 (by decide) rfl
theorem go124 : ∀ (vs : Array Value) w, (callFunc 124 vs).run Try.prog w = .ok (.enter 124 vs) w := callFunc_run Try.func124 (by decide) rfl
theorem go125 : ∀ (vs : Array Value) w, (callFunc 125 vs).run Try.prog w = .ok (.enter 125 vs) w := callFunc_run Try.func125 (by decide) rfl
theorem go126 : ∀ (vs : Array Value) w, (callFunc 126 vs).run Try.prog w = .ok (.enter 126 vs) w := callFunc_run Try.func126 (by decide) rfl
theorem go127 : ∀ (vs : Array Value) w, (callFunc 127 vs).run Try.prog w = .ok (.enter 127 vs) w := callFunc_run Try.func127 (by decide) rfl
theorem go128 : ∀ (vs : Array Value) w, (callFunc 128 vs).run Try.prog w = .ok (.enter 128 vs) w := callFunc_run Try.func128 (by decide) rfl
theorem go129 : ∀ (vs : Array Value) w, (callFunc 129 vs).run Try.prog w = .ok (.enter 129 vs) w := callFunc_run Try.func129 (by decide) rfl
theorem go130 : ∀ (vs : Array Value) w, (callFunc 130 vs).run Try.prog w = .ok (.enter 130 vs) w := callFunc_run Try.func130 (by decide) rfl
theorem go131 : ∀ (vs : Array Value) w, (callFunc 131 vs).run Try.prog w = .ok (.enter 131 vs) w := callFunc_run Try.func131 (by decide) rfl
theorem go132 : ∀ (vs : Array Value) w, (callFunc 132 vs).run Try.prog w = .ok (.enter 132 vs) w := callFunc_run Try.func132 (by decide) rfl
theorem go133 : ∀ (vs : Array Value) w, (callFunc 133 vs).run Try.prog w = .ok (.enter 133 vs) w := callFunc_run Try.func133 (by decide) rfl
theorem go134 : ∀ (vs : Array Value) w, (callFunc 134 vs).run Try.prog w = .ok (.enter 134 vs) w := callFunc_run Try.func134 (by decide) rfl
theorem go135 : ∀ (vs : Array Value) w, (callFunc 135 vs).run Try.prog w = .ok (.enter 135 vs) w := callFunc_run Try.func135 (by decide) rfl
theorem go136 : ∀ (vs : Array Value) w, (callFunc 136 vs).run Try.prog w = .ok (.enter 136 vs) w := callFunc_run Try.func136 (by decide) rfl
theorem go137 : ∀ (vs : Array Value) w, (callFunc 137 vs).run Try.prog w = .ok (.enter 137 vs) w := callFunc_run Try.func137 (by decide) rfl
theorem go138 : ∀ (vs : Array Value) w, (callFunc 138 vs).run Try.prog w = .ok (.enter 138 vs) w := callFunc_run Try.func138 (by decide) rfl
theorem go139 : ∀ (vs : Array Value) w, (callFunc 139 vs).run Try.prog w = .ok (.enter 139 vs) w := callFunc_run Try.func139 (by decide) rfl
theorem go140 : ∀ (vs : Array Value) w, (callFunc 140 vs).run Try.prog w = .ok (.enter 140 vs) w := callFunc_run Try.func140 (by decide) rfl
theorem go141 : ∀ (vs : Array Value) w, (callFunc 141 vs).run Try.prog w = .ok (.enter 141 vs) w := callFunc_run Try.func141 (by decide) rfl
theorem go142 : ∀ (vs : Array Value) w, (callFunc 142 vs).run Try.prog w = .ok (.enter 142 vs) w := callFunc_run Try.func142 (by decide) rfl
theorem go143 : ∀ (vs : Array Value) w, (callFunc 143 vs).run Try.prog w = .ok (.enter 143 vs) w := callFunc_run Try.func143 (by decide) rfl
theorem go144 : ∀ (vs : Array Value) w, (callFunc 144 vs).run Try.prog w = .ok (.enter 144 vs) w := callFunc_run Try.func144 (by decide) rfl
theorem go145 : ∀ (vs : Array Value) w, (callFunc 145 vs).run Try.prog w = .ok (.enter 145 vs) w := callFunc_run Try.func145 (by decide) rfl
theorem go146 : ∀ (vs : Array Value) w, (callFunc 146 vs).run Try.prog w = .ok (.enter 146 vs) w := callFunc_run Try.func146 (by decide) rfl
theorem go147 : ∀ (vs : Array Value) w, (callFunc 147 vs).run Try.prog w = .ok (.enter 147 vs) w := callFunc_run Try.func147 (by decide) rfl
theorem go148 : ∀ (vs : Array Value) w, (callFunc 148 vs).run Try.prog w = .ok (.enter 148 vs) w := callFunc_run Try.func148 (by decide) rfl
theorem go149 : ∀ (vs : Array Value) w, (callFunc 149 vs).run Try.prog w = .ok (.enter 149 vs) w := callFunc_run Try.func149 (by decide) rfl
theorem go150 : ∀ (vs : Array Value) w, (callFunc 150 vs).run Try.prog w = .ok (.enter 150 vs) w := callFunc_run Try.func150 (by decide) rfl
theorem go151 : ∀ (vs : Array Value) w, (callFunc 151 vs).run Try.prog w = .ok (.enter 151 vs) w := callFunc_run Try.func151 (by decide) rfl
theorem go152 : ∀ (vs : Array Value) w, (callFunc 152 vs).run Try.prog w = .ok (.enter 152 vs) w := callFunc_run Try.func152 (by decide) rfl
theorem go153 : ∀ (vs : Array Value) w, (callFunc 153 vs).run Try.prog w = .ok (.enter 153 vs) w := callFunc_run Try.func153 (by decide) rfl
theorem go154 : ∀ (vs : Array Value) w, (callFunc 154 vs).run Try.prog w = .ok (.enter 154 vs) w := callFunc_run Try.func154 (by decide) rfl
theorem go155 : ∀ (vs : Array Value) w, (callFunc 155 vs).run Try.prog w = .ok (.enter 155 vs) w := callFunc_run Try.func155 (by decide) rfl
theorem go156 : ∀ (vs : Array Value) w, (callFunc 156 vs).run Try.prog w = .ok (.enter 156 vs) w := callFunc_run Try.func156 (by decide) rfl
theorem go157 : ∀ (vs : Array Value) w, (callFunc 157 vs).run Try.prog w = .ok (.enter 157 vs) w := callFunc_run Try.func157 (by decide) rfl
theorem go158 : ∀ (vs : Array Value) w, (callFunc 158 vs).run Try.prog w = .ok (.enter 158 vs) w := callFunc_run Try.func158 (by decide) rfl
theorem go159 : ∀ (vs : Array Value) w, (callFunc 159 vs).run Try.prog w = .ok (.enter 159 vs) w := callFunc_run Try.func159 (by decide) rfl
theorem go160 : ∀ (vs : Array Value) w, (callFunc 160 vs).run Try.prog w = .ok (.enter 160 vs) w := callFunc_run Try.func160 (by decide) rfl
theorem go161 : ∀ (vs : Array Value) w, (callFunc 161 vs).run Try.prog w = .ok (.enter 161 vs) w := callFunc_run Try.func161 (by decide) rfl
theorem go162 : ∀ (vs : Array Value) w, (callFunc 162 vs).run Try.prog w = .ok (.enter 162 vs) w := callFunc_run Try.func162 (by decide) rfl
theorem go163 : ∀ (vs : Array Value) w, (callFunc 163 vs).run Try.prog w = .ok (.enter 163 vs) w := callFunc_run Try.func163 (by decide) rfl
theorem go164 : ∀ (vs : Array Value) w, (callFunc 164 vs).run Try.prog w = .ok (.enter 164 vs) w := callFunc_run Try.func164 (by decide) rfl
theorem go165 : ∀ (vs : Array Value) w, (callFunc 165 vs).run Try.prog w = .ok (.enter 165 vs) w := callFunc_run Try.func165 (by decide) rfl
theorem go166 : ∀ (vs : Array Value) w, (callFunc 166 vs).run Try.prog w = .ok (.enter 166 vs) w := callFunc_run Try.func166 (by decide) rfl
theorem go167 : ∀ (vs : Array Value) w, (callFunc 167 vs).run Try.prog w = .ok (.enter 167 vs) w := callFunc_run Try.func167 (by decide) rfl
theorem go169 : ∀ (vs : Array Value) w, (callFunc 169 vs).run Try.prog w = .ok (.enter 169 vs) w := callFunc_run Try.func169 (by decide) rfl
theorem go170 : ∀ (vs : Array Value) w, (callFunc 170 vs).run Try.prog w = .ok (.enter 170 vs) w := callFunc_run Try.func170 (by decide) rfl
theorem go171 : ∀ (vs : Array Value) w, (callFunc 171 vs).run Try.prog w = .ok (.enter 171 vs) w := callFunc_run Try.func171 (by decide) rfl
theorem go172 : ∀ (vs : Array Value) w, (callFunc 172 vs).run Try.prog w = .ok (.enter 172 vs) w := callFunc_run Try.func172 (by decide) rfl
theorem go173 : ∀ (vs : Array Value) w, (callFunc 173 vs).run Try.prog w = .ok (.enter 173 vs) w := callFunc_run Try.func173 (by decide) rfl
theorem go174 : ∀ (vs : Array Value) w, (callFunc 174 vs).run Try.prog w = .ok (.enter 174 vs) w := callFunc_run Try.func174 (by decide) rfl
theorem go176 : ∀ (vs : Array Value) w, (callFunc 176 vs).run Try.prog w = .ok (.enter 176 vs) w := callFunc_run Try.func176 (by decide) rfl
theorem go177 : ∀ (vs : Array Value) w, (callFunc 177 vs).run Try.prog w = .ok (.enter 177 vs) w := callFunc_run Try.func177 (by decide) rfl
theorem go178 : ∀ (vs : Array Value) w, (callFunc 178 vs).run Try.prog w = .ok (.enter 178 vs) w := callFunc_run Try.func178 (by decide) rfl
theorem go179 : ∀ (vs : Array Value) w, (callFunc 179 vs).run Try.prog w = .ok (.enter 179 vs) w := callFunc_run Try.func179 (by decide) rfl
theorem go180 : ∀ (vs : Array Value) w, (callFunc 180 vs).run Try.prog w = .ok (.enter 180 vs) w := callFunc_run Try.func180 (by decide) rfl
theorem go181 : ∀ (vs : Array Value) w, (callFunc 181 vs).run Try.prog w = .ok (.enter 181 vs) w := callFunc_run Try.func181 (by decide) rfl
theorem go182 : ∀ (vs : Array Value) w, (callFunc 182 vs).run Try.prog w = .ok (.enter 182 vs) w := callFunc_run Try.func182 (by decide) rfl
theorem go183 : ∀ (vs : Array Value) w, (callFunc 183 vs).run Try.prog w = .ok (.enter 183 vs) w := callFunc_run Try.func183 (by decide) rfl
theorem go184 : ∀ (vs : Array Value) w, (callFunc 184 vs).run Try.prog w = .ok (.enter 184 vs) w := callFunc_run Try.func184 (by decide) rfl
theorem go185 : ∀ (vs : Array Value) w, (callFunc 185 vs).run Try.prog w = .ok (.enter 185 vs) w := callFunc_run Try.func185 (by decide) rfl
theorem go186 : ∀ (vs : Array Value) w, (callFunc 186 vs).run Try.prog w = .ok (.enter 186 vs) w := callFunc_run Try.func186 (by decide) rfl
theorem go187 : ∀ (vs : Array Value) w, (callFunc 187 vs).run Try.prog w = .ok (.enter 187 vs) w := callFunc_run Try.func187 (by decide) rfl
theorem go188 : ∀ (vs : Array Value) w, (callFunc 188 vs).run Try.prog w = .ok (.enter 188 vs) w := callFunc_run Try.func188 (by decide) rfl
theorem go189 : ∀ (vs : Array Value) w, (callFunc 189 vs).run Try.prog w = .ok (.enter 189 vs) w := callFunc_run Try.func189 (by decide) rfl
theorem go190 : ∀ (vs : Array Value) w, (callFunc 190 vs).run Try.prog w = .ok (.enter 190 vs) w := callFunc_run Try.func190 (by decide) rfl
theorem go191 : ∀ (vs : Array Value) w, (callFunc 191 vs).run Try.prog w = .ok (.enter 191 vs) w := callFunc_run Try.func191 (by decide) rfl
theorem go192 : ∀ (vs : Array Value) w, (callFunc 192 vs).run Try.prog w = .ok (.enter 192 vs) w := callFunc_run Try.func192 (by decide) rfl
theorem go193 : ∀ (vs : Array Value) w, (callFunc 193 vs).run Try.prog w = .ok (.enter 193 vs) w := callFunc_run Try.func193 (by decide) rfl
theorem go194 : ∀ (vs : Array Value) w, (callFunc 194 vs).run Try.prog w = .ok (.enter 194 vs) w := callFunc_run Try.func194 (by decide) rfl
theorem go195 : ∀ (vs : Array Value) w, (callFunc 195 vs).run Try.prog w = .ok (.enter 195 vs) w := callFunc_run Try.func195 (by decide) rfl
theorem go196 : ∀ (vs : Array Value) w, (callFunc 196 vs).run Try.prog w = .ok (.enter 196 vs) w := callFunc_run Try.func196 (by decide) rfl
theorem go197 : ∀ (vs : Array Value) w, (callFunc 197 vs).run Try.prog w = .ok (.enter 197 vs) w := callFunc_run Try.func197 (by decide) rfl
theorem go198 : ∀ (vs : Array Value) w, (callFunc 198 vs).run Try.prog w = .ok (.enter 198 vs) w := callFunc_run Try.func198 (by decide) rfl
theorem go199 : ∀ (vs : Array Value) w, (callFunc 199 vs).run Try.prog w = .ok (.enter 199 vs) w := callFunc_run Try.func199 (by decide) rfl
theorem go200 : ∀ (vs : Array Value) w, (callFunc 200 vs).run Try.prog w = .ok (.enter 200 vs) w := callFunc_run Try.func200 (by decide) rfl
theorem go201 : ∀ (vs : Array Value) w, (callFunc 201 vs).run Try.prog w = .ok (.enter 201 vs) w := callFunc_run Try.func201 (by decide) rfl
theorem go202 : ∀ (vs : Array Value) w, (callFunc 202 vs).run Try.prog w = .ok (.enter 202 vs) w := callFunc_run Try.func202 (by decide) rfl
theorem go203 : ∀ (vs : Array Value) w, (callFunc 203 vs).run Try.prog w = .ok (.enter 203 vs) w := callFunc_run Try.func203 (by decide) rfl
theorem go204 : ∀ (vs : Array Value) w, (callFunc 204 vs).run Try.prog w = .ok (.enter 204 vs) w := callFunc_run Try.func204 (by decide) rfl
theorem go205 : ∀ (vs : Array Value) w, (callFunc 205 vs).run Try.prog w = .ok (.enter 205 vs) w := callFunc_run Try.func205 (by decide) rfl
theorem go206 : ∀ (vs : Array Value) w, (callFunc 206 vs).run Try.prog w = .ok (.enter 206 vs) w := callFunc_run Try.func206 (by decide) rfl
theorem go207 : ∀ (vs : Array Value) w, (callFunc 207 vs).run Try.prog w = .ok (.enter 207 vs) w := callFunc_run Try.func207 (by decide) rfl
theorem go208 : ∀ (vs : Array Value) w, (callFunc 208 vs).run Try.prog w = .ok (.enter 208 vs) w := callFunc_run Try.func208 (by decide) rfl
theorem go210 : ∀ (vs : Array Value) w, (callFunc 210 vs).run Try.prog w = .ok (.enter 210 vs) w := callFunc_run Try.func210 (by decide) rfl
theorem go211 : ∀ (vs : Array Value) w, (callFunc 211 vs).run Try.prog w = .ok (.enter 211 vs) w := callFunc_run Try.func211 (by decide) rfl
theorem go212 : ∀ (vs : Array Value) w, (callFunc 212 vs).run Try.prog w = .ok (.enter 212 vs) w := callFunc_run Try.func212 (by decide) rfl
theorem go213 : ∀ (vs : Array Value) w, (callFunc 213 vs).run Try.prog w = .ok (.enter 213 vs) w := callFunc_run Try.func213 (by decide) rfl
theorem go214 : ∀ (vs : Array Value) w, (callFunc 214 vs).run Try.prog w = .ok (.enter 214 vs) w := callFunc_run Try.func214 (by decide) rfl
theorem go215 : ∀ (vs : Array Value) w, (callFunc 215 vs).run Try.prog w = .ok (.enter 215 vs) w := callFunc_run Try.func215 (by decide) rfl
theorem go216 : ∀ (vs : Array Value) w, (callFunc 216 vs).run Try.prog w = .ok (.enter 216 vs) w := callFunc_run Try.func216 (by decide) rfl
theorem go217 : ∀ (vs : Array Value) w, (callFunc 217 vs).run Try.prog w = .ok (.enter 217 vs) w := callFunc_run Try.func217 (by decide) rfl
theorem go218 : ∀ (vs : Array Value) w, (callFunc 218 vs).run Try.prog w = .ok (.enter 218 vs) w := callFunc_run Try.func218 (by decide) rfl
theorem go219 : ∀ (vs : Array Value) w, (callFunc 219 vs).run Try.prog w = .ok (.enter 219 vs) w := callFunc_run Try.func219 (by decide) rfl
theorem go220 : ∀ (vs : Array Value) w, (callFunc 220 vs).run Try.prog w = .ok (.enter 220 vs) w := callFunc_run Try.func220 (by decide) rfl
theorem go222 : ∀ (vs : Array Value) w, (callFunc 222 vs).run Try.prog w = .ok (.enter 222 vs) w := callFunc_run Try.func222 (by decide) rfl
theorem go223 : ∀ (vs : Array Value) w, (callFunc 223 vs).run Try.prog w = .ok (.enter 223 vs) w := callFunc_run Try.func223 (by decide) rfl
theorem go224 : ∀ (vs : Array Value) w, (callFunc 224 vs).run Try.prog w = .ok (.enter 224 vs) w := callFunc_run Try.func224 (by decide) rfl
theorem go225 : ∀ (vs : Array Value) w, (callFunc 225 vs).run Try.prog w = .ok (.enter 225 vs) w := callFunc_run Try.func225 (by decide) rfl
theorem go226 : ∀ (vs : Array Value) w, (callFunc 226 vs).run Try.prog w = .ok (.enter 226 vs) w := callFunc_run Try.func226 (by decide) rfl
theorem go227 : ∀ (vs : Array Value) w, (callFunc 227 vs).run Try.prog w = .ok (.enter 227 vs) w := callFunc_run Try.func227 (by decide) rfl
theorem go228 : ∀ (vs : Array Value) w, (callFunc 228 vs).run Try.prog w = .ok (.enter 228 vs) w := callFunc_run Try.func228 (by decide) rfl
theorem go229 : ∀ (vs : Array Value) w, (callFunc 229 vs).run Try.prog w = .ok (.enter 229 vs) w := callFunc_run Try.func229 (by decide) rfl
theorem go230 : ∀ (vs : Array Value) w, (callFunc 230 vs).run Try.prog w = .ok (.enter 230 vs) w := callFunc_run Try.func230 (by decide) rfl
theorem go231 : ∀ (vs : Array Value) w, (callFunc 231 vs).run Try.prog w = .ok (.enter 231 vs) w := callFunc_run Try.func231 (by decide) rfl
theorem go232 : ∀ (vs : Array Value) w, (callFunc 232 vs).run Try.prog w = .ok (.enter 232 vs) w := callFunc_run Try.func232 (by decide) rfl
theorem go233 : ∀ (vs : Array Value) w, (callFunc 233 vs).run Try.prog w = .ok (.enter 233 vs) w := callFunc_run Try.func233 (by decide) rfl
theorem go235 : ∀ (vs : Array Value) w, (callFunc 235 vs).run Try.prog w = .ok (.enter 235 vs) w := callFunc_run Try.func235 (by decide) rfl
theorem go236 : ∀ (vs : Array Value) w, (callFunc 236 vs).run Try.prog w = .ok (.enter 236 vs) w := callFunc_run Try.func236 (by decide) rfl
theorem go237 : ∀ (vs : Array Value) w, (callFunc 237 vs).run Try.prog w = .ok (.enter 237 vs) w := callFunc_run Try.func237 (by decide) rfl
theorem go240 : ∀ (vs : Array Value) w, (callFunc 240 vs).run Try.prog w = .ok (.enter 240 vs) w := callFunc_run Try.func240 (by decide) rfl
theorem go241 : ∀ (vs : Array Value) w, (callFunc 241 vs).run Try.prog w = .ok (.enter 241 vs) w := callFunc_run Try.func241 (by decide) rfl
theorem go242 : ∀ (vs : Array Value) w, (callFunc 242 vs).run Try.prog w = .ok (.enter 242 vs) w := callFunc_run Try.func242 (by decide) rfl
theorem go243 : ∀ (vs : Array Value) w, (callFunc 243 vs).run Try.prog w = .ok (.enter 243 vs) w := callFunc_run Try.func243 (by decide) rfl
theorem go244 : ∀ (vs : Array Value) w, (callFunc 244 vs).run Try.prog w = .ok (.enter 244 vs) w := callFunc_run Try.func244 (by decide) rfl
theorem go245 : ∀ (vs : Array Value) w, (callFunc 245 vs).run Try.prog w = .ok (.enter 245 vs) w := callFunc_run Try.func245 (by decide) rfl
theorem go246 : ∀ (vs : Array Value) w, (callFunc 246 vs).run Try.prog w = .ok (.enter 246 vs) w := callFunc_run Try.func246 (by decide) rfl
theorem go247 : ∀ (vs : Array Value) w, (callFunc 247 vs).run Try.prog w = .ok (.enter 247 vs) w := callFunc_run Try.func247 (by decide) rfl
theorem go248 : ∀ (vs : Array Value) w, (callFunc 248 vs).run Try.prog w = .ok (.enter 248 vs) w := callFunc_run Try.func248 (by decide) rfl
theorem go249 : ∀ (vs : Array Value) w, (callFunc 249 vs).run Try.prog w = .ok (.enter 249 vs) w := callFunc_run Try.func249 (by decide) rfl

end Go.Proofs.Ythpolibakkmmeaa
/-
  Functions of the library, at bytes.
-/
set_option linter.unusedVariables false
namespace Go.Proofs.Ythpolibakkmmeaa
open Go Brv
theorem clone_ok (a : Option Addr) (n c : Nat) (l : List UInt8) (w : World) (hb : Bs w a n l) (hn : n ≤ 140737488355328) : Meets Try.prog 143 [.slice a n c] w (Cloned w 5 1 n (vbs l)) := by
  refine Meets.enter Try.func143 rfl 8 rfl (Nat.le_of_ble_eq_true rfl) ?_
  refine G.seq ?_
  refine G.region ?_
  refine L.val rfl rfl (R.as rfl) ?_
  refine L.nil ?_
  refine N.seq ?_
  refine G.seq ?_
  refine G.seq ?_
  refine G.region ?_
  refine L.val rfl rfl (R.mv rfl) ?_
  refine L.val rfl rfl (R.eqNilS rfl rfl) ?_
  refine L.nil ?_
  refine N.seq ?_
  refine G.condB rfl (fun h0 => ?_) (fun h0 => ?_)
  · obtain rfl : a = none := by simpa using h0
    obtain ⟨rfl, rfl⟩ := hb.none
    refine G.seq ?_
    refine G.region ?_
    refine L.val rfl rfl (R.as rfl) ?_
    refine L.nil ?_
    refine N.seq ?_
    refine G.ret1 rfl rfl ?_
    exact ⟨none, 0, [], rfl, Ext.refl _ _, Own.nil _ _ _, by simp⟩
  · refine G.skip ?_
    refine N.seq ?_
    refine G.seq ?_
    refine G.region ?_
    refine L.do rfl rfl (R.buildS rfl (by decide) rfl) ?_
    rintro _ w1 ⟨b5, rfl, hb5, hs5, e1, B5⟩
    have hb := hb.ext0 e1
    have o0 := Own.blk (n := 0) (size := 1) B5 (by simp) (by simp [maxLen])
    refine L.val rfl rfl (R.mv rfl) ?_
    refine L.do rfl rfl (R.app rfl rfl o0 hb.cells (by rw [vbs_length, Nat.mul_one]; exact hb.len.symm) (vbs_one _) (by simp [maxLen]; omega) (by omega)) ?_
    rintro _ w2 ⟨a1, c1, M1, rfl, e2, hM1, o1⟩
    refine L.val rfl rfl (R.as rfl) ?_
    refine L.nil ?_
    refine N.seq ?_
    refine G.ret1 rfl rfl ?_
    exact ⟨a1, c1, M1, by rw [Nat.zero_add] , e1.trans e2 (by simp) (by simp; omega), by simpa using o1, by intro g hg; have := hM1 g hg; have := e1.size; simp at *; omega⟩

theorem equal_ok (a a' : Option Addr) (n c n' c' : Nat) (l l' : List UInt8) (w : World) (hb : Bs w a n l) (hb' : Bs w a' n' l') (hn : n ≤ 140737488355328) : Meets Try.prog 190 [.slice a n c, .slice a' n' c'] w (fun v w' => v = .bool (decide (l = l')) ∧ Ext [] w w') := by
  refine Meets.enter Try.func190 rfl 26 rfl (Nat.le_of_ble_eq_true rfl) ?_
  have hl := hb.len
  have hl' := hb'.len
  refine G.seq ?_
  refine G.region ?_
  refine L.val rfl rfl (R.as rfl) ?_
  refine L.nil ?_
  refine N.seq ?_
  refine G.seq ?_
  refine G.seq ?_
  refine G.region ?_
  refine L.val rfl rfl (R.mv rfl) ?_
  refine L.val rfl rfl (R.lenS rfl) ?_
  refine L.val rfl rfl (R.mv rfl) ?_
  refine L.val rfl rfl (R.lenS rfl) ?_
  refine L.val rfl rfl (R.neI rfl rfl) ?_
  refine L.nil ?_
  refine N.seq ?_
  refine G.condP rfl (fun h0 => ?_) (fun h0 => ?_)
  · refine G.seq ?_
    refine G.region ?_
    refine L.val rfl rfl (R.as rfl) ?_
    refine L.nil ?_
    refine N.seq ?_
    refine G.ret1 rfl rfl ?_
    exact ⟨congrArg Value.bool (by rw [eq_comm]; simp; intro e; subst e; omega), Ext.refl _ _⟩
  · refine G.skip ?_
    refine N.seq ?_
    refine G.seq ?_
    refine G.seq ?_
    refine G.region ?_
    refine L.val rfl rfl (R.mv rfl) ?_
    refine L.val rfl rfl (R.lenS rfl) ?_
    refine L.val rfl rfl (R.mv rfl) ?_
    refine L.nil ?_
    refine N.seq ?_
    refine G.block ?_
    refine G.loop (X := Nat) (fun k => [(0, .slice a n c), (1, .slice a' n' c'), (12, .int .i64 n), (13, .int .i64 k)]) (fun k w' => k ≤ n ∧ l.take k = l'.take k ∧ Ext [] w w') (fun k => n - k) (0) (Sub.cons rfl (Sub.cons rfl (Sub.cons rfl (Sub.cons rfl (Sub.nil _))))) ⟨by omega, rfl, Ext.refl _ _⟩ ?_
    rintro k w1 ⟨hk, hp, e0⟩
    refine G.seq ?_
    refine G.region ?_
    refine L.val rfl rfl (R.lss rfl rfl) ?_
    refine L.nil ?_
    refine N.seq ?_
    refine G.seq ?_
    refine G.condP rfl (fun h1 => ?_) (fun h1 => ?_)
    · obtain ⟨p, hpa, hcl⟩ := hb.at k (by omega)
      obtain ⟨p', hpa', hcl'⟩ := hb'.at k (by omega)
      refine G.skip ?_
      refine N.seq ?_
      refine G.seq ?_
      refine G.block ?_
      refine G.seq ?_
      refine G.region ?_
      refine L.val rfl rfl (R.mv rfl) ?_
      refine L.val rfl rfl (R.as rfl) ?_
      refine L.nil ?_
      refine N.seq ?_
      refine G.seq ?_
      refine G.quiet (by decide +kernel) rfl ?_
      refine Q.val rfl rfl rfl rfl (fun w2 hE => R.mv rfl) ?_
      refine Q.val rfl rfl rfl rfl (fun w2 hE => R.mv rfl) ?_
      refine Q.val rfl rfl rfl rfl (fun w2 hE => R.idx rfl rfl (by omega) (by omega) p hpa) ?_
      refine Q.val rfl rfl rfl rfl (fun w2 hE => R.ld rfl (cell?_ext0' hcl (e0.trans0 hE))) ?_
      refine Q.val rfl rfl rfl rfl (fun w2 hE => R.mv rfl) ?_
      refine Q.val rfl rfl rfl rfl (fun w2 hE => R.mv rfl) ?_
      refine Q.val rfl rfl rfl rfl (fun w2 hE => R.idx rfl rfl (by omega) (by omega) p' hpa') ?_
      refine Q.val rfl rfl rfl rfl (fun w2 hE => R.ld rfl (cell?_ext0' hcl' (e0.trans0 hE))) ?_
      refine Q.val rfl rfl rfl rfl (fun w2 hE => R.neI rfl rfl) ?_
      refine Q.nil (fun w2 e1 => ?_)
      refine N.seq ?_
      refine G.condP rfl (fun h2 => ?_) (fun h2 => ?_)
      · refine G.seq ?_
        refine G.region ?_
        refine L.val rfl rfl (R.as rfl) ?_
        refine L.nil ?_
        refine N.seq ?_
        refine G.ret1 rfl rfl ?_
        exact ⟨congrArg Value.bool (by rw [eq_comm]; simp; intro e; subst e; simp at h2), e0.trans0 e1⟩
      · have hx : l[k] = l'[k] := UInt8.toNat_inj.1 (by omega)
        have hp' : l.take (k + 1) = l'.take (k + 1) := by rw [List.take_succ_eq_append_getElem (by omega), List.take_succ_eq_append_getElem (by omega), hp, hx]
        refine G.skip ?_
        refine N.block ?_
        refine N.seq ?_
        refine G.region ?_
        refine L.val rfl rfl (R.add rfl rfl (by omega)) ?_
        refine L.val rfl rfl (R.mv rfl) ?_
        refine L.nil ?_
        exact N.again (k + 1) (by omega) (Sub.cons rfl (Sub.cons rfl (Sub.cons rfl (Sub.cons rfl (Sub.nil _))))) ⟨by omega, hp', e0.trans0 e1⟩
    · refine G.exit _ rfl ?_
      refine N.seq ?_
      refine G.seq ?_
      refine G.region ?_
      refine L.val rfl rfl (R.as rfl) ?_
      refine L.nil ?_
      refine N.seq ?_
      refine G.ret1 rfl rfl ?_
      exact ⟨congrArg Value.bool (by rw [eq_comm]; simp; rw [List.take_of_length_le (by omega), List.take_of_length_le (by omega)] at hp; exact hp), e0⟩

end Go.Proofs.Ythpolibakkmmeaa
