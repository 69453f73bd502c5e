/-
  Plain laws on package pack: numbers as bytes of a width, what fits, texts, padding, and what a scan reads.
-/
import Derived.Test.YthpolibakkmmeaaCrcPure
set_option linter.unusedVariables false
namespace Brv.Pack
open Go Brv Brv.Crc

/-- The bytes of a number, of a width. -/
def be : Nat → Nat → List UInt8
  | 0, _ => []
  | w + 1, x => be w (x / 256) ++ [UInt8.ofNat (x % 256)]
theorem be_length : ∀ w x, (be w x).length = w
  | 0, _ => rfl
  | w + 1, x => by simp [be, be_length w]
theorem be_get : ∀ (w x i : Nat), i < w → (be w x)[i]? = some (UInt8.ofNat (x / 256 ^ (w - 1 - i) % 256))
  | 0, _, i, h => by omega
  | w + 1, x, i, h => by
    unfold be
    by_cases e : i = w
    · subst e
      rw [List.getElem?_append_right (by rw [be_length]; omega)]
      simp [be_length]
    · rw [List.getElem?_append_left (by rw [be_length]; omega), be_get w _ i (by omega)]
      rw [show w + 1 - 1 - i = (w - 1 - i) + 1 by omega, Nat.pow_succ, Nat.mul_comm, ← Nat.div_div_eq_div_mul]
theorem be_take (w x k : Nat) (h : k < w) : (be w x).take (k + 1) = (be w x).take k ++ [UInt8.ofNat (x / 256 ^ (w - 1 - k) % 256)] := by
  rw [List.take_add_one, be_get w x k h]; rfl
/-- The number that bytes tell. -/
def num (l : List UInt8) : Nat := l.foldl (fun n c => 256 * n + c.toNat) 0
theorem snoc_rec {Q : List UInt8 → Prop} (h0 : Q []) (hs : ∀ l c, Q l → Q (l ++ [c])) (l : List UInt8) : Q l := by
  have : ∀ r : List UInt8, Q r.reverse := by
    intro r
    induction r with
    | nil => exact h0
    | cons c r ih => rw [List.reverse_cons]; exact hs _ c ih
  have := this l.reverse
  rwa [List.reverse_reverse] at this
theorem num_snoc (l : List UInt8) (c : UInt8) : num (l ++ [c]) = 256 * num l + c.toNat := by simp [num]
theorem num_be : ∀ (w x : Nat), x < 256 ^ w → num (be w x) = x
  | 0, x, h => by simp at h; subst h; rfl
  | w + 1, x, h => by
    unfold be
    rw [num_snoc, num_be w _ (by rw [Nat.pow_succ] at h; omega)]
    simp only [UInt8.toNat_ofNat']
    omega
theorem num_lt : ∀ (l : List UInt8), num l < 256 ^ l.length := by
  refine snoc_rec (by simp [num]) (fun l c ih => ?_)
  · rw [num_snoc, List.length_append, List.length_singleton, Nat.pow_succ]
    have := lt_u8 c
    omega
theorem be_num : ∀ (l : List UInt8), be l.length (num l) = l := by
  refine snoc_rec rfl (fun l c ih => ?_)
  · rw [num_snoc, List.length_append, List.length_singleton]
    unfold be
    have := lt_u8 c
    rw [show (256 * num l + c.toNat) / 256 = num l by omega, ih, show (256 * num l + c.toNat) % 256 = c.toNat by omega]
    simp
theorem be_inj {w x y : Nat} (hx : x < 256 ^ w) (hy : y < 256 ^ w) (h : be w x = be w y) : x = y := by
  rw [← num_be w x hx, ← num_be w y hy, h]
/-- Does a number go into a width? -/
def fitsF (x y : Int) : Bool := decide (1 ≤ y ∧ y ≤ 8 ∧ 0 ≤ x ∧ x < 256 ^ y.toNat)
theorem pow_256 (k : Nat) : 256 ^ k = 2 ^ (8 * k) := by rw [Nat.pow_mul]
theorem pow_256_int (k : Nat) : (256 : Int) ^ k = 2 ^ (8 * k) := by rw [Int.pow_mul]; rfl
theorem pos_256 (k : Nat) : 0 < 256 ^ k := Nat.pow_pos (by decide)
theorem le_256 {k : Nat} (h : k ≤ 8) : 256 ^ k ≤ 18446744073709551616 := Nat.le_trans (Nat.pow_le_pow_right (by decide) h) (by decide)
/-- One byte of a number, shifted down. -/
theorem shift_byte (x w i : Nat) (hw : w ≤ 8) (hi : i < w) (z : Int) (hz : z = 8 * ((w : Int) - 1 - i)) :
    IntKind.u8.wrap ((x : Int).fdiv (2 ^ (Min.min z.toNat IntKind.i64.bits))) = ((UInt8.ofNat (x / 256 ^ (w - 1 - i) % 256)).toNat : Int) := by
  have e : Min.min z.toNat IntKind.i64.bits = 8 * (w - 1 - i) := by
    show Min.min z.toNat 64 = _
    omega
  rw [e, Int.fdiv_eq_ediv_of_nonneg _ (by apply Int.le_of_lt; apply Int.pow_pos; decide), ← pow_256_int]
  have h1 : (x : Int) / 256 ^ (w - 1 - i) = ((x / 256 ^ (w - 1 - i) : Nat) : Int) := by simp
  rw [h1]
  simp only [IntKind.wrap, IntKind.bits, IntKind.signed, Bool.false_and, UInt8.toNat_ofNat']
  simp
theorem shift_zero {x y : Int} (hx : 0 ≤ x) (h1 : 1 ≤ y) (h8 : y ≤ 7) : (x.fdiv (2 ^ (Min.min (8 * y).toNat IntKind.i64.bits)) = 0) ↔ x < 256 ^ y.toNat := by
  have e : Min.min (8 * y).toNat IntKind.i64.bits = 8 * y.toNat := by
    show Min.min (8 * y).toNat 64 = _
    omega
  rw [e, Int.fdiv_eq_ediv_of_nonneg _ (by apply Int.le_of_lt; apply Int.pow_pos; decide), ← pow_256_int]
  have hp : (0 : Int) < 256 ^ y.toNat := Int.pow_pos (by decide)
  constructor
  · intro h
    have := Int.lt_mul_ediv_self_add (x := x) hp
    rw [h] at this; omega
  · exact fun h => Int.ediv_eq_zero_of_lt hx h
theorem fits_eight {x : Int} (h : x ≤ 9223372036854775807) : x < 256 ^ (8 : Int).toNat := Int.lt_of_le_of_lt h (by decide)
theorem fitsF_eight {x y : Int} (h : y = 8) (h0 : 0 ≤ x) (hx : x ≤ 9223372036854775807) : true = fitsF x y := by
  subst h; unfold fitsF; rw [eq_comm, decide_eq_true_iff]; exact ⟨by omega, by omega, h0, fits_eight hx⟩
theorem fitsF_shift {x y : Int} (h1 : 1 ≤ y) (h8 : y ≤ 8) (hn : ¬ y = 8) (h0 : 0 ≤ x) : decide (x.fdiv (2 ^ (Min.min (8 * y).toNat IntKind.i64.bits)) = 0) = fitsF x y := by
  unfold fitsF
  rw [decide_eq_decide, shift_zero h0 h1 (by omega)]
  exact ⟨fun h => ⟨h1, h8, h0, h⟩, fun h => h.2.2.2⟩
theorem fitsF_no {x y : Int} (h : ¬ (1 ≤ y ∧ y ≤ 8 ∧ 0 ≤ x)) : false = fitsF x y := by
  unfold fitsF
  rw [eq_comm, decide_eq_false_iff_not]
  exact fun h' => h ⟨h'.1, h'.2.1, h'.2.2.1⟩
theorem fitsF_spec {x y : Int} : fitsF x y = true ↔ (1 ≤ y ∧ y ≤ 8 ∧ 0 ≤ x ∧ x < 256 ^ y.toNat) := by unfold fitsF; rw [decide_eq_true_iff]
/-- Divided so often, a number that fits is nothing. -/
theorem div_fits {x y : Int} (h1 : 1 ≤ y) (h8 : y ≤ 8) (h0 : 0 ≤ x) : decide (x / 256 ^ y.toNat = 0) = fitsF x y := by
  unfold fitsF
  rw [decide_eq_decide]
  have hp : (0 : Int) < 256 ^ y.toNat := Int.pow_pos (by decide)
  constructor
  · intro h
    refine ⟨h1, h8, h0, ?_⟩
    have := Int.lt_mul_ediv_self_add (x := x) hp
    rw [h] at this; omega
  · exact fun h => Int.ediv_eq_zero_of_lt h0 h.2.2.2
theorem div_step (x : Int) (k : Nat) : x / 256 ^ k / 256 = x / 256 ^ (k + 1) := by
  rw [Int.pow_succ, Int.ediv_ediv_of_nonneg (by apply Int.le_of_lt; apply Int.pow_pos; decide)]
/-- A text with its length. -/
def textF (l : List UInt8) : List UInt8 := be 2 l.length ++ l
def padN (n k : Nat) : Nat := (n - k % n) % n
/-- Bytes, padded to a multiple. -/
def padF (n : Int) (l : List UInt8) : List UInt8 := if n < 1 then l else l ++ List.replicate (padN n.toNat l.length) 0
theorem padN_lt {n k : Nat} (h : 0 < n) : padN n k < n := Nat.mod_lt _ h
theorem padN_mod {n k : Nat} (h : 0 < n) : (k + padN n k) % n = 0 := by
  unfold padN
  have h1 := Nat.mod_lt k h
  by_cases e : k % n = 0
  · rw [e]; simp [e]
  · rw [Nat.mod_eq_of_lt (a := n - k % n) (by omega)]
    have : k = n * (k / n) + k % n := (Nat.div_add_mod k n).symm
    rw [show k + (n - k % n) = n * (k / n) + n by omega]
    simp
theorem pad_more {n k j : Nat} (h : 0 < n) (hj : j < padN n k) : (k + j) % n ≠ 0 := by
  intro e
  have h1 := padN_mod (k := k) h
  have h2 := padN_lt (k := k) h
  have h3 := Nat.div_add_mod (k + j) n
  have h4 := Nat.div_add_mod (k + padN n k) n
  rw [e] at h3; rw [h1] at h4
  have : n * ((k + padN n k) / n) - n * ((k + j) / n) = padN n k - j := by omega
  rw [← Nat.mul_sub] at this
  have h5 : n ≤ n * ((k + padN n k) / n - (k + j) / n) := Nat.le_mul_of_pos_right _ (Nat.pos_of_ne_zero (fun e => by rw [e, Nat.mul_zero] at this; omega))
  omega
theorem pad_end {y : Int} {k j : Nat} (hy : ¬ y < 1) (hj : j ≤ padN y.toNat k) : ((k + j : Nat) : Int) % y = 0 ↔ j = padN y.toNat k := by
  obtain ⟨m, rfl⟩ := Int.eq_ofNat_of_zero_le (show 0 ≤ y by omega)
  simp only [Int.toNat_natCast] at *
  have hm : 0 < m := by omega
  have e : ((k + j : Nat) : Int) % (m : Int) = (((k + j) % m : Nat) : Int) := by simp
  rw [e]
  constructor
  · intro h
    by_cases hlt : j < padN m k
    · exact absurd (by omega) (pad_more hm hlt)
    · omega
  · intro h; subst h; rw [padN_mod hm]; rfl
theorem padN_int {n : Int} {k : Nat} (h : 1 ≤ n) : (n - (k : Int) % n) % n = (padN n.toNat k : Int) := by
  obtain ⟨m, rfl⟩ := Int.eq_ofNat_of_zero_le (show 0 ≤ n by omega)
  unfold padN
  have h1 := Nat.mod_lt k (show 0 < m by omega)
  simp only [Int.toNat_natCast]
  have e : ((m - k % m : Nat) : Int) = (m : Int) - (k : Int) % m := by omega
  rw [← e]; simp
theorem getD_zero {l : List UInt8} (h : 0 < l.length) : l.getD 0 0 = l[0] := by
  cases l with
  | nil => simp at h
  | cons c r => rfl
/-! ### scans -/
/-- How many bytes are taken. -/
def takeN (l : List UInt8) (y : Int) : Nat := if y ≤ l.length then y.toNat else 0
theorem takeN_le (l : List UInt8) (y : Int) : takeN l y ≤ l.length := by unfold takeN; split <;> omega
theorem takeN_yes {l : List UInt8} {y : Int} (h : y ≤ l.length) : takeN l y = y.toNat := if_pos h
theorem takeN_no {l : List UInt8} {y : Int} (h : ¬ y ≤ l.length) : takeN l y = 0 := if_neg h
/-- May a number of y bytes be read? -/
def okN (l : List UInt8) (y : Int) : Prop := 1 ≤ y ∧ y ≤ 8 ∧ y ≤ l.length ∧ (y = 8 → (l.getD 0 0).toNat < 128)
instance (l : List UInt8) (y : Int) : Decidable (okN l y) := by unfold okN; infer_instance
theorem okN_no {l : List UInt8} {y : Int} (h : okN l y) : y ≤ l.length := h.2.2.1
/-- What a scan reads, what is left, the error. -/
def numF (l : List UInt8) (e y : Int) : Nat × List UInt8 × Int :=
  if e = 0 then (if okN l y then (num (l.take y.toNat), l.drop y.toNat, 0) else (0, l, 20)) else (0, l, e)
def okT (l : List UInt8) (most : Int) : Prop := 2 ≤ l.length ∧ (num (l.take 2) : Int) ≤ most ∧ num (l.take 2) ≤ l.length - 2
instance (l : List UInt8) (y : Int) : Decidable (okT l y) := by unfold okT; infer_instance
def txtF (l : List UInt8) (e most : Int) : List UInt8 × List UInt8 × Int :=
  if e = 0 then (if okT l most then ((l.drop 2).take (num (l.take 2)), (l.drop 2).drop (num (l.take 2)), 0) else ([], l, 20)) else ([], l, e)
def noughtF (l : List UInt8) (e : Int) : Bool := decide (e = 0) && l.all (· == 0)
theorem num_snoc_le (l : List UInt8) (c : UInt8) : num l ≤ num (l ++ [c]) := by rw [num_snoc]; omega
theorem num_append_le (l : List UInt8) : ∀ (r : List UInt8), num l ≤ num (l ++ r) := by
  refine snoc_rec (by simp) (fun r c ih => ?_)
  rw [← List.append_assoc]
  exact Nat.le_trans ih (num_snoc_le _ _)
theorem num_take_le (l : List UInt8) {j k : Nat} (h : j ≤ k) : num (l.take j) ≤ num (l.take k) := by
  have : l.take j = (l.take k).take j := by rw [List.take_take, Nat.min_eq_left h]
  rw [this]
  conv => rhs; rw [← List.take_append_drop j (l.take k)]
  exact num_append_le _ _
theorem num_take_succ (l : List UInt8) {k : Nat} (h : k < l.length) : num (l.take (k + 1)) = 256 * num (l.take k) + l[k].toNat := by
  rw [List.take_succ_eq_append_getElem h, num_snoc]
theorem num_head (c : UInt8) : ∀ (l : List UInt8), num (c :: l) = c.toNat * 256 ^ l.length + num l := by
  refine snoc_rec (by simp [num]) (fun r d ih => ?_)
  rw [← List.cons_append, num_snoc, ih, num_snoc, List.length_append, List.length_singleton, Nat.pow_succ, Nat.mul_add, ← Nat.mul_assoc, ← Nat.mul_assoc, Nat.mul_comm 256, Nat.mul_right_comm]
  omega
theorem okN_lt {l : List UInt8} {y : Int} (h : okN l y) : num (l.take y.toNat) < 9223372036854775808 := by
  obtain ⟨h1, h8, hl, hh⟩ := h
  have hlen : (l.take y.toNat).length = y.toNat := by rw [List.length_take]; omega
  by_cases e : y = 8
  · subst e
    have := hh rfl
    cases l with
    | nil => simp at hl
    | cons c r =>
      rw [show (c :: r).take (8 : Int).toNat = c :: r.take 7 from rfl, num_head]
      have h7 : (r.take 7).length = 7 := by rw [List.length_take]; simp at hl; omega
      have h9 := num_lt (r.take 7)
      rw [h7] at h9 ⊢
      simp only [List.getD_cons_zero] at this
      omega
  · have := num_lt (l.take y.toNat)
    rw [hlen] at this
    exact Nat.lt_of_lt_of_le this (Nat.le_trans (Nat.pow_le_pow_right (by decide) (show y.toNat ≤ 7 by omega)) (by decide))
theorem or_byte {n : Nat} {c : Nat} (hc : c < 256) (h : 256 * n + c < 9223372036854775808) : orI .i64 (256 * (n : Int)) (c : Int) = ((256 * n + c : Nat) : Int) := by
  unfold orI
  show IntKind.i64.wrap (((BitVec.ofInt 64 (256 * (n : Int)) ||| BitVec.ofInt 64 (c : Int)).toNat : Nat) : Int) = _
  have e : 256 * (n : Int) = ((256 * n : Nat) : Int) := by omega
  rw [e, bv_ofInt_nat, bv_ofInt_nat, BitVec.toNat_or, BitVec.toNat_ofNat, BitVec.toNat_ofNat, Nat.mod_eq_of_lt (by omega), Nat.mod_eq_of_lt (by omega)]
  have := Nat.shiftLeft_add_eq_or_of_lt (i := 8) (b := c) hc n
  rw [Nat.shiftLeft_eq, Nat.mul_comm] at this
  rw [show (256 : Nat) = 2 ^ 8 by decide, ← this]
  exact wrap_i64 (by omega)
theorem shl_byte {n : Nat} (h : 256 * n < 9223372036854775808) : IntKind.i64.wrap ((n : Int) * 2 ^ (Min.min (8 : Int).toNat IntKind.i64.bits)) = 256 * (n : Int) := by
  rw [show (2 : Int) ^ (Min.min (8 : Int).toNat IntKind.i64.bits) = 256 by decide]
  exact (wrap_i64 (by omega)).trans (by omega)
theorem all_take_succ {l : List UInt8} {k : Nat} (h : k < l.length) : (l.take (k + 1)).all (· == 0) = ((l.take k).all (· == 0) && (l[k] == 0)) := by
  rw [List.take_succ_eq_append_getElem h, List.all_append, List.all_cons, List.all_nil, Bool.and_true]
theorem numF_go {l : List UInt8} {y : Int} (hok : y ≤ l.length → okN l y) : numF l 0 y = (num (l.take (takeN l y)), l.drop (takeN l y), if y ≤ l.length then 0 else 20) := by
  unfold numF
  by_cases h : y ≤ l.length
  · rw [if_pos rfl, if_pos (hok h), takeN_yes h, if_pos h]
  · rw [if_pos rfl, if_neg (fun h' => h (okN_no h')), takeN_no h, if_neg h]; rfl
theorem numF_no {l : List UInt8} {y : Int} (h : ¬ okN l y) : numF l 0 y = (0, l, 20) := by
  unfold numF; rw [if_pos rfl, if_neg h]
theorem numF_err {l : List UInt8} {e y : Int} (h : e ≠ 0) : numF l e y = (0, l, e) := by
  unfold numF; rw [if_neg h]
theorem numF_two {l : List UInt8} {m : Nat} {l' : List UInt8} {e' : Int} (h : numF l 0 2 = (m, l', e')) : (2 ≤ l.length ∧ e' = 0 ∧ m = num (l.take 2) ∧ l' = l.drop 2) ∨ (l.length < 2 ∧ e' = 20 ∧ m = 0 ∧ l' = l) := by
  by_cases hl : 2 ≤ l.length
  · have ok : okN l 2 := ⟨by omega, by omega, by omega, by omega⟩
    unfold numF at h
    rw [if_pos rfl, if_pos ok] at h
    cases h
    exact .inl ⟨hl, rfl, rfl, rfl⟩
  · have ok : ¬ okN l 2 := fun h => hl (by have := h.2.2.1; omega)
    rw [numF_no ok] at h
    cases h
    exact .inr ⟨by omega, rfl, rfl, rfl⟩
theorem txtF_yes {l : List UInt8} {m : Nat} {l' : List UInt8} {e' most : Int} (h : numF l 0 2 = (m, l', e')) (h0 : e' = 0) (hm : (m : Int) ≤ most) (hl : m ≤ l'.length) : txtF l 0 most = (l'.take m, l'.drop m, 0) := by
  rcases numF_two h with ⟨h1, _, rfl, rfl⟩ | ⟨_, h2, _⟩
  · unfold txtF
    rw [if_pos rfl, if_pos ⟨h1, hm, by simpa using hl⟩]
  · omega
theorem txtF_no {l : List UInt8} {m : Nat} {l' : List UInt8} {e' most : Int} (h : numF l 0 2 = (m, l', e')) (hn : ¬ (e' = 0 ∧ (m : Int) ≤ most ∧ m ≤ l'.length)) : txtF l 0 most = ([], l, 20) := by
  unfold txtF
  rw [if_pos rfl]
  rcases numF_two h with ⟨h1, h2, rfl, rfl⟩ | ⟨h1, h2, _⟩
  · rw [if_neg (fun h => hn ⟨h2, h.2.1, by simpa using h.2.2⟩)]
  · rw [if_neg (fun h => by have := h.1; omega)]
theorem txtF_err {l : List UInt8} {e y : Int} (h : e ≠ 0) : txtF l e y = ([], l, e) := by
  unfold txtF; rw [if_neg h]
theorem all_step {l : List UInt8} {k : Nat} (hk : k < l.length) (ha : (l.take k).all (· == 0) = true) (h0 : ¬ (l[k].toNat : Int) ≠ 0) : (l.take (k + 1)).all (· == 0) = true := by
  rw [all_take_succ hk, ha]
  have : l[k] = 0 := UInt8.toNat_inj.1 (by simp; omega)
  rw [this]; rfl
theorem all_stop {l : List UInt8} {k : Nat} (hk : k < l.length) (h0 : (l[k].toNat : Int) ≠ 0) : l.all (· == 0) = false := by
  cases h : l.all (· == 0) with
  | false => rfl
  | true =>
    have := List.all_eq_true.1 h l[k] (List.getElem_mem hk)
    have e : l[k] = 0 := by simpa using this
    rw [e] at h0; exact absurd rfl h0
theorem numF_ok {l : List UInt8} {y : Int} (h : okN l y) : numF l 0 y = (num (l.take y.toNat), l.drop y.toNat, 0) := by
  unfold numF; rw [if_pos rfl, if_pos h]
theorem numF_zero {l : List UInt8} {e y : Int} {m : Nat} {l' : List UInt8} (h : numF l e y = (m, l', 0)) : e = 0 := by
  by_cases he : e = 0
  · exact he
  · rw [numF_err he] at h; cases h; rfl
theorem txtF_first {l : List UInt8} {e most : Int} {m : Nat} {l' : List UInt8} {e' : Int} (h : numF l e 2 = (m, l', e')) (hn : e' ≠ 0) : txtF l e most = ([], l', e') := by
  by_cases he : e = 0
  · subst he
    rcases numF_two h with ⟨_, h2, _⟩ | ⟨_, h2, _, rfl⟩
    · exact absurd h2 hn
    · rw [txtF_no h (by omega), h2]
  · rw [numF_err he] at h; cases h
    exact txtF_err he
theorem num_takeN_lt {l : List UInt8} {y : Int} (hok : y ≤ l.length → okN l y) : num (l.take (takeN l y)) < 9223372036854775808 := by
  by_cases h : y ≤ l.length
  · rw [takeN_yes h]; exact okN_lt (hok h)
  · rw [takeN_no h]; simp [num]
theorem num_step {l : List UInt8} {m k : Nat} (hk : k < m) (hm : m ≤ l.length) (h : num (l.take m) < 9223372036854775808) : 256 * num (l.take k) + (l[k]'(by omega)).toNat < 9223372036854775808 := by
  rw [← num_take_succ l (by omega)]
  exact Nat.lt_of_le_of_lt (num_take_le l (by omega)) h
/-! ### the order of numbers is that of their bytes -/
theorem bytesLess_snoc (c d : UInt8) : ∀ (a b : List UInt8), a.length = b.length → Op.bytesLess (a ++ [c]) (b ++ [d]) = (Op.bytesLess a b || (decide (a = b) && decide (c < d)))
  | [], [], _ => by simp [Op.bytesLess]
  | [], _ :: _, h => by simp at h
  | _ :: _, [], h => by simp at h
  | a :: x, b :: y, h => by
    have ih := bytesLess_snoc c d x y (by simpa using h)
    simp only [List.cons_append, Op.bytesLess, ih]
    by_cases e : a = b
    · subst e
      by_cases e2 : x = y
      · subst e2; simp
      · simp [e2]
    · have e' : (a == b) = false := by simpa using e
      simp [e, e']
theorem nat_pow_lt {x k : Nat} : ((x : Int) < (256 : Int) ^ k) ↔ x < 256 ^ k := by
  rw [show (256 : Int) ^ k = ((256 ^ k : Nat) : Int) from (Int.natCast_pow 256 k).symm]
  omega
theorem be_less_aux : ∀ (w x y : Nat), x < 256 ^ w → y < 256 ^ w → Op.bytesLess (be w x) (be w y) = decide (x < y)
  | 0, x, y, hx, hy => by
    simp at hx hy; subst hx; subst hy; rfl
  | w + 1, x, y, hx, hy => by
    rw [Nat.pow_succ] at hx hy
    have h1 : x / 256 < 256 ^ w := by omega
    have h2 : y / 256 < 256 ^ w := by omega
    unfold be
    rw [bytesLess_snoc _ _ _ _ (by rw [be_length, be_length]), be_less_aux w _ _ h1 h2]
    have h3 : decide (be w (x / 256) = be w (y / 256)) = decide (x / 256 = y / 256) := by
      rw [decide_eq_decide]; exact ⟨be_inj h1 h2, fun h => by rw [h]⟩
    have h4 : decide (UInt8.ofNat (x % 256) < UInt8.ofNat (y % 256)) = decide (x % 256 < y % 256) := by
      rw [decide_eq_decide, UInt8.lt_iff_toNat_lt]
      simp only [UInt8.toNat_ofNat']
      omega
    rw [h3, h4, Bool.eq_iff_iff]
    simp only [Bool.or_eq_true, Bool.and_eq_true, decide_eq_true_eq]
    omega
theorem be_less {x y z : Int} (hx : 1 ≤ z ∧ z ≤ 8 ∧ 0 ≤ x ∧ x < 256 ^ z.toNat) (hy : 1 ≤ z ∧ z ≤ 8 ∧ 0 ≤ y ∧ y < 256 ^ z.toNat) : (Op.bytesLess (be z.toNat x.toNat) (be z.toNat y.toNat) == decide (x < y)) = true := by
  obtain ⟨x, rfl⟩ := Int.eq_ofNat_of_zero_le hx.2.2.1
  obtain ⟨y, rfl⟩ := Int.eq_ofNat_of_zero_le hy.2.2.1
  have h1 : x < 256 ^ z.toNat := nat_pow_lt.1 hx.2.2.2
  have h2 : y < 256 ^ z.toNat := nat_pow_lt.1 hy.2.2.2
  rw [Int.toNat_natCast, Int.toNat_natCast, be_less_aux _ _ _ h1 h2]
  simp
theorem be_same {x y z : Int} (hx : 1 ≤ z ∧ z ≤ 8 ∧ 0 ≤ x ∧ x < 256 ^ z.toNat) (hy : 1 ≤ z ∧ z ≤ 8 ∧ 0 ≤ y ∧ y < 256 ^ z.toNat) : (decide (be z.toNat x.toNat = be z.toNat y.toNat) == decide (x = y)) = true := by
  obtain ⟨x, rfl⟩ := Int.eq_ofNat_of_zero_le hx.2.2.1
  obtain ⟨y, rfl⟩ := Int.eq_ofNat_of_zero_le hy.2.2.1
  have h1 : x < 256 ^ z.toNat := nat_pow_lt.1 hx.2.2.2
  have h2 : y < 256 ^ z.toNat := nat_pow_lt.1 hy.2.2.2
  rw [Int.toNat_natCast, Int.toNat_natCast, beq_iff_eq, decide_eq_decide]
  exact ⟨fun h => congrArg Nat.cast (be_inj h1 h2 h), fun h => by rw [show x = y by omega]⟩
theorem numF_length (l : List UInt8) (e y : Int) : (numF l e y).2.1.length ≤ l.length := by
  unfold numF; split
  · split <;> simp
  · exact Nat.le_refl _
theorem txtF_length (l : List UInt8) (e y : Int) : (txtF l e y).2.1.length ≤ l.length := by
  unfold txtF; split
  · split <;> simp <;> omega
  · exact Nat.le_refl _
/-! ### any number's bytes -/
theorem u8_wrap (z : Int) : 0 ≤ IntKind.u8.wrap z ∧ IntKind.u8.wrap z < 256 := by
  simp only [IntKind.wrap, IntKind.bits, IntKind.signed, Bool.false_and]
  simp only [Bool.false_eq_true, if_false]
  omega
def byteI (x : Int) : UInt8 := UInt8.ofNat (IntKind.u8.wrap (x.tmod 256)).toNat
theorem byteI_spec (x : Int) : IntKind.u8.wrap (x.tmod 256) = ((byteI x).toNat : Int) := by
  have := u8_wrap (x.tmod 256)
  unfold byteI
  simp only [UInt8.toNat_ofNat']
  omega
def bi : Nat → Int → List UInt8
  | 0, _ => []
  | w + 1, x => bi w (x.tdiv 256) ++ [byteI x]
theorem bi_length : ∀ w x, (bi w x).length = w
  | 0, _ => rfl
  | w + 1, x => by simp [bi, bi_length w]
theorem byteI_nat (x : Nat) : byteI (x : Int) = UInt8.ofNat (x % 256) := by
  unfold byteI
  rw [show ((x : Int).tmod 256) = ((x % 256 : Nat) : Int) by rw [Int.tmod_eq_emod_of_nonneg (by omega)]; omega, wrap_u8 (by omega)]
  rfl
theorem bi_nat : ∀ (w x : Nat), bi w (x : Int) = be w x
  | 0, _ => rfl
  | w + 1, x => by
    unfold bi be
    rw [byteI_nat, show ((x : Int).tdiv 256) = ((x / 256 : Nat) : Int) by rw [Int.tdiv_eq_ediv_of_nonneg (by omega)]; omega, bi_nat w]
theorem tdiv_bounds {x : Int} (h : -9223372036854775808 ≤ x ∧ x ≤ 9223372036854775807) : -9223372036854775808 ≤ x.tdiv 256 ∧ x.tdiv 256 ≤ 9223372036854775807 := by
  rcases Int.le_total 0 x with h0 | h0
  · rw [Int.tdiv_eq_ediv_of_nonneg h0]; omega
  · obtain ⟨y, rfl⟩ : ∃ y : Int, x = -y := ⟨-x, by omega⟩
    rw [Int.neg_tdiv, Int.tdiv_eq_ediv_of_nonneg (by omega)]; omega
end Brv.Pack
