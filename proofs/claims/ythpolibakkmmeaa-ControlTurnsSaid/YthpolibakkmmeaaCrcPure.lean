/-
  Sums of bytes, in plain Lean: the program's step by bytes, the document's bit by bit, that they agree, and that one unlike byte is told.
-/
import Derived.Test.YthpolibakkmmeaaC6
set_option linter.unusedVariables false
namespace Brv.Crc
open Go Brv

def half (r : UInt32) : UInt32 := if r % 2 = 1 then (r >>> 1) ^^^ 0xedb88320 else r >>> 1
def halves : Nat → UInt32 → UInt32
  | 0, r => r
  | n + 1, r => half (halves n r)
def stepF (r : UInt32) (c : UInt8) : UInt32 := halves 8 (r ^^^ c.toUInt32)
def restF (r : UInt32) (l : List UInt8) : UInt32 := l.foldl stepF r
def joinF (was : UInt32) (l : List UInt8) : UInt32 := ~~~ (restF (~~~ was) l)

def v32 (r : UInt32) : Value := .int .u32 (r.toNat : Int)

theorem bv_ofInt_nat (n x : Nat) : BitVec.ofInt n (x : Int) = BitVec.ofNat n x := by simp [BitVec.ofInt_natCast]
theorem xorI_u32 (a b : UInt32) : xorI .u32 (a.toNat : Int) (b.toNat : Int) = ((a ^^^ b).toNat : Int) := by
  unfold xorI
  show IntKind.u32.wrap (((BitVec.ofInt 32 (a.toNat : Int) ^^^ BitVec.ofInt 32 (b.toNat : Int)).toNat : Nat) : Int) = _
  rw [bv_ofInt_nat, bv_ofInt_nat]
  have ha : BitVec.ofNat 32 a.toNat = a.toBitVec := by simp
  have hb : BitVec.ofNat 32 b.toNat = b.toBitVec := by simp
  rw [ha, hb]
  have : (a.toBitVec ^^^ b.toBitVec).toNat = (a ^^^ b).toNat := by simp
  rw [this]
  exact wrap_u32 (by have := (a ^^^ b).toNat_lt; omega)
theorem compl_u32 (a : UInt32) : xorI .u32 (if IntKind.u32.signed then -1 else IntKind.u32.max) (a.toNat : Int) = ((~~~ a).toNat : Int) := by
  have h1 : (if IntKind.u32.signed then -1 else IntKind.u32.max) = (((0xffffffff : UInt32).toNat : Nat) : Int) := by decide
  rw [h1, xorI_u32]
  congr 2
theorem shr1_u32 (a : UInt32) : (a.toNat : Int).fdiv (2 ^ (Min.min (1 : Int).toNat (IntKind.u32.bits))) = ((a >>> 1).toNat : Int) := by
  have h : (2 : Int) ^ (Min.min (1 : Int).toNat (IntKind.u32.bits)) = 2 := by decide
  rw [h, Int.fdiv_eq_ediv_of_nonneg _ (by decide)]
  rw [UInt32.toNat_shiftRight]
  simp [Nat.shiftRight_eq_div_pow]
theorem lt_u32 (a : UInt32) : a.toNat < 4294967296 := a.toNat_lt
theorem lt_u8 (a : UInt8) : a.toNat < 256 := a.toNat_lt
theorem odd_u32 (a : UInt32) : ((a.toNat : Int) % 2 = 1) ↔ (a % 2 = 1) := by
  rw [← UInt32.toNat_inj]
  simp [UInt32.toNat_mod]
  omega
theorem half_t {a : UInt32} (h : (a.toNat : Int) % 2 = 1) : half a = (a >>> 1) ^^^ 0xedb88320 := by unfold half; rw [if_pos ((odd_u32 a).1 h)]
theorem half_f {a : UInt32} (h : ¬ (a.toNat : Int) % 2 = 1) : half a = a >>> 1 := by unfold half; rw [if_neg (fun h' => h ((odd_u32 a).2 h'))]
theorem restF_snoc (r : UInt32) (l : List UInt8) (k : Nat) (h : k < l.length) : restF r (l.take (k + 1)) = stepF (restF r (l.take k)) l[k] := by
  unfold restF
  rw [List.take_succ_eq_append_getElem h, List.foldl_append]
  rfl

/-! ### half, bit by bit -/
theorem mod2_lsb (x : UInt32) : (x % 2 = 1) ↔ x.toBitVec.getLsbD 0 = true := by
  rw [← UInt32.toNat_inj]
  simp [UInt32.toNat_mod, BitVec.getLsbD, Nat.testBit_zero]
theorem half_bits (x : UInt32) (i : Nat) (hi : i < 32) : (half x).toBitVec.getLsbD i = ((x.toBitVec.getLsbD (i + 1)) ^^ (x.toBitVec.getLsbD 0 && (0xedb88320 : BitVec 32).getLsbD i)) := by
  have hs : (x >>> 1).toBitVec.getLsbD i = x.toBitVec.getLsbD (i + 1) := by
    rw [UInt32.toBitVec_shiftRight]
    simp [Nat.add_comm]
  unfold half
  split
  · rename_i h
    rw [(mod2_lsb x).1 h]
    simp only [UInt32.toBitVec_xor, BitVec.getLsbD_xor, hs, Bool.true_and]
    rfl
  · rename_i h
    have : x.toBitVec.getLsbD 0 = false := by
      cases hb : x.toBitVec.getLsbD 0 with
      | false => rfl
      | true => exact absurd ((mod2_lsb x).2 hb) h
    rw [this, hs]; simp
theorem u32_ext {x y : UInt32} (h : ∀ i, i < 32 → x.toBitVec.getLsbD i = y.toBitVec.getLsbD i) : x = y :=
  UInt32.toBitVec_inj.1 (BitVec.eq_of_getLsbD_eq fun i hi => h i hi)
theorem half_xor (x y : UInt32) : half (x ^^^ y) = half x ^^^ half y := by
  refine u32_ext fun i hi => ?_
  simp only [UInt32.toBitVec_xor, BitVec.getLsbD_xor]
  rw [half_bits _ _ hi, half_bits _ _ hi, half_bits _ _ hi]
  simp only [UInt32.toBitVec_xor, BitVec.getLsbD_xor]
  cases x.toBitVec.getLsbD (i+1) <;> cases y.toBitVec.getLsbD (i+1) <;> cases x.toBitVec.getLsbD 0 <;> cases y.toBitVec.getLsbD 0 <;> cases (0xedb88320 : BitVec 32).getLsbD i <;> rfl
theorem half_inj {x y : UInt32} (h : half x = half y) : x = y := by
  have h31 : x.toBitVec.getLsbD 0 = y.toBitVec.getLsbD 0 := by
    have h1 := half_bits x 31 (by omega)
    have h2 := half_bits y 31 (by omega)
    rw [h] at h1
    rw [h1] at h2
    have hx : x.toBitVec.getLsbD 32 = false := BitVec.getLsbD_of_ge _ _ (by omega)
    have hy : y.toBitVec.getLsbD 32 = false := BitVec.getLsbD_of_ge _ _ (by omega)
    have hp : (0xedb88320 : BitVec 32).getLsbD 31 = true := by decide
    rw [hx, hy, hp] at h2
    simpa using h2
  refine u32_ext fun i hi => ?_
  cases i with
  | zero => exact h31
  | succ i =>
    have h1 := half_bits x i (by omega)
    have h2 := half_bits y i (by omega)
    rw [h] at h1
    rw [h1, h31] at h2
    cases hb : (y.toBitVec.getLsbD 0 && (0xedb88320 : BitVec 32).getLsbD i) <;> rw [hb] at h2 <;> simpa using h2
theorem halves_inj {x y : UInt32} : ∀ {n : Nat}, halves n x = halves n y → x = y
  | 0, h => h
  | _ + 1, h => halves_inj (half_inj h)
theorem xor_inj_right {a x y : UInt32} (h : x ^^^ a = y ^^^ a) : x = y := by
  have : x ^^^ a ^^^ a = y ^^^ a ^^^ a := by rw [h]
  simpa [UInt32.xor_assoc] using this
theorem xor_inj_left {a x y : UInt32} (h : a ^^^ x = a ^^^ y) : x = y := xor_inj_right (a := a) (by rw [UInt32.xor_comm, h, UInt32.xor_comm])
theorem stepF_inj {x y : UInt32} {c : UInt8} (h : stepF x c = stepF y c) : x = y := xor_inj_right (halves_inj h)
theorem stepF_inj_c {x : UInt32} {c d : UInt8} (h : stepF x c = stepF x d) : c = d := by
  have := xor_inj_left (halves_inj h)
  rw [← UInt32.toNat_inj] at this
  rw [← UInt8.toNat_inj]
  simpa using this
theorem restF_inj : ∀ {l : List UInt8} {x y : UInt32}, restF x l = restF y l → x = y
  | [], _, _, h => h
  | c :: l, x, y, h => stepF_inj (restF_inj (l := l) h)
theorem not_inj {x y : UInt32} (h : ~~~ x = ~~~ y) : x = y := by simpa using h
theorem joinF_append (r : UInt32) (a b : List UInt8) : joinF r (a ++ b) = joinF (joinF r a) b := by
  simp [joinF, restF]
/-- One unlike byte is told. -/
theorem joinF_set {r : UInt32} {l : List UInt8} {n : Nat} {c : UInt8} (hn : n < l.length) : joinF r (l.set n c) = joinF r l ↔ c = l[n] := by
  constructor
  · intro h
    have h1 : l.set n c = l.take n ++ c :: l.drop (n + 1) := List.set_eq_take_append_cons_drop .. |>.trans (by simp [hn])
    have h2 : l = l.take n ++ l[n] :: l.drop (n + 1) := by simp
    rw [h1] at h
    conv at h => rhs; rw [h2]
    have h3 := not_inj h
    simp only [restF, List.foldl_append, List.foldl_cons] at h3
    exact stepF_inj_c (restF_inj (l := l.drop (n + 1)) h3)
  · intro h; subst h; simp

/-! ### the document's sum, bit by bit -/
def oneF (q : UInt32) (c : UInt8) (j : Nat) : Bool := (decide ((q.toNat : Int) % 2 = 1)) != (decide ((c.toNat : Int) / 2 ^ j % 2 = 1))
def bitF (q : UInt32) (c : UInt8) (j : Nat) : UInt32 := if oneF q c j then (q >>> 1) ^^^ 0xedb88320 else q >>> 1
def bitsF (q : UInt32) (c : UInt8) : Nat → UInt32
  | 0 => q
  | j + 1 => bitF (bitsF q c j) c j
/-- The rest behind i bits. -/
def refR (r : UInt32) (l : List UInt8) (i : Nat) : UInt32 := bitsF (restF r (l.take (i / 8))) (l.getD (i / 8) 0) (i % 8)
def hi (c : UInt8) (j : Nat) : UInt32 := c.toUInt32 >>> j.toUInt32
theorem hi_bits (c : UInt8) (j i : Nat) (hj : j < 32) : (hi c j).toBitVec.getLsbD i = c.toBitVec.getLsbD (j + i) := by
  unfold hi
  rw [UInt32.toBitVec_shiftRight]
  have e : (j.toUInt32.toBitVec % 32).toNat = j := by
    simp only [Nat.toUInt32, UInt32.toBitVec_ofNat', BitVec.toNat_umod, BitVec.toNat_ofNat]
    have : j % 2 ^ 32 = j := Nat.mod_eq_of_lt (by omega)
    rw [this]
    show j % 32 = j
    exact Nat.mod_eq_of_lt hj
  simp only [BitVec.ushiftRight_eq', BitVec.getLsbD_ushiftRight, e]
  simp
  intro h
  have := BitVec.lt_of_getLsbD h
  omega
theorem hi_zero (c : UInt8) : hi c 0 = c.toUInt32 := u32_ext fun i _ => by rw [hi_bits _ _ _ (by omega)]; simp; intro h; have := BitVec.lt_of_getLsbD h; omega
theorem hi_eight (c : UInt8) : hi c 8 = 0 := u32_ext fun i _ => by rw [hi_bits _ _ _ (by omega)]; simp
theorem bit_lsb (c : UInt8) (j : Nat) : ((c.toNat : Int) / 2 ^ j % 2 = 1) ↔ c.toBitVec.getLsbD j = true := by
  have h1 : ((c.toNat : Int) / 2 ^ j % 2 = 1) ↔ (c.toNat / 2 ^ j % 2 = 1) := by
    have : ((c.toNat : Int) / 2 ^ j % 2) = ((c.toNat / 2 ^ j % 2 : Nat) : Int) := by
      rw [Int.natCast_emod, Int.natCast_ediv, Int.natCast_pow]; rfl
    rw [this]; omega
  rw [h1]
  show _ ↔ c.toNat.testBit j = true
  rw [Nat.testBit_eq_decide_div_mod_eq]
  simp
/-- A bit's step is half of the rest with the bits that are left, less those. -/
theorem bitF_half (q : UInt32) (c : UInt8) (j : Nat) (hj : j < 8) : bitF q c j ^^^ hi c (j + 1) = half (q ^^^ hi c j) := by
  refine u32_ext fun i hi' => ?_
  rw [half_bits _ _ hi']
  have hone : oneF q c j = (q.toBitVec.getLsbD 0 ^^ c.toBitVec.getLsbD j) := by
    unfold oneF
    have e1 : decide ((q.toNat : Int) % 2 = 1) = q.toBitVec.getLsbD 0 := by rw [Bool.eq_iff_iff]; simp only [decide_eq_true_eq]; rw [odd_u32, mod2_lsb]
    have e2 : decide ((c.toNat : Int) / 2 ^ j % 2 = 1) = c.toBitVec.getLsbD j := by rw [Bool.eq_iff_iff]; simp only [decide_eq_true_eq]; exact bit_lsb c j
    rw [e1, e2]
  have hq : (bitF q c j).toBitVec.getLsbD i = (q.toBitVec.getLsbD (i + 1) ^^ (oneF q c j && (0xedb88320 : BitVec 32).getLsbD i)) := by
    have hs : (q >>> 1).toBitVec.getLsbD i = q.toBitVec.getLsbD (i + 1) := by
      rw [UInt32.toBitVec_shiftRight]; simp [Nat.add_comm]
    unfold bitF
    split
    · rename_i h; rw [h]; simp only [UInt32.toBitVec_xor, BitVec.getLsbD_xor, hs, Bool.true_and]; rfl
    · rename_i h
      have : oneF q c j = false := by simpa using h
      rw [this, hs]; simp
  simp only [UInt32.toBitVec_xor, BitVec.getLsbD_xor, hq, hone]
  rw [hi_bits _ _ _ (by omega), hi_bits _ _ _ (by omega), hi_bits _ _ _ (by omega)]
  have e3 : j + 1 + i = j + (i + 1) := by omega
  rw [e3, Nat.add_zero]
  cases q.toBitVec.getLsbD (i+1) <;> cases c.toBitVec.getLsbD (j+(i+1)) <;> cases q.toBitVec.getLsbD 0 <;> cases c.toBitVec.getLsbD j <;> cases (0xedb88320 : BitVec 32).getLsbD i <;> rfl
theorem bitsF_halves (q : UInt32) (c : UInt8) : ∀ (j : Nat), j ≤ 8 → bitsF q c j ^^^ hi c j = halves j (q ^^^ c.toUInt32)
  | 0, _ => by rw [hi_zero]; rfl
  | j + 1, h => by
    show bitF (bitsF q c j) c j ^^^ hi c (j + 1) = half (halves j (q ^^^ c.toUInt32))
    rw [bitF_half _ _ _ (by omega), bitsF_halves q c j (by omega)]
theorem bitsF_eight (q : UInt32) (c : UInt8) : bitsF q c 8 = stepF q c := by
  have := bitsF_halves q c 8 (Nat.le_refl _)
  rw [hi_eight] at this
  simpa [stepF] using this
theorem refR_next (r : UInt32) (l : List UInt8) (i : Nat) (hi : i < 8 * l.length) : refR r l (i + 1) = bitF (refR r l i) (l.getD (i / 8) 0) (i % 8) := by
  unfold refR
  by_cases h : i % 8 = 7
  · have e1 : (i + 1) / 8 = i / 8 + 1 := by omega
    have e2 : (i + 1) % 8 = 0 := by omega
    rw [e1, e2]
    show restF r (l.take (i / 8 + 1)) = _
    have hlt : i / 8 < l.length := by omega
    rw [restF_snoc r l _ hlt, ← bitsF_eight, h]
    have : l.getD (i / 8) 0 = l[i / 8] := by simp [List.getD, hlt]
    rw [this]; rfl
  · have e1 : (i + 1) / 8 = i / 8 := by omega
    have e2 : (i + 1) % 8 = i % 8 + 1 := by omega
    rw [e1, e2]; rfl
theorem refR_end (r : UInt32) (l : List UInt8) : refR r l (8 * l.length) = restF r l := by
  unfold refR
  have e1 : 8 * l.length / 8 = l.length := by omega
  have e2 : 8 * l.length % 8 = 0 := by omega
  rw [e1, e2, List.take_length]; rfl

/-! ### marks -/
def fourF (v : UInt32) : List UInt8 := [v.toUInt8, (v >>> 8).toUInt8, (v >>> 16).toUInt8, (v >>> 24).toUInt8]
def markF (l : List UInt8) : List UInt8 := if l.length < 4 then l else l.take (l.length - 4) ++ fourF (joinF 0 (l.take (l.length - 4)))
def goodF (l : List UInt8) : Bool := decide (4 ≤ l.length) && decide (markF l = l)
theorem markF_length (l : List UInt8) : (markF l).length = l.length := by
  unfold markF
  split
  · rfl
  · simp [fourF]; omega

theorem byte_shift (v : UInt32) (k : Nat) (hk : k < 4) : IntKind.u8.wrap ((v.toNat : Int).fdiv (2 ^ (Min.min ((8 : Int) * (k : Int)).toNat IntKind.u32.bits))) = (((fourF v).getD k 0).toNat : Int) := by
  have gen : ∀ j : Nat, j < 4 → IntKind.u8.wrap ((v.toNat : Int).fdiv (2 ^ (8 * j))) = ((v >>> (8 * j).toUInt32).toUInt8.toNat : Int) := by
    intro j hj
    rw [Int.fdiv_eq_ediv_of_nonneg _ (by apply Int.le_of_lt; apply Int.pow_pos; decide)]
    simp only [IntKind.wrap, IntKind.bits, IntKind.signed, Bool.false_and]
    rw [UInt32.toNat_toUInt8, UInt32.toNat_shiftRight]
    have e : (8 * j).toUInt32.toNat % 32 = 8 * j := by
      simp only [Nat.toUInt32, UInt32.toNat_ofNat']
      omega
    rw [e, Nat.shiftRight_eq_div_pow]
    rw [Int.natCast_emod, Int.natCast_ediv, Int.natCast_pow]
    rfl
  have e : Min.min ((8 : Int) * (k : Int)).toNat IntKind.u32.bits = 8 * k := by
    have : IntKind.u32.bits = 32 := rfl
    rw [this]; omega
  rw [e, gen k hk]
  have : k = 0 ∨ k = 1 ∨ k = 2 ∨ k = 3 := by omega
  rcases this with rfl | rfl | rfl | rfl <;> simp [fourF] <;> rfl
theorem four_0 (v : UInt32) : IntKind.u8.wrap ((v.toNat : Int) % 256) = (v.toUInt8.toNat : Int) := by
  simp only [IntKind.wrap, IntKind.bits, IntKind.signed, Bool.false_and]
  rw [UInt32.toNat_toUInt8]
  simp
theorem four_k (v : UInt32) (j d : Nat) (hj : j < 32) (hd : d = 2 ^ j) : IntKind.u32.wrap ((v.toNat : Int).tdiv (d : Int)) = ((v >>> j.toUInt32).toNat : Int) := by
  rw [Int.tdiv_eq_ediv_of_nonneg (by omega), UInt32.toNat_shiftRight]
  have e : j.toUInt32.toNat % 32 = j := by
    simp only [Nat.toUInt32, UInt32.toNat_ofNat']
    omega
  rw [e, Nat.shiftRight_eq_div_pow, hd, wrap_u32]
  · rw [Int.natCast_ediv]
  · have := lt_u32 v
    have h1 : 0 ≤ (v.toNat : Int) / ((2 ^ j : Nat) : Int) := Int.ediv_nonneg (by omega) (by omega)
    have h2 : (v.toNat : Int) / ((2 ^ j : Nat) : Int) ≤ (v.toNat : Int) := Int.ediv_le_self _ (by omega)
    omega
/-- What Mark has written behind k bytes of the sum. -/
def partF (l : List UInt8) (m : Nat) (v : UInt32) (k : Nat) : List UInt8 := l.take m ++ ((fourF v).take k ++ l.drop (m + k))
theorem partF_zero (l : List UInt8) (m : Nat) (v : UInt32) : partF l m v 0 = l := by simp [partF]
theorem partF_next (l : List UInt8) (m : Nat) (v : UInt32) (k : Nat) (hk : k < 4) (hl : l.length = m + 4) : (partF l m v k).set (m + k) ((fourF v).getD k 0) = partF l m v (k + 1) := by
  unfold partF
  have h4 : (fourF v).length = 4 := rfl
  have ht : (l.take m).length = m := by simp; omega
  have ht4 : ((fourF v).take k).length = k := by simp; omega
  rw [List.set_append_right _ _ (by omega), List.set_append_right _ _ (by omega)]
  have e1 : m + k - (l.take m).length - ((fourF v).take k).length = 0 := by omega
  have e2 : (fourF v).take (k + 1) = (fourF v).take k ++ [(fourF v).getD k 0] := by
    rw [List.take_succ_eq_append_getElem (by omega)]
    simp [List.getD, h4, hk]
  rw [e1, List.drop_eq_getElem_cons (by omega), List.set_cons_zero, e2]
  simp [Nat.add_assoc]
theorem partF_end (l : List UInt8) (v : UInt32) (hl : 4 ≤ l.length) (hv : v = joinF 0 (l.take (l.length - 4))) : partF l (l.length - 4) v 4 = markF l := by
  unfold partF markF
  rw [if_neg (by omega), hv]
  have : (fourF (joinF 0 (l.take (l.length - 4)))).take 4 = fourF (joinF 0 (l.take (l.length - 4))) := rfl
  rw [this, List.drop_eq_nil_of_le (by omega)]
  simp

theorem compl_sub (r : UInt32) : IntKind.u32.wrap (4294967295 - (r.toNat : Int)) = ((~~~ r).toNat : Int) := by
  have := lt_u32 r
  rw [wrap_u32 (by omega)]
  rw [UInt32.toNat_not]
  show _ = ((4294967296 - 1 - r.toNat : Nat) : Int)
  omega
theorem wrap_u64 {z : Int} (h : 0 ≤ z ∧ z ≤ 18446744073709551615) : IntKind.u64.wrap z = z := by
  simp only [IntKind.wrap, IntKind.bits, IntKind.signed]
  simp; omega
theorem shr_u8 (x : UInt8) (j : Nat) (hj : j < 8) : (x.toNat : Int).fdiv (2 ^ (Min.min ((j : Int)).toNat IntKind.u8.bits)) = (x.toNat : Int) / 2 ^ j := by
  have : IntKind.u8.bits = 8 := rfl
  rw [this, show Min.min ((j : Int)).toNat 8 = j by omega]
  exact Int.fdiv_eq_ediv_of_nonneg _ (by apply Int.le_of_lt; apply Int.pow_pos; decide)
theorem four_top (v : UInt32) : IntKind.u8.wrap (((v >>> 24).toNat : Int)) = ((v >>> 24).toUInt8.toNat : Int) := by
  have h1 : (v >>> 24).toNat < 256 := by
    rw [UInt32.toNat_shiftRight]
    have := lt_u32 v
    show v.toNat >>> 24 < 256
    rw [Nat.shiftRight_eq_div_pow]
    omega
  rw [wrap_u8 (by omega), UInt32.toNat_toUInt8]
  omega
theorem toNat_u32 (a b : UInt32) : ((a.toNat : Int) = (b.toNat : Int)) ↔ a = b := ⟨fun h => UInt32.toNat_inj.1 (by omega), fun h => by rw [h]⟩
theorem toNat_u8 (a b : UInt8) : ((a.toNat : Int) = (b.toNat : Int)) ↔ a = b := ⟨fun h => UInt8.toNat_inj.1 (by omega), fun h => by rw [h]⟩
theorem joins_end {l : List UInt8} {k : Nat} {y : UInt8} (h : k < l.length) : (decide (((joinF 0 (l.set k y)).toNat : Int) = ((joinF 0 l).toNat : Int)) == decide ((y.toNat : Int) = (l[k].toNat : Int))) = true := by
  simp only [toNat_u32, toNat_u8, joinF_set h, beq_self_eq_true]
/-! ### one bit that is turned is told -/
theorem fourF_inj {x y : UInt32} (h : fourF x = fourF y) : x = y := by
  simp only [fourF, List.cons.injEq, and_true] at h
  obtain ⟨h0, h1, h2, h3⟩ := h
  have e0 := congrArg UInt8.toNat h0
  have e1 := congrArg UInt8.toNat h1
  have e2 := congrArg UInt8.toNat h2
  have e3 := congrArg UInt8.toNat h3
  simp only [UInt32.toNat_toUInt8, UInt32.toNat_shiftRight, Nat.shiftRight_eq_div_pow] at e0 e1 e2 e3
  rw [show (8 : UInt32).toNat % 32 = 8 by decide] at e1
  rw [show (16 : UInt32).toNat % 32 = 16 by decide] at e2
  rw [show (24 : UInt32).toNat % 32 = 24 by decide] at e3
  have hx := lt_u32 x
  have hy := lt_u32 y
  exact UInt32.toNat_inj.1 (by omega)
theorem goodF_iff (x : List UInt8) : goodF x = true ↔ 4 ≤ x.length ∧ x.drop (x.length - 4) = fourF (joinF 0 (x.take (x.length - 4))) := by
  unfold goodF
  rw [Bool.and_eq_true, decide_eq_true_iff, decide_eq_true_iff]
  constructor
  · rintro ⟨h, e⟩
    refine ⟨h, ?_⟩
    unfold markF at e
    rw [if_neg (by omega)] at e
    have := congrArg (List.drop (x.length - 4)) e
    rw [List.drop_left' (by simp)] at this
    exact this.symm
  · rintro ⟨h, e⟩
    refine ⟨h, ?_⟩
    unfold markF
    rw [if_neg (by omega), ← e, List.take_append_drop]
theorem good_mark {l : List UInt8} (h : 4 ≤ l.length) : goodF (markF l) = true := by
  rw [goodF_iff, markF_length]
  refine ⟨h, ?_⟩
  unfold markF
  rw [if_neg (by omega), List.drop_left' (by simp), List.take_left' (by simp)]
theorem good_set {x : List UInt8} (hg : goodF x = true) {j : Nat} (hj : j < x.length) {y : UInt8} (hy : y ≠ x[j]) : goodF (x.set j y) = false := by
  obtain ⟨h4, e⟩ := (goodF_iff x).1 hg
  cases hq : goodF (x.set j y) with
  | false => rfl
  | true =>
    exfalso
    obtain ⟨_, e'⟩ := (goodF_iff _).1 hq
    rw [List.length_set] at e'
    by_cases hlt : j < x.length - 4
    · rw [List.drop_set_of_lt hlt, e, List.take_set] at e'
      have := fourF_inj e'
      rw [eq_comm, joinF_set (by simp; omega)] at this
      exact hy (by rw [this]; simp)
    · rw [List.take_set_of_le (by omega), ← e] at e'
      have := congrArg (fun q => q[j - (x.length - 4)]?) e'
      simp only [List.getElem?_drop, show x.length - 4 + (j - (x.length - 4)) = j by omega, List.getElem?_set_self hj, List.getElem?_eq_getElem hj] at this
      exact hy (Option.some.inj this)
theorem xorI_u8 (a b : UInt8) : xorI .u8 (a.toNat : Int) (b.toNat : Int) = ((a ^^^ b).toNat : Int) := by
  unfold xorI
  show IntKind.u8.wrap (((BitVec.ofInt 8 (a.toNat : Int) ^^^ BitVec.ofInt 8 (b.toNat : Int)).toNat : Nat) : Int) = _
  rw [bv_ofInt_nat, bv_ofInt_nat]
  have ha : BitVec.ofNat 8 a.toNat = a.toBitVec := by simp
  have hb : BitVec.ofNat 8 b.toNat = b.toBitVec := by simp
  rw [ha, hb]
  have : (a.toBitVec ^^^ b.toBitVec).toNat = (a ^^^ b).toNat := by simp
  rw [this]
  exact wrap_u8 (by have := (a ^^^ b).toNat_lt; omega)
def oneBit (m : Nat) : UInt8 := UInt8.ofNat (2 ^ m)
theorem shl_u8 {m : Nat} (h : m < 8) : IntKind.u8.wrap (1 * 2 ^ (Min.min ((m : Nat) : Int).toNat IntKind.u8.bits)) = ((oneBit m).toNat : Int) := by
  have : ∀ m, m < 8 → IntKind.u8.wrap (1 * 2 ^ (Min.min ((m : Nat) : Int).toNat IntKind.u8.bits)) = ((oneBit m).toNat : Int) := by decide +kernel
  exact this m h
theorem xor_one {x : UInt8} {m : Nat} (h : m < 8) : x ^^^ oneBit m ≠ x := by
  intro e
  have h0 : oneBit m ≠ 0 := by
    have : ∀ m, m < 8 → oneBit m ≠ 0 := by decide +kernel
    exact this m h
  have := congrArg (fun z => x ^^^ z) e
  simp only [← UInt8.xor_assoc, UInt8.xor_self, UInt8.zero_xor] at this
  exact h0 this
end Brv.Crc
