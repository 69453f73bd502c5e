/-
  What the operations write, and that it is read again.
-/
import Derived.Test.YtfbkbobphjncfaaPackB
import Derived.Test.YtfbkbobphjncfaaC8
set_option linter.unusedVariables false
namespace Go.Proofs.Ytfbkbobphjncfaa
open Go Brv Brv.Crc Brv.Pack
def wrote (o : OpV) : Bool := if o.Kind'.tmod 2 = 0 then fitsF o.N' o.W' else true
def encOp (o : OpV) : List UInt8 := if o.Kind'.tmod 2 = 0 then be o.W'.toNat o.N'.toNat else textF o.B'
def encL (os : List OpV) : List UInt8 := (os.map encOp).flatten
def dnOps (os : List OpV) : List OpV := os.filter wrote
def cellsL (os : List OpV) : List Value := (os.map OpV.cells).flatten
theorem dnOps_succ {os : List OpV} {k : Nat} (h : k < os.length) : dnOps (os.take (k + 1)) = dnOps (os.take k) ++ (if wrote os[k] then [os[k]] else []) := by
  unfold dnOps
  rw [List.take_succ_eq_append_getElem h, List.filter_append]
  congr 1
  simp only [List.filter_cons, List.filter_nil]
theorem encL_append (a b : List OpV) : encL (a ++ b) = encL a ++ encL b := by simp [encL]
theorem cellsL_append (a b : List OpV) : cellsL (a ++ b) = cellsL a ++ cellsL b := by simp [cellsL]
theorem encL_one (o : OpV) : encL [o] = encOp o := by simp [encL]
theorem cellsL_one (o : OpV) : cellsL [o] = o.cells := by simp [cellsL]
theorem cellsL_length : ∀ os : List OpV, (cellsL os).length = os.length * 4
  | [] => rfl
  | o :: r => by
    have := cellsL_length r
    simp only [cellsL, List.map_cons, List.flatten_cons, List.length_append] at *
    rw [this]; simp [OpV.cells]; omega
theorem encL_cons (o : OpV) (r : List OpV) : encL (o :: r) = encOp o ++ encL r := by simp [encL]
theorem encL_drop_le (os : List OpV) (j : Nat) : (encL (os.drop j)).length ≤ (encL os).length := by
  conv => rhs; rw [← List.take_append_drop j os]
  rw [encL_append, List.length_append]; omega
theorem dn_mem {os : List OpV} {o : OpV} (h : o ∈ dnOps os) : o ∈ os ∧ wrote o = true := by
  unfold dnOps at h; exact List.mem_filter.1 h
theorem encOp_num {o : OpV} (h : o.Kind'.tmod 2 = 0) : encOp o = be o.W'.toNat o.N'.toNat := if_pos h
theorem encOp_text {o : OpV} (h : ¬ o.Kind'.tmod 2 = 0) : encOp o = textF o.B' := if_neg h
theorem wrote_num {o : OpV} (h : o.Kind'.tmod 2 = 0) : wrote o = fitsF o.N' o.W' := if_pos h
theorem wrote_text {o : OpV} (h : ¬ o.Kind'.tmod 2 = 0) : wrote o = true := if_neg h
/-- What was written is read. -/
theorem numF_be {x y : Int} (r : List UInt8) (hf : fitsF x y = true) (hx : x ≤ 9223372036854775807) : numF (be y.toNat x.toNat ++ r) 0 y = (x.toNat, r, 0) := by
  obtain ⟨h1, h8, h0, hlt⟩ := fitsF_spec.1 hf
  have hl := be_length y.toNat x.toNat
  have hlt' : x.toNat < 256 ^ y.toNat := by
    obtain ⟨x, rfl⟩ := Int.eq_ofNat_of_zero_le h0
    exact nat_pow_lt.1 hlt
  have hok : okN (be y.toNat x.toNat ++ r) y := by
    refine ⟨h1, h8, by rw [List.length_append, hl]; omega, fun h => ?_⟩
    have hg : (be y.toNat x.toNat ++ r).getD 0 0 = UInt8.ofNat (x.toNat / 256 ^ (y.toNat - 1 - 0) % 256) := by
      rw [List.getD_eq_getElem?_getD, List.getElem?_append_left (by omega), be_get _ _ _ (by omega)]; rfl
    rw [hg, h]
    simp only [UInt8.toNat_ofNat']
    have : x.toNat / 256 ^ ((8 : Int).toNat - 1 - 0) < 128 := by
      rw [Nat.div_lt_iff_lt_mul (by decide)]
      exact Nat.lt_of_le_of_lt (show x.toNat ≤ 9223372036854775807 by omega) (by decide)
    generalize x.toNat / 256 ^ ((8 : Int).toNat - 1 - 0) = t at *
    omega
  rw [numF_ok hok, List.take_left' hl, List.drop_left' hl, num_be _ _ hlt']
theorem txtF_text {l : List UInt8} (r : List UInt8) {m : Int} (hl : l.length ≤ m) (h : l.length ≤ 65535) : txtF (textF l ++ r) 0 m = (l, r, 0) := by
  have h2 : (be 2 l.length).length = 2 := be_length _ _
  have hlt : l.length < 256 ^ 2 := by show l.length < 65536; omega
  have ht : (textF l ++ r).take 2 = be 2 l.length := by unfold textF; rw [List.append_assoc, List.take_left' h2]
  have hd : (textF l ++ r).drop 2 = l ++ r := by unfold textF; rw [List.append_assoc, List.drop_left' h2]
  unfold txtF
  rw [if_pos rfl, ht, hd, num_be _ _ hlt]
  have hok : okT (textF l ++ r) m := by
    refine ⟨by simp [textF, be_length], ?_, ?_⟩
    · rw [ht, num_be _ _ hlt]; exact hl
    · rw [ht, num_be _ _ hlt]; simp [textF, be_length]
  rw [if_pos hok, List.take_left' rfl, List.drop_left' rfl]
end Go.Proofs.Ytfbkbobphjncfaa
