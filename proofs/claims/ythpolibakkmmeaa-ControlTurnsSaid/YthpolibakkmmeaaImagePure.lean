/-
  Disks of blocks of 64 bytes, as plain bytes.
-/
import Derived.Test.YthpolibakkmmeaaC13
set_option linter.unusedVariables false
namespace Brv.Image
open Go Brv
def dn (x : List UInt8) : Nat := x.length / 64
def blk (x : List UInt8) (k : Nat) : List UInt8 := (x.drop (64 * k)).take 64
def laid (x : List UInt8) (k : Nat) (s : List UInt8) : List UInt8 := x.take (64 * k) ++ s ++ x.drop (64 * k + 64)
theorem blk_length {x : List UInt8} {k : Nat} (hk : k < dn x) : (blk x k).length = 64 := by
  simp only [dn] at hk
  simp only [blk, List.length_take, List.length_drop]; omega
theorem blk_ge {x : List UInt8} {k : Nat} (h : x.length = 64 * dn x) (hk : dn x ≤ k) : blk x k = [] := by
  apply List.eq_nil_of_length_eq_zero
  simp only [blk, List.length_take, List.length_drop]; omega
theorem blk_ne {x y : List UInt8} {i : Nat} (hx : x.length = 64 * dn x) (h : dn x ≤ i) (h2 : i < dn y) : blk x i ≠ blk y i := by
  rw [blk_ge hx h]; intro e; have := blk_length h2; rw [← e] at this; cases this
theorem laid_length {x s : List UInt8} {k : Nat} (hs : s.length = 64) (hk : k < dn x) : (laid x k s).length = x.length := by
  simp only [dn] at hk
  simp only [laid, List.length_append, List.length_take, List.length_drop]; omega
theorem laid_dn {x s : List UInt8} {k : Nat} (hs : s.length = 64) (hk : k < dn x) : dn (laid x k s) = dn x := by
  unfold dn; rw [laid_length hs hk]
theorem laid_blk {x s : List UInt8} {k j : Nat} (hs : s.length = 64) (hk : k < dn x) : blk (laid x k s) j = if j = k then s else blk x j := by
  simp only [dn] at hk
  refine List.ext_getElem? (fun n => ?_)
  unfold blk
  rw [List.getElem?_take]
  by_cases hn : n < 64
  · rw [if_pos hn, List.getElem?_drop]
    have e : (laid x k s)[64 * j + n]? = if 64 * j + n < 64 * k then x[64 * j + n]? else if 64 * j + n < 64 * k + 64 then s[64 * j + n - 64 * k]? else x[64 * j + n]? := by
      unfold laid
      rw [List.append_assoc]
      split
      · rename_i h1
        rw [List.getElem?_append_left (by rw [List.length_take]; omega), List.getElem?_take, if_pos h1]
      · rename_i h1
        rw [List.getElem?_append_right (by rw [List.length_take]; omega), List.length_take, Nat.min_eq_left (by omega)]
        split
        · rw [List.getElem?_append_left (by omega)]
        · rw [List.getElem?_append_right (by omega), List.getElem?_drop, hs]
          congr 1
          omega
    rw [e]
    by_cases hj : j = k
    · subst hj
      rw [if_neg (by omega), if_pos (by omega), if_pos rfl]
      congr 1
      omega
    · rw [if_neg hj, List.getElem?_take, if_pos hn, List.getElem?_drop]
      split
      · rfl
      · rw [if_neg (by omega)]
  · rw [if_neg hn]
    split
    · rw [List.getElem?_eq_none (by omega)]
    · rw [List.getElem?_take, if_neg hn]
theorem eq_of_blk {x y : List UInt8} (hl : x.length = y.length) (hm : x.length = 64 * dn x) (h : ∀ k, k < dn x → blk x k = blk y k) : x = y := by
  refine List.ext_getElem? (fun n => ?_)
  by_cases hn : n < x.length
  · have hk : n / 64 < dn x := by omega
    have e := congrArg (fun l : List UInt8 => l[n % 64]?) (h (n / 64) hk)
    simp only [blk, List.getElem?_take, List.getElem?_drop, if_pos (Nat.mod_lt n (show 0 < 64 by decide)), Nat.div_add_mod] at e
    exact e
  · rw [List.getElem?_eq_none (by omega), List.getElem?_eq_none (by omega)]
theorem blk_zero {n k : Nat} (hk : k < n) : blk (List.replicate (64 * n) 0) k = List.replicate 64 0 := by
  unfold blk
  rw [List.drop_replicate, List.take_replicate]
  congr 1
  omega
theorem dn_zero (n : Nat) : dn (List.replicate (64 * n) 0) = n := by simp [dn]
theorem blks_join (x : List UInt8) (i : Nat) : ((List.range i).map (blk x)).flatten = x.take (64 * i) := by
  induction i with
  | zero => simp
  | succ i ih =>
    rw [List.range_succ, List.map_append, List.flatten_append, ih]
    simp only [List.map_cons, List.map_nil, List.flatten_cons, List.flatten_nil, List.append_nil, blk]
    rw [show 64 * (i + 1) = 64 * i + 64 by omega, List.take_add]
theorem take_succ_blk (x : List UInt8) (i : Nat) : x.take (64 * i) ++ blk x i = x.take (64 * (i + 1)) := by
  rw [show 64 * (i + 1) = 64 * i + 64 by omega, List.take_add]; rfl
/-- What is written, and the error. -/
def withF (x : List UInt8) : List (Int × List UInt8) → List UInt8 × Int
  | [] => (x, 0)
  | w :: ws => if w.1 < 0 ∨ (dn x : Int) ≤ w.1 then ([], 41) else if w.2.length ≠ 64 then ([], 42) else withF (laid x w.1.toNat w.2) ws
theorem withF_nil (x : List UInt8) : withF x [] = (x, 0) := rfl
theorem withF_blk {x : List UInt8} {w : Int × List UInt8} {ws : List (Int × List UInt8)} (h : w.1 < 0 ∨ (dn x : Int) ≤ w.1) : withF x (w :: ws) = ([], 41) := by rw [withF, if_pos h]
theorem withF_size {x : List UInt8} {w : Int × List UInt8} {ws : List (Int × List UInt8)} (h : ¬ (w.1 < 0 ∨ (dn x : Int) ≤ w.1)) (h2 : w.2.length ≠ 64) : withF x (w :: ws) = ([], 42) := by rw [withF, if_neg h, if_pos h2]
theorem withF_next {x : List UInt8} {w : Int × List UInt8} {ws : List (Int × List UInt8)} (h : ¬ (w.1 < 0 ∨ (dn x : Int) ≤ w.1)) (h2 : w.2.length = 64) : withF x (w :: ws) = withF (laid x w.1.toNat w.2) ws := by rw [withF, if_neg h, if_neg (by simp [h2])]
theorem withF_length {x : List UInt8} : ∀ {ws : List (Int × List UInt8)} {x : List UInt8}, (withF x ws).2 = 0 → (withF x ws).1.length = x.length
  | [], x, _ => rfl
  | w :: ws, x, h => by
    by_cases h1 : w.1 < 0 ∨ (dn x : Int) ≤ w.1
    · rw [withF_blk h1] at h; cases h
    by_cases h2 : w.2.length = 64
    · rw [withF_next h1 h2] at h ⊢
      rw [withF_length (x := x) h, laid_length h2 (by omega)]
    · rw [withF_size h1 h2] at h; cases h
theorem withF_err {ws : List (Int × List UInt8)} {x : List UInt8} (h : (withF x ws).2 ≠ 0) : (withF x ws).1 = [] := by
  induction ws generalizing x with
  | nil => exact absurd rfl h
  | cons w ws ih =>
    by_cases h1 : w.1 < 0 ∨ (dn x : Int) ≤ w.1
    · rw [withF_blk h1]
    by_cases h2 : w.2.length = 64
    · rw [withF_next h1 h2] at h ⊢; exact ih h
    · rw [withF_size h1 h2]
theorem withF_append {ws vs : List (Int × List UInt8)} {x : List UInt8} : withF x (ws ++ vs) = if (withF x ws).2 = 0 then withF (withF x ws).1 vs else ([], (withF x ws).2) := by
  induction ws generalizing x with
  | nil => rw [withF_nil, if_pos rfl]; rfl
  | cons w ws ih =>
    rw [List.cons_append]
    by_cases h1 : w.1 < 0 ∨ (dn x : Int) ≤ w.1
    · rw [withF_blk h1, withF_blk h1, if_neg (by decide)]
    by_cases h2 : w.2.length = 64
    · rw [withF_next h1 h2, withF_next h1 h2]; exact ih
    · rw [withF_size h1 h2, withF_size h1 h2, if_neg (by decide)]
/-- A block; whether there is one. -/
def okK (x : List UInt8) (k : Int) : Prop := 0 ≤ k ∧ k < (dn x : Int)
instance (x : List UInt8) (k : Int) : Decidable (okK x k) := by unfold okK; infer_instance
def getB (x : List UInt8) (k : Int) : List UInt8 := if okK x k then blk x k.toNat else []
/-- The blocks that aren't alike. -/
def diffN (x y : List UInt8) (m : Nat) : List Nat := (List.range m).filter (fun i => decide (blk x i ≠ blk y i))
def diffF (x y : List UInt8) : List Nat := diffN x y (max (dn x) (dn y))
theorem diffN_succ (x y : List UInt8) (m : Nat) : diffN x y (m + 1) = diffN x y m ++ if blk x m ≠ blk y m then [m] else [] := by
  unfold diffN
  rw [List.range_succ, List.filter_append]
  congr 1
  by_cases h : blk x m = blk y m <;> simp [h]
theorem diffN_length (x y : List UInt8) (m : Nat) : (diffN x y m).length ≤ m := by
  have := List.length_filter_le (fun i => decide (blk x i ≠ blk y i)) (List.range m)
  simpa [diffN] using this
theorem diff_nil {x y : List UInt8} (hx : x.length = 64 * dn x) (hy : y.length = 64 * dn y) : diffF x y = [] ↔ x = y := by
  constructor
  · intro h
    have hb : ∀ i, i < max (dn x) (dn y) → blk x i = blk y i := by
      intro i hi
      refine Classical.byContradiction fun hne => ?_
      have : i ∈ diffF x y := by
        unfold diffF diffN
        rw [List.mem_filter]
        exact ⟨List.mem_range.2 hi, decide_eq_true hne⟩
      rw [h] at this
      cases this
    have hd : dn x = dn y := by
      refine Classical.byContradiction fun hne => ?_
      rcases Nat.lt_or_ge (dn x) (dn y) with hlt | hge
      · have e := hb (dn x) (by omega)
        rw [blk_ge hx (Nat.le_refl _)] at e
        have := blk_length hlt
        rw [← e] at this; cases this
      · have hlt : dn y < dn x := by omega
        have e := hb (dn y) (by omega)
        rw [blk_ge hy (Nat.le_refl _)] at e
        have := blk_length hlt
        rw [e] at this; cases this
    exact eq_of_blk (by omega) hx (fun k hk => hb k (by omega))
  · rintro rfl
    unfold diffF diffN
    rw [List.filter_eq_nil_iff]
    intro i _
    simp
/-- What is written back is as it was. -/
theorem with_back {x y : List UInt8} (hx : x.length = 64 * dn x) (hl : y.length = x.length) : withF y ((diffF y x).map fun i : Nat => ((i : Int), blk x i)) = (x, 0) := by
  have hd : dn y = dn x := by unfold dn; rw [hl]
  have key : ∀ m, m ≤ dn x → ∃ z, withF y ((diffN y x m).map fun i : Nat => ((i : Int), blk x i)) = (z, 0) ∧ z.length = x.length ∧ ∀ j, blk z j = if j < m then blk x j else blk y j := by
    intro m
    induction m with
    | zero => intro _; exact ⟨y, rfl, hl, fun j => by simp⟩
    | succ m ih =>
      intro hm
      obtain ⟨z, h1, h2, h3⟩ := ih (by omega)
      rw [diffN_succ]
      have hdz : dn z = dn x := by unfold dn; rw [h2]
      by_cases he : blk y m = blk x m
      · rw [if_neg (by simp [he]), List.append_nil]
        refine ⟨z, h1, h2, fun j => ?_⟩
        rw [h3 j]
        by_cases hj : j = m
        · subst hj; rw [if_neg (Nat.lt_irrefl _), if_pos (by omega), he]
        · by_cases hj2 : j < m
          · rw [if_pos hj2, if_pos (by omega)]
          · rw [if_neg hj2, if_neg (by omega)]
      · rw [if_pos he, List.map_append, withF_append, h1, if_pos rfl]
        have hs := blk_length (x := x) (k := m) (by omega)
        have hm' : m < dn z := by omega
        show ∃ z', withF z [((m : Int), blk x m)] = (z', 0) ∧ _
        rw [withF_next (by show ¬ ((m : Int) < 0 ∨ (dn z : Int) ≤ (m : Int)); omega) hs, withF_nil]
        refine ⟨_, rfl, (laid_length hs hm').trans h2, fun j => ?_⟩
        show blk (laid z m (blk x m)) j = _
        rw [laid_blk hs hm']
        by_cases hj : j = m
        · subst hj; rw [if_pos rfl, if_pos (by omega)]
        · rw [if_neg hj, h3 j]
          by_cases hj2 : j < m
          · rw [if_pos hj2, if_pos (by omega)]
          · rw [if_neg hj2, if_neg (by omega)]
  obtain ⟨z, h1, h2, h3⟩ := key (dn x) (Nat.le_refl _)
  have hz : z = x := eq_of_blk h2 (by unfold dn; rw [h2]; exact hx) (fun k hk => by rw [h3 k, if_pos (by unfold dn at hk ⊢; rw [h2] at hk; exact hk)])
  have e : diffF y x = diffN y x (dn x) := by unfold diffF; rw [hd, Nat.max_self]
  rw [e, h1, hz]
end Brv.Image
namespace Brv.Image
open Go Brv
def wB : List UInt8 := (List.replicate 64 0).set 3 9
def x2 : List UInt8 := List.replicate (64 * 2) 0
def x1 : List UInt8 := laid x2 1 wB
theorem f1 : withF x2 [(1, wB)] = (x1, 0) := by decide +kernel
theorem f2 : withF x2 [(2, wB)] = ([], 41) := by decide +kernel
theorem f3 : withF x2 [(0, wB.take 5)] = ([], 42) := by decide +kernel
theorem f4 : getB x1 1 = wB := by decide +kernel
theorem f4' : okK x1 1 := by decide +kernel
theorem f5 : diffF x2 x1 = [1] := by decide +kernel
theorem f6 : x2 ≠ x1 := by decide +kernel
end Brv.Image
namespace Brv.Image
theorem diffF_comm (x y : List UInt8) : diffF x y = diffF y x := by
  unfold diffF diffN
  rw [Nat.max_comm]
  congr 1
  funext i
  rw [decide_eq_decide]
  exact ne_comm
theorem mem_diff {x y : List UInt8} {i : Nat} (h : i ∈ diffF x y) : i < max (dn x) (dn y) := by
  unfold diffF diffN at h
  exact List.mem_range.1 (List.mem_filter.1 h).1
end Brv.Image
