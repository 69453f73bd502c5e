/-
  Plain laws on package shrink.
-/
import Derived.Test.YtjmlcodlnohgdaaCrcPure
set_option linter.unusedVariables false
namespace Brv.Shrink
open Go Brv

/-- How many bytes at the beginning are x. -/
def lead (x : UInt8) : List UInt8 → Nat
  | [] => 0
  | y :: r => if y = x then lead x r + 1 else 0
/-- .. are alike, at most 130. -/
def alikeF : List UInt8 → Nat
  | [] => 0
  | x :: r => min 130 (lead x r + 1)
/-- Up to where a run begins, at most k. -/
def rawF : Nat → List UInt8 → Nat
  | 0, _ => 0
  | _ + 1, [] => 0
  | k + 1, x :: r => if alikeF (x :: r) < 3 then rawF k r + 1 else 0
theorem lead_le (x : UInt8) : ∀ l, lead x l ≤ l.length
  | [] => Nat.le_refl _
  | y :: r => by unfold lead; have := lead_le x r; split <;> simp <;> omega
theorem alikeF_le (l : List UInt8) : alikeF l ≤ l.length := by
  cases l with
  | nil => exact Nat.le_refl _
  | cons x r => have := lead_le x r; simp [alikeF]; omega
theorem alikeF_pos (x : UInt8) (r : List UInt8) : 1 ≤ alikeF (x :: r) := by simp [alikeF]; omega
theorem alikeF_most (l : List UInt8) : alikeF l ≤ 130 := by cases l <;> simp [alikeF]; omega
theorem rawF_le : ∀ (k : Nat) (l : List UInt8), rawF k l ≤ l.length
  | 0, l => by simp [rawF]
  | k + 1, [] => by simp [rawF]
  | k + 1, x :: r => by have := rawF_le k r; unfold rawF; split <;> simp <;> omega
theorem rawF_most : ∀ (k : Nat) (l : List UInt8), rawF k l ≤ k
  | 0, l => by simp [rawF]
  | k + 1, [] => by simp [rawF]
  | k + 1, x :: r => by have := rawF_most k r; unfold rawF; split <;> omega
/-- A raw piece. -/
def enc (r : List UInt8) : List UInt8 := UInt8.ofNat (r.length - 1) :: r
/-- Shrunk bytes. -/
def shrinkN : Nat → List UInt8 → List UInt8
  | 0, _ => []
  | _ + 1, [] => []
  | k + 1, x :: r => if 3 ≤ alikeF (x :: r) then [UInt8.ofNat (125 + alikeF (x :: r)), x] ++ shrinkN k ((x :: r).drop (alikeF (x :: r)))
      else enc ((x :: r).take (rawF 128 (x :: r))) ++ shrinkN k ((x :: r).drop (rawF 128 (x :: r)))
def shrinkF (l : List UInt8) : List UInt8 := shrinkN l.length l
theorem rawF_pos (x : UInt8) (r : List UInt8) (k : Nat) (h : alikeF (x :: r) < 3) : rawF (k + 1) (x :: r) = rawF k r + 1 := by simp [rawF, h]
theorem rawF_zero (l : List UInt8) (k : Nat) (h : 3 ≤ alikeF l) : rawF k l = 0 := by
  cases k with
  | zero => rfl
  | succ k => cases l with
    | nil => rfl
    | cons x r => unfold rawF; rw [if_neg (by omega)]
theorem shrinkN_enough : ∀ (k j : Nat) (l : List UInt8), l.length ≤ k → l.length ≤ j → shrinkN k l = shrinkN j l
  | 0, j, l, h, _ => by
    have : l = [] := List.eq_nil_of_length_eq_zero (by omega)
    subst this; cases j <;> rfl
  | k + 1, 0, l, _, h => by
    have : l = [] := List.eq_nil_of_length_eq_zero (by omega)
    subst this; rfl
  | k + 1, j + 1, [], _, _ => rfl
  | k + 1, j + 1, x :: r, h1, h2 => by
    have hp := alikeF_pos x r
    simp only [List.length_cons] at h1 h2
    unfold shrinkN
    split
    · rw [shrinkN_enough k j _ (by simp; omega) (by simp; omega)]
    · rename_i hlt
      rw [rawF_pos x r 127 (by omega)]
      rw [shrinkN_enough k j _ (by simp; omega) (by simp; omega)]
theorem shrinkF_nil : shrinkF [] = [] := rfl
theorem shrinkF_run (x : UInt8) (r : List UInt8) (h : 3 ≤ alikeF (x :: r)) : shrinkF (x :: r) = [UInt8.ofNat (125 + alikeF (x :: r)), x] ++ shrinkF ((x :: r).drop (alikeF (x :: r))) := by
  unfold shrinkF
  show shrinkN (r.length + 1) (x :: r) = _
  rw [shrinkN, if_pos h, shrinkN_enough r.length _ _ (by simp; omega) (Nat.le_refl _)]
theorem shrinkF_raw (x : UInt8) (r : List UInt8) (h : alikeF (x :: r) < 3) : shrinkF (x :: r) = enc ((x :: r).take (rawF 128 (x :: r))) ++ shrinkF ((x :: r).drop (rawF 128 (x :: r))) := by
  unfold shrinkF
  show shrinkN (r.length + 1) (x :: r) = _
  rw [shrinkN, if_neg (by omega)]
  congr 1
  exact shrinkN_enough r.length _ _ (by rw [rawF_pos x r 127 h]; simp) (Nat.le_refl _)

/-- The document's road: what is left of it, with raw bytes that wait. -/
def refN : Nat → List UInt8 → List UInt8 → List UInt8
  | 0, _, _ => []
  | _ + 1, raw, [] => if raw = [] then [] else enc raw
  | k + 1, raw, x :: r => if 3 ≤ alikeF (x :: r) then (if raw = [] then [] else enc raw) ++ [UInt8.ofNat (125 + alikeF (x :: r)), x] ++ refN k [] ((x :: r).drop (alikeF (x :: r)))
      else if raw.length = 128 then enc raw ++ refN k [x] r else refN k (raw ++ [x]) r
theorem refN_raw : ∀ (k : Nat) (raw l : List UInt8), l.length + 1 ≤ k → raw.length ≤ 128 →
    refN k raw l = if raw = [] then shrinkF l else enc (raw ++ l.take (rawF (128 - raw.length) l)) ++ shrinkF (l.drop (rawF (128 - raw.length) l))
  | 0, raw, l, h, _ => by omega
  | k + 1, raw, [], h, hr => by
    unfold refN
    split
    · rfl
    · have : rawF (128 - raw.length) [] = 0 := by cases (128 - raw.length) <;> rfl
      rw [this]; simp [shrinkF_nil]
  | k + 1, raw, x :: r, h, hr => by
    simp only [List.length_cons] at h
    unfold refN
    by_cases h3 : 3 ≤ alikeF (x :: r)
    · rw [if_pos h3, refN_raw k [] _ (by have := alikeF_pos x r; simp; omega) (by simp), if_pos rfl]
      rw [rawF_zero _ _ h3, shrinkF_run x r h3]
      split
      · simp
      · simp [shrinkF_run x r h3]
    · rw [if_neg h3]
      have h3' : alikeF (x :: r) < 3 := by omega
      by_cases h128 : raw.length = 128
      · rw [if_pos h128, refN_raw k [x] r (by omega) (by simp), if_neg (by simp)]
        have hne : raw ≠ [] := by intro e; subst e; simp at h128
        rw [if_neg hne, h128]
        simp only [Nat.sub_self, rawF, List.take_zero, List.append_nil, List.drop_zero]
        rw [shrinkF_raw x r h3', rawF_pos x r 127 h3']
        simp
      · rw [if_neg h128, refN_raw k (raw ++ [x]) r (by omega) (by simp; omega), if_neg (by simp)]
        have e1 : 128 - (raw ++ [x]).length = 127 - raw.length := by rw [List.length_append]; simp only [List.length_cons, List.length_nil]; omega
        rw [e1]
        split
        · rename_i e; subst e
          rw [shrinkF_raw x r h3', rawF_pos x r 127 h3']
          simp
        · rw [show 128 - raw.length = (127 - raw.length) + 1 by omega, rawF_pos x r _ h3']
          simp
theorem refN_eq (l : List UInt8) (k : Nat) (h : l.length + 1 ≤ k) : refN k [] l = shrinkF l := by rw [refN_raw k [] l h (by simp), if_pos rfl]

/-- The piece at the beginning: what it says, and what is left. -/
def pieceF : List UInt8 → Option (List UInt8 × List UInt8)
  | [] => none
  | n :: r => if 128 ≤ n.toNat then (match r with | [] => none | x :: r' => some (List.replicate (n.toNat - 125) x, r'))
      else if n.toNat + 1 ≤ r.length then some (r.take (n.toNat + 1), r.drop (n.toNat + 1)) else none
theorem pieceF_cons (n : UInt8) (r : List UInt8) : pieceF (n :: r) = if 128 ≤ n.toNat then (match r with | [] => none | x :: r' => some (List.replicate (n.toNat - 125) x, r'))
      else if n.toNat + 1 ≤ r.length then some (r.take (n.toNat + 1), r.drop (n.toNat + 1)) else none := rfl
theorem pieceF_hi (n : UInt8) (h : 128 ≤ n.toNat) (x : UInt8) (r : List UInt8) : pieceF (n :: x :: r) = some (List.replicate (n.toNat - 125) x, r) := by rw [pieceF_cons, if_pos h]
theorem pieceF_hi0 (n : UInt8) (h : 128 ≤ n.toNat) : pieceF [n] = none := by rw [pieceF_cons, if_pos h]
theorem pieceF_lo (n : UInt8) (h : n.toNat < 128) (r : List UInt8) : pieceF (n :: r) = if n.toNat + 1 ≤ r.length then some (r.take (n.toNat + 1), r.drop (n.toNat + 1)) else none := by rw [pieceF_cons, if_neg (by omega)]
theorem pieceF_spec {l p r : List UInt8} (h : pieceF l = some (p, r)) : r.length < l.length ∧ p.length ≤ 130 := by
  cases l with
  | nil => cases h
  | cons n q =>
    have hn := n.toNat_lt
    by_cases h8 : 128 ≤ n.toNat
    · cases q with
      | nil => rw [pieceF_hi0 n h8] at h; cases h
      | cons x r' =>
        rw [pieceF_hi n h8] at h
        obtain ⟨h1, h2⟩ := Prod.mk.injEq .. ▸ Option.some.inj h
        rw [← h1, ← h2, List.length_replicate]
        simp only [List.length_cons]
        omega
    · rw [pieceF_lo n (by omega)] at h
      split at h
      · cases h; simp; omega
      · cases h
theorem pieceF_less {l p r : List UInt8} (h : pieceF l = some (p, r)) : r.length < l.length := (pieceF_spec h).1
theorem pieceF_size {l p r : List UInt8} (h : pieceF l = some (p, r)) : p.length ≤ 130 := (pieceF_spec h).2
/-- What bytes grow to, ahead of it acc; the error. -/
def growN (most : Nat) : Nat → List UInt8 → List UInt8 → List UInt8 × Int
  | 0, acc, _ => (acc, 0)
  | k + 1, acc, l => if l = [] then (acc, 0) else match pieceF l with
    | none => ([], 20)
    | some (p, r) => if acc.length + p.length > most then ([], 31) else growN most k (acc ++ p) r
def growF (most : Int) (l : List UInt8) : List UInt8 × Int := growN most.toNat l.length [] l
theorem growN_enough (most : Nat) : ∀ (k j : Nat) (acc l : List UInt8), l.length ≤ k → l.length ≤ j → growN most k acc l = growN most j acc l
  | 0, j, acc, l, h, _ => by
    have : l = [] := List.eq_nil_of_length_eq_zero (by omega)
    subst this; cases j <;> simp [growN]
  | k + 1, 0, acc, l, _, h => by
    have : l = [] := List.eq_nil_of_length_eq_zero (by omega)
    subst this; simp [growN]
  | k + 1, j + 1, acc, l, h1, h2 => by
    unfold growN
    split
    · rfl
    · split
      · rfl
      · rename_i p r hp
        have := pieceF_less hp
        rw [growN_enough most k j _ r (by omega) (by omega)]
theorem growN_nil (most k : Nat) (acc : List UInt8) : growN most k acc [] = (acc, 0) := by cases k <;> simp [growN]
theorem growN_step (most k : Nat) (acc l p r : List UInt8) (hk : l.length ≤ k) (hp : pieceF l = some (p, r)) : growN most k acc l = if acc.length + p.length > most then ([], 31) else growN most r.length (acc ++ p) r := by
  have hlt := pieceF_less hp
  obtain ⟨j, rfl⟩ : ∃ j, k = j + 1 := ⟨k - 1, by omega⟩
  have hne : l ≠ [] := by intro e; subst e; cases hp
  rw [growN, if_neg hne, hp]
  simp only
  rw [growN_enough most j r.length _ r (by omega) (Nat.le_refl _)]
theorem growN_bad (most k : Nat) (acc l : List UInt8) (hne : l ≠ []) (hk : l.length ≤ k) (hp : pieceF l = none) : growN most k acc l = ([], 20) := by
  have : 1 ≤ l.length := by cases l with | nil => exact absurd rfl hne | cons x r => simp
  obtain ⟨j, rfl⟩ : ∃ j, k = j + 1 := ⟨k - 1, by omega⟩
  rw [growN, if_neg hne, hp]

theorem lead_take (x : UInt8) : ∀ (l : List UInt8) (n : Nat), n ≤ lead x l → l.take n = List.replicate n x
  | l, 0, _ => by simp
  | [], n + 1, h => by simp [lead] at h
  | y :: r, n + 1, h => by
    unfold lead at h
    split at h
    · rename_i e
      rw [e, List.take_succ_cons, lead_take x r n (by omega), List.replicate_succ]
    · omega
theorem alike_take (x : UInt8) (r : List UInt8) : (x :: r).take (alikeF (x :: r)) = List.replicate (alikeF (x :: r)) x := by
  refine lead_take x (x :: r) _ ?_
  simp only [lead, if_true, alikeF]
  exact Nat.min_le_right _ _
theorem ofNat_toNat (n : Nat) (h : n < 256) : (UInt8.ofNat n).toNat = n := by simp; omega
theorem piece_run (x : UInt8) (n : Nat) (r : List UInt8) (h3 : 3 ≤ n) (h130 : n ≤ 130) : pieceF ([UInt8.ofNat (125 + n), x] ++ r) = some (List.replicate n x, r) := by
  simp only [List.cons_append, List.nil_append]
  rw [pieceF_hi _ (by rw [ofNat_toNat _ (by omega)]; omega), ofNat_toNat _ (by omega), show 125 + n - 125 = n by omega]
theorem piece_raw (p r : List UInt8) (h1 : 1 ≤ p.length) (h128 : p.length ≤ 128) : pieceF (enc p ++ r) = some (p, r) := by
  simp only [enc, List.cons_append]
  rw [pieceF_lo _ (by rw [ofNat_toNat _ (by omega)]; omega), ofNat_toNat _ (by omega), if_pos (by simp; omega), show p.length - 1 + 1 = p.length by omega]
  simp
theorem grow_back (most : Nat) : ∀ (j : Nat) (acc l : List UInt8), l.length ≤ j → acc.length + l.length ≤ most → ∀ k, (shrinkF l).length ≤ k → growN most k acc (shrinkF l) = (acc ++ l, 0)
  | j, acc, [], _, _, k, _ => by rw [shrinkF_nil, growN_nil]; simp
  | 0, acc, x :: r, h, _, k, _ => by simp at h
  | j + 1, acc, x :: r, h, hm, k, hk => by
    simp only [List.length_cons] at h hm
    have hp := alikeF_pos x r
    have hle := alikeF_le (x :: r)
    simp only [List.length_cons] at hle
    by_cases h3 : 3 ≤ alikeF (x :: r)
    · rw [shrinkF_run x r h3] at hk ⊢
      rw [growN_step most k acc _ _ _ hk (piece_run x _ _ h3 (alikeF_most _)), if_neg (by simp; omega)]
      rw [grow_back most j _ _ (by simp; omega) (by simp; omega) _ (Nat.le_refl _), ← alike_take, List.append_assoc, List.take_append_drop]
    · have h3' : alikeF (x :: r) < 3 := by omega
      rw [shrinkF_raw x r h3'] at hk ⊢
      have e := rawF_pos x r 127 h3'
      have hl := rawF_le 128 (x :: r)
      have hm8 := rawF_most 128 (x :: r)
      simp only [List.length_cons] at hl
      generalize rawF 128 (x :: r) = m at *
      rw [growN_step most k acc _ _ _ hk (piece_raw _ _ (by rw [List.length_take, List.length_cons]; omega) (by rw [List.length_take]; omega)), if_neg (by rw [List.length_take, List.length_cons]; omega)]
      rw [grow_back most j _ _ (by rw [List.length_drop, List.length_cons]; omega) (by rw [List.length_append, List.length_drop, List.length_take, List.length_cons]; omega) _ (Nat.le_refl _), List.append_assoc, List.take_append_drop]
theorem growF_shrinkF (l : List UInt8) (most : Int) (h : (l.length : Int) ≤ most) : growF most (shrinkF l) = (l, 0) := by
  unfold growF
  have := grow_back most.toNat l.length [] l (Nat.le_refl _) (by simp; omega) _ (Nat.le_refl _)
  simpa using this

/-- The worst length. -/
def worstF (n : Nat) : Nat := n + (n + 127) / 128
theorem rawF_stop : ∀ (k : Nat) (l : List UInt8), rawF k l < k → rawF k l < l.length → 3 ≤ alikeF (l.drop (rawF k l))
  | 0, l, h, _ => by omega
  | k + 1, [], _, h => by simp at h
  | k + 1, x :: r, h, hl => by
    by_cases h3 : alikeF (x :: r) < 3
    · rw [rawF_pos x r k h3] at h hl ⊢
      simp only [List.length_cons] at hl
      rw [List.drop_succ_cons]
      exact rawF_stop k r (by omega) (by omega)
    · have : rawF (k + 1) (x :: r) = 0 := rawF_zero _ _ (by omega)
      rw [this]; simp; omega
theorem shrink_worst : ∀ (j : Nat) (l : List UInt8), l.length ≤ j → (shrinkF l).length ≤ worstF l.length
  | j, [], _ => by simp [shrinkF_nil]
  | 0, x :: r, h => by simp at h
  | j + 1, x :: r, h => by
    simp only [List.length_cons] at h
    have hp := alikeF_pos x r
    have hle := alikeF_le (x :: r)
    simp only [List.length_cons] at hle
    by_cases h3 : 3 ≤ alikeF (x :: r)
    · rw [shrinkF_run x r h3]
      have ih := shrink_worst j ((x :: r).drop (alikeF (x :: r))) (by simp; omega)
      simp only [List.length_append, List.length_cons, List.length_nil, List.length_drop] at ih ⊢
      unfold worstF at ih ⊢
      omega
    · have h3' : alikeF (x :: r) < 3 := by omega
      rw [shrinkF_raw x r h3']
      have e := rawF_pos x r 127 h3'
      have hl := rawF_le 128 (x :: r)
      have hm8 := rawF_most 128 (x :: r)
      simp only [List.length_cons] at hl
      have hst := rawF_stop 128 (x :: r)
      have ih := shrink_worst j ((x :: r).drop (rawF 128 (x :: r))) (by rw [List.length_drop, List.length_cons, e]; omega)
      rcases Nat.lt_or_ge (rawF 128 (x :: r)) 128 with h8 | h8
      · rcases Nat.lt_or_ge (rawF 128 (x :: r)) (r.length + 1) with h9 | h9
        · have hs := hst h8 (by simpa using h9)
          cases hd : (x :: r).drop (rawF 128 (x :: r)) with
          | nil => rw [hd] at hs; simp [alikeF] at hs
          | cons y q =>
            rw [hd] at hs ih
            have hdl : q.length + 1 = r.length + 1 - rawF 128 (x :: r) := by
              have := congrArg List.length hd
              rw [List.length_drop] at this; simpa using this.symm
            have hle' := alikeF_le (y :: q)
            simp only [List.length_cons] at hle'
            rw [shrinkF_run y q hs]
            have ih' := shrink_worst j ((y :: q).drop (alikeF (y :: q))) (by simp; omega)
            simp only [enc, List.length_append, List.length_cons, List.length_nil, List.length_drop, List.length_take] at ih' ⊢
            unfold worstF at ih' ⊢
            omega
        · rw [List.drop_of_length_le (by simpa using h9), shrinkF_nil]
          simp only [enc, List.length_append, List.length_cons, List.length_nil, List.length_take]
          unfold worstF
          omega
      · simp only [enc, List.length_append, List.length_cons, List.length_nil, List.length_take, List.length_drop] at ih ⊢
        unfold worstF at ih ⊢
        omega

/-- Laid over old bytes. -/
def laidF : List UInt8 → List UInt8 → List UInt8
  | _, [] => []
  | [], l => l
  | o :: os, x :: r => (x ^^^ o) :: laidF os r
theorem laidF_length : ∀ (o l : List UInt8), (laidF o l).length = l.length
  | o, [] => by cases o <;> rfl
  | [], x :: r => rfl
  | o :: os, x :: r => by simp [laidF, laidF_length os r]
theorem laidF_back : ∀ (o l : List UInt8), laidF o (laidF o l) = l
  | o, [] => by cases o <;> rfl
  | [], x :: r => rfl
  | o :: os, x :: r => by
    simp only [laidF]
    rw [laidF_back os r]
    congr 1
    rw [UInt8.xor_assoc, UInt8.xor_self, UInt8.xor_zero]
theorem laidF_get : ∀ (o l : List UInt8) (i : Nat) (h : i < l.length), (laidF o l)[i]'(by rw [laidF_length]; exact h) = if h' : i < o.length then l[i] ^^^ o[i] else l[i]
  | o, [], i, h => by simp at h
  | [], x :: r, i, h => by simp [laidF]
  | o :: os, x :: r, 0, h => by simp [laidF]
  | o :: os, x :: r, i + 1, h => by
    simp only [laidF, List.getElem_cons_succ]
    rw [laidF_get os r i (by simpa using h)]
    simp
/-- By steps: the first i are laid. -/
theorem laidF_steps (o l : List UInt8) (i : Nat) (h : i < l.length) (ho : i < o.length) : ((laidF o l).take i ++ l.drop i).set i (l[i] ^^^ o[i]) = (laidF o l).take (i + 1) ++ l.drop (i + 1) := by
  have hl := laidF_length o l
  have hg := laidF_get o l i h
  rw [dif_pos ho] at hg
  rw [List.set_append_right _ _ (by simp; omega)]
  have : i - ((laidF o l).take i).length = 0 := by simp; omega
  rw [this, List.drop_eq_getElem_cons h, List.set_cons_zero]
  rw [List.take_succ_eq_append_getElem (by omega), hg]
  simp
theorem laidF_done (o l : List UInt8) (i : Nat) (h : o.length ≤ i ∨ l.length ≤ i) : (laidF o l).take i ++ l.drop i = laidF o l := by
  have hl := laidF_length o l
  rcases h with h | h
  · refine List.ext_getElem (by simp; omega) (fun j h1 h2 => ?_)
    rw [List.getElem_append]
    split
    · simp
    · rename_i hj
      rw [laidF_get o l j (by omega)]
      simp at hj
      rw [dif_neg (by omega)]
      simp
      congr 1
      omega
  · rw [List.take_of_length_le (by omega), List.drop_of_length_le (by omega), List.append_nil]
end Brv.Shrink
namespace Brv.Shrink
open Go Brv
theorem lead_ge {x : UInt8} : ∀ {l : List UInt8} {k : Nat}, (∀ j, j < k → l[j]? = some x) → k ≤ lead x l
  | _, 0, _ => Nat.zero_le _
  | [], k + 1, h => by have := h 0 (by omega); simp at this
  | y :: r, k + 1, h => by
    have h0 := h 0 (by omega)
    simp at h0
    subst h0
    simp only [lead, if_true]
    have := lead_ge (x := y) (l := r) (k := k) (fun j hj => by have := h (j + 1) (by omega); simpa using this)
    omega
theorem lead_stop {x : UInt8} : ∀ {l : List UInt8} {k : Nat}, l[k]? ≠ some x → lead x l ≤ k
  | [], k, _ => by simp [lead]
  | y :: r, 0, h => by
    have : y ≠ x := fun e => h (by simp [e])
    simp [lead, this]
  | y :: r, k + 1, h => by
    have := lead_stop (x := x) (l := r) (k := k) (by simpa using h)
    unfold lead
    split <;> omega
theorem alikeF_is {l : List UInt8} {k : Nat} (hk : k ≤ l.length) (h130 : k ≤ 130) (hall : ∀ j, j < k → l[j]? = l[0]?) (hstop : k = l.length ∨ k = 130 ∨ l[k]? ≠ l[0]?) : alikeF l = k := by
  cases l with
  | nil => simp at hk; simp [alikeF, hk]
  | cons x r =>
    have hlead : alikeF (x :: r) = min 130 (lead x (x :: r)) := by simp [alikeF, lead]
    have h1 := lead_ge (x := x) (l := x :: r) (k := k) (by simpa using hall)
    have h2 := lead_le x (x :: r)
    rw [hlead]
    rcases hstop with h | h | h
    · omega
    · omega
    · have := lead_stop (x := x) (l := x :: r) (k := k) (by simpa using h)
      omega
theorem raw_step {l : List UInt8} {k : Nat} (h1 : k < l.length) (h2 : k < 128) (h3 : alikeF (l.drop k) < 3) : rawF (128 - k) (l.drop k) = rawF (128 - (k + 1)) (l.drop (k + 1)) + 1 := by
  have e := List.drop_eq_getElem_cons h1
  rw [e] at h3 ⊢
  rw [show 128 - k = (128 - (k + 1)) + 1 by omega, rawF_pos _ _ _ h3]
theorem raw_end {l : List UInt8} {k : Nat} (h : k = l.length ∨ k = 128 ∨ 3 ≤ alikeF (l.drop k)) : rawF (128 - k) (l.drop k) = 0 := by
  rcases h with h | h | h
  · rw [h, List.drop_length]; cases (128 - l.length) <;> rfl
  · rw [h]; rfl
  · exact rawF_zero _ _ h
end Brv.Shrink
namespace Brv.Shrink
open Go Brv
/-- Are the raw bytes that wait written now? -/
def fl (rw r : List UInt8) : Prop := rw.length = 128 ∨ (0 < rw.length ∧ (3 ≤ alikeF r ∨ r = []))
instance (rw r : List UInt8) : Decidable (fl rw r) := by unfold fl; infer_instance
def flA (rw r acc : List UInt8) : List UInt8 := if fl rw r then acc ++ enc rw else acc
def flR (rw r : List UInt8) : List UInt8 := if fl rw r then [] else rw
theorem fl_y {rw r acc : List UInt8} (h : fl rw r) : flA rw r acc = acc ++ enc rw ∧ flR rw r = [] := ⟨if_pos h, if_pos h⟩
theorem fl_n {rw r acc : List UInt8} (h : ¬ fl rw r) : flA rw r acc = acc ∧ flR rw r = rw := ⟨if_neg h, if_neg h⟩
theorem refN_n (k : Nat) (rw : List UInt8) : refN (k + 1) rw [] = if rw = [] then [] else enc rw := rfl
theorem refN_c (k : Nat) (rw : List UInt8) (x : UInt8) (q : List UInt8) : refN (k + 1) rw (x :: q) = if 3 ≤ alikeF (x :: q) then (if rw = [] then [] else enc rw) ++ [UInt8.ofNat (125 + alikeF (x :: q)), x] ++ refN k [] ((x :: q).drop (alikeF (x :: q)))
      else if rw.length = 128 then enc rw ++ refN k [x] q else refN k (rw ++ [x]) q := rfl
theorem len_pos {l : List UInt8} (h : l ≠ []) : 0 < l.length := by cases l with | nil => exact absurd rfl h | cons x r => simp
theorem fl_nil (k : Nat) (rw acc : List UInt8) : acc ++ refN (k + 1) rw [] = flA rw [] acc := by
  rw [refN_n]
  by_cases h : rw = []
  · subst h
    rw [if_pos rfl, (fl_n (by rintro (h | ⟨h, _⟩) <;> simp at h)).1]
    simp
  · rw [if_neg h, (fl_y (.inr ⟨len_pos h, .inr rfl⟩)).1]
theorem fl_run (k : Nat) (rw acc : List UInt8) (x : UInt8) (q : List UInt8) (h3 : 3 ≤ alikeF (x :: q)) :
    acc ++ refN (k + 1) rw (x :: q) = flA rw (x :: q) acc ++ [UInt8.ofNat (125 + alikeF (x :: q)), x] ++ refN k [] ((x :: q).drop (alikeF (x :: q))) ∧ flR rw (x :: q) = [] := by
  rw [refN_c, if_pos h3]
  by_cases h : rw = []
  · subst h
    have hn : ¬ fl [] (x :: q) := by rintro (h | ⟨h, _⟩) <;> simp at h
    rw [if_pos rfl, (fl_n hn).1, (fl_n (acc := acc) hn).2]
    simp only [List.nil_append, List.append_assoc, and_self]
  · have hy : fl rw (x :: q) := .inr ⟨len_pos h, .inl h3⟩
    rw [if_neg h, (fl_y hy).1, (fl_y (acc := acc) hy).2]
    simp only [List.append_assoc, and_self]
theorem fl_raw (k : Nat) (rw acc : List UInt8) (x : UInt8) (q : List UInt8) (h3 : alikeF (x :: q) < 3) (hr : rw.length ≤ 128) :
    acc ++ refN (k + 1) rw (x :: q) = flA rw (x :: q) acc ++ refN k (flR rw (x :: q) ++ [x]) q ∧ (flR rw (x :: q)).length < 128 := by
  rw [refN_c, if_neg (by omega)]
  by_cases h : rw.length = 128
  · have hy : fl rw (x :: q) := .inl h
    rw [if_pos h, (fl_y hy).1, (fl_y (acc := acc) hy).2]
    simp only [List.append_assoc, List.nil_append, List.length_nil]
    exact ⟨trivial, by omega⟩
  · have hn : ¬ fl rw (x :: q) := by
      rintro (h' | ⟨_, h' | h'⟩)
      · exact h h'
      · omega
      · cases h'
    rw [if_neg h, (fl_n hn).1, (fl_n (acc := acc) hn).2]
    exact ⟨rfl, by omega⟩
end Brv.Shrink
namespace Brv.Shrink
open Go Brv
theorem refN_fuel {k j : Nat} {raw l : List UInt8} (hk : l.length + 1 ≤ k) (hj : l.length + 1 ≤ j) (hr : raw.length ≤ 128) : refN k raw l = refN j raw l := (refN_raw k raw l hk hr).trans (refN_raw j raw l hj hr).symm
theorem take_get {cur : Array Value} {m : Nat} {vs : List Value} (h : cur.toList.take m = vs) (j : Nat) (v : Value) (hj : vs[j]? = some v) : cur[0 + j]? = some v := by
  rw [← h, List.getElem?_take] at hj
  split at hj
  · simpa using hj
  · cases hj
end Brv.Shrink
namespace Brv.Shrink
open Go Brv
theorem growN_len (most : Nat) : ∀ (k : Nat) (acc l : List UInt8), (growN most k acc l).1.length ≤ acc.length + 130 * l.length
  | 0, acc, l => by simp [growN]
  | k + 1, acc, l => by
    unfold growN
    split
    · simp
    · split
      · simp
      · rename_i p r hp
        have h1 := pieceF_less hp
        have h2 := pieceF_size hp
        split
        · simp
        · have := growN_len most k (acc ++ p) r
          rw [List.length_append] at this
          omega
theorem growF_len (most : Int) (l : List UInt8) : (growF most l).1.length ≤ 130 * l.length := by
  have := growN_len most.toNat l.length [] l
  unfold growF
  simpa using this
end Brv.Shrink
