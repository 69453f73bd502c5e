/-
  Plain laws on package ledger: how many sectors commits, backups, segments and lists take.
-/
import Derived.Test.YtfbkbobphjncfaaPackPure
set_option linter.unusedVariables false
namespace Brv.Ledger
open Go Brv Brv.Crc Brv.Pack

def okShape (p q r : Int) : Prop := 1 ≤ p ∧ p ≤ 64 ∧ 3 ≤ q ∧ q ≤ 64 ∧ 4 ≤ r ∧ r ≤ 64
instance (p q r : Int) : Decidable (okShape p q r) := inferInstanceAs (Decidable (1 ≤ p ∧ p ≤ 64 ∧ 3 ≤ q ∧ q ≤ 64 ∧ 4 ≤ r ∧ r ≤ 64))
/-- Sectors that a store needs. -/
def needF (p q r : Int) : Int := if okShape p q r then 2 + 2 * p + q * r else 0
theorem needF_yes {p q r : Int} (h : okShape p q r) : needF p q r = 2 + 2 * p + q * r := if_pos h
theorem needF_no {p q r : Int} (h : ¬ okShape p q r) : needF p q r = 0 := if_neg h
theorem mul_bounds {q r : Int} (hq : 0 ≤ q ∧ q ≤ 64) (hr : 0 ≤ r ∧ r ≤ 64) : 0 ≤ q * r ∧ q * r ≤ 4096 := by
  refine ⟨Int.mul_nonneg hq.1 hr.1, ?_⟩
  have := Int.mul_le_mul hq.2 hr.2 hr.1 (by decide)
  omega
theorem needF_pos {p q r : Int} : 0 < needF p q r ↔ okShape p q r := by
  by_cases h : okShape p q r
  · rw [needF_yes h]
    have := mul_bounds (q := q) (r := r) ⟨by have := h.2.2.1; omega, h.2.2.2.1⟩ ⟨by have := h.2.2.2.2.1; omega, h.2.2.2.2.2⟩
    have h1 := h.1
    exact ⟨fun _ => h, fun _ => by omega⟩
  · rw [needF_no h]; exact ⟨fun h' => by omega, fun h' => absurd h' h⟩
theorem needF_zero {p q r : Int} : needF p q r = 0 ↔ ¬ okShape p q r := by
  constructor
  · intro h h'; have := needF_pos.2 h'; omega
  · exact needF_no
/-- Sectors of a body of n bytes. -/
def secF (n : Int) : Int := if n < 0 ∨ 2621400 < n then 0 else max ((n + 39) / 40) 1
theorem secF_no {n : Int} (h : n < 0 ∨ 2621400 < n) : secF n = 0 := if_pos h
theorem secF_yes {n : Int} (h : ¬ (n < 0 ∨ 2621400 < n)) : secF n = max ((n + 39) / 40) 1 := if_neg h
theorem secF_up {n : Int} (h : ¬ (n < 0 ∨ 2621400 < n)) (hr : n % 40 ≠ 0 ∨ n = 0) : n / 40 + 1 = secF n := by rw [secF_yes h]; omega
theorem secF_even {n : Int} (h : ¬ (n < 0 ∨ 2621400 < n)) (hr : ¬ (n % 40 ≠ 0 ∨ n = 0)) : n / 40 = secF n := by rw [secF_yes h]; omega
theorem secF_bounds (n : Int) : 0 ≤ secF n ∧ secF n ≤ 65536 := by unfold secF; split <;> omega
def comF (n : Int) : Int := if 0 ≤ n ∧ n ≤ 64 then secF (15 + 66 * n) else 0
theorem comF_yes {n : Int} (h : 0 ≤ n ∧ n ≤ 64) : comF n = secF (15 + 66 * n) := if_pos h
theorem comF_no {n : Int} (h : ¬ (0 ≤ n ∧ n ≤ 64)) : comF n = 0 := if_neg h
theorem comF_pos {n : Int} (h : 0 ≤ n ∧ n ≤ 64) : 1 ≤ comF n ∧ comF n ≤ 200 := by rw [comF_yes h, secF_yes (by omega)]; omega
theorem comF_bounds (n : Int) : 0 ≤ comF n ∧ comF n ≤ 65536 := by
  unfold comF; split
  · exact secF_bounds _
  · omega
def okFits (p q r n : Int) : Prop := okShape p q r ∧ (0 ≤ n ∧ n ≤ 64) ∧ n ≤ p ∧ comF n ≤ r - 2
instance (p q r n : Int) : Decidable (okFits p q r n) := inferInstanceAs (Decidable (okShape p q r ∧ (0 ≤ n ∧ n ≤ 64) ∧ n ≤ p ∧ comF n ≤ r - 2))
def perF (p q r n : Int) : Int := if okFits p q r n then (r - 2) / comF n else 0
theorem perF_yes {p q r n : Int} (h : okFits p q r n) : perF p q r n = (r - 2) / comF n := if_pos h
theorem perF_no {p q r n : Int} (h : ¬ okFits p q r n) : perF p q r n = 0 := if_neg h
def backF (n : Int) : Int := if 0 ≤ n ∧ n ≤ 64 then secF (2 + 66 * n) else 0
def segF (p q r : Int) : Int := if okShape p q r then secF (64 * r) else 0
/-- So many commits go in: counted up. -/
theorem per_up {r c : Int} {k : Nat} (hc : 1 ≤ c) (h : ((k : Int) + 1) * c ≤ r) : (k : Int) + 1 ≤ r / c := (Int.le_ediv_iff_mul_le (by omega)).2 h
theorem per_end {r c : Int} {k : Nat} (hc : 1 ≤ c) (hk : (k : Int) ≤ r / c) (h : ¬ ((k : Int) + 1) * c ≤ r) : (k : Int) = r / c := by
  have : ¬ (k : Int) + 1 ≤ r / c := fun h' => h ((Int.le_ediv_iff_mul_le (by omega)).1 h')
  omega
theorem not_dec_t {p : Prop} [Decidable p] (h : (!decide p) = true) : ¬ p := by simpa using h
theorem not_dec_f {p : Prop} [Decidable p] (h : (!decide p) = false) : p := by simpa using h
theorem fits_t {p q r n : Int} (h1 : 0 < needF p q r) (h2 : 0 ≤ n ∧ n ≤ 64) (h3 : n ≤ p) : decide (comF n ≤ r - 2) = decide (okFits p q r n) := by
  rw [decide_eq_decide]; exact ⟨fun h => ⟨needF_pos.1 h1, h2, h3, h⟩, fun h => h.2.2.2⟩
theorem fits_f {p q r n : Int} (h : ¬ (0 < needF p q r ∧ (0 ≤ n ∧ n ≤ 64) ∧ n ≤ p)) : false = decide (okFits p q r n) := by
  rw [eq_comm, decide_eq_false_iff_not]; exact fun h' => h ⟨needF_pos.2 h'.1, h'.2.1, h'.2.2.1⟩
end Brv.Ledger
