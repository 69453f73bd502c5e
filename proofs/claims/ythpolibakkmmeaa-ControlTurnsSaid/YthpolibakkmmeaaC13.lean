/-
  Arrays of bytes as values: from slices, compared.
-/
import Derived.Test.YthpolibakkmmeaaC12
import Derived.Stop.BytesEq
import Derived.Laws.Cover3
set_option linter.unusedVariables false
namespace Brv
open Go
section
variable {P : Program} {n : Fm} {ρ : Env} {w : World} {d : Nat} {ty : TypeId} {pos : String} {af : Array Edge} {gd : Option (Nat × Bool)}
/-- (*[m]E)(xs). -/
theorem R.s2ap {T m E size : Nat} [t : TyArr P T m E size] {x : Operand} {a : Option Addr} {k c : Nat} (hx : ev ρ x = some (.slice a k c)) (hk : m ≤ k) :
    Runs P n ρ w ⟨some d, .sliceToArrayPointer T x, ty, pos, af, gd⟩ (.pointer a) w := (fun f hf => by
    simp [execOp, hf.eval hx, run_arrayAt w T E m a k c t.h hk])
/-- An array type of bytes, that may be compared. -/
class TyBArr (P : Program) (T : TypeId) (m : outParam Nat) : Prop where
  h : ∃ E, P.underlying T = some (.array m E) ∧ P.underlying E = some (.int .u8) ∧ (P.info? E).map (·.size) = some 1
  g : P.eqGuardType P.depth T = false
theorem vbs_cell (l : List UInt8) : vbs l = l.map Extern.Stop.cell := rfl
theorem R.neArr {T T' : TypeId} {m : Nat} [t : TyBArr P T m] {x y : Operand} {a b : List UInt8} (hx : ev ρ x = some (.agg (vbs a).toArray)) (hy : ev ρ y = some (.agg (vbs b).toArray)) (ha : a.length = m) (hb : b.length = m) :
    Runs P n ρ w ⟨some d, .binOp .neq T x y T', ty, pos, af, gd⟩ (.bool (decide (a ≠ b))) w := R.bin hx hy (fun w => by
    obtain ⟨E, h1, h2, h3⟩ := t.h
    have hsz : ∀ w, (Go.sizeOf E).run P w = .ok 1 w := by
      intro w
      cases hq : P.info? E with
      | none => simp [hq] at h3
      | some q => have : q.size = 1 := by simpa [hq] using h3
                  simp [Go.sizeOf, typeInfo, hq, this]
    simp only [Sem.run_bind, run_eqGuard_agg (w := w) .neq T x y _ _ t.g, Result.andThen_ok, run_neq_struct, vbs_cell, run_equalIn_bytes w 9998 T E m h1 h2 hsz a b ha hb]
    congr 2
    by_cases h : a = b <;> simp [h])
end
theorem cells_repV {cur : Array Value} {p q : Nat} {y : Value} (h : cur.toList.take p = List.replicate p y) (hq : q ≤ p) (j : Nat) (v : Value) (hj : (List.replicate q y)[j]? = some v) : cur[0 + j]? = some v := by
  have hlt : j < q := by have := (List.getElem?_eq_some_iff.1 hj).1; simpa using this
  have h1 : (List.replicate p y)[j]? = some v := by rw [List.getElem?_replicate] at hj ⊢; rw [if_pos hlt] at hj; rw [if_pos (by omega)]; exact hj
  rw [← h, List.getElem?_take, if_pos (by omega)] at h1
  simpa using h1
theorem Cells.none {w : World} {vs : List Value} (h : Cells w none vs) : vs = [] := by
  cases vs with
  | nil => rfl
  | cons v vs => obtain ⟨p, hp, _⟩ := h 0 v rfl; cases hp
end Brv
namespace Brv
open Go
def ptr (b : Nat) : Value := .pointer (some ⟨b, 0, none⟩)
theorem ptrs_one (ps : List Nat) : ∀ u ∈ ps.map ptr, u.oneCell' = true := by
  intro u hu
  obtain ⟨b, _, rfl⟩ := List.mem_map.1 hu
  rfl
theorem R.lenT {P : Program} {n : Fm} {ρ : Env} {w : World} {d : Nat} {ty : TypeId} {pos : String} {af : Array Edge} {gd : Option (Nat × Bool)} {T : Nat} [t : TyStr P T] {x : Operand} {l : List UInt8} (hx : ev ρ x = some (.string (str l))) :
    Runs P n ρ w ⟨some d, .call ⟨.builtin .len, #[x], #[T]⟩, ty, pos, af, gd⟩ (.int .i64 (l.length : Int)) w := R.lenStr hx
theorem all_stored {cs vs : Array Value} (h : cs.size = vs.size) : (cs.toList.take 0 ++ vs.toList ++ cs.toList.drop (0 + vs.size)).toArray = vs := by
  rw [List.take_zero, List.nil_append, List.drop_of_length_le (by rw [Array.length_toList]; omega), List.append_nil]
end Brv
