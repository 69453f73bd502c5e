/-
  Slices of three bounds; a struct of two parts.
-/
import Derived.Test.YthpolibakkmmeaaC13
set_option linter.unusedVariables false
namespace Brv
open Go
section
variable {P : Program} {n : Fm} {ρ : Env} {w : World} {d : Nat} {ty : TypeId} {pos : String} {af : Array Edge} {gd : Option (Nat × Bool)}
theorem R.slLHM {T E size bytes : Nat} {z : Value} [t : TySlice P T E size bytes z] {x lo hi mx : Operand} {k k' k'' : IntKind} {a : Option Addr} {m c : Nat} {i j e : Int} (hx : ev ρ x = some (.slice a m c)) (hlo : ev ρ lo = some (.int k i)) (hhi : ev ρ hi = some (.int k' j)) (hmx : ev ρ mx = some (.int k'' e)) (h0 : 0 ≤ i) (h1 : i ≤ j) (h2 : j ≤ e) (h3 : e ≤ c) :
    Runs P n ρ w ⟨some d, .slice T x (some lo) (some hi) (some mx), ty, pos, af, gd⟩ (.slice (subA a i.toNat e.toNat size) (j.toNat - i.toNat) (e.toNat - i.toNat)) w := (fun f hf => by
    have hb : (Instr.sliceBounds true m c (some (.int k i)) (some (.int k' j)) (some (.int k'' e))).run P w = .ok (i.toNat, j.toNat, e.toNat) w := by
      simp [Instr.sliceBounds, sliceBound_ok (P := P) (k := k'') (i := e) (y := c) (code := .slice3Acap) (by omega) h3 w, sliceBound_ok (P := P) (k := k') (i := j) (y := e.toNat) (code := .slice3B) (by omega) (by omega) w, sliceBound_ok (P := P) (k := k) (i := i) (y := j.toNat) (code := .slice3C) h0 (by omega) w]
    have := run_subS (P := P) (T := T) (a := a) w hb
    simp only [execOp, hf.eval hx, hf.eval hlo, hf.eval hhi, hf.eval hmx, Sem.run_bind, Option.map_some, this]
    rfl)
end
theorem fill_two {pl : Nat → Option (Nat × Nat)} {A cs : Array Value} {u : Value} {m : Nat} (h0 : pl 0 = some (0, 1)) (h1 : pl 1 = some (1, m)) (hu : u.cells = #[u]) (hc : cs.size = m) (hA : A.size = 1 + m) : Instr.fill pl A [(0, u), (1, .agg cs)] = some (u :: cs.toList).toArray := by
  have hcc : (Value.agg cs).cells = cs := rfl
  have e0 : (u.cells.zipIdx.foldl (fun as (p : Value × Nat) => as.setIfInBounds (0 + p.2) p.1) A) = A.setIfInBounds 0 u := by rw [hu]; simp
  have hf := seg_fold 1 cs.toList 0 (A.setIfInBounds 0 u) (by simp; omega)
  have e : (cs.zipIdx.foldl (fun as (p : Value × Nat) => as.setIfInBounds (1 + p.2) p.1) (A.setIfInBounds 0 u)) = ((cs.toList.zipIdx 0).foldl (fun as (p : Value × Nat) => as.setIfInBounds (1 + p.2) p.1) (A.setIfInBounds 0 u)) := by
    rw [← Array.foldl_toList]; simp
  simp only [Instr.fill, h0, h1, hcc]
  rw [if_neg (by rw [hu]; intro h; simp at h; rw [h] at hA; simp at hA; omega)]
  simp only [e0]
  rw [if_neg (by simp; omega)]
  refine congrArg some ?_
  rw [e]
  apply Array.toList_inj.1
  rw [hf]
  simp only [Array.toList_setIfInBounds, Nat.add_zero, Array.length_toList]
  obtain ⟨al⟩ := A
  cases al with
  | nil => simp at hA; omega
  | cons a r =>
    simp at hA
    simp
    omega
/-- Where the elements of a slice lie; nowhere, if there are none. -/
def effA {α : Type} (a : Option Addr) : List α → Option Addr
  | [] => none
  | _ :: _ => a
theorem effA.of {α : Type} {a : Option Addr} {l : List α} {p : Addr} (h : effA a l = some p) : a = some p := by
  cases l with
  | nil => cases h
  | cons x r => exact h
theorem Cells.extE {α : Type} {f : α → Value} {w w' : World} {M : List Nat} {a : Option Addr} {l : List α} (h : Cells w a (l.map f)) (he : Ext M w w') (hm : ∀ p, effA a l = some p → p.block ∉ M) : Cells w' a (l.map f) := by
  cases l with
  | nil => exact Cells.nil _ _
  | cons x r => exact h.ext he hm
theorem Bs.extE {w w' : World} {M : List Nat} {a : Option Addr} {n : Nat} {l : List UInt8} (h : Bs w a n l) (he : Ext M w w') (hm : ∀ p, effA a l = some p → p.block ∉ M) : Bs w' a n l := ⟨Cells.extE (f := vb) h.cells he hm, h.len⟩
theorem Cells.effLt {α : Type} {f : α → Value} {w : World} {a : Option Addr} {l : List α} (h : Cells w a (l.map f)) : ∀ p, effA a l = some p → p.block < w.heap.size := by
  intro p hp
  cases l with
  | nil => cases hp
  | cons x r =>
    obtain ⟨q, hq, hc⟩ := h 0 (f x) rfl
    have : a = some p := hp
    rw [this] at hq; cases hq
    obtain ⟨o, ho, _⟩ : ∃ o : Obj, w.heap[(p.add 0).block]? = some o ∧ True := by
      unfold World.cell? at hc
      cases ho : w.heap[(p.add 0).block]? with
      | none => simp [ho] at hc
      | some o => exact ⟨o, rfl, trivial⟩
    exact (Array.getElem?_eq_some_iff.1 ho).1
theorem Bs.effLt {w : World} {a : Option Addr} {n : Nat} {l : List UInt8} (h : Bs w a n l) : ∀ p, effA a l = some p → p.block < w.heap.size := Cells.effLt (f := vb) h.cells
end Brv
