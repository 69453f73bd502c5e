/-
  Structs in memory: stores of several cells, rows of structs.
-/
import Derived.Test.YthpolibakkmmeaaC8
import Derived.Test.YthpolibakkmmeaaC7
set_option linter.unusedVariables false
namespace Brv
open Go
section
variable {P : Program} {n : Fm} {ρ : Env} {w : World} {pos : String} {af : Array Edge} {gd : Option (Nat × Bool)} {ty : TypeId} {d : Nat}

theorem madeCells_bytes (m : Nat) : (madeCells (Value.int .u8 0).cells m).toList = vbs (List.replicate m 0) := by
  refine List.ext_getElem (by simp [madeCells, vbs, Value.cells]) (fun i h1 h2 => ?_)
  simp [madeCells, vbs, Value.cells, vb, Nat.mod_one]
/-- A struct is stored. -/
theorem R.stN {T : TypeId} {s : Nat} [t : TyAgg P T s] {x y : Operand} {b o : Nat} {cs vs : Array Value} {U : TypeId} (hx : ev ρ x = some (.pointer (some ⟨b, o, none⟩))) (hy : ev ρ y = some (.agg vs)) (hb : Blk w b cs U (0, 0))
    (hs : vs.size = s) (ho : o + vs.size ≤ cs.size) (h1 : ∀ u ∈ vs.toList, u.oneCell' = true) :
    Sets P n ρ w ⟨none, .store T x y, ty, pos, af, gd⟩ (Put w b (cs.toList.take o ++ vs.toList ++ cs.toList.drop (o + vs.size)).toArray U) := by
  obtain ⟨j, hj, hs'⟩ := TyAgg.info (P := P) (T := T) (s := s)
  have hst := run_storeCells_at P b o U vs.toList 0 cs w hb (by simpa using ho) h1
  simp only [Nat.add_zero, Array.length_toList] at hst
  refine ⟨w.setRow b (cs.toList.take o ++ vs.toList ++ cs.toList.drop (o + vs.size)).toArray, fun f hf => ?_, ⟨rfl, rfl, rfl, by simp, fun k _ hk => setRow_other w b k _ (fun e => hk (by simp [e]))⟩, by simp, setRow_heap w b cs _ U (0, 0) hb⟩
  simp only [execOp, hf.eval hx, hf.eval hy, Sem.run_bind]
  simp [Instr.storeAt, Instr.sureAddr, storeVar, Value.cells, Go.sizeOf, typeInfo, hj, hs', hs] at hst ⊢
  simp [hst]
end
/-- A slice of n elements, of size cells each. -/
structure Tab (w : World) (a : Option Addr) (n size : Nat) (vss : List (List Value)) : Prop where
  cells : Cells w a vss.flatten
  len : n = vss.length
  each : ∀ vs ∈ vss, vs.length = size
theorem Tab.ext0 {w w' : World} {a : Option Addr} {n size : Nat} {vss : List (List Value)} (h : Tab w a n size vss) (he : Ext [] w w') : Tab w' a n size vss := ⟨h.cells.ext0 he, h.len, h.each⟩
theorem flatten_get {size : Nat} : ∀ (vss : List (List Value)) (i : Nat), (∀ vs ∈ vss, vs.length = size) → ∀ (h : i < vss.length) (j : Nat), j < size → vss.flatten[i * size + j]? = vss[i][j]?
  | [], i, _, h, _, _ => by simp at h
  | vs :: r, 0, he, _, j, hj => by
    have := he vs (by simp)
    rw [List.flatten_cons, Nat.zero_mul, Nat.zero_add, List.getElem?_append_left (by omega)]; rfl
  | vs :: r, i + 1, he, h, j, hj => by
    have := he vs (by simp)
    rw [List.flatten_cons, List.getElem?_append_right (by rw [this, Nat.add_mul]; omega), this]
    rw [show (i + 1) * size + j - size = i * size + j by rw [Nat.add_mul]; omega]
    exact flatten_get r i (fun x hx => he x (by simp [hx])) (by simpa using h) j hj
theorem Tab.at {w : World} {a : Option Addr} {n size : Nat} {vss : List (List Value)} (h : Tab w a n size vss) (hs : 0 < size) (i : Nat) (hi : i < vss.length) : ∃ p, a = some p ∧ Cells w (some (p.add (i * size))) vss[i] := by
  have hlen := h.each vss[i] (List.getElem_mem hi)
  have get : ∀ j (v : Value), vss[i][j]? = some v → ∃ p, a = some p ∧ w.cell? (p.add (i * size + j)) = some v := by
    intro j v hv
    have hj : j < size := by rw [← hlen]; exact (List.getElem?_eq_some_iff.1 hv).1
    rw [← flatten_get vss i h.each hi j hj] at hv
    exact h.cells _ _ hv
  obtain ⟨p, hp, _⟩ := get 0 vss[i][0] (List.getElem?_eq_getElem (by omega))
  refine ⟨p, hp, fun j v hv => ⟨_, rfl, ?_⟩⟩
  obtain ⟨q, hq, hc⟩ := get j v hv
  rw [hp] at hq; cases hq
  rw [add_add]; exact hc
section
variable {P : Program} {n : Nat} {ks : List K} {ρ : Env} {w : World} {fn : Func} {Φ : Value → World → Prop}
/-- A return of a struct that lives in a block, and of a plain result. -/
theorem G.retCT {t u : Nat} {T : TypeId} {s b : Nat} [ta : TyAgg P T s] {cs : Array Value} {U : TypeId} {fz : Nat × Nat} {x : Value} (hr : fn.results = #[.cell t T, .tmp u]) (hv : look ρ t = some (.pointer (some ⟨b, 0, none⟩))) (hx : look ρ u = some x)
    (hb : Blk w b cs U fz) (hs : cs.size = s) (h : Φ (.tuple #[.agg cs, x]) w) : G P (Func.base P fn Φ) ⟨n, [], none⟩ ks ρ w .ret := by
  refine G.retM (n := ⟨n, [], none⟩) rfl (fun a ha => ?_) h
  have h1 := ha.vals t _ hv
  have h2 := ha.vals u x hx
  rw [results_cell_tmp hr]
  have hl := run_loadN (P := P) (T := T) (s := s) (w := w) (p := ⟨b, 0, none⟩) (vs := cs.toList) hb.cellsAll (by simpa using hs)
  simp only [Instr.loadAt, Instr.sureAddr] at hl
  simp [h1, h2, asAddr] at hl ⊢
  simp [hl]
end
end Brv
