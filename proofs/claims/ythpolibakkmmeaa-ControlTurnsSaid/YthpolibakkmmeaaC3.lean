/-
  Slices: parts of slices, the row that a slice owns, append, copy, bytes of strings.
-/
import Derived.Test.YthpolibakkmmeaaC2
namespace Brv
open Go

/-- The address of xs[l:h] of a slice at a (m: its new end, size: an element's cells). -/
def subA (a : Option Addr) (l m size : Nat) : Option Addr := if m = l then a else a.map (·.add (l * size))

theorem Cells.sub {w : World} {a : Option Addr} {vs : List Value} (h : Cells w a vs) (l m size k : Nat) (_hk : l * size + k ≤ vs.length) (hm : m = l → k = 0) :
    Cells w (subA a l m size) ((vs.drop (l * size)).take k) := by
  intro j v hj
  have hlt := (List.getElem?_eq_some_iff.1 hj).1
  simp at hlt
  have hne : ¬ m = l := fun e => by have := hm e; omega
  have hj' : vs[l * size + j]? = some v := by
    rw [List.getElem?_take, if_pos (by omega), List.getElem?_drop] at hj
    exact hj
  obtain ⟨p, rfl, hc⟩ := h _ _ hj'
  refine ⟨p.add (l * size), by simp [subA, hne], ?_⟩
  rw [add_add]
  exact hc

/-- What a slice owns: nil, or a row that begins where the slice does and ends at its capacity. M: its block. -/
def Own (w : World) (E size : Nat) (a : Option Addr) (n cap : Nat) (xs : List Value) (M : List Nat) : Prop :=
  xs.length = n * size ∧
  ((a = none ∧ n = 0 ∧ cap = 0 ∧ M = []) ∨
   ∃ g cur, a = some ⟨g, 0, none⟩ ∧ M = [g] ∧ Blk w g cur E (0, 0) ∧ n ≤ cap ∧ cap ≤ maxLen ∧ cap * size ≤ cur.size ∧ cur.toList.take (n * size) = xs)

theorem Own.nil (w : World) (E size : Nat) : Own w E size none 0 0 [] [] := ⟨by simp, .inl ⟨rfl, rfl, rfl, rfl⟩⟩
theorem Own.len {w : World} {E size : Nat} {a : Option Addr} {n cap : Nat} {xs : List Value} {M : List Nat} (h : Own w E size a n cap xs M) : xs.length = n * size := h.1
theorem Own.le {w : World} {E size : Nat} {a : Option Addr} {n cap : Nat} {xs : List Value} {M : List Nat} (h : Own w E size a n cap xs M) : n ≤ cap := by
  rcases h.2 with ⟨_, rfl, rfl, _⟩ | ⟨g, cur, _, _, _, h, _⟩
  · exact Nat.le_refl _
  · exact h
theorem Own.lt {w : World} {E size : Nat} {a : Option Addr} {n cap : Nat} {xs : List Value} {M : List Nat} (h : Own w E size a n cap xs M) : ∀ b ∈ M, b < w.heap.size := by
  rcases h.2 with ⟨_, _, _, rfl⟩ | ⟨g, cur, _, rfl, hb, _⟩
  · simp
  · intro b hm; simp at hm; subst hm; exact hb.lt
theorem Own.ext {w w' : World} {E size : Nat} {a : Option Addr} {n cap : Nat} {xs : List Value} {M M' : List Nat} (h : Own w E size a n cap xs M) (he : Ext M' w w') (hm : ∀ b ∈ M, b ∉ M') : Own w' E size a n cap xs M := by
  refine ⟨h.1, ?_⟩
  rcases h.2 with h | ⟨g, cur, ha, hM, hb, h⟩
  · exact .inl h
  · exact .inr ⟨g, cur, ha, hM, hb.ext he (hm g (by simp [hM])), h⟩
theorem Own.ext0 {w w' : World} {E size : Nat} {a : Option Addr} {n cap : Nat} {xs : List Value} {M : List Nat} (h : Own w E size a n cap xs M) (he : Ext [] w w') : Own w' E size a n cap xs M := h.ext he (by simp)
theorem Own.cells {w : World} {E size : Nat} {a : Option Addr} {n cap : Nat} {xs : List Value} {M : List Nat} (h : Own w E size a n cap xs M) : Cells w a xs := by
  rcases h.2 with ⟨rfl, rfl, _, _⟩ | ⟨g, cur, rfl, _, hb, _, _, _, ht⟩
  · have : xs = [] := List.eq_nil_of_length_eq_zero (by simpa using h.1)
    subst this; exact Cells.nil _ _
  · refine Cells.of_blk hb 0 _ (fun j v hj => ?_)
    rw [← ht, List.getElem?_take] at hj
    split at hj
    · simpa using hj
    · cases hj
theorem Own.spot {w : World} {E size : Nat} {a : Option Addr} {n cap : Nat} {xs : List Value} {M : List Nat} (h : Own w E size a n cap xs M) : ∀ p, a = some p → p.spot = none := by
  intro p hp
  rcases h.2 with ⟨rfl, _⟩ | ⟨g, cur, rfl, _⟩
  · cases hp
  · cases hp; rfl
theorem Own.block {w : World} {E size : Nat} {a : Option Addr} {n cap : Nat} {xs : List Value} {M : List Nat} (h : Own w E size a n cap xs M) : ∀ p, a = some p → M = [p.block] := by
  intro p hp
  rcases h.2 with ⟨rfl, _⟩ | ⟨g, cur, rfl, rfl, _⟩
  · cases hp
  · cases hp; rfl
/-- A whole block, made at this length. -/
theorem Own.blk {w : World} {E size : Nat} {b : Nat} {cs : Array Value} {n : Nat} (hb : Blk w b cs E (0, 0)) (hn : cs.size = n * size) (hm : n ≤ maxLen) : Own w E size (some ⟨b, 0, none⟩) n n cs.toList [b] :=
  ⟨by simpa using hn, .inr ⟨b, cs, rfl, rfl, hb, Nat.le_refl _, hm, Nat.le_of_eq hn.symm, List.take_of_length_le (by rw [Array.length_toList]; omega)⟩⟩

section
variable {P : Program} {B : Exit → Act → World → Prop} {n : Fm} {ops : List Oper} {ks : List K} {ρ : Env} {w : World} {rest : List Oper}
variable {d : Nat} {ty : TypeId} {pos : String} {af : Array Edge} {gd : Option (Nat × Bool)}

/-! ### xs[l:h] -/
theorem run_subS {T E size bytes : Nat} {z : Value} [t : TySlice P T E size bytes z] {a : Option Addr} {m c l h x : Nat} {lo hi mx : Option Value} (w : World)
    (hb : (Instr.sliceBounds true m c lo hi mx).run P w = .ok (l, h, x) w) :
    (Instr.sliceAt T (.slice a m c) lo hi mx).run P w = .ok (.slice (subA a l x size) (h - l) (x - l)) w := by
  obtain ⟨j, hj, hs, _, _⟩ := t.i
  subst hs
  simp [Instr.sliceAt, Instr.slice, run_underlying t.h, hb, Go.sizeOf, typeInfo, hj, subA]
theorem R.slLH {T E size bytes : Nat} {z : Value} [t : TySlice P T E size bytes z] {x lo hi : Operand} {k k' : IntKind} {a : Option Addr} {m c : Nat} {i j : Int}  (hx : ev ρ x = some (.slice a m c)) (hlo : ev ρ lo = some (.int k i)) (hhi : ev ρ hi = some (.int k' j)) (h0 : 0 ≤ i) (h1 : i ≤ j) (h2 : j ≤ c) :
    Runs P n ρ w ⟨some d, .slice T x (some lo) (some hi) none, ty, pos, af, gd⟩ (.slice (subA a i.toNat c size) (j.toNat - i.toNat) (c - i.toNat)) w := (fun f hf => by
    have hb : (Instr.sliceBounds true m c (some (.int k i)) (some (.int k' j)) none).run P w = .ok (i.toNat, j.toNat, c) w := by
      simp [Instr.sliceBounds, sliceBound_ok (P := P) (k := k') (i := j) (y := c) (code := .sliceAcap) (by omega) h2 w, sliceBound_ok (P := P) (k := k) (i := i) (y := j.toNat) (code := .sliceB) h0 (by omega) w]
    have := run_subS (P := P) (T := T) (a := a) w hb
    simp only [execOp, hf.eval hx, hf.eval hlo, hf.eval hhi, Sem.run_bind, Option.map_some, Option.map_none, this]
    rfl)
theorem R.slH {T E size bytes : Nat} {z : Value} [t : TySlice P T E size bytes z] {x hi : Operand} {k' : IntKind} {a : Option Addr} {m c : Nat} {j : Int}  (hx : ev ρ x = some (.slice a m c)) (hhi : ev ρ hi = some (.int k' j)) (h1 : 0 ≤ j) (h2 : j ≤ c) :
    Runs P n ρ w ⟨some d, .slice T x none (some hi) none, ty, pos, af, gd⟩ (.slice (subA a 0 c size) j.toNat c) w := (fun f hf => by
    have hb : (Instr.sliceBounds true m c none (some (.int k' j)) none).run P w = .ok (0, j.toNat, c) w := by
      simp [Instr.sliceBounds, sliceBound_ok (P := P) (k := k') (i := j) (y := c) (code := .sliceAcap) (by omega) h2 w]
    have := run_subS (P := P) (T := T) (a := a) w hb
    simp only [execOp, hf.eval hx, hf.eval hhi, Sem.run_bind, Option.map_some, Option.map_none, this]
    rfl)
theorem R.slL {T E size bytes : Nat} {z : Value} [t : TySlice P T E size bytes z] {x lo : Operand} {k : IntKind} {a : Option Addr} {m c : Nat} {i : Int}  (hx : ev ρ x = some (.slice a m c)) (hlo : ev ρ lo = some (.int k i)) (h0 : 0 ≤ i) (h1 : i ≤ m) :
    Runs P n ρ w ⟨some d, .slice T x (some lo) none none, ty, pos, af, gd⟩ (.slice (subA a i.toNat c size) (m - i.toNat) (c - i.toNat)) w := (fun f hf => by
    have hb : (Instr.sliceBounds true m c (some (.int k i)) none none).run P w = .ok (i.toNat, m, c) w := by
      simp [Instr.sliceBounds, sliceBound_ok (P := P) (k := k) (i := i) (y := m) (code := .sliceB) h0 (by omega) w]
    have := run_subS (P := P) (T := T) (a := a) w hb
    simp only [execOp, hf.eval hx, hf.eval hlo, Sem.run_bind, Option.map_some, Option.map_none, this]
    rfl)
theorem R.slHM {T E size bytes : Nat} {z : Value} [t : TySlice P T E size bytes z] {x hi mx : Operand} {k k' : IntKind} {a : Option Addr} {m c : Nat} {j e : Int}  (hx : ev ρ x = some (.slice a m c)) (hhi : ev ρ hi = some (.int k j)) (hmx : ev ρ mx = some (.int k' e)) (h0 : 0 ≤ j) (h1 : j ≤ e) (h2 : e ≤ c) :
    Runs P n ρ w ⟨some d, .slice T x none (some hi) (some mx), ty, pos, af, gd⟩ (.slice (subA a 0 e.toNat size) j.toNat e.toNat) w := (fun f hf => by
    have hb : (Instr.sliceBounds true m c none (some (.int k j)) (some (.int k' e))).run P w = .ok (0, j.toNat, e.toNat) w := by
      simp [Instr.sliceBounds, sliceBound_ok (P := P) (k := k') (i := e) (y := c) (code := .slice3Acap) (by omega) h2 w, sliceBound_ok (P := P) (k := k) (i := j) (y := e.toNat) (code := .slice3B) h0 (by omega) w]
    have := run_subS (P := P) (T := T) (a := a) w hb
    simp only [execOp, hf.eval hx, hf.eval hhi, hf.eval hmx, Sem.run_bind, Option.map_some, Option.map_none, this]
    rfl)
theorem subA_zero (a : Option Addr) (m size : Nat) : subA a 0 m size = a := by
  unfold subA
  split
  · rfl
  · cases a <;> simp [Go.Addr.add_zero']

/-! ### append -/
theorem cells_none {w : World} {vs : List Value} (h : Cells w none vs) : vs = [] := by
  cases vs with
  | nil => rfl
  | cons v r => obtain ⟨p, hp, _⟩ := h 0 v rfl; cases hp
theorem run_first {w : World} {size m c : Nat} {b : Option Addr} {cs : List Value} (hc : Cells w b cs) (hl : cs.length = m * size) :
    (Builtin.firstCells size m (.slice b m c)).run P w = .ok cs.toArray w := by
  cases b with
  | none =>
    have := cells_none hc; subst this
    simp [Builtin.firstCells]
  | some p => exact run_firstCells_some (P := P) w size m p m c cs hl (fun j v hv => hc.load hv)

theorem run_app {T E size bytes : Nat} {z : Value} [t : TySlice P T E size bytes z] {a : Option Addr} {n cap : Nat} {xs : List Value} {M : List Nat} (hown : Own w E size a n cap xs M)
    {b : Option Addr} {m c : Nat} {news : List Value} (hnews : Cells w b news) (hl : news.length = m * size) (h1 : ∀ u ∈ news, u.oneCell' = true) (h63 : n + m ≤ maxLen) (hby : (n + m) * bytes ≤ 140737488355328) (ty : Nat) :
    ∃ a' cap' M' w', (Builtin.append_ #[T, T] ty #[.slice a n cap, .slice b m c]).run P w = .ok (.slice a' (n + m) cap') w' ∧ Own w' E size a' (n + m) cap' (xs ++ news) M' ∧ Ext M w w' ∧ (∀ g ∈ M', g ∈ M ∨ w.heap.size ≤ g) := by
  obtain ⟨j, hj, hs, hb, hz⟩ := t.i
  have hzs := t.zs
  subst hs hb
  have hsmall : n + m ≤ 9223372036854775807 := by simp only [maxLen] at h63; omega
  have hlen : (xs ++ news).length = (n + m) * j.size := by rw [List.length_append, hown.1, hl, Nat.add_mul]
  by_cases hroom : n + m ≤ cap
  · rcases hown.2 with ⟨rfl, rfl, rfl, rfl⟩ | ⟨g, cur, rfl, rfl, hg, hnc, hcm, hcs, ht⟩
    · have hm0 : m = 0 := by omega
      subst hm0
      have : news = [] := List.eq_nil_of_length_eq_zero (by simpa using hl)
      subst this
      refine ⟨none, 0, [], w, ?_, ⟨by simpa using hown.1, .inl ⟨rfl, rfl, rfl, rfl⟩⟩, Ext.refl _ _, by simp⟩
      have hf := run_first (P := P) (size := j.size) (c := c) hnews hl
      simp [Builtin.append_, run_underlying t.h, Go.sizeOf, typeInfo, hj, Builtin.lenOf, hf]
    · have hf := run_first (P := P) (size := j.size) (c := c) hnews hl
      have hfit : n * j.size + news.length ≤ cur.size := by rw [hl, ← Nat.add_mul]; exact Nat.le_trans (Nat.mul_le_mul_right _ hroom) hcs
      have hst := run_storeCells_at P g (n * j.size) E news 0 cur w hg (by simpa using hfit) h1
      simp only [Nat.add_zero] at hst
      refine ⟨some ⟨g, 0, none⟩, cap, [g], w.setRow g (cur.toList.take (n * j.size) ++ news ++ cur.toList.drop (n * j.size + news.length)).toArray, ?_, ⟨hlen, .inr ⟨g, _, rfl, rfl, setRow_heap w g cur _ E _ hg, hroom, hcm, ?_, ?_⟩⟩, ⟨rfl, rfl, rfl, by simp, fun k _ hk => setRow_other w g k _ (fun e => hk (by simp [e]))⟩, fun x hx => .inl hx⟩
      · simp [Builtin.append_, run_underlying t.h, Go.sizeOf, typeInfo, hj, Builtin.lenOf, hroom, hf, Go.Addr.add_lit, hst]
      · simp only [List.size_toArray, List.length_append, List.length_take, List.length_drop, Array.length_toList]
        refine Nat.le_trans hcs ?_
        omega
      · rw [ht, ← hlen]
        exact List.take_left
  · have hf := run_first (P := P) (size := j.size) (c := c) (w := w.drew) (b := b) (cs := news) (fun i v hv => by
      obtain ⟨p, hp, hc⟩ := hnews i v hv; exact ⟨p, hp, by simpa using hc⟩) hl
    have hfo := run_first (P := P) (size := j.size) (c := cap) (w := w.drew) (b := a) (cs := xs) (m := n) (fun i v hv => by
      obtain ⟨p, hp, hc⟩ := hown.cells i v hv; exact ⟨p, hp, by simpa using hc⟩) hown.1
    have h63' : ¬ (9223372036854775807 < ((n : Int) + (m : Int))) := by omega
    have hfit := growslice_fits (need := n + m) (old := cap) (bytes := j.bytes) (by omega) hby
    have h48' : ¬ (281474976710656 < Builtin.nextslicecap (n + m) cap * j.bytes) := by omega
    have hge := grownCap_ge w (n + m) cap E
    have hcm := grownCap_le_maxLen w (n + m) cap E h63
    refine ⟨some ⟨w.heap.size, 0, none⟩, grownCap w (n + m) cap E, [w.heap.size], w.drew.alloc (.cells (xs.toArray ++ news.toArray ++ Builtin.zeroCells z.cells (grownCap w (n + m) cap E - (n + m))) E), ?_, ⟨hlen, .inr ⟨w.heap.size, _, rfl, rfl, Blk.new w.drew _ _ _, hge, hcm, ?_, ?_⟩⟩, ?_, fun x hx => .inr (by simp at hx; omega)⟩
    · simp [Builtin.append_, run_underlying t.h, Go.sizeOf, typeInfo, zeroValue, hj, hz, Builtin.lenOf, show ¬ n + m ≤ cap by omega, h63', h48', Question.forced, hf, hfo, newRow, grownCap]
      congr 2
      apply Array.ext'
      simp [List.append_assoc]
    · simp only [Array.size_append, List.size_toArray, size_zeroCells, hzs, hown.1, hl, ← Nat.add_mul]
      refine Nat.le_of_eq ?_
      congr 1
      omega
    · simp only [Array.toList_append, List.append_assoc]
      rw [← List.append_assoc, ← hlen]
      exact List.take_left
    · have h1 := (Ext.drew w).trans0 (Ext.alloc w.drew (.cells (xs.toArray ++ news.toArray ++ Builtin.zeroCells z.cells (grownCap w (n + m) cap E - (n + m))) E))
      exact h1.mono (by simp)
theorem run_appZ {T E I size bytes : Nat} {z : Value} [t : TySlice P T E size bytes z] [ti : TyInt P I .i64] {a : Option Addr} {n cap : Nat} {xs : List Value} {M : List Nat} (hown : Own w E size a n cap xs M)
    {m : Nat} (h1 : ∀ u ∈ z.cells.toList, u.oneCell' = true) (h63 : n + m ≤ maxLen) (hby : (n + m) * bytes ≤ 140737488355328) (hpos : 0 < size) (hbp : 0 < bytes) (ty : Nat) :
    ∃ a' cap' M' w', (Builtin.append_ #[T, I] ty #[.slice a n cap, .int .i64 m]).run P w = .ok (.slice a' (n + m) cap') w' ∧ Own w' E size a' (n + m) cap' (xs ++ (Builtin.zeroCells z.cells m).toList) M' ∧ Ext M w w' ∧ (∀ g ∈ M', g ∈ M ∨ w.heap.size ≤ g) := by
  obtain ⟨j, hj, hs, hb, hz⟩ := t.i
  have hzs := t.zs
  subst hs hb
  have hI := ti.h
  have hl : (Builtin.zeroCells z.cells m).toList.length = m * j.size := by rw [Array.length_toList, size_zeroCells, hzs]
  have hmm : m ≤ m * j.bytes := Nat.le_mul_of_pos_right _ hbp
  have hmb : m * j.bytes ≤ (n + m) * j.bytes := Nat.mul_le_mul_right _ (by omega)
  have hsmall : n + m ≤ 9223372036854775807 := by simp only [maxLen] at h63; omega
  have hwr : IntKind.i64.wrap ((m : Nat) : Int) = m := wrap_i64 (by omega)
  have hbig : ¬ (281474976710656 : Int) < (m : Int) * (j.bytes : Int) := by
    have : ((m * j.bytes : Nat) : Int) = (m : Int) * (j.bytes : Int) := by simp
    omega
  have hneg : ¬ ((m : Nat) : Int) < 0 := by omega
  have hai : (asInt (.int .i64 (m : Int))).run P w = .ok (m : Int) w := by simp [asInt, asIntOf]
  have hlen : (xs ++ (Builtin.zeroCells z.cells m).toList).length = (n + m) * j.size := by rw [List.length_append, hown.1, hl, Nat.add_mul]
  have h1' : ∀ u ∈ (Builtin.zeroCells z.cells m).toList, u.oneCell' = true := by
    intro u hu
    simp only [Builtin.zeroCells, Array.toList_map, List.mem_map, Array.mem_toList_iff, Array.mem_range] at hu
    obtain ⟨i, hi, rfl⟩ := hu
    have : i % z.cells.size < z.cells.size := Nat.mod_lt _ (by rw [hzs]; exact hpos)
    rw [getElem!_pos z.cells _ this]
    exact h1 _ (by simp)
  have hzl : m * j.size = 0 → (Builtin.zeroCells z.cells m) = #[] := by
    intro h0
    exact Array.eq_empty_of_size_eq_zero (by rw [size_zeroCells, hzs]; exact h0)
  by_cases hroom : n + m ≤ cap
  · rcases hown.2 with ⟨rfl, rfl, rfl, rfl⟩ | ⟨g, cur, rfl, rfl, hg, hnc, hcm, hcs, ht⟩
    · have hm0 : m = 0 := by omega
      subst hm0
      refine ⟨none, 0, [], w, ?_, ⟨hlen, .inl ⟨rfl, rfl, rfl, rfl⟩⟩, Ext.refl _ _, by simp⟩
      have hai0 : (asInt (.int .i64 0)).run P w = .ok 0 w := hai
      have hwr0 : IntKind.i64.wrap 0 = 0 := hwr
      simp [Builtin.append_, run_underlying t.h, run_underlying hI, Go.sizeOf, typeInfo, hj, hai0, hwr0]
    · have hfit : n * j.size + (Builtin.zeroCells z.cells m).toList.length ≤ cur.size := by rw [hl, ← Nat.add_mul]; exact Nat.le_trans (Nat.mul_le_mul_right _ hroom) hcs
      have hst := run_storeCells_at P g (n * j.size) E (Builtin.zeroCells z.cells m).toList 0 cur w hg (by simpa using hfit) h1'
      simp only [Nat.add_zero] at hst
      refine ⟨some ⟨g, 0, none⟩, cap, [g], w.setRow g (cur.toList.take (n * j.size) ++ (Builtin.zeroCells z.cells m).toList ++ cur.toList.drop (n * j.size + (Builtin.zeroCells z.cells m).toList.length)).toArray, ?_, ⟨hlen, .inr ⟨g, _, rfl, rfl, setRow_heap w g cur _ E _ hg, hroom, hcm, ?_, ?_⟩⟩, ⟨rfl, rfl, rfl, by simp, fun k _ hk => setRow_other w g k _ (fun e => hk (by simp [e]))⟩, fun x hx => .inl hx⟩
      · by_cases h0 : m * j.size = 0
        · rw [hzl h0] at hst ⊢
          simp [Builtin.append_, run_underlying t.h, run_underlying hI, Go.sizeOf, typeInfo, hj, hroom, h0, hwr, hneg, hbig, hai, Go.Addr.add_lit] at hst ⊢
          simp [hst]
        · simp [Builtin.append_, run_underlying t.h, run_underlying hI, Go.sizeOf, typeInfo, zeroValue, hz, hj, hroom, h0, hwr, hneg, hbig, hai, Go.Addr.add_lit, hst]
      · simp only [List.size_toArray, List.length_append, List.length_take, List.length_drop, Array.length_toList]
        refine Nat.le_trans hcs ?_
        omega
      · rw [ht, ← hlen]
        exact List.take_left
  · have hfo := run_first (P := P) (size := j.size) (c := cap) (w := w.drew) (b := a) (cs := xs) (m := n) (fun i v hv => by
      obtain ⟨p, hp, hc⟩ := hown.cells i v hv; exact ⟨p, hp, by simpa using hc⟩) hown.1
    have h63' : ¬ (9223372036854775807 < ((n : Int) + (m : Int))) := by omega
    have hfit := growslice_fits (need := n + m) (old := cap) (bytes := j.bytes) (by omega) hby
    have h48' : ¬ (281474976710656 < Builtin.nextslicecap (n + m) cap * j.bytes) := by omega
    have hge := grownCap_ge w (n + m) cap E
    have hcm := grownCap_le_maxLen w (n + m) cap E h63
    refine ⟨some ⟨w.heap.size, 0, none⟩, grownCap w (n + m) cap E, [w.heap.size], w.drew.alloc (.cells (xs.toArray ++ (Builtin.zeroCells z.cells m) ++ Builtin.zeroCells z.cells (grownCap w (n + m) cap E - (n + m))) E), ?_, ⟨hlen, .inr ⟨w.heap.size, _, rfl, rfl, Blk.new w.drew _ _ _, hge, hcm, ?_, ?_⟩⟩, ?_, fun x hx => .inr (by simp at hx; omega)⟩
    · by_cases h0 : m * j.size = 0
      · rw [hzl h0]
        simp [Builtin.append_, run_underlying t.h, run_underlying hI, Go.sizeOf, typeInfo, zeroValue, hj, hz, h0, hwr, hneg, hbig, hai, show ¬ n + m ≤ cap by omega, h63', h48', Question.forced, hfo, newRow, grownCap]
      · simp [Builtin.append_, run_underlying t.h, run_underlying hI, Go.sizeOf, typeInfo, zeroValue, hj, hz, h0, hwr, hneg, hbig, hai, show ¬ n + m ≤ cap by omega, h63', h48', Question.forced, hfo, newRow, grownCap]
    · simp only [Array.size_append, List.size_toArray, size_zeroCells, hzs, hown.1, ← Nat.add_mul]
      refine Nat.le_of_eq ?_
      congr 1
      omega
    · simp only [Array.toList_append, List.append_assoc]
      rw [← List.append_assoc, ← hlen]
      exact List.take_left
    · have h1 := (Ext.drew w).trans0 (Ext.alloc w.drew (.cells (xs.toArray ++ (Builtin.zeroCells z.cells m) ++ Builtin.zeroCells z.cells (grownCap w (n + m) cap E - (n + m))) E))
      exact h1.mono (by simp)
/-- What an append leaves: a slice that owns the longer row. -/
def Appended (w : World) (E size : Nat) (M : List Nat) (n : Nat) (xs : List Value) (v : Value) (w' : World) : Prop :=
  ∃ a' cap' M', v = .slice a' n cap' ∧ Ext M w w' ∧ (∀ g ∈ M', g ∈ M ∨ w.heap.size ≤ g) ∧ Own w' E size a' n cap' xs M'
theorem R.app {T E size bytes : Nat} {z : Value} [t : TySlice P T E size bytes z] {s x : Operand} {a : Option Addr} {m0 cap : Nat} {xs : List Value} {M : List Nat} {b : Option Addr} {m c : Nat} {news : List Value}
    (hs : ev ρ s = some (.slice a m0 cap)) (hx : ev ρ x = some (.slice b m c)) (hown : Own w E size a m0 cap xs M)
    (hnews : Cells w b news) (hl : news.length = m * size) (h1 : ∀ u ∈ news, u.oneCell' = true) (h63 : m0 + m ≤ maxLen) (hby : (m0 + m) * bytes ≤ 140737488355328) :
    Does P n ρ w ⟨some d, .call ⟨.builtin .append, #[s, x], #[T, T]⟩, ty, pos, af, gd⟩ (Appended w E size M (m0 + m) (xs ++ news)) := by
  obtain ⟨a', cap', M', w', hr, ho, he, hm⟩ := run_app (P := P) (T := T) hown (c := c) hnews hl h1 h63 hby ty
  exact ⟨_, _, fun f hf => by
    simp only [execOp, resolve, invoke, builtin, Sem.run_bind, Sem.run_pure, Result.andThen_ok, List.map_toArray, List.map_cons, List.map_nil, hf.eval hs, hf.eval hx, hr], a', cap', M', rfl, he, hm, ho⟩

/-! ### bytes of strings -/
/-- append(xs, make(_, m)...) -/
theorem R.appZ {T E I size bytes : Nat} {z : Value} [t : TySlice P T E size bytes z] [ti : TyInt P I .i64] {s x : Operand} {a : Option Addr} {m0 cap m : Nat} {xs : List Value} {M : List Nat}
    (hs : ev ρ s = some (.slice a m0 cap)) (hx : ev ρ x = some (.int .i64 m)) (hown : Own w E size a m0 cap xs M)
    (h1 : ∀ u ∈ z.cells.toList, u.oneCell' = true) (h63 : m0 + m ≤ maxLen) (hby : (m0 + m) * bytes ≤ 140737488355328) (hpos : 0 < size) (hbp : 0 < bytes) :
    Does P n ρ w ⟨some d, .call ⟨.builtin .append, #[s, x], #[T, I]⟩, ty, pos, af, gd⟩ (Appended w E size M (m0 + m) (xs ++ (Builtin.zeroCells z.cells m).toList)) := by
  obtain ⟨a', cap', M', w', hr, ho, he, hm⟩ := run_appZ (P := P) (T := T) (I := I) hown (m := m) h1 h63 hby hpos hbp ty
  exact ⟨_, _, fun f hf => by
    simp only [execOp, resolve, invoke, builtin, Sem.run_bind, Sem.run_pure, Result.andThen_ok, List.map_toArray, List.map_cons, List.map_nil, hf.eval hs, hf.eval hx, hr], a', cap', M', rfl, he, hm, ho⟩

/-- Bytes in a new row, to be read. -/
def NewB (w : World) (l : List UInt8) (v : Value) (w' : World) : Prop := ∃ b cap, v = .slice (some ⟨b, 0, none⟩) l.length cap ∧ w.heap.size = b ∧ b < w'.heap.size ∧ l.length ≤ cap ∧ Ext [] w w' ∧ Cells w' (some ⟨b, 0, none⟩) (vbs l)
theorem R.strBytes {S T E : TypeId} [s : TyStr P S] [t : TyBytes P T E] {x : Operand} {l : List UInt8} (hx : ev ρ x = some (.string (str l))) :
    Does P n ρ w ⟨some d, .convert S T x, ty, pos, af, gd⟩ (NewB w l) := by
  have hr := run_bytes_of_string w S T E (str l) s.h t.h t.e
  have hge := grownCap_ge w l.length 0 E
  rw [str_size] at hr
  have hcl : Cells (w.drew.alloc (.cells (bytesRow (str l) (grownCap w l.length 0 E)) E ((bytesRow (str l) (grownCap w l.length 0 E)).size, (bytesRow (str l) (grownCap w l.length 0 E)).size + 1))) (some ⟨w.heap.size, 0, none⟩) (vbs l) := by
    refine Cells.of_blk (Blk.new w.drew _ _ _) 0 _ (fun j v hj => ?_)
    simp only [vbs_get] at hj
    have hlt : j < l.length := by
      rcases Nat.lt_or_ge j l.length with h | h
      · exact h
      · rw [List.getElem?_eq_none h] at hj; cases hj
    rw [List.getElem?_eq_getElem hlt] at hj
    simp at hj; subst hj
    have h2 : j < (Array.map (fun b : UInt8 => Value.int .u8 b.toNat) (str l).data).size := by simpa [str] using hlt
    simp only [bytesRow, Nat.zero_add]
    rw [Array.getElem?_append_left h2]
    simp [str, vb, hlt]
  refine ⟨_, _, fun f hf => ?_, w.heap.size, grownCap w l.length 0 E, rfl, rfl, by simp, hge, (Ext.drew w).trans0 (Ext.alloc w.drew _), hcl⟩
  simp only [execOp, hf.eval hx, Sem.run_bind, hr, Result.andThen_ok]
  rfl
/-- []byte of []byte: the same. -/
def Marked (w : World) (b : Nat) (cs : Array Value) (U : TypeId) (u v : Value) (w' : World) : Prop := ∃ fz', v = u ∧ Ext [b] w w' ∧ w'.heap.size = w.heap.size ∧ Blk w' b cs U fz'
theorem R.bytesBytes {T E : TypeId} [t : TyBytes P T E] {x : Operand} {b c m : Nat} {cs : Array Value} {U : TypeId} {fz : Nat × Nat} (hx : ev ρ x = some (.slice (some ⟨b, 0, none⟩) m c)) (hb : Blk w b cs U fz) :
    Does P n ρ w ⟨some d, .convert T T x, ty, pos, af, gd⟩ (Marked w b cs U (.slice (some ⟨b, 0, none⟩) m c)) := by
  have hw := hb
  have hsh : w.shape? b = some (U, cs.size) := by
    simp only [World.shape?]
    rw [show w.heap[b]? = some (.cells cs U fz) from hb]
  have hrun : (convert T T (.slice (some ⟨b, 0, none⟩) m c)).run P w = .ok (.slice (some ⟨b, 0, none⟩) m c) (w.freeze ⟨b, cs.size, none⟩ 1) := by
    simp [convert, run_underlying t.h, run_underlying t.e, markStringish, hsh]
  have hfz : (w.freeze ⟨b, cs.size, none⟩ 1).heap[b]? = some (.cells cs U (if fz.1 == fz.2 then (cs.size, cs.size + 1) else (Min.min fz.1 cs.size, Max.max fz.2 (cs.size + 1)))) := by
    simp only [World.freeze]
    rw [if_neg (by decide)]
    simp only [Array.getElem?_modify]
    rw [show w.heap[b]? = some (.cells cs U fz) from hb]
    simp
  have hfe : w.freeze ⟨b, cs.size, none⟩ 1 = { w with heap := w.heap.modify b fun
      | .cells c elem (lo, hi) => .cells c elem (if lo == hi then (cs.size, cs.size + 1) else (Min.min lo cs.size, Max.max hi (cs.size + 1)))
      | o => o } := by unfold World.freeze; rw [if_neg (by decide)]; rfl
  have hsz : (w.freeze ⟨b, cs.size, none⟩ 1).heap.size = w.heap.size := by rw [hfe]; simp
  have hext : Ext [b] w (w.freeze ⟨b, cs.size, none⟩ 1) := by
    refine ⟨by rw [hfe], by rw [hfe], by rw [hfe], by omega, fun k _ hk => ?_⟩
    rw [hfe]
    simp only [Array.getElem?_modify]
    rw [if_neg (by simp at hk; omega)]
  refine ⟨_, _, fun f hf => ?_, _, rfl, hext, hsz, hfz⟩
  simp only [execOp, hf.eval hx, Sem.run_bind, hrun]
  rfl
end
end Brv
