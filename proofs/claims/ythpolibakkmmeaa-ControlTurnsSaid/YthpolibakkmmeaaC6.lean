/-
  What slices read as: bytes (Bs). What slices own, and how they are written.
-/
import Derived.Test.YthpolibakkmmeaaC5
namespace Brv
open Go

/-- The slice at a, of n elements, reads as the bytes l. -/
structure Bs (w : World) (a : Option Addr) (n : Nat) (l : List UInt8) : Prop where
  cells : Cells w a (vbs l)
  len : n = l.length
theorem Bs.ext {w w' : World} {a : Option Addr} {n : Nat} {l : List UInt8} {M : List Nat} (h : Bs w a n l) (he : Ext M w w') (hm : ∀ p, a = some p → p.block ∉ M) : Bs w' a n l := ⟨h.cells.ext he hm, h.len⟩
theorem Bs.ext0 {w w' : World} {a : Option Addr} {n : Nat} {l : List UInt8} (h : Bs w a n l) (he : Ext [] w w') : Bs w' a n l := ⟨h.cells.ext0 he, h.len⟩
theorem Bs.nil (w : World) : Bs w none 0 [] := ⟨Cells.nil _ _, rfl⟩
theorem Bs.none {w : World} {n : Nat} {l : List UInt8} (h : Bs w none n l) : l = [] ∧ n = 0 := by
  have : vbs l = [] := cells_none h.cells
  have hl : l = [] := by cases l with | nil => rfl | cons x r => simp [vbs] at this
  exact ⟨hl, by rw [h.len, hl]; rfl⟩
theorem Bs.at {w : World} {a : Option Addr} {n : Nat} {l : List UInt8} (h : Bs w a n l) (k : Nat) (hk : k < l.length) : ∃ p, a = some p ∧ w.cell? (p.add (k * 1)) = some (vb l[k]) := by
  obtain ⟨p, hp, hc⟩ := h.cells k (vb l[k]) (by simp [vbs, hk])
  exact ⟨p, hp, by simpa using hc⟩
theorem Bs.sub {w : World} {a : Option Addr} {n : Nat} {l : List UInt8} (h : Bs w a n l) (i m k : Nat) (hk : i + k ≤ n) (hm : m = i → k = 0) : Bs w (subA a i m 1) k ((l.drop i).take k) := by
  have hl := h.len
  refine ⟨?_, by simp; omega⟩
  have := h.cells.sub i m 1 k (by simp [vbs_length]; omega) hm
  simp only [Nat.mul_one] at this
  have e : ((vbs l).drop i).take k = vbs ((l.drop i).take k) := by simp [vbs]
  rw [e] at this; exact this
theorem Bs.take {w : World} {a : Option Addr} {n : Nat} {l : List UInt8} (h : Bs w a n l) (m k : Nat) (hk : k ≤ n) (hm : n ≤ m) : Bs w (subA a 0 m 1) k (l.take k) := by
  have := h.sub 0 m k (by omega) (by omega)
  simpa using this
theorem Bs.drop {w : World} {a : Option Addr} {n : Nat} {l : List UInt8} (h : Bs w a n l) (i m : Nat) (hi : i ≤ n) (hm : n ≤ m) : Bs w (subA a i m 1) (n - i) (l.drop i) := by
  have := h.sub i m (n - i) (by omega) (by omega)
  rw [List.take_of_length_le (by rw [List.length_drop, ← h.len]; omega)] at this
  exact this
theorem Bs.pre {w : World} {a : Option Addr} {n : Nat} {l : List UInt8} (h : Bs w a n l) (k : Nat) (hk : k ≤ n) : Bs w a k (l.take k) := by
  have := h.take (n + 1) k hk (by omega)
  rwa [subA_zero] at this
theorem subA_block {a : Option Addr} {l m size : Nat} {D : List Nat} (h : ∀ q, a = some q → q.block ∈ D) : ∀ q, subA a l m size = some q → q.block ∈ D := by
  intro q hq
  unfold subA at hq
  split at hq
  · exact h q hq
  · cases a with
    | none => cases hq
    | some p => cases hq; rw [Addr.add_block]; exact h p rfl
theorem Bs.of_own {w : World} {E : Nat} {a : Option Addr} {n cap : Nat} {l : List UInt8} {M : List Nat} (h : Own w E 1 a n cap (vbs l) M) : Bs w a n l :=
  ⟨h.cells, by have := h.len; simp [vbs_length] at this; omega⟩
theorem Bs.of_blk {w : World} {b E : Nat} {cs : Array Value} {fz : Nat × Nat} (h : Blk w b cs E fz) (l : List UInt8) (hl : cs.toList = vbs l) (n : Nat) (hn : n = l.length) : Bs w (some ⟨b, 0, Option.none⟩) n l := by
  refine ⟨Cells.of_blk h 0 _ (fun j v hj => ?_), hn⟩
  rw [← hl] at hj
  simpa using hj
theorem Bs.of_cells {w : World} {b n : Nat} {l : List UInt8} (h : Cells w (some ⟨b, 0, Option.none⟩) (vbs l)) (hn : n = l.length) : Bs w (some ⟨b, 0, Option.none⟩) n l := ⟨h, hn⟩

/-- The k-th element of an owned row (of one cell each) may be written. -/
theorem Own.set {w : World} {E : Nat} {a : Option Addr} {n cap : Nat} {xs : List Value} {M : List Nat} (h : Own w E 1 a n cap xs M) (k : Nat) (hk : k < n) :
    ∃ g cur, a = some ⟨g, 0, none⟩ ∧ M = [g] ∧ Blk w g cur E (0, 0) ∧ k < cur.size ∧ ∀ v w', Ext [g] w w' → Blk w' g (cur.setIfInBounds k v) E (0, 0) → Own w' E 1 a n cap (xs.set k v) M := by
  rcases h.2 with ⟨_, rfl, _, _⟩ | ⟨g, cur, ha, hM, hb, hnc, hcm, hcs, ht⟩
  · omega
  · refine ⟨g, cur, ha, hM, hb, by omega, fun v w' he hb' => ⟨by simp [h.1], .inr ⟨g, _, ha, hM, hb', hnc, hcm, by simp; omega, ?_⟩⟩⟩
    rw [← ht, Array.toList_setIfInBounds, List.take_set]
theorem vbs_set (l : List UInt8) (k : Nat) (b : UInt8) : (vbs l).set k (vb b) = vbs (l.set k b) := by simp [vbs, List.map_set]

/-- What slices.Clone gives. -/
def Cloned (w : World) (E size n : Nat) (xs : List Value) (v : Value) (w' : World) : Prop :=
  ∃ a' c' M', v = .slice a' n c' ∧ Ext [] w w' ∧ Own w' E size a' n c' xs M' ∧ ∀ g ∈ M', w.heap.size ≤ g
/-- Bytes in a slice (a fact that stays while nothing old is turned). -/
def IsBs (n : Nat) (l : List UInt8) (v : Value) (w : World) : Prop := ∃ a c, v = .slice a n c ∧ n ≤ c ∧ Bs w a n l
theorem IsBs.keep (n : Nat) (l : List UInt8) : ∀ v w w', Ext [] w w' → IsBs n l v w → IsBs n l v w' := fun _ _ _ he ⟨a, c, hv, hc, h⟩ => ⟨a, c, hv, hc, h.ext0 he⟩
theorem Cloned.is {w w' : World} {E n : Nat} {l : List UInt8} {v : Value} (h : Cloned w E 1 n (vbs l) v w') : IsBs n l v w' := by
  obtain ⟨a, c, M, hv, _, ho, _⟩ := h
  exact ⟨a, c, hv, ho.le, Bs.of_own ho⟩

/-! ### []T{x, y, ..}, all of it written out -/
def inOrder : Nat → List (Nat × Value) → Bool
  | _, [] => true
  | k, (i, _) :: r => Nat.beq i k && inOrder (k + 1) r
def cellsOf (vs : List (Nat × Value)) : List Value := vs.flatMap fun p => p.2.cells.toList
theorem seg_fold (off : Nat) : ∀ (vs : List Value) (s : Nat) (A : Array Value), off + s + vs.length ≤ A.size →
    ((vs.zipIdx s).foldl (fun cs (p : Value × Nat) => cs.setIfInBounds (off + p.2) p.1) A).toList = A.toList.take (off + s) ++ vs ++ A.toList.drop (off + s + vs.length)
  | [], s, A, _ => by simp
  | v :: r, s, A, h => by
    simp only [List.zipIdx_cons, List.foldl_cons]
    simp only [List.length_cons] at h
    rw [seg_fold off r (s + 1) (A.setIfInBounds (off + s) v) (by simp; omega)]
    have e := list_seg_step A.toList (off + s) v r (by simp; omega)
    simpa [Array.toList_setIfInBounds, Nat.add_assoc, Nat.add_comm, Nat.add_left_comm] using e
theorem fill_all (size : Nat) : ∀ (vs : List (Nat × Value)) (k : Nat) (A : Array Value), inOrder k vs = true → vs.all (fun p => Nat.beq p.2.cells.size size) = true → A.size = k * size + vs.length * size →
    Instr.fill (fun i => some (i * size, size)) A vs = some (A.toList.take (k * size) ++ cellsOf vs).toArray
  | [], k, A, _, _, h => by
    simp only [Instr.fill, cellsOf, List.flatMap_nil, List.append_nil]
    rw [List.take_of_length_le (by simp at h ⊢; omega)]
  | (i, v) :: r, k, A, ho, hs, h => by
    simp only [inOrder, Bool.and_eq_true] at ho
    have hi := Nat.eq_of_beq_eq_true ho.1
    subst hi
    simp only [List.all_cons, Bool.and_eq_true] at hs
    have hv := Nat.eq_of_beq_eq_true hs.1
    simp only [List.length_cons, Nat.add_mul, Nat.one_mul] at h
    have hroom : ¬ (i * size + v.cells.size > A.size) := by rw [hv, h]; omega
    simp only [Instr.fill, hv, ne_eq, not_true_eq_false, decide_false, Bool.false_or, decide_eq_true_eq]
    rw [if_neg (by rw [hv] at hroom; exact hroom)]
    have hf := seg_fold (i * size) v.cells.toList 0 A (by simp only [Array.length_toList, hv, h]; omega)
    have e : (v.cells.zipIdx.foldl (fun cs (p : Value × Nat) => cs.setIfInBounds (i * size + p.2) p.1) A) = ((v.cells.toList.zipIdx 0).foldl (fun cs (p : Value × Nat) => cs.setIfInBounds (i * size + p.2) p.1) A) := by
      rw [← Array.foldl_toList]; simp
    have hsz : ((v.cells.toList.zipIdx 0).foldl (fun cs (p : Value × Nat) => cs.setIfInBounds (i * size + p.2) p.1) A).size = A.size := by
      rw [← Array.length_toList, hf]
      simp only [List.length_append, List.length_take, List.length_drop, Array.length_toList, hv]
      omega
    rw [e, fill_all size r (i + 1) _ ho.2 hs.2 (by rw [hsz, h, Nat.add_mul]; omega)]
    rw [hf]
    congr 2
    simp only [cellsOf, List.flatMap_cons]
    have hl : (A.toList.take (i * size + 0) ++ v.cells.toList).length = (i + 1) * size := by
      simp only [List.length_append, List.length_take, Array.length_toList, hv, Nat.add_mul, Nat.one_mul, Nat.add_zero]
      omega
    rw [← hl, List.take_left]
    simp [List.append_assoc]
section
variable {P : Program} {n : Fm} {ρ : Env} {w : World} {d : Nat} {ty : TypeId} {pos : String} {af : Array Edge} {gd : Option (Nat × Bool)}
/-- &xs[i], the place written out. -/
theorem R.idxO {T E size bytes : Nat} {z : Value} [t : TySlice P T E size bytes z] {x y : Operand} {k : IntKind} {a : Option Addr} {m c g q : Nat} {i : Int} (hx : ev ρ x = some (.slice a m c)) (hy : ev ρ y = some (.int k i)) (h0 : 0 ≤ i) (h1 : i < m) (ha : a = some ⟨g, q, Option.none⟩) (o : Nat) (ho : q + i.toNat * size = o) :
    Runs P n ρ w ⟨some d, .indexAddr T x y, ty, pos, af, gd⟩ (.pointer (some ⟨g, o, Option.none⟩)) w := by
  have h := R.idx (P := P) (n := n) (d := d) (ty := ty) (pos := pos) (af := af) (gd := gd) (w := w) (T := T) hx hy h0 h1 ⟨g, q, Option.none⟩ ha
  rw [Go.Addr.add_lit, ho] at h
  exact h
theorem R.buildA {T E size bytes : Nat} {z : Value} [t : TySlice P T E size bytes z] {len : Nat} {parts : Array (Nat × Operand)} {vs : List (Nat × Value)} (hp : evps ρ parts.toList = some vs) (hl : Nat.ble (len * size) 16777216 = true) (hlen : Nat.beq vs.length len = true) (ho : inOrder 0 vs = true) (hs : vs.all (fun p => Nat.beq p.2.cells.size size) = true) :
    Does P n ρ w ⟨some d, .buildSlice T len parts, ty, pos, af, gd⟩ (NewS w (cellsOf vs).toArray E len len) := by
  refine R.buildS hp (Nat.le_of_ble_eq_true hl) ?_
  have hlen' := Nat.eq_of_beq_eq_true hlen
  rw [fill_all size vs 0 _ ho hs (by simp; rw [hlen'])]
  simp
end

/-- A row that is owned, in blocks from s on. -/
def Mine (s E size n : Nat) (xs : List Value) (v : Value) (w : World) : Prop := ∃ a c M, v = .slice a n c ∧ Own w E size a n c xs M ∧ ∀ g ∈ M, s ≤ g
theorem Mine.keep (s E size n : Nat) (xs : List Value) : ∀ v w w', Ext [] w w' → Mine s E size n xs v w → Mine s E size n xs v w' := fun _ _ _ he ⟨a, c, M, hv, ho, hM⟩ => ⟨a, c, M, hv, ho.ext0 he, hM⟩
theorem Mine.none {w₀ w w' : World} {E size : Nat} {cs : Array Value} {v : Value} (h : NewS w cs E 0 0 v w') (hcs : cs.toList = []) (hJ : Ext [] w₀ w) : Mine w₀.heap.size E size 0 [] v w' ∧ Ext [] w w' := by
  obtain ⟨b, rfl, hb, hs, e, B⟩ := h
  have hz : cs.size = 0 := by rw [← Array.length_toList, hcs]; rfl
  have o := Own.blk (n := 0) (size := size) B (by rw [hz, Nat.zero_mul]) (by decide)
  rw [hcs] at o
  exact ⟨⟨_, _, _, rfl, o, fun g hg => by rw [List.mem_singleton.1 hg, ← hb]; exact hJ.size⟩, e⟩
theorem Mine.app {w₀ w w' : World} {E size m n : Nat} {M : List Nat} {xs ys : List Value} {v : Value} (h : Appended w E size M m xs v w') (hM : ∀ g ∈ M, w₀.heap.size ≤ g) (hJ : Ext [] w₀ w) (hm : m = n) (hx : xs = ys) :
    Mine w₀.heap.size E size n ys v w' ∧ RowKit.Below w₀.heap.size w w' := by
  subst hm; subst hx
  obtain ⟨a, c, M', rfl, e, hM', o⟩ := h
  exact ⟨⟨a, c, M', rfl, o, fun g hg => (hM' g hg).elim (hM g) (fun h => Nat.le_trans hJ.size h)⟩, hJ.below_of e hM⟩
theorem Mine.bs {s E n : Nat} {l : List UInt8} {v : Value} {w : World} (h : Mine s E 1 n (vbs l) v w) : IsBs n l v w := by
  obtain ⟨a, c, M, hv, o, _⟩ := h
  exact ⟨a, c, hv, o.le, Bs.of_own o⟩
theorem Cloned.ext {w w' : World} {E size n : Nat} {xs : List Value} {v : Value} (h : Cloned w E size n xs v w') : Ext [] w w' := by
  obtain ⟨a, c, M, hv, he, _⟩ := h; exact he
end Brv
