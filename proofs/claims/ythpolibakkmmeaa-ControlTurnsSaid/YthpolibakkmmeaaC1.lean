/-
  Worlds and what is known of them: what changed (Ext), cells that are read (Cells), blocks (Blk), a slice's own row (Own). Rules for the operations that only reckon.
-/
import Derived.Test.YthpolibakkmmeaaC0
namespace Brv
open Go

/-! ## Worlds -/

/-- From w to w' nothing has changed but the blocks of M and what is new. -/
structure Ext (M : List Nat) (w w' : World) : Prop where
  os : w'.os = w.os
  tape : w'.tape = w.tape
  output : w'.output = w.output
  size : w.heap.size ≤ w'.heap.size
  keep : ∀ k, k < w.heap.size → k ∉ M → w'.heap[k]? = w.heap[k]?

theorem Ext.refl (M : List Nat) (w : World) : Ext M w w := ⟨rfl, rfl, rfl, Nat.le_refl _, fun _ _ _ => rfl⟩
theorem Ext.trans {M M₁ M₂ : List Nat} {a b c : World} (h : Ext M₁ a b) (k : Ext M₂ b c) (h1 : ∀ x ∈ M₁, x ∈ M ∨ a.heap.size ≤ x) (h2 : ∀ x ∈ M₂, x ∈ M ∨ a.heap.size ≤ x) : Ext M a c :=
  ⟨k.os.trans h.os, k.tape.trans h.tape, k.output.trans h.output, Nat.le_trans h.size k.size, fun i hi hm =>
    (k.keep i (Nat.lt_of_lt_of_le hi h.size) (fun hx => (h2 i hx).elim hm (by omega))).trans (h.keep i hi (fun hx => (h1 i hx).elim hm (by omega)))⟩
theorem Ext.mono {M M' : List Nat} {a b : World} (h : Ext M a b) (hm : ∀ x ∈ M, x ∈ M' ∨ a.heap.size ≤ x) : Ext M' a b :=
  (h.trans (Ext.refl [] b) hm (by simp))
theorem Ext.trans0 {M : List Nat} {a b c : World} (h : Ext M a b) (k : Ext [] b c) : Ext M a c := h.trans k (fun _ hx => .inl hx) (by simp)
theorem Ext.trans1 {M : List Nat} {a b c : World} (h : Ext M a b) (k : Ext M b c) : Ext M a c := h.trans k (fun _ hx => .inl hx) (fun _ hx => .inl hx)
theorem Ext.transN {M M₂ : List Nat} {a b c : World} (h : Ext M a b) (k : Ext M₂ b c) (h2 : ∀ x ∈ M₂, x ∈ M ∨ a.heap.size ≤ x) : Ext M a c := h.trans k (fun _ hx => .inl hx) h2
theorem Ext.after {M : List Nat} {a b c : World} (k : Ext M b c) (h : Ext [] a b) : Ext M a c := h.trans k (by simp) (fun _ hx => .inl hx)
theorem Ext.below {w w' : World} (h : Ext [] w w') : RowKit.Below w.heap.size w w' := ⟨h.os, h.tape, h.output, h.size, fun k hk => h.keep k hk (by simp)⟩
theorem Ext.of_below {w w' : World} (h : RowKit.Below w.heap.size w w') : Ext [] w w' := ⟨h.os, h.tape, h.output, h.size, fun k hk _ => h.block k hk⟩
theorem Ext.drew (w : World) : Ext [] w w.drew := ⟨rfl, rfl, rfl, Nat.le_refl _, fun _ _ _ => rfl⟩
theorem Ext.drawn (w : World) : Ext [] w { w with drawn := w.drawn + 1 } := ⟨rfl, rfl, rfl, Nat.le_refl _, fun _ _ _ => rfl⟩
theorem Ext.alloc (w : World) (o : Obj) : Ext [] w (w.alloc o) :=
  ⟨rfl, rfl, rfl, by simp, fun k hk _ => by show (w.heap.push o)[k]? = _; rw [Array.getElem?_push, if_neg (by omega)]⟩
theorem Ext.setCell (w : World) (a : Addr) (v : Value) : Ext [a.block] w (w.setCell a v) :=
  ⟨rfl, rfl, rfl, by simp [World.setCell], fun k _ hm => by
    simp only [World.setCell, Array.getElem?_modify]; rw [if_neg (by simp at hm; omega)]⟩

/-- A block of cells. -/
def Blk (w : World) (b : Nat) (cs : Array Value) (T : TypeId) (fz : Nat × Nat) : Prop := w.heap[b]? = some (.cells cs T fz)
theorem Blk.lt {w : World} {b : Nat} {cs : Array Value} {T : TypeId} {fz : Nat × Nat} (h : Blk w b cs T fz) : b < w.heap.size := (Array.getElem?_eq_some_iff.1 h).1
theorem Blk.ext {w w' : World} {b : Nat} {cs : Array Value} {T : TypeId} {fz : Nat × Nat} {M : List Nat} (h : Blk w b cs T fz) (he : Ext M w w') (hm : b ∉ M) : Blk w' b cs T fz :=
  (he.keep b h.lt hm).trans h
theorem Blk.ext0 {w w' : World} {b : Nat} {cs : Array Value} {T : TypeId} {fz : Nat × Nat} (h : Blk w b cs T fz) (he : Ext [] w w') : Blk w' b cs T fz := h.ext he (by simp)
theorem cell?_ext0' {w w' : World} {p : Addr} {v : Value} (h : w.cell? p = some v) (he : Ext [] w w') : w'.cell? p = some v :=
  (World.cell?_of_block (he.keep _ (World.block_lt_of_cell? w p h) (by simp))).trans h
theorem Blk.new (w : World) (cs : Array Value) (T : TypeId) (fz : Nat × Nat) : Blk (w.alloc (.cells cs T fz)) w.heap.size cs T fz := by
  show (w.heap.push _)[w.heap.size]? = _
  simp
theorem Blk.cell {w : World} {b : Nat} {cs : Array Value} {T : TypeId} {fz : Nat × Nat} (h : Blk w b cs T fz) (o : Nat) : w.cell? ⟨b, o, none⟩ = cs[o]? := by
  simp only [World.cell?]
  rw [show w.heap[b]? = some (.cells cs T fz) from h]
  simp
theorem Blk.set {w : World} {b : Nat} {cs : Array Value} {T : TypeId} {fz : Nat × Nat} (h : Blk w b cs T fz) (o : Nat) (v : Value) : Blk (w.setCell ⟨b, o, none⟩ v) b (cs.setIfInBounds o v) T fz := by
  simp only [Blk, World.setCell, Array.getElem?_modify]
  rw [show w.heap[b]? = some (.cells cs T fz) from h]
  simp

/-- Cells from a on hold vs (where vs is empty a may be nil). -/
def Cells (w : World) (a : Option Addr) (vs : List Value) : Prop := ∀ j v, vs[j]? = some v → ∃ p, a = some p ∧ w.cell? (p.add j) = some v
theorem Addr.add_block (p : Addr) (n : Nat) : (p.add n).block = p.block := by unfold Addr.add; split <;> rfl
theorem add_add (p : Addr) (i j : Nat) : (p.add i).add j = p.add (i + j) := by
  obtain ⟨b, o, s⟩ := p
  unfold Go.Addr.add
  by_cases hi : i = 0
  · simp [hi]
  · by_cases hj : j = 0
    · simp [hi, hj]
    · simp [hi, hj, Nat.add_assoc]
theorem cell?_ext {w w' : World} {M : List Nat} {p : Addr} {v : Value} (h : w.cell? p = some v) (he : Ext M w w') (hm : p.block ∉ M) : w'.cell? p = some v :=
  (World.cell?_of_block (he.keep _ (World.block_lt_of_cell? w p h) hm)).trans h
theorem Cells.ext {w w' : World} {M : List Nat} {a : Option Addr} {vs : List Value} (h : Cells w a vs) (he : Ext M w w') (hm : ∀ p, a = some p → p.block ∉ M) : Cells w' a vs := by
  intro j v hv
  obtain ⟨p, rfl, hc⟩ := h j v hv
  exact ⟨p, rfl, cell?_ext hc he (by rw [Addr.add_block]; exact hm p rfl)⟩
theorem Cells.ext0 {w w' : World} {a : Option Addr} {vs : List Value} (h : Cells w a vs) (he : Ext [] w w') : Cells w' a vs := h.ext he (by simp)
theorem Cells.nil (w : World) (a : Option Addr) : Cells w a [] := fun j v h => by simp at h
theorem Cells.of_blk {w : World} {b : Nat} {cs : Array Value} {T : TypeId} {fz : Nat × Nat} (h : Blk w b cs T fz) (o : Nat) (vs : List Value) (hv : ∀ j v, vs[j]? = some v → cs[o + j]? = some v) : Cells w (some ⟨b, o, none⟩) vs :=
  fun j v hj => ⟨_, rfl, by rw [Go.Addr.add_lit, h.cell]; exact hv j v hj⟩
theorem Cells.load {w : World} {p : Addr} {vs : List Value} (h : Cells w (some p) vs) {j : Nat} {v : Value} (hv : vs[j]? = some v) : w.cell? (p.add j) = some v := by
  obtain ⟨q, hq, hc⟩ := h j v hv
  cases hq; exact hc

/-! ## Types, by instances -/
class TyInt (P : Program) (T : TypeId) (k : outParam IntKind) : Prop where
  h : P.underlying T = some (.int k)
class TyStr (P : Program) (T : TypeId) : Prop where
  h : P.underlying T = some .string
/-- A slice type: its element's type, the element's cells and bytes. -/
class TySlice (P : Program) (T : TypeId) (E : outParam TypeId) (size bytes : outParam Nat) (z : outParam Value) : Prop where
  h : P.underlying T = some (.slice E)
  i : ∃ i, P.info? E = some i ∧ i.size = size ∧ i.bytes = bytes ∧ i.zero = some z
  zs : z.cells.size = size
  pos : 0 < size
theorem TySlice.of {P : Program} {T E size bytes : Nat} {z : Value} (h : P.underlying T = some (.slice E)) (hi : (P.info? E).map (fun i => (i.size, i.bytes, i.zero)) = some (size, bytes, some z)) (zs : z.cells.size = size) (pos : 0 < size) : TySlice P T E size bytes z := by
  cases hq : P.info? E with
  | none => simp [hq] at hi
  | some i =>
    simp [hq] at hi
    exact ⟨h, ⟨i, hq, hi.1, hi.2.1, hi.2.2⟩, zs, pos⟩
/-- A type of one cell. -/
class TyOne (P : Program) (T : TypeId) : Prop where
  h : (match P.underlying T with | some (.struct _) | some (.array _ _) | none => false | _ => true) = true
  size : (P.info? T).map (·.size) = some 1
/-- A struct or an array, of so many cells. -/
class TyAgg (P : Program) (T : TypeId) (size : outParam Nat) : Prop where
  h : (match P.underlying T with | some (.struct _) | some (.array _ _) => true | _ => false) = true
  size : (P.info? T).map (·.size) = some size
class TyField (P : Program) (T : TypeId) (i : Nat) (off : outParam Nat) : Prop where
  h : ∃ fs f, P.underlying T = some (.struct fs) ∧ fs[i]? = some f ∧ f.offset = off ∧ (P.info? f.type).any (fun i => decide (i.size ≠ 0)) = true
/-- An array type: so many elements of E. -/
class TyArr (P : Program) (T : TypeId) (m : outParam Nat) (E : outParam TypeId) (size : outParam Nat) : Prop where
  h : P.underlying T = some (.array m E)
  i : (P.info? E).map (·.size) = some size
class TyPtr (P : Program) (T : TypeId) : Prop where
  h : ∃ E, P.underlying T = some (.pointer E)
class TyZero (P : Program) (T : TypeId) (z : outParam Value) : Prop where
  h : (P.info? T).bind (·.zero) = some z

/-- How a struct, or an array, is put together. -/
class TyBuilt (P : Program) (T : TypeId) (pl : outParam (Nat → Option (Nat × Nat))) (z : outParam Value) : Prop where
  h : ∀ vs, P.built T vs = Instr.fill pl z.cells vs
theorem TyBuilt.struct {P : Program} {T : TypeId} {fs : Array Field} {ps : List (Nat × Nat)} {z : Value} (hu : P.underlying T = some (.struct fs)) (hz : (P.info? T).bind (·.zero) = some z)
    (hp : fs.toList.mapM (fun f => (P.info? f.type).map fun i => (f.offset, i.size)) = some ps) : TyBuilt P T (fun i => ps.toArray[i]?) z := ⟨fun vs => by
  cases hi : P.info? T with
  | none => rw [hi] at hz; cases hz
  | some it =>
    rw [hi] at hz
    simp only [Option.bind_some] at hz
    unfold Program.built
    rw [hi, hu]
    simp only [hz, hp]⟩
theorem TyBuilt.array {P : Program} {T : TypeId} {l e s : Nat} {z : Value} (hu : P.underlying T = some (.array l e)) (hz : (P.info? T).bind (·.zero) = some z)
    (hs : (P.info? e).map (·.size) = some s) : TyBuilt P T (fun i => some (i * s, s)) z := ⟨fun vs => by
  cases hi : P.info? T with
  | none => rw [hi] at hz; cases hz
  | some it =>
    cases he : P.info? e with
    | none => rw [he] at hs; cases hs
    | some ie =>
      rw [hi] at hz; rw [he] at hs
      simp only [Option.bind_some] at hz
      cases hs
      unfold Program.built
      rw [hi, hu]
      simp only [hz, he]⟩

/-! ## Rules: reckoning -/
section
variable {P : Program} {B : Exit → Act → World → Prop} {n : Fm} {ops : List Oper} {ks : List K} {ρ : Env} {w : World} {rest : List Oper}
variable {d : Nat} {ty : TypeId} {pos : String} {af : Array Edge} {gd : Option (Nat × Bool)}

theorem R.mv {x : Operand} {v : Value}  (hx : ev ρ x = some v) :
    Runs P n ρ w ⟨some d, .move x, ty, pos, af, gd⟩ (v) w := (fun a ha => by simp [execOp, ha.eval hx])
theorem R.as {x : Operand} {v : Value}  (hx : ev ρ x = some v) :
    Runs P n ρ w ⟨some d, .assign x, ty, pos, af, gd⟩ (v) w := (fun a ha => by simp [execOp, ha.eval hx])
theorem R.pickT {c x y : Operand} {v : Value}  (hc : ev ρ c = some (.bool true)) (hx : ev ρ x = some v) :
    Runs P n ρ w ⟨some d, .pick c x y, ty, pos, af, gd⟩ (v) w := (fun a ha => by simp [execOp, ha.eval hc, ha.eval hx, asBool])
theorem R.pickF {c x y : Operand} {v : Value}  (hc : ev ρ c = some (.bool false)) (hx : ev ρ y = some v) :
    Runs P n ρ w ⟨some d, .pick c x y, ty, pos, af, gd⟩ (v) w := (fun a ha => by simp [execOp, ha.eval hc, ha.eval hx, asBool])
theorem R.not {T : TypeId} {x : Operand} {b : Bool}  (hx : ev ρ x = some (.bool b)) :
    Runs P n ρ w ⟨some d, .unOp .not T x, ty, pos, af, gd⟩ (.bool (!b)) w := (fun a ha => by simp [execOp, ha.eval hx, Op.unary])
theorem R.bin {op : BinOp} {T T' : TypeId} {x y : Operand} {u v z : Value}  (hx : ev ρ x = some u) (hy : ev ρ y = some v)
    (hz : ∀ w, (do eqGuard op T x y u v; binOp op T u v : Sem Value).run P w = .ok z w) :
    Runs P n ρ w ⟨some d, .binOp op T x y T', ty, pos, af, gd⟩ (z) w := (fun a ha => by
    have := hz w
    simp only [execOp, ha.eval hx, ha.eval hy, Sem.run_bind, Sem.run_pure] at this ⊢
    rw [this]; rfl)
/-- An int's operation: sums. -/
theorem R.addW {T T' : TypeId} {x y : Operand} {k : IntKind} {a b : Int}  (hx : ev ρ x = some (.int k a)) (hy : ev ρ y = some (.int k b)) (z : Int) (hz : k.wrap (a + b) = z) :
    Runs P n ρ w ⟨some d, .binOp .add T x y T', ty, pos, af, gd⟩ (.int k z) w := R.bin hx hy (fun w => by subst hz; simp [eqGuard_add, binOp, Op.intArith])
theorem R.subW {T T' : TypeId} {x y : Operand} {k : IntKind} {a b : Int}  (hx : ev ρ x = some (.int k a)) (hy : ev ρ y = some (.int k b)) (z : Int) (hz : k.wrap (a - b) = z) :
    Runs P n ρ w ⟨some d, .binOp .sub T x y T', ty, pos, af, gd⟩ (.int k z) w := R.bin hx hy (fun w => by subst hz; simp [eqGuard_sub, binOp, Op.intArith])
theorem R.mulW {T T' : TypeId} {x y : Operand} {k : IntKind} {a b : Int}  (hx : ev ρ x = some (.int k a)) (hy : ev ρ y = some (.int k b)) (z : Int) (hz : k.wrap (a * b) = z) :
    Runs P n ρ w ⟨some d, .binOp .mul T x y T', ty, pos, af, gd⟩ (.int k z) w := R.bin hx hy (fun w => by subst hz; simp [eqGuard_mul, binOp, Op.intArith])
theorem wrap_i64 {z : Int} (h : -9223372036854775808 ≤ z ∧ z ≤ 9223372036854775807) : IntKind.i64.wrap z = z := by
  simp only [IntKind.wrap, IntKind.bits, IntKind.signed, Bool.true_and]
  split <;> rename_i hc <;> simp at hc ⊢ <;> omega
theorem wrap_u8 {z : Int} (h : 0 ≤ z ∧ z ≤ 255) : IntKind.u8.wrap z = z := by
  simp only [IntKind.wrap, IntKind.bits, IntKind.signed]
  simp; omega
theorem wrap_u32 {z : Int} (h : 0 ≤ z ∧ z ≤ 4294967295) : IntKind.u32.wrap z = z := by
  simp only [IntKind.wrap, IntKind.bits, IntKind.signed]
  simp; omega
theorem wrap_u16 {z : Int} (h : 0 ≤ z ∧ z ≤ 65535) : IntKind.u16.wrap z = z := by
  simp only [IntKind.wrap, IntKind.bits, IntKind.signed]
  simp; omega
theorem R.add {T T' : TypeId} {x y : Operand} {a b : Int}  (hx : ev ρ x = some (.int .i64 a)) (hy : ev ρ y = some (.int .i64 b)) (hr : -9223372036854775808 ≤ a + b ∧ a + b ≤ 9223372036854775807) :
    Runs P n ρ w ⟨some d, .binOp .add T x y T', ty, pos, af, gd⟩ (.int .i64 (a + b)) w := R.addW hx hy _ (wrap_i64 hr)
theorem R.sub' {T T' : TypeId} {x y : Operand} {a b : Int}  (hx : ev ρ x = some (.int .i64 a)) (hy : ev ρ y = some (.int .i64 b)) (hr : -9223372036854775808 ≤ a - b ∧ a - b ≤ 9223372036854775807) :
    Runs P n ρ w ⟨some d, .binOp .sub T x y T', ty, pos, af, gd⟩ (.int .i64 (a - b)) w := R.subW hx hy _ (wrap_i64 hr)
theorem R.mul {T T' : TypeId} {x y : Operand} {a b : Int}  (hx : ev ρ x = some (.int .i64 a)) (hy : ev ρ y = some (.int .i64 b)) (hr : -9223372036854775808 ≤ a * b ∧ a * b ≤ 9223372036854775807) :
    Runs P n ρ w ⟨some d, .binOp .mul T x y T', ty, pos, af, gd⟩ (.int .i64 (a * b)) w := R.mulW hx hy _ (wrap_i64 hr)
theorem R.quoW {T T' : TypeId} {x y : Operand} {k : IntKind} {a b : Int}  (hx : ev ρ x = some (.int k a)) (hy : ev ρ y = some (.int k b)) (hb : b ≠ 0) (z : Int) (hz : k.wrap (a.tdiv b) = z) :
    Runs P n ρ w ⟨some d, .binOp .quo T x y T', ty, pos, af, gd⟩ (.int k z) w := R.bin hx hy (fun w => by subst hz; simp [eqGuard_quo, binOp, Op.intDiv, hb])
theorem R.remW {T T' : TypeId} {x y : Operand} {k : IntKind} {a b : Int}  (hx : ev ρ x = some (.int k a)) (hy : ev ρ y = some (.int k b)) (hb : b ≠ 0) (z : Int) (hz : a.tmod b = z) :
    Runs P n ρ w ⟨some d, .binOp .rem T x y T', ty, pos, af, gd⟩ (.int k z) w := R.bin hx hy (fun w => by subst hz; simp [eqGuard_rem, binOp, Op.intDiv, hb])
theorem R.quo {T T' : TypeId} {x y : Operand} {a b : Int}  (hx : ev ρ x = some (.int .i64 a)) (hy : ev ρ y = some (.int .i64 b)) (ha : 0 ≤ a ∧ a ≤ 9223372036854775807) (hb : 0 < b) :
    Runs P n ρ w ⟨some d, .binOp .quo T x y T', ty, pos, af, gd⟩ (.int .i64 (a / b)) w := R.quoW hx hy (by omega) _ (by rw [Int.tdiv_eq_ediv_of_nonneg ha.1]; exact wrap_i64 (by
    have h1 : 0 ≤ a / b := Int.ediv_nonneg ha.1 (by omega)
    have h2 : a / b ≤ a := Int.ediv_le_self _ ha.1
    omega))
theorem R.rem {T T' : TypeId} {x y : Operand} {k : IntKind} {a b : Int}  (hx : ev ρ x = some (.int k a)) (hy : ev ρ y = some (.int k b)) (ha : 0 ≤ a) (hb : 0 < b) :
    Runs P n ρ w ⟨some d, .binOp .rem T x y T', ty, pos, af, gd⟩ (.int k (a % b)) w := R.remW hx hy (by omega) _ (Int.tmod_eq_emod_of_nonneg ha)
theorem R.lss {T T' : TypeId} {x y : Operand} {k : IntKind} {a b : Int}  (hx : ev ρ x = some (.int k a)) (hy : ev ρ y = some (.int k b)) :
    Runs P n ρ w ⟨some d, .binOp .lss T x y T', ty, pos, af, gd⟩ (.bool (decide (a < b))) w := R.bin hx hy (fun w => by simp [eqGuard_lss, binOp, Op.intCmp])
theorem R.leq {T T' : TypeId} {x y : Operand} {k : IntKind} {a b : Int}  (hx : ev ρ x = some (.int k a)) (hy : ev ρ y = some (.int k b)) :
    Runs P n ρ w ⟨some d, .binOp .leq T x y T', ty, pos, af, gd⟩ (.bool (decide (a ≤ b))) w := R.bin hx hy (fun w => by simp [eqGuard_leq, binOp, Op.intCmp])
theorem R.gtr {T T' : TypeId} {x y : Operand} {k : IntKind} {a b : Int}  (hx : ev ρ x = some (.int k a)) (hy : ev ρ y = some (.int k b)) :
    Runs P n ρ w ⟨some d, .binOp .gtr T x y T', ty, pos, af, gd⟩ (.bool (decide (b < a))) w := R.bin hx hy (fun w => by simp [eqGuard_gtr, binOp, Op.intCmp])
theorem R.geq {T T' : TypeId} {x y : Operand} {k : IntKind} {a b : Int}  (hx : ev ρ x = some (.int k a)) (hy : ev ρ y = some (.int k b)) :
    Runs P n ρ w ⟨some d, .binOp .geq T x y T', ty, pos, af, gd⟩ (.bool (decide (b ≤ a))) w := R.bin hx hy (fun w => by simp [eqGuard_geq, binOp, Op.intCmp])
theorem R.eqI {T T' : TypeId} {x y : Operand} {k : IntKind} {a b : Int}  (hx : ev ρ x = some (.int k a)) (hy : ev ρ y = some (.int k b)) :
    Runs P n ρ w ⟨some d, .binOp .eql T x y T', ty, pos, af, gd⟩ (.bool (decide (a = b))) w := R.bin hx hy (fun w => by simp [eqGuard_at_int, binOp, Op.intCmp]; rfl)
theorem R.neI {T T' : TypeId} {x y : Operand} {k : IntKind} {a b : Int}  (hx : ev ρ x = some (.int k a)) (hy : ev ρ y = some (.int k b)) :
    Runs P n ρ w ⟨some d, .binOp .neq T x y T', ty, pos, af, gd⟩ (.bool (decide (a ≠ b))) w := R.bin hx hy (fun w => by simp [eqGuard_at_int, binOp, Op.intCmp]; rfl)
end
end Brv
