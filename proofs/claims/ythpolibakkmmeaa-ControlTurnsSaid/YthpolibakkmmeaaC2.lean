/-
  Rules for the operations that read and write memory.
-/
import Derived.Test.YthpolibakkmmeaaC1
namespace Brv
open Go

def one (v : Value) : Bool := v.oneCell'

/-- The place i elements behind a. -/
def aAt (a : Option Addr) (i : Nat) : Option Addr := a.map (·.add i)

section
variable {P : Program} {B : Exit → Act → World → Prop} {n : Fm} {ops : List Oper} {ks : List K} {ρ : Env} {w : World} {rest : List Oper}
variable {d : Nat} {ty : TypeId} {pos : String} {af : Array Edge} {gd : Option (Nat × Bool)}

theorem TyOne.info {T : TypeId} [t : TyOne P T] : ∃ i, P.info? T = some i ∧ i.size = 1 := by
  have h := t.size
  cases hq : P.info? T with
  | none => simp [hq] at h
  | some i => exact ⟨i, rfl, by simpa [hq] using h⟩
theorem TyOne.agg {T : TypeId} [t : TyOne P T] (w : World) : (isAgg T).run P w = .ok false w := by
  have h := t.h
  unfold isAgg
  cases hq : P.underlying T with
  | none => simp [hq] at h
  | some dd =>
    rw [Sem.run_bind, run_underlying hq w]
    cases dd <;> simp_all
theorem TyAgg.info {T : TypeId} {s : Nat} [t : TyAgg P T s] : ∃ i, P.info? T = some i ∧ i.size = s := by
  have h := t.size
  cases hq : P.info? T with
  | none => simp [hq] at h
  | some i => exact ⟨i, rfl, by simpa [hq] using h⟩
theorem TyAgg.agg {T : TypeId} {s : Nat} [t : TyAgg P T s] (w : World) : (isAgg T).run P w = .ok true w := by
  have h := t.h
  unfold isAgg
  cases hq : P.underlying T with
  | none => simp [hq] at h
  | some dd =>
    rw [Sem.run_bind, run_underlying hq w]
    cases dd <;> simp_all

/-! ### len -/
theorem R.lenS {T E size bytes : Nat} {z : Value} [t : TySlice P T E size bytes z] {x : Operand} {a : Option Addr} {m c : Nat}  (hx : ev ρ x = some (.slice a m c)) :
    Runs P n ρ w ⟨some d, .call ⟨.builtin .len, #[x], #[T]⟩, ty, pos, af, gd⟩ (.int .i64 m) w := (fun f hf => by
    simp [execOp, resolve, invoke, builtin, Builtin.len_, hf.eval hx, run_underlying t.h, goInt])
theorem R.lenStr {T : Nat} [t : TyStr P T] {x : Operand} {s : ByteArray}  (hx : ev ρ x = some (.string s)) :
    Runs P n ρ w ⟨some d, .call ⟨.builtin .len, #[x], #[T]⟩, ty, pos, af, gd⟩ (.int .i64 s.size) w := (fun f hf => by
    simp [execOp, resolve, invoke, builtin, Builtin.len_, hf.eval hx, run_underlying t.h, goInt])
theorem R.min {T T' : Nat} {x y : Operand} {k k' : IntKind} {a b : Int}  (hx : ev ρ x = some (.int k a)) (hy : ev ρ y = some (.int k' b)) (z : Int) (hz : (if b < a then b else a) = z) :
    Runs P n ρ w ⟨some d, .call ⟨.builtin .min, #[x, y], #[T, T']⟩, ty, pos, af, gd⟩ (.int k z) w := (fun f hf => by
    subst hz
    simp [execOp, resolve, invoke, builtin, Builtin.min_, Builtin.min2, hf.eval hx, hf.eval hy])
theorem R.max {T T' : Nat} {x y : Operand} {k k' : IntKind} {a b : Int}  (hx : ev ρ x = some (.int k a)) (hy : ev ρ y = some (.int k' b)) (z : Int) (hz : (if b > a then b else a) = z) :
    Runs P n ρ w ⟨some d, .call ⟨.builtin .max, #[x, y], #[T, T']⟩, ty, pos, af, gd⟩ (.int k z) w := (fun f hf => by
    subst hz
    simp [execOp, resolve, invoke, builtin, Builtin.max_, Builtin.max2, hf.eval hx, hf.eval hy])
/-! ### numbers of other kinds -/
theorem R.conv {S T : TypeId} {k k' : IntKind} [tS : TyInt P S k'] [t : TyInt P T k] {x : Operand} {a : Int}  (hx : ev ρ x = some (.int k' a)) (z : Int) (hz : k.wrap a = z) :
    Runs P n ρ w ⟨some d, .convert S T x, ty, pos, af, gd⟩ (.int k z) w := (fun f hf => by
    subst hz
    simp [execOp, convert, hf.eval hx, run_underlying tS.h, run_underlying t.h, Conv.intToInt])
theorem R.shrW {T T' : TypeId} {x y : Operand} {k k' : IntKind} {a b : Int}  (hx : ev ρ x = some (.int k a)) (hy : ev ρ y = some (.int k' b)) (hb : 0 ≤ b) (z : Int) (hz : a.fdiv (2 ^ (Min.min b.toNat k.bits)) = z) :
    Runs P n ρ w ⟨some d, .binOp .shr T x y T', ty, pos, af, gd⟩ (.int k z) w := R.bin hx hy (fun w => by subst hz; simp [eqGuard_shr, binOp, Op.shift, show ¬ b < 0 by omega])
theorem R.shlW {T T' : TypeId} {x y : Operand} {k k' : IntKind} {a b : Int}  (hx : ev ρ x = some (.int k a)) (hy : ev ρ y = some (.int k' b)) (hb : 0 ≤ b) (z : Int) (hz : k.wrap (a * 2 ^ (Min.min b.toNat k.bits)) = z) :
    Runs P n ρ w ⟨some d, .binOp .shl T x y T', ty, pos, af, gd⟩ (.int k z) w := R.bin hx hy (fun w => by subst hz; simp [eqGuard_shl, binOp, Op.shift, show ¬ b < 0 by omega])
def xorI (k : IntKind) (a b : Int) : Int := k.wrap (BitVec.ofInt k.bits a ^^^ BitVec.ofInt k.bits b).toNat
def orI (k : IntKind) (a b : Int) : Int := k.wrap (BitVec.ofInt k.bits a ||| BitVec.ofInt k.bits b).toNat
def andI (k : IntKind) (a b : Int) : Int := k.wrap (BitVec.ofInt k.bits a &&& BitVec.ofInt k.bits b).toNat
theorem R.xorW {T T' : TypeId} {x y : Operand} {k : IntKind} {a b : Int}  (hx : ev ρ x = some (.int k a)) (hy : ev ρ y = some (.int k b)) (z : Int) (hz : xorI k a b = z) :
    Runs P n ρ w ⟨some d, .binOp .xor T x y T', ty, pos, af, gd⟩ (.int k z) w := R.bin hx hy (fun w => by subst hz; simp [eqGuard_xor, binOp, Op.intBits, xorI])
theorem R.orW {T T' : TypeId} {x y : Operand} {k : IntKind} {a b : Int}  (hx : ev ρ x = some (.int k a)) (hy : ev ρ y = some (.int k b)) (z : Int) (hz : orI k a b = z) :
    Runs P n ρ w ⟨some d, .binOp .or T x y T', ty, pos, af, gd⟩ (.int k z) w := R.bin hx hy (fun w => by subst hz; simp [eqGuard_or, binOp, Op.intBits, orI])
theorem R.andW {T T' : TypeId} {x y : Operand} {k : IntKind} {a b : Int}  (hx : ev ρ x = some (.int k a)) (hy : ev ρ y = some (.int k b)) (z : Int) (hz : andI k a b = z) :
    Runs P n ρ w ⟨some d, .binOp .and T x y T', ty, pos, af, gd⟩ (.int k z) w := R.bin hx hy (fun w => by subst hz; simp [eqGuard_and, binOp, Op.intBits, andI])
theorem R.complW {T : TypeId} {x : Operand} {k : IntKind} {a : Int}  (hx : ev ρ x = some (.int k a)) (z : Int) (hz : xorI k (if k.signed then -1 else k.max) a = z) :
    Runs P n ρ w ⟨some d, .unOp .xor T x, ty, pos, af, gd⟩ (.int k z) w := (fun f hf => by subst hz; simp [execOp, hf.eval hx, Op.unary, Op.intBits, xorI])
theorem R.negW {T : TypeId} {x : Operand} {k : IntKind} {a : Int}  (hx : ev ρ x = some (.int k a)) (z : Int) (hz : k.wrap (0 - a) = z) :
    Runs P n ρ w ⟨some d, .unOp .neg T x, ty, pos, af, gd⟩ (.int k z) w := (fun f hf => by subst hz; simp [execOp, hf.eval hx, Op.unary, Op.intArith])
/-! ### what is the same -/
theorem depth_succ : ∃ d, Op.maxDepth = d + 1 := ⟨9999, rfl⟩
theorem run_equal {T : TypeId} {x y : Value} {r : Bool} (w : World) (h : ∀ d, (Op.equalIn (d + 1) T x y).run P w = .ok r w) : (Op.equal T x y).run P w = .ok r w := by
  obtain ⟨d, hd⟩ := depth_succ
  unfold Op.equal
  rw [hd]
  exact h d
theorem R.eqNilP {T T' : TypeId} [t : TyPtr P T] {x y : Operand} {a : Option Addr}  (hx : ev ρ x = some (.pointer a)) (hy : ev ρ y = some (.pointer none)) :
    Runs P n ρ w ⟨some d, .binOp .eql T x y T', ty, pos, af, gd⟩ (.bool a.isNone) w := R.bin hx hy (fun w => by
    obtain ⟨E, hE⟩ := t.h
    have he := run_equal (P := P) (T := T) (x := .pointer a) (y := .pointer none) (r := a.isNone) w (fun d => by cases a <;> simp only [Op.equalIn, Sem.run_bind, run_underlying hE, Result.andThen_ok] <;> rfl)
    simp only [eqGuard_at_pointer, binOp, Sem.run_bind, Sem.run_pure, Result.andThen_ok, he])
theorem R.neNilP {T T' : TypeId} [t : TyPtr P T] {x y : Operand} {a : Option Addr}  (hx : ev ρ x = some (.pointer a)) (hy : ev ρ y = some (.pointer none)) :
    Runs P n ρ w ⟨some d, .binOp .neq T x y T', ty, pos, af, gd⟩ (.bool (!a.isNone)) w := R.bin hx hy (fun w => by
    obtain ⟨E, hE⟩ := t.h
    have he := run_equal (P := P) (T := T) (x := .pointer a) (y := .pointer none) (r := a.isNone) w (fun d => by cases a <;> simp only [Op.equalIn, Sem.run_bind, run_underlying hE, Result.andThen_ok] <;> rfl)
    simp only [eqGuard_at_pointer, binOp, Sem.run_bind, Sem.run_pure, Result.andThen_ok, he])
theorem R.eqNilS {T T' E size bytes : TypeId} {z : Value} [t : TySlice P T E size bytes z] {x y : Operand} {a : Option Addr} {m c : Nat}  (hx : ev ρ x = some (.slice a m c)) (hy : ev ρ y = some (.slice none 0 0)) :
    Runs P n ρ w ⟨some d, .binOp .eql T x y T', ty, pos, af, gd⟩ (.bool a.isNone) w := R.bin hx hy (fun w => by
    have he := run_equal (P := P) (T := T) (x := .slice a m c) (y := .slice none 0 0) (r := a.isNone) w (fun d => by cases a <;> simp only [Op.equalIn, Sem.run_bind, run_underlying t.h, Result.andThen_ok] <;> rfl)
    simp only [eqGuard_at_slice, binOp, Sem.run_bind, Sem.run_pure, Result.andThen_ok, he])
theorem R.neNilS {T T' E size bytes : TypeId} {z : Value} [t : TySlice P T E size bytes z] {x y : Operand} {a : Option Addr} {m c : Nat}  (hx : ev ρ x = some (.slice a m c)) (hy : ev ρ y = some (.slice none 0 0)) :
    Runs P n ρ w ⟨some d, .binOp .neq T x y T', ty, pos, af, gd⟩ (.bool (!a.isNone)) w := R.bin hx hy (fun w => by
    have he := run_equal (P := P) (T := T) (x := .slice a m c) (y := .slice none 0 0) (r := a.isNone) w (fun d => by cases a <;> simp only [Op.equalIn, Sem.run_bind, run_underlying t.h, Result.andThen_ok] <;> rfl)
    simp only [eqGuard_at_slice, binOp, Sem.run_bind, Sem.run_pure, Result.andThen_ok, he])
class TyBool (P : Program) (T : TypeId) : Prop where
  h : P.underlying T = some .bool
theorem R.eqB {T T' : TypeId} [t : TyBool P T] {x y : Operand} {a b : Bool}  (hx : ev ρ x = some (.bool a)) (hy : ev ρ y = some (.bool b)) :
    Runs P n ρ w ⟨some d, .binOp .eql T x y T', ty, pos, af, gd⟩ (.bool (a == b)) w := R.bin hx hy (fun w => by
    have he := run_equal (P := P) (T := T) (x := .bool a) (y := .bool b) (r := a == b) w (fun d => by simp only [Op.equalIn, Sem.run_bind, run_underlying t.h, Result.andThen_ok, Sem.run_pure])
    simp only [eqGuard_at_bool, binOp, Sem.run_bind, Sem.run_pure, Result.andThen_ok, he])
theorem R.neB {T T' : TypeId} [t : TyBool P T] {x y : Operand} {a b : Bool}  (hx : ev ρ x = some (.bool a)) (hy : ev ρ y = some (.bool b)) :
    Runs P n ρ w ⟨some d, .binOp .neq T x y T', ty, pos, af, gd⟩ (.bool (a != b)) w := R.bin hx hy (fun w => by
    have he := run_equal (P := P) (T := T) (x := .bool a) (y := .bool b) (r := a == b) w (fun d => by simp only [Op.equalIn, Sem.run_bind, run_underlying t.h, Result.andThen_ok, Sem.run_pure])
    simp only [eqGuard_at_bool, binOp, Sem.run_bind, Sem.run_pure, Result.andThen_ok, he]; rfl)
/-! ### strings: 'str l' has the bytes l -/
def str (l : List UInt8) : ByteArray := ⟨l.toArray⟩
theorem str_toList (s : ByteArray) : str s.data.toList = s := by cases s; rfl
theorem ba_size (s : ByteArray) : s.size = s.data.toList.length := rfl
theorem str_size (l : List UInt8) : (str l).size = l.length := by rw [ba_size]; simp [str]
theorem ba_toList (s : ByteArray) : s.toList = s.data.toList := by
  have loop : ∀ (k : Nat) (i : Nat) (r : List UInt8), s.size - i = k → ByteArray.toList.loop s i r = r.reverse ++ s.data.toList.drop i := by
    intro k
    induction k with
    | zero =>
      intro i r h
      unfold ByteArray.toList.loop
      rw [if_neg (by omega), List.drop_eq_nil_of_le (by rw [← ba_size]; omega)]
      simp
    | succ k ih =>
      intro i r h
      unfold ByteArray.toList.loop
      have hi : i < s.size := by omega
      rw [if_pos hi, ih (i + 1) _ (by omega)]
      have hi' : i < s.data.toList.length := by rw [← ba_size]; exact hi
      rw [List.drop_eq_getElem_cons hi']
      have : s.get! i = s.data.toList[i] := by
        have h2 : s.get! i = s.data[i]! := rfl
        rw [h2, getElem!_pos s.data i hi]
        simp
      simp [this]
  have := loop s.size 0 [] (by omega)
  simpa [ByteArray.toList] using this
theorem R.eqStr {T T' : TypeId} {x y : Operand} {a b : List UInt8}  (hx : ev ρ x = some (.string (str a))) (hy : ev ρ y = some (.string (str b))) :
    Runs P n ρ w ⟨some d, .binOp .eql T x y T', ty, pos, af, gd⟩ (.bool (decide (a = b))) w := R.bin hx hy (fun w => by simp [eqGuard_at_string, binOp, Op.stringOp, ba_toList, str]; exact Bool.eq_iff_iff.2 (by simp))
theorem R.neStr {T T' : TypeId} {x y : Operand} {a b : List UInt8}  (hx : ev ρ x = some (.string (str a))) (hy : ev ρ y = some (.string (str b))) :
    Runs P n ρ w ⟨some d, .binOp .neq T x y T', ty, pos, af, gd⟩ (.bool (decide (a ≠ b))) w := R.bin hx hy (fun w => by simp [eqGuard_at_string, binOp, Op.stringOp, ba_toList, str]; exact Bool.eq_iff_iff.2 (by simp))
theorem R.ltStr {T T' : TypeId} {x y : Operand} {a b : List UInt8}  (hx : ev ρ x = some (.string (str a))) (hy : ev ρ y = some (.string (str b))) :
    Runs P n ρ w ⟨some d, .binOp .lss T x y T', ty, pos, af, gd⟩ (.bool (Op.bytesLess a b)) w := R.bin hx hy (fun w => by simp [eqGuard_at_string, binOp, Op.stringOp, ba_toList, str])
theorem R.addStr {T T' : TypeId} {x y : Operand} {a b : List UInt8}  (hx : ev ρ x = some (.string (str a))) (hy : ev ρ y = some (.string (str b))) (hl : a.length + b.length ≤ 9223372036854775807) :
    Runs P n ρ w ⟨some d, .binOp .add T x y T', ty, pos, af, gd⟩ (.string (str (a ++ b))) w := R.bin hx hy (fun w => by
    have h1 : ¬ ((a.length : Int) + b.length > 9223372036854775807) := by omega
    have h2 : str a ++ str b = str (a ++ b) := by
      simp only [str]
      show ByteArray.append _ _ = _
      apply ByteArray.ext
      simp [ByteArray.append]
    simp [eqGuard_at_string, binOp, Op.stringOp, str_size, h1, h2])
theorem R.idxStr {T : TypeId} [t : TyStr P T] {x y : Operand} {k : IntKind} {l : List UInt8} {i : Int} {b : UInt8}  (hx : ev ρ x = some (.string (str l))) (hy : ev ρ y = some (.int k i)) (h0 : 0 ≤ i) (hb : l[i.toNat]? = some b) :
    Runs P n ρ w ⟨some d, .index T x y, ty, pos, af, gd⟩ (.int .u8 b.toNat) w := (fun f hf => by
    have h1 : (str l)[i.toNat]? = some b := by
      have hlt := (List.getElem?_eq_some_iff.1 hb)
      obtain ⟨hlt, he⟩ := hlt
      have : i.toNat < (str l).size := by rw [str_size]; exact hlt
      rw [getElem?_pos (str l) i.toNat this]
      subst he
      exact congrArg some (List.getElem_toArray _)
    simp [execOp, Instr.index, hf.eval hx, hf.eval hy, asIntOf, run_underlying t.h, h0, h1])
theorem extract_str (l : List UInt8) (a b : Nat) : (str l).extract a b = str ((l.take b).drop a) := by
  apply ByteArray.ext
  simp only [str, ByteArray.data_extract, List.extract_toArray]
  congr 1
  rw [List.extract_eq_take_drop, List.drop_take]
theorem sliceBound_ok {k : IntKind} {i : Int} {y : Nat} {code : BoundsCode} (h0 : 0 ≤ i) (h1 : i ≤ y) (w : World) : (Instr.sliceBound (.int k i) y code).run P w = .ok i.toNat w := run_sliceBound w k i y code h0 h1
/-- s[lo:hi] of a string. -/
theorem R.slStr {T : TypeId} [t : TyStr P T] {x lo hi : Operand} {k k' : IntKind} {l : List UInt8} {i j : Int}  (hx : ev ρ x = some (.string (str l))) (hlo : ev ρ lo = some (.int k i)) (hhi : ev ρ hi = some (.int k' j)) (h0 : 0 ≤ i) (h1 : i ≤ j) (h2 : j ≤ l.length) :
    Runs P n ρ w ⟨some d, .slice T x (some lo) (some hi) none, ty, pos, af, gd⟩ (.string (str ((l.take j.toNat).drop i.toNat))) w := (fun f hf => by
    simp [execOp, Instr.sliceAt, Instr.slice, Instr.sliceBounds, hf.eval hx, hf.eval hlo, hf.eval hhi, run_underlying t.h, str_size, sliceBound_ok (P := P) (k := k') (i := j) (y := l.length) (by omega) h2 w, sliceBound_ok (P := P) (k := k) (i := i) (y := j.toNat) h0 (by omega) w, extract_str])
theorem R.slStrL {T : TypeId} [t : TyStr P T] {x lo : Operand} {k : IntKind} {l : List UInt8} {i : Int}  (hx : ev ρ x = some (.string (str l))) (hlo : ev ρ lo = some (.int k i)) (h0 : 0 ≤ i) (h2 : i ≤ l.length) :
    Runs P n ρ w ⟨some d, .slice T x (some lo) none none, ty, pos, af, gd⟩ (.string (str (l.drop i.toNat))) w := (fun f hf => by
    simp [execOp, Instr.sliceAt, Instr.slice, Instr.sliceBounds, hf.eval hx, hf.eval hlo, run_underlying t.h, str_size, sliceBound_ok (P := P) (k := k) (i := i) (y := l.length) h0 h2 w, extract_str])
theorem R.slStrH {T : TypeId} [t : TyStr P T] {x hi : Operand} {k : IntKind} {l : List UInt8} {j : Int}  (hx : ev ρ x = some (.string (str l))) (hhi : ev ρ hi = some (.int k j)) (h0 : 0 ≤ j) (h2 : j ≤ l.length) :
    Runs P n ρ w ⟨some d, .slice T x none (some hi) none, ty, pos, af, gd⟩ (.string (str (l.take j.toNat))) w := (fun f hf => by
    simp [execOp, Instr.sliceAt, Instr.slice, Instr.sliceBounds, hf.eval hx, hf.eval hhi, run_underlying t.h, str_size, sliceBound_ok (P := P) (k := k) (i := j) (y := l.length) h0 h2 w, extract_str])
/-! ### bytes -/
def vb (b : UInt8) : Value := .int .u8 (b.toNat : Int)
def vbs (l : List UInt8) : List Value := l.map vb
theorem vbs_length (l : List UInt8) : (vbs l).length = l.length := by simp [vbs]
theorem vbs_get (l : List UInt8) (i : Nat) : (vbs l)[i]? = (l[i]?).map vb := by simp [vbs]
theorem vbs_append (a b : List UInt8) : vbs (a ++ b) = vbs a ++ vbs b := by simp [vbs]
theorem vbs_one (l : List UInt8) : ∀ u ∈ vbs l, u.oneCell' = true := by
  intro u hu
  simp [vbs] at hu
  obtain ⟨b, _, rfl⟩ := hu
  rfl
class TyBytes (P : Program) (T : TypeId) (E : outParam TypeId) : Prop where
  h : P.underlying T = some (.slice E)
  e : P.underlying E = some (.int .u8)
theorem run_bytesStr {T S E : TypeId} [t : TyBytes P T E] [s : TyStr P S] {a : Option Addr} {c : Nat} {l : List UInt8} (hc : Cells w a (vbs l)) :
    (convert T S (.slice a l.length c)).run P w = .ok (.string (str l)) w := by
  cases a with
  | none =>
    have : l = [] := by
      cases l with
      | nil => rfl
      | cons x r => obtain ⟨p, hp, _⟩ := hc 0 (vb x) (by simp [vbs]); cases hp
    subst this
    simp [convert, run_underlying t.h, run_underlying s.h, run_underlying t.e, Conv.bytesToString]
    rfl
  | some p =>
    refine run_convert_bytes_back w T S E p c l t.h t.e s.h ?_
    intro j hj
    exact hc.load (by simp [vbs, vb, hj])
theorem R.bytesStr {T S E : TypeId} [t : TyBytes P T E] [s : TyStr P S] {x : Operand} {a : Option Addr} {m c : Nat} {l : List UInt8}  (hx : ev ρ x = some (.slice a m c)) (hc : Cells w a (vbs l)) (hm : m = l.length) :
    Runs P n ρ w ⟨some d, .convert T S x, ty, pos, af, gd⟩ (.string (str l)) w := by
  subst hm
  exact (fun f hf => by
    simp only [execOp, hf.eval hx, Sem.run_bind, run_bytesStr (T := T) (S := S) hc]
    rfl)
/-! ### addresses -/
theorem R.nilChk {x : Operand} {p : Addr}  (hx : ev ρ x = some (.pointer (some p))) :
    Runs P n ρ w ⟨some d, .nilCheck x, ty, pos, af, gd⟩ (.pointer (some p)) w := (fun f hf => by simp [execOp, hf.eval hx])
theorem run_field {T : TypeId} {i off : Nat} [t : TyField P T i off] (p : Addr) (w : World) : (Instr.fieldAt T (.pointer (some p)) i).run P w = .ok (.pointer (some (p.add off))) w := by
  obtain ⟨fs, f, h1, h2, h3, h4⟩ := t.h
  cases hq : P.info? f.type with
  | none => simp [hq] at h4
  | some j =>
    have hs : j.size ≠ 0 := by simpa [hq] using h4
    subst h3
    simp [Instr.fieldAt, run_underlying h1, h2, Instr.sureAddr, fieldPlace, Go.sizeOf, typeInfo, hq, hs]
theorem R.fld {T : TypeId} {i off b o : Nat} [t : TyField P T i off] {x : Operand}  (hx : ev ρ x = some (.pointer (some ⟨b, o, none⟩))) :
    Runs P n ρ w ⟨some d, .fieldAddr T x i, ty, pos, af, gd⟩ (.pointer (some ⟨b, o + off, none⟩)) w := (fun f hf => by
    have := run_field (P := P) (T := T) (i := i) (off := off) ⟨b, o, none⟩ w
    simp only [execOp, hf.eval hx, Sem.run_bind, this, Go.Addr.add_lit]
    rfl)
theorem R.fldA {T : TypeId} {i off : Nat} [t : TyField P T i off] {x : Operand} {p : Addr}  (hx : ev ρ x = some (.pointer (some p))) :
    Runs P n ρ w ⟨some d, .fieldAddr T x i, ty, pos, af, gd⟩ (.pointer (some (p.add off))) w := (fun f hf => by
    have := run_field (P := P) (T := T) (i := i) (off := off) p w
    simp only [execOp, hf.eval hx, Sem.run_bind, this]
    rfl)
/-- &xs[i] of a slice. -/
theorem run_idxS {T E size bytes : Nat} {z : Value} [t : TySlice P T E size bytes z] {k : IntKind} {p : Addr} {m c : Nat} {i : Int} (h0 : 0 ≤ i) (h1 : i < m) (w : World) :
    (Instr.indexAt T (.slice (some p) m c) (.int k i)).run P w = .ok (.pointer (some (p.add (i.toNat * size)))) w := by
  obtain ⟨j, hj, hs, _, _⟩ := t.i
  subst hs
  simp [Instr.indexAt, asIntOf, run_underlying t.h, h0, h1, Go.sizeOf, typeInfo, hj]
theorem R.idx {T E size bytes : Nat} {z : Value} [t : TySlice P T E size bytes z] {x y : Operand} {k : IntKind} {a : Option Addr} {m c : Nat} {i : Int}  (hx : ev ρ x = some (.slice a m c)) (hy : ev ρ y = some (.int k i)) (h0 : 0 ≤ i) (h1 : i < m) (p : Addr) (hp : a = some p) :
    Runs P n ρ w ⟨some d, .indexAddr T x y, ty, pos, af, gd⟩ (.pointer (some (p.add (i.toNat * size)))) w := by
  subst hp
  exact (fun f hf => by
    have := run_idxS (P := P) (T := T) (k := k) (p := p) (m := m) (c := c) h0 h1 w
    simp only [execOp, hf.eval hx, hf.eval hy, Sem.run_bind, this]
    rfl)
/-! ### loads -/
theorem run_load1 {T : TypeId} [t : TyOne P T] {p : Addr} {v : Value} (hc : w.cell? p = some v) : (Instr.loadAt T (.pointer (some p))).run P w = .ok v w := by
  simp [Instr.loadAt, Instr.sureAddr, loadVar, TyOne.agg, hc]
theorem R.ld {T : TypeId} [t : TyOne P T] {x : Operand} {p : Addr} {v : Value}  (hx : ev ρ x = some (.pointer (some p))) (hc : w.cell? p = some v) :
    Runs P n ρ w ⟨some d, .load T x, ty, pos, af, gd⟩ (v) w := (fun f hf => by
    simp only [execOp, hf.eval hx, Sem.run_bind, run_load1 (T := T) hc]
    rfl)
theorem R.ldB {T : TypeId} [t : TyOne P T] {x : Operand} {b o : Nat} {cs : Array Value} {U : TypeId} {fz : Nat × Nat} {v : Value}  (hx : ev ρ x = some (.pointer (some ⟨b, o, none⟩))) (hb : Blk w b cs U fz) (hv : cs[o]? = some v) :
    Runs P n ρ w ⟨some d, .load T x, ty, pos, af, gd⟩ (v) w := R.ld hx ((hb.cell o).trans hv)
theorem run_loadN {T : TypeId} {s : Nat} [t : TyAgg P T s] {p : Addr} {vs : List Value} (hc : Cells w (some p) vs) (hl : vs.length = s) : (Instr.loadAt T (.pointer (some p))).run P w = .ok (.agg vs.toArray) w := by
  obtain ⟨j, hj, hs⟩ := TyAgg.info (P := P) (T := T) (s := s)
  have hload : (loadCells p s).run P w = .ok vs.toArray w := by
    subst hl
    exact run_loadCells_list (P := P) w p vs (fun j v hv => hc.load hv)
  simp [Instr.loadAt, Instr.sureAddr, loadVar, TyAgg.agg (P := P) (T := T) (s := s), Go.sizeOf, typeInfo, hj, hs, hload]
theorem R.ldN {T : TypeId} {s : Nat} [t : TyAgg P T s] {x : Operand} {p : Addr} {vs : List Value}  (hx : ev ρ x = some (.pointer (some p))) (hc : Cells w (some p) vs) (hl : vs.length = s) :
    Runs P n ρ w ⟨some d, .load T x, ty, pos, af, gd⟩ (.agg vs.toArray) w := (fun f hf => by
    simp only [execOp, hf.eval hx, Sem.run_bind, run_loadN (T := T) hc hl]
    rfl)
/-- A whole block. -/
theorem R.ldBN {T : TypeId} {s : Nat} [t : TyAgg P T s] {x : Operand} {b : Nat} {cs : Array Value} {U : TypeId} {fz : Nat × Nat}  (hx : ev ρ x = some (.pointer (some ⟨b, 0, none⟩))) (hb : Blk w b cs U fz) (hl : cs.size = s) :
    Runs P n ρ w ⟨some d, .load T x, ty, pos, af, gd⟩ (.agg cs) w := R.ldN hx (vs := cs.toList) (Cells.of_blk hb 0 _ (fun j v hj => by simpa using hj)) (by simpa using hl)
/-! ### parts of tuples and structs -/
theorem R.ext {x : Operand} {vs : Array Value} {i : Nat} {v : Value}  (hx : ev ρ x = some (.tuple vs)) (hv : vs[i]? = some v) :
    Runs P n ρ w ⟨some d, .extract x i, ty, pos, af, gd⟩ (v) w := (fun f hf => by simp [execOp, hf.eval hx, Instr.extract, hv])
/-! ### making blocks -/
theorem run_newVar {T : TypeId} {v : Value} (w : World) : (newVar T v).run P w = .ok ⟨w.heap.size, 0, none⟩ (w.alloc (.cells v.cells T)) := by
  simp [newVar, newRow]
/-- What a new block of its own gives: its pointer. -/
def New (w : World) (cs : Array Value) (T : TypeId) (v : Value) (w' : World) : Prop := ∃ b, v = .pointer (some ⟨b, 0, none⟩) ∧ w.heap.size = b ∧ w'.heap.size = b + 1 ∧ Ext [] w w' ∧ Blk w' b cs T (0, 0)
theorem New.of (w : World) (cs : Array Value) (T : TypeId) : New w cs T (.pointer (some ⟨w.heap.size, 0, none⟩)) (w.alloc (.cells cs T)) := ⟨_, rfl, rfl, by simp, Ext.alloc _ _, Blk.new _ _ _ _⟩
theorem R.alloc {T : TypeId} {z : Value} [t : TyZero P T z] : Does P n ρ w ⟨some d, .alloc T, ty, pos, af, gd⟩ (New w z.cells T) :=
  ⟨_, _, fun f _ => by
    have hz := t.h
    cases hq : P.info? T with
    | none => simp [hq] at hz
    | some i =>
      have hz' : i.zero = some z := by simpa [hq] using hz
      simp [execOp, Instr.alloc, zeroValue, typeInfo, hq, hz', run_newVar], New.of _ _ _⟩
theorem R.box {T : TypeId} {x : Operand} {v : Value} (hx : ev ρ x = some v) : Does P n ρ w ⟨some d, .box T x, ty, pos, af, gd⟩ (New w v.cells T) :=
  ⟨_, _, fun f hf => by simp [execOp, hf.eval hx, Instr.box, run_newVar], New.of _ _ _⟩
def evps (ρ : Env) : List (Nat × Operand) → Option (List (Nat × Value))
  | [] => some []
  | (i, x) :: r => match ev ρ x, evps ρ r with
    | some v, some vs => some ((i, v) :: vs)
    | _, _ => none
theorem evps_spec {a : Act} (ha : Fr n ρ a) : ∀ {ps : List (Nat × Operand)} {vs : List (Nat × Value)}, evps ρ ps = some vs → ps.map (fun (i, x) => (i, a.eval x)) = vs
  | [], vs, h => by simp [evps] at h; simp [h]
  | (i, x) :: r, vs, h => by
    simp only [evps] at h
    split at h
    · rename_i v vs' h1 h2
      cases h
      simp [ha.eval h1, evps_spec ha h2]
    · cases h
theorem R.build {T : TypeId} {pl : Nat → Option (Nat × Nat)} {z : Value} [t : TyBuilt P T pl z] {parts : Array (Nat × Operand)} {vs : List (Nat × Value)} {cs : Array Value}  (hp : evps ρ parts.toList = some vs) (hb : Instr.fill pl z.cells vs = some cs) :
    Runs P n ρ w ⟨some d, .build T parts, ty, pos, af, gd⟩ (.agg cs) w := (fun f hf => by
    have h1 := evps_spec hf hp
    have h2 : (parts.map fun (i, x) => (i, f.eval x)).toList = vs := by simpa using h1
    have h3 := run_build (P := P) w T (parts.map fun (i, x) => (i, f.eval x)) cs (by rw [h2, t.h]; exact hb)
    simp only [execOp, Sem.run_bind, h3]
    rfl)
theorem run_buildSlice {T E size bytes : Nat} {z : Value} [t : TySlice P T E size bytes z] {len : Nat} {vs : List (Nat × Value)} {cs : Array Value} (hl : len * size ≤ 16777216)
    (hf : Instr.fill (fun i => some (i * size, size)) ((Array.range (len * size)).map (fun i => z.cells[i % z.cells.size]!)) vs = some cs) (w : World) :
    (Instr.buildSlice T len vs.toArray).run P w = .ok (.slice (some ⟨w.heap.size, 0, none⟩) len len) (w.alloc (.cells cs E)) := by
  obtain ⟨j, hj, hs, hb, hz⟩ := t.i
  subst hs
  by_cases h0 : len * j.size = 0
  · have e1 : Array.map (fun i => z.cells[i % z.cells.size]!) (Array.range (len * j.size)) = #[] := by simp [h0]
    rw [e1] at hf
    simp [Instr.buildSlice, run_underlying t.h, Go.sizeOf, typeInfo, hj, h0, newRow]
    rw [show Array.map (fun _ => (default : Value)) (Array.range 0) = #[] by simp, hf]
    rfl
  · simp [Instr.buildSlice, run_underlying t.h, Go.sizeOf, typeInfo, hj, show ¬ 16777216 < len * j.size by omega, h0, newRow, zeroValue, hz, hf]
/-- What a new row of its own gives: a slice over it. -/
def NewS (w : World) (cs : Array Value) (E : TypeId) (len cap : Nat) (v : Value) (w' : World) : Prop := ∃ b, v = .slice (some ⟨b, 0, none⟩) len cap ∧ w.heap.size = b ∧ w'.heap.size = b + 1 ∧ Ext [] w w' ∧ Blk w' b cs E (0, 0)
theorem NewS.of (w : World) (cs : Array Value) (E : TypeId) (len cap : Nat) : NewS w cs E len cap (.slice (some ⟨w.heap.size, 0, none⟩) len cap) (w.alloc (.cells cs E)) := ⟨_, rfl, rfl, by simp, Ext.alloc _ _, Blk.new _ _ _ _⟩
theorem R.buildS {T E size bytes : Nat} {z : Value} [t : TySlice P T E size bytes z] {len : Nat} {parts : Array (Nat × Operand)} {vs : List (Nat × Value)} {cs : Array Value} (hp : evps ρ parts.toList = some vs) (hl : len * size ≤ 16777216)
    (hf : Instr.fill (fun i => some (i * size, size)) ((Array.range (len * size)).map (fun i => z.cells[i % z.cells.size]!)) vs = some cs) :
    Does P n ρ w ⟨some d, .buildSlice T len parts, ty, pos, af, gd⟩ (NewS w cs E len len) :=
  ⟨_, _, fun f hff => by
    have h1 := evps_spec hff hp
    have h2 : (parts.map fun (i, x) => (i, f.eval x)) = vs.toArray := by apply Array.toList_inj.1; simpa using h1
    simp only [execOp, Sem.run_bind, h2, run_buildSlice (T := T) hl hf w]
    rfl, NewS.of _ _ _ _ _⟩
theorem R.make {T E size bytes : Nat} {z : Value} [t : TySlice P T E size bytes z] {x y : Operand} {k k' : IntKind} {l c : Int} (hx : ev ρ x = some (.int k l)) (hy : ev ρ y = some (.int k' c)) (h0 : 0 ≤ l) (h1 : l ≤ c) (h2 : (bytes : Int) * c ≤ 281474976710656) (h3 : c ≤ 9223372036854775807) :
    Does P n ρ w ⟨some d, .makeSlice T x y, ty, pos, af, gd⟩ (NewS w (madeCells z.cells (c.toNat * size)) E l.toNat c.toNat) := by
  obtain ⟨j, hj, hs, hb, hz⟩ := t.i
  subst hs hb
  exact ⟨_, _, fun f hf => by
    have := run_make (P := P) w T E j z t.h hj hz k k' l c h0 h1 h2 h3
    simp only [execOp, Sem.run_bind, hf.eval hx, hf.eval hy, this]
    rfl, NewS.of _ _ _ _ _⟩
/-! ### stores -/
theorem run_store1 {T : TypeId} [t : TyOne P T] {b o : Nat} {cs : Array Value} {U : TypeId} {v : Value} (hb : Blk w b cs U (0, 0)) (ho : o < cs.size) (h1 : v.oneCell' = true) :
    (Instr.storeAt T (.pointer (some ⟨b, o, none⟩)) v).run P w = .ok () (w.setCell ⟨b, o, none⟩ v) := by
  obtain ⟨i, hi, hs⟩ := TyOne.info (P := P) (T := T)
  have hc : v.cells = #[v] := by cases v <;> simp_all [Value.cells, Value.oneCell']
  have hcell : w.cell? ⟨b, o, none⟩ = some cs[o] := by rw [hb.cell]; simp [ho]
  have hfr : w.frozen? ⟨b, o, none⟩ = false := by
    simp only [World.frozen?]
    rw [show w.heap[b]? = some (.cells cs U (0, 0)) from hb]
    simp
  have hst := run_store P w ⟨b, o, none⟩ v .plain h1
  simp only [hcell, hfr] at hst
  simp [Instr.storeAt, Instr.sureAddr, storeVar, hc, Go.sizeOf, typeInfo, hi, hs, storeCells, Go.Addr.add_zero', hst]
/-- One cell of a block is written. -/
def Put (w : World) (b : Nat) (cs : Array Value) (U : TypeId) (w' : World) : Prop := Ext [b] w w' ∧ w'.heap.size = w.heap.size ∧ Blk w' b cs U (0, 0)
theorem R.st {T : TypeId} [t : TyOne P T] {x y : Operand} {b o : Nat} {cs : Array Value} {U : TypeId} {v : Value} (hx : ev ρ x = some (.pointer (some ⟨b, o, none⟩))) (hy : ev ρ y = some v) (hb : Blk w b cs U (0, 0)) (ho : o < cs.size) (h1 : v.oneCell' = true) :
    Sets P n ρ w ⟨none, .store T x y, ty, pos, af, gd⟩ (Put w b (cs.setIfInBounds o v) U) :=
  ⟨_, fun f hf => by
    simp only [execOp, hf.eval hx, hf.eval hy, Sem.run_bind, run_store1 (T := T) hb ho h1]
    rfl, Ext.setCell _ ⟨b, o, none⟩ _, by simp, hb.set o v⟩
end
end Brv
