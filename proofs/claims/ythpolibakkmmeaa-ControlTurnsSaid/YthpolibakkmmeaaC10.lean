/-
  Rules: copy; calls of functions that the library's tables give; numbers of 64 bits without a sign.
-/
import Derived.Test.YthpolibakkmmeaaC9
import Derived.Lib.MakeNoZero
import Derived.Laws.Externs
set_option linter.unusedVariables false
namespace Brv
open Go

/-- A row, with cells laid over it. -/
def Over (cur : Array Value) (o : Nat) (cs : List Value) : Array Value := (cur.toList.take o ++ cs ++ cur.toList.drop (o + cs.length)).toArray
theorem Over.size {cur : Array Value} {o : Nat} {cs : List Value} (h : o + cs.length ≤ cur.size) : (Over cur o cs).size = cur.size := by
  simp [Over]; omega
theorem Over.take {cur : Array Value} {o : Nat} {cs : List Value} (h : o ≤ cur.size) : (Over cur o cs).toList.take (o + cs.length) = cur.toList.take o ++ cs := by
  simp only [Over]
  have hl : (cur.toList.take o ++ cs).length = o + cs.length := by simp; omega
  rw [← hl, List.take_left]
section
variable {P : Program} {n : Fm} {ρ : Env} {w : World} {ty : TypeId} {pos : String} {af : Array Edge} {gd : Option (Nat × Bool)}
theorem R.copyB {T S E bytes : Nat} {z : Value} [t : TySlice P T E 1 bytes z] {d : Option Nat} {x y : Operand} {g o dl dc sl sc : Nat} {a : Addr} {cur : Array Value} {U : TypeId} {cs : List Value}
    (hx : ev ρ x = some (.slice (some ⟨g, o, none⟩) dl dc)) (hy : ev ρ y = some (.slice (some a) sl sc)) (hb : Blk w g cur U (0, 0)) (hc : Cells w (some a) cs) (hn : cs.length = Nat.min sl dl) (hfit : o + cs.length ≤ cur.size)
    (h1 : ∀ u ∈ cs, u.oneCell' = true) :
    Does P n ρ w ⟨d, .call ⟨.builtin .copy, #[x, y], #[T, S]⟩, ty, pos, af, gd⟩ (fun v w' => v = .int .i64 (cs.length : Int) ∧ Put w g (Over cur o cs) U w') := by
  obtain ⟨i, hi, hs, _, _⟩ := t.i
  have hr := run_copy_row (P := P) w T S ty E g o dl dc a sl sc cur U cs t.h (by rw [hi]; simp [hs]) hb hn (fun j v hj => hc.load hj) hfit h1
  exact ⟨.int .i64 (cs.length : Int), w.setRow g (Over cur o cs), fun f hf => by
    simp only [execOp, resolve, invoke, builtin, Sem.run_bind, Sem.run_pure, Result.andThen_ok, List.map_toArray, List.map_cons, List.map_nil, hf.eval hx, hf.eval hy, hr]
    rfl, rfl,
    ⟨rfl, rfl, rfl, by simp, fun k _ hk => setRow_other w g k _ (fun e => hk (by simp [e]))⟩, by simp, setRow_heap w g cur _ U _ hb⟩
/-- .. where nothing goes over. -/
theorem R.copy0 {T S E bytes : Nat} {z : Value} [t : TySlice P T E 1 bytes z] {d : Option Nat} {x y : Operand} {dl dc sl sc : Nat} {a b : Option Addr}
    (hx : ev ρ x = some (.slice b dl dc)) (hy : ev ρ y = some (.slice a sl sc)) (hn : Nat.min sl dl = 0) :
    Does P n ρ w ⟨d, .call ⟨.builtin .copy, #[x, y], #[T, S]⟩, ty, pos, af, gd⟩ (fun v w' => v = .int .i64 0 ∧ w' = w) := by
  obtain ⟨i, hi, hs, _, _⟩ := t.i
  have hr := run_copy_none (P := P) w T S ty E b a dl dc sl sc t.h (by rw [hi]; simp [hs]) hn
  exact ⟨.int .i64 0, w, fun f hf => by
    simp only [execOp, resolve, invoke, builtin, Sem.run_bind, Sem.run_pure, Result.andThen_ok, List.map_toArray, List.map_cons, List.map_nil, hf.eval hx, hf.eval hy, hr]
    rfl, rfl, rfl⟩
/-- A call that the library's tables answer. -/
theorem R.callX {d : Option Nat} {f : FuncId} {args : Array Operand} {ats : Array TypeId} {vs : List Value} {v : Value} {w' : World} (hargs : evs ρ args.toList = some vs)
    (hc : (callFunc f vs.toArray).run P w = .ok (.value v) w') : Runs P n ρ w ⟨d, .call ⟨.value (.func f), args, ats⟩, ty, pos, af, gd⟩ v w' := by
  intro a ha
  have he : args.map a.eval = vs.toArray := by
    apply Array.toList_inj.1
    simpa using ha.evals hargs
  have h2 : execOp a.eval ⟨d, .call ⟨.value (.func f), args, ats⟩, ty, pos, af, gd⟩ = (do let x ← resolve a.eval ⟨.value (.func f), args, ats⟩ ty; invoke x.target x.args) := rfl
  have h3 : resolve a.eval ⟨.value (.func f), args, ats⟩ ty = pure ⟨.fn (.func f) #[], #[] ++ vs.toArray⟩ := by
    simp only [resolve, he]
    rfl
  rw [h2, h3]
  simp only [Sem.run_bind, Sem.run_pure, Result.andThen_ok]
  show (callFunc f ((#[] ++ vs.toArray) ++ #[])).run P w = _
  rw [show (#[] ++ vs.toArray) ++ #[] = vs.toArray by simp]
  exact hc
/-- bytealg.MakeNoZero. -/
theorem R.noZero {ps : Array TypeId} {T E size bytes : Nat} {z : Value} [t : TySlice P T E size bytes z] {d : Option Nat} {f : FuncId} {fn : Func} {x : Operand} {ats : Array TypeId} {k : Int}
    (hf : P.funcs[f]? = some fn) (hname : (fn.name == "runtime.NumGoroutine") = false) (hb : fn.body.isNone = true) (hn : Extern.findNext fn = none) (he : Extern.find fn = some (Extern.BytealgMakeNoZero.makeNoZero ps #[T]))
    (hx : ev ρ x = some (.int .i64 k)) (h0 : 0 ≤ k) (h1 : k ≤ 140737488355328) :
    Does P n ρ w ⟨d, .call ⟨.value (.func f), #[x], ats⟩, ty, pos, af, gd⟩ (fun v w' => ∃ b cs, v = .slice (some ⟨b, 0, none⟩) k.toNat cs.size ∧ w.heap.size = b ∧ w'.heap.size = b + 1 ∧ Ext [] w w' ∧ Blk w' b cs E (0, 0) ∧ k.toNat ≤ cs.size ∧ cs.size ≤ maxLen) := by
  obtain ⟨cs, hrun, hle, hmax⟩ := Lib.run_makeNoZero (P := P) w ps T E t.h k.toNat (by omega)
  have hk : ((k.toNat : Nat) : Int) = k := by omega
  rw [hk] at hrun
  refine ⟨_, _, R.callX (vs := [.int .i64 k]) (by simp [evs, hx]) (by rw [run_callFunc_extern hf hname hb hn he, hrun]; rfl), _, cs, rfl, rfl, by simp, ?_, Blk.new w.drew.drew _ _ _, hle, hmax (by simp [maxLen]; omega)⟩
  exact ((Ext.drew w).trans0 (Ext.drew _)).trans0 (Ext.alloc w.drew.drew _)
end

theorem Mine.grow {s : Nat} {w w' : World} {E size m n : Nat} {M : List Nat} {xs ys : List Value} {v : Value} (h : Appended w E size M m xs v w') (hM : ∀ g ∈ M, s ≤ g) (hs : s ≤ w.heap.size) (hm : m = n) (hx : xs = ys) :
    Mine s E size n ys v w' ∧ Above s w w' := by
  subst hm; subst hx
  obtain ⟨a, c, M', rfl, e, hM', o⟩ := h
  exact ⟨⟨a, c, M', rfl, o, fun g hg => (hM' g hg).elim (hM g) (Nat.le_trans hs)⟩, Above.of e hM⟩
/-- A block that is marked behind its end (a string's bytes): it may be written as any other. -/
theorem run_storeF {P : Program} {w : World} {T : TypeId} [t : TyOne P T] {b o : Nat} {cs : Array Value} {U : TypeId} {fz : Nat × Nat} {v : Value} (hb : Blk w b cs U fz) (ho : o < cs.size) (hf : cs.size ≤ fz.1) (h1 : v.oneCell' = true) :
    (Instr.storeAt T (.pointer (some ⟨b, o, none⟩)) v).run P w = .ok () (w.setCell ⟨b, o, none⟩ v) := by
  obtain ⟨i, hi, hs⟩ := TyOne.info (P := P) (T := T)
  have hc : v.cells = #[v] := by cases v <;> simp_all [Value.cells, Value.oneCell']
  have hcell : w.cell? ⟨b, o, none⟩ = some cs[o] := by rw [hb.cell]; simp [ho]
  have hfr : w.frozen? ⟨b, o, none⟩ = false := by
    simp only [World.frozen?]
    rw [show w.heap[b]? = some (.cells cs U fz) from hb]
    simp; omega
  have hst := run_store P w ⟨b, o, none⟩ v .plain h1
  simp only [hcell, hfr] at hst
  simp [Instr.storeAt, Instr.sureAddr, storeVar, hc, Go.sizeOf, typeInfo, hi, hs, storeCells, Go.Addr.add_zero', hst]
section
variable {P : Program} {n : Fm} {ρ : Env} {w : World} {ty : TypeId} {pos : String} {af : Array Edge} {gd : Option (Nat × Bool)}
theorem R.stF {T : TypeId} [t : TyOne P T] {x y : Operand} {b o : Nat} {cs : Array Value} {U : TypeId} {fz : Nat × Nat} {v : Value} (hx : ev ρ x = some (.pointer (some ⟨b, o, none⟩))) (hy : ev ρ y = some v) (hb : Blk w b cs U fz) (ho : o < cs.size) (hf : cs.size ≤ fz.1) (h1 : v.oneCell' = true) :
    Sets P n ρ w ⟨none, .store T x y, ty, pos, af, gd⟩ (fun w' => Ext [b] w w' ∧ w'.heap.size = w.heap.size ∧ Blk w' b (cs.setIfInBounds o v) U fz) :=
  ⟨_, fun f hff => by
    simp only [execOp, hff.eval hx, hff.eval hy, Sem.run_bind, run_storeF (T := T) hb ho hf h1]
    rfl, Ext.setCell _ ⟨b, o, none⟩ _, by simp, hb.set o v⟩
/-- A string's bytes in a new row of its own. -/
def NewO (w : World) (E : TypeId) (l : List UInt8) (v : Value) (w' : World) : Prop := ∃ b cs fz, v = .slice (some ⟨b, 0, none⟩) l.length cs.size ∧ w.heap.size = b ∧ w'.heap.size = b + 1 ∧ Ext [] w w' ∧ Blk w' b cs E fz ∧ cs.size ≤ fz.1 ∧ l.length ≤ cs.size ∧ cs.toList.take l.length = vbs l
theorem R.strBytesO {S T E : TypeId} [s : TyStr P S] [t : TyBytes P T E] {d : Nat} {x : Operand} {l : List UInt8} (hx : ev ρ x = some (.string (str l))) :
    Does P n ρ w ⟨some d, .convert S T x, ty, pos, af, gd⟩ (NewO w E l) := by
  have hr := run_bytes_of_string w S T E (str l) s.h t.h t.e
  have hge := grownCap_ge w l.length 0 E
  rw [str_size] at hr
  have hsz : (bytesRow (str l) (grownCap w l.length 0 E)).size = grownCap w l.length 0 E := by
    simp [bytesRow, str, ByteArray.size]
    omega
  have htk : (bytesRow (str l) (grownCap w l.length 0 E)).toList.take l.length = vbs l := by
    simp only [bytesRow, Array.toList_append]
    rw [List.take_left' (by simp [str])]
    simp [str, vbs, vb]
  refine ⟨_, _, fun f hf => ?_, w.heap.size, bytesRow (str l) (grownCap w l.length 0 E), ((bytesRow (str l) (grownCap w l.length 0 E)).size, (bytesRow (str l) (grownCap w l.length 0 E)).size + 1), by rw [hsz], rfl, by simp, (Ext.drew w).trans0 (Ext.alloc w.drew _), Blk.new w.drew _ _ _, Nat.le_refl _, by rw [hsz]; simpa using hge, htk⟩
  simp only [execOp, hf.eval hx, Sem.run_bind, hr, Result.andThen_ok]
  rfl
end
section
variable {P : Program} {n : Fm} {ρ : Env} {w : World} {d : Nat} {ty : TypeId} {pos : String} {af : Array Edge} {gd : Option (Nat × Bool)}
/-- &xs[i] of an array. -/
theorem R.idxA {T m E size : Nat} [t : TyArr P T m E size] {x y : Operand} {k : IntKind} {b o : Nat} {i : Int} (hx : ev ρ x = some (.pointer (some ⟨b, o, none⟩))) (hy : ev ρ y = some (.int k i)) (h0 : 0 ≤ i) (h1 : i < m) (j : Nat) (hj : o + i.toNat * size = j) :
    Runs P n ρ w ⟨some d, .indexAddr T x y, ty, pos, af, gd⟩ (.pointer (some ⟨b, j, none⟩)) w := by
  subst hj
  exact (fun f hf => by
    cases hq : P.info? E with
    | none => have := t.i; simp [hq] at this
    | some q =>
      have hs : q.size = size := by have := t.i; simpa [hq] using this
      subst hs
      simp [execOp, hf.eval hx, hf.eval hy, Instr.indexAt, asIntOf, Instr.sureAddr, run_underlying t.h, h0, h1, Go.sizeOf, typeInfo, hq, Go.Addr.add_lit])
/-- xs[:] of an array. -/
theorem R.slA {T m E size : Nat} [t : TyArr P T m E size] {x : Operand} {p : Addr} (hx : ev ρ x = some (.pointer (some p))) :
    Runs P n ρ w ⟨some d, .slice T x none none none, ty, pos, af, gd⟩ (.slice (some p) m m) w := (fun f hf => by
    cases hq : P.info? E with
    | none => have := t.i; simp [hq] at this
    | some q =>
      have hs : q.size = size := by have := t.i; simpa [hq] using this
      subst hs
      simp [execOp, hf.eval hx, Instr.sliceAt, Instr.sureAddr, Instr.sliceBounds, run_underlying t.h, Go.sizeOf, typeInfo, hq, Go.Addr.add_zero'])
end
theorem subA_lit {b o l m size : Nat} (h : m ≠ l) : subA (some ⟨b, o, none⟩) l m size = some ⟨b, o + l * size, none⟩ := by
  unfold subA
  rw [if_neg h, Option.map_some, Go.Addr.add_lit]
theorem wrap_u64 {z : Int} (h : 0 ≤ z ∧ z ≤ 18446744073709551615) : IntKind.u64.wrap z = z := by
  simp only [IntKind.wrap, IntKind.bits, IntKind.signed]
  simp; omega
theorem and32 {a : Int} (h0 : 0 ≤ a) (h1 : a ≤ 4294967295) : andI .u64 a 4294967295 = a := by
  obtain ⟨m, rfl⟩ := Int.eq_ofNat_of_zero_le h0
  unfold andI
  have e : (BitVec.ofInt IntKind.u64.bits (m : Int) &&& BitVec.ofInt IntKind.u64.bits 4294967295).toNat = m := by
    show (BitVec.ofInt 64 (m : Int) &&& BitVec.ofInt 64 ((4294967295 : Nat) : Int)).toNat = m
    rw [BitVec.ofInt_natCast, BitVec.ofInt_natCast, BitVec.toNat_and, BitVec.toNat_ofNat, BitVec.toNat_ofNat]
    rw [Nat.mod_eq_of_lt (show m < 2 ^ 64 by omega), Nat.mod_eq_of_lt (show 4294967295 < 2 ^ 64 by decide)]
    rw [show (4294967295 : Nat) = 2 ^ 32 - 1 by decide, Nat.and_two_pow_sub_one_eq_mod]
    exact Nat.mod_eq_of_lt (by omega)
  rw [e]
  exact wrap_u64 (by omega)
theorem shr32 (a : Int) : a.fdiv (2 ^ (Min.min (32 : Int).toNat IntKind.u64.bits)) = a / 4294967296 := Int.fdiv_eq_ediv_of_nonneg a (by decide)
end Brv
namespace Brv
open Go
/-- Cells laid over an owned row. -/
theorem Own.over {w : World} {E : Nat} {a : Option Addr} {n cap : Nat} {xs : List Value} {M : List Nat} (h : Own w E 1 a n cap xs M) {o : Nat} {cs : List Value} (ho : o + cs.length ≤ n) (hn : 0 < n) :
    ∃ g cur, a = some ⟨g, 0, none⟩ ∧ M = [g] ∧ Blk w g cur E (0, 0) ∧ o + cs.length ≤ cur.size ∧ ∀ w', Blk w' g (Over cur o cs) E (0, 0) → Own w' E 1 a n cap (xs.take o ++ cs ++ xs.drop (o + cs.length)) M := by
  rcases h.2 with ⟨_, rfl, _, _⟩ | ⟨g, cur, ha, hM, hb, hnc, hcm, hcs, ht⟩
  · omega
  · have hl := h.1
    rw [Nat.mul_one] at hl ht hcs
    refine ⟨g, cur, ha, hM, hb, by omega, fun w' hb' => ⟨by simp [hl]; omega, .inr ⟨g, _, ha, hM, hb', hnc, hcm, by rw [Over.size (by omega)]; simpa using hcs, ?_⟩⟩⟩
    rw [Nat.mul_one, ← ht]
    simp only [Over]
    rw [List.take_take, Nat.min_eq_left (by omega), List.take_append, List.take_append, List.take_of_length_le (l := List.take o cur.toList) (by rw [List.length_take]; omega), List.length_append, List.length_take, Array.length_toList, Nat.min_eq_left (show o ≤ cur.size by omega), List.take_of_length_le (l := cs) (by omega), List.drop_take]
end Brv
namespace Brv
open Go
theorem Own.mem {w : World} {E size : Nat} {a : Option Addr} {n cap : Nat} {xs : List Value} {M : List Nat} (h : Own w E size a n cap xs M) : ∀ p, a = some p → p.block ∈ M ∧ p.block < w.heap.size := by
  rcases h.2 with ⟨rfl, _⟩ | ⟨g, cur, rfl, rfl, hb, _⟩
  · intro p h; cases h
  · intro p h; cases h; exact ⟨by simp, hb.lt⟩
/-- Only what is new was written. -/
theorem Ext.news {M : List Nat} {w w' : World} (h : Ext M w w') (hM : ∀ x ∈ M, w.heap.size ≤ x) : Ext [] w w' := (Ext.refl [] w).trans h (by simp) (fun x hx => .inr (hM x hx))
theorem Ext.news2 {b : Nat} {w w' w'' : World} (h : Ext [] w w') (h2 : Ext [b] w' w'') (hb : w.heap.size ≤ b) : Ext [] w w'' := h.trans h2 (by simp) (fun x hx => .inr (by rw [List.mem_singleton.1 hx]; exact hb))
end Brv
