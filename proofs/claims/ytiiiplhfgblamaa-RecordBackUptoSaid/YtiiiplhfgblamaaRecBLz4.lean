/-
  Texts of this claim, put together.
-/
import Derived.Stop.BytesEq
import Derived.Laws.Cover3
import Derived.Test.YtiiiplhfgblamaaRecBLz3
/-
  Arrays of bytes as values: from slices, compared.
-/
set_option linter.unusedVariables false
namespace Brv
open Go
section
variable {P : Program} {n : Fm} {ρ : Env} {w : World} {d : Nat} {ty : TypeId} {pos : String} {af : Array Edge} {gd : Option (Nat × Bool)}
/-- (*[m]E)(xs). -/
theorem R.s2ap {T m E size : Nat} [t : TyArr P T m E size] {x : Operand} {a : Option Addr} {k c : Nat} (hx : ev ρ x = some (.slice a k c)) (hk : m ≤ k) :
    Runs P n ρ w ⟨some d, .sliceToArrayPointer T x, ty, pos, af, gd⟩ (.pointer a) w := (fun f hf => by
    simp [execOp, hf.eval hx, run_arrayAt w T E m a k c t.h hk])
/-- An array type of bytes, that may be compared. -/
class TyBArr (P : Program) (T : TypeId) (m : outParam Nat) : Prop where
  h : ∃ E, P.underlying T = some (.array m E) ∧ P.underlying E = some (.int .u8) ∧ (P.info? E).map (·.size) = some 1
  g : P.eqGuardType P.depth T = false
theorem vbs_cell (l : List UInt8) : vbs l = l.map Extern.Stop.cell := rfl
theorem R.neArr {T T' : TypeId} {m : Nat} [t : TyBArr P T m] {x y : Operand} {a b : List UInt8} (hx : ev ρ x = some (.agg (vbs a).toArray)) (hy : ev ρ y = some (.agg (vbs b).toArray)) (ha : a.length = m) (hb : b.length = m) :
    Runs P n ρ w ⟨some d, .binOp .neq T x y T', ty, pos, af, gd⟩ (.bool (decide (a ≠ b))) w := R.bin hx hy (fun w => by
    obtain ⟨E, h1, h2, h3⟩ := t.h
    have hsz : ∀ w, (Go.sizeOf E).run P w = .ok 1 w := by
      intro w
      cases hq : P.info? E with
      | none => simp [hq] at h3
      | some q => have : q.size = 1 := by simpa [hq] using h3
                  simp [Go.sizeOf, typeInfo, hq, this]
    simp only [Sem.run_bind, run_eqGuard_agg (w := w) .neq T x y _ _ t.g, Result.andThen_ok, run_neq_struct, vbs_cell, run_equalIn_bytes w 9998 T E m h1 h2 hsz a b ha hb]
    congr 2
    by_cases h : a = b <;> simp [h])
end
theorem cells_repV {cur : Array Value} {p q : Nat} {y : Value} (h : cur.toList.take p = List.replicate p y) (hq : q ≤ p) (j : Nat) (v : Value) (hj : (List.replicate q y)[j]? = some v) : cur[0 + j]? = some v := by
  have hlt : j < q := by have := (List.getElem?_eq_some_iff.1 hj).1; simpa using this
  have h1 : (List.replicate p y)[j]? = some v := by rw [List.getElem?_replicate] at hj ⊢; rw [if_pos hlt] at hj; rw [if_pos (by omega)]; exact hj
  rw [← h, List.getElem?_take, if_pos (by omega)] at h1
  simpa using h1
theorem Cells.none {w : World} {vs : List Value} (h : Cells w none vs) : vs = [] := by
  cases vs with
  | nil => rfl
  | cons v vs => obtain ⟨p, hp, _⟩ := h 0 v rfl; cases hp
end Brv
namespace Brv
open Go
def ptr (b : Nat) : Value := .pointer (some ⟨b, 0, none⟩)
theorem ptrs_one (ps : List Nat) : ∀ u ∈ ps.map ptr, u.oneCell' = true := by
  intro u hu
  obtain ⟨b, _, rfl⟩ := List.mem_map.1 hu
  rfl
theorem R.lenT {P : Program} {n : Fm} {ρ : Env} {w : World} {d : Nat} {ty : TypeId} {pos : String} {af : Array Edge} {gd : Option (Nat × Bool)} {T : Nat} [t : TyStr P T] {x : Operand} {l : List UInt8} (hx : ev ρ x = some (.string (str l))) :
    Runs P n ρ w ⟨some d, .call ⟨.builtin .len, #[x], #[T]⟩, ty, pos, af, gd⟩ (.int .i64 (l.length : Int)) w := R.lenStr hx
theorem all_stored {cs vs : Array Value} (h : cs.size = vs.size) : (cs.toList.take 0 ++ vs.toList ++ cs.toList.drop (0 + vs.size)).toArray = vs := by
  rw [List.take_zero, List.nil_append, List.drop_of_length_le (by rw [Array.length_toList]; omega), List.append_nil]
end Brv
/-
  Slices of three bounds; a struct of two parts.
-/
set_option linter.unusedVariables false
namespace Brv
open Go
section
variable {P : Program} {n : Fm} {ρ : Env} {w : World} {d : Nat} {ty : TypeId} {pos : String} {af : Array Edge} {gd : Option (Nat × Bool)}
theorem R.slLHM {T E size bytes : Nat} {z : Value} [t : TySlice P T E size bytes z] {x lo hi mx : Operand} {k k' k'' : IntKind} {a : Option Addr} {m c : Nat} {i j e : Int} (hx : ev ρ x = some (.slice a m c)) (hlo : ev ρ lo = some (.int k i)) (hhi : ev ρ hi = some (.int k' j)) (hmx : ev ρ mx = some (.int k'' e)) (h0 : 0 ≤ i) (h1 : i ≤ j) (h2 : j ≤ e) (h3 : e ≤ c) :
    Runs P n ρ w ⟨some d, .slice T x (some lo) (some hi) (some mx), ty, pos, af, gd⟩ (.slice (subA a i.toNat e.toNat size) (j.toNat - i.toNat) (e.toNat - i.toNat)) w := (fun f hf => by
    have hb : (Instr.sliceBounds true m c (some (.int k i)) (some (.int k' j)) (some (.int k'' e))).run P w = .ok (i.toNat, j.toNat, e.toNat) w := by
      simp [Instr.sliceBounds, sliceBound_ok (P := P) (k := k'') (i := e) (y := c) (code := .slice3Acap) (by omega) h3 w, sliceBound_ok (P := P) (k := k') (i := j) (y := e.toNat) (code := .slice3B) (by omega) (by omega) w, sliceBound_ok (P := P) (k := k) (i := i) (y := j.toNat) (code := .slice3C) h0 (by omega) w]
    have := run_subS (P := P) (T := T) (a := a) w hb
    simp only [execOp, hf.eval hx, hf.eval hlo, hf.eval hhi, hf.eval hmx, Sem.run_bind, Option.map_some, this]
    rfl)
end
theorem fill_two {pl : Nat → Option (Nat × Nat)} {A cs : Array Value} {u : Value} {m : Nat} (h0 : pl 0 = some (0, 1)) (h1 : pl 1 = some (1, m)) (hu : u.cells = #[u]) (hc : cs.size = m) (hA : A.size = 1 + m) : Instr.fill pl A [(0, u), (1, .agg cs)] = some (u :: cs.toList).toArray := by
  have hcc : (Value.agg cs).cells = cs := rfl
  have e0 : (u.cells.zipIdx.foldl (fun ac (p : Value × Nat) => ac.setIfInBounds (0 + p.2) p.1) A) = A.setIfInBounds 0 u := by rw [hu]; simp
  have hf := seg_fold 1 cs.toList 0 (A.setIfInBounds 0 u) (by simp; omega)
  have e : (cs.zipIdx.foldl (fun ac (p : Value × Nat) => ac.setIfInBounds (1 + p.2) p.1) (A.setIfInBounds 0 u)) = ((cs.toList.zipIdx 0).foldl (fun ac (p : Value × Nat) => ac.setIfInBounds (1 + p.2) p.1) (A.setIfInBounds 0 u)) := by
    rw [← Array.foldl_toList]; simp
  simp only [Instr.fill, h0, h1, hcc]
  rw [if_neg (by rw [hu]; intro h; simp at h; rw [h] at hA; simp at hA; omega)]
  simp only [e0]
  rw [if_neg (by simp; omega)]
  refine congrArg some ?_
  rw [e]
  apply Array.toList_inj.1
  rw [hf]
  simp only [Array.toList_setIfInBounds, Nat.add_zero, Array.length_toList]
  obtain ⟨al⟩ := A
  cases al with
  | nil => simp at hA; omega
  | cons a r =>
    simp at hA
    simp
    omega
/-- Where the elements of a slice lie; nowhere, if there are none. -/
def effA {α : Type} (a : Option Addr) : List α → Option Addr
  | [] => none
  | _ :: _ => a
theorem effA.of {α : Type} {a : Option Addr} {l : List α} {p : Addr} (h : effA a l = some p) : a = some p := by
  cases l with
  | nil => cases h
  | cons x r => exact h
theorem Cells.extE {α : Type} {f : α → Value} {w w' : World} {M : List Nat} {a : Option Addr} {l : List α} (h : Cells w a (l.map f)) (he : Ext M w w') (hm : ∀ p, effA a l = some p → p.block ∉ M) : Cells w' a (l.map f) := by
  cases l with
  | nil => exact Cells.nil _ _
  | cons x r => exact h.ext he hm
theorem Bs.extE {w w' : World} {M : List Nat} {a : Option Addr} {n : Nat} {l : List UInt8} (h : Bs w a n l) (he : Ext M w w') (hm : ∀ p, effA a l = some p → p.block ∉ M) : Bs w' a n l := ⟨Cells.extE (f := vb) h.cells he hm, h.len⟩
theorem Cells.effLt {α : Type} {f : α → Value} {w : World} {a : Option Addr} {l : List α} (h : Cells w a (l.map f)) : ∀ p, effA a l = some p → p.block < w.heap.size := by
  intro p hp
  cases l with
  | nil => cases hp
  | cons x r =>
    obtain ⟨q, hq, hc⟩ := h 0 (f x) rfl
    have : a = some p := hp
    rw [this] at hq; cases hq
    obtain ⟨o, ho, _⟩ : ∃ o : Obj, w.heap[(p.add 0).block]? = some o ∧ True := by
      unfold World.cell? at hc
      cases ho : w.heap[(p.add 0).block]? with
      | none => simp [ho] at hc
      | some o => exact ⟨o, rfl, trivial⟩
    exact (Array.getElem?_eq_some_iff.1 ho).1
theorem Bs.effLt {w : World} {a : Option Addr} {n : Nat} {l : List UInt8} (h : Bs w a n l) : ∀ p, effA a l = some p → p.block < w.heap.size := Cells.effLt (f := vb) h.cells
end Brv
/-
  Contracts over assertions, from contracts over worlds.
-/
set_option linter.unusedVariables false
set_option linter.unusedSimpArgs false
namespace Brv
open Go
theorem St.blkC {H H' : List Asn} {b : Nat} {cs : List Value} {T : TypeId} {F S : List Nat} {w : World} (s : St H F S w) (h : Sel H (Brv.blk b cs T) H') : Cells w (some ⟨b, 0, none⟩) cs :=
  Cells.of_blk (s.blk h) 0 _ (fun j v hj => by simpa using hj)
theorem R.strB {P : Program} {n : Fm} {ρ : Env} {w : World} {d : Nat} {ty : TypeId} {pos : String} {af : Array Edge} {gd : Option (Nat × Bool)} {T S E : TypeId} [t : TyBytes P T E] [s : TyStr P S] {x : Operand} {a : Option Addr} {m c : Nat} {l : List UInt8} (hx : ev ρ x = some (.slice a m c)) (hb : Bs w a m l) :
    Runs P n ρ w ⟨some d, .convert T S x, ty, pos, af, gd⟩ (.string (str l)) w := R.bytesStr hx hb.cells hb.len
/-- A list of one assertion. -/
theorem st_one {A : Asn} {F S : List Nat} {w : World} (h : A.P F S w) (hF : ∀ b ∈ F, b < w.heap.size) (hS : ∀ b ∈ S, b < w.heap.size) : St [A] F S w :=
  ⟨⟨F, S, [], [], ⟨subR _, by simp, subR _, by simp⟩, ⟨Apart.nilR _, Apart.nilR _, Apart.nilR _⟩, h, trivial⟩, hF, hS⟩
theorem st_nil (w : World) : St [] [] [] w := ⟨trivial, by simp, by simp⟩
section
variable {P : Program} {f : FuncId} {vs : List Value}
theorem SpecS.ofBlk {s : Nat} {cs cs' : List Value} {T : TypeId} {φ : Value → Prop} (h : ∀ w, Blk w s cs.toArray T (0, 0) → Meets P f vs w (fun v w' => φ v ∧ Blk w' s cs'.toArray T (0, 0) ∧ Ext [s] w w')) : SpecS P f vs [blk s cs T] (fun v H' => φ v ∧ H' = [blk s cs' T]) := fun w F S st => by
  refine (h w (st.blk .here)).mono ?_
  rintro v w' ⟨h1, h2, h3⟩
  obtain ⟨F1, S1, _, _, ⟨a, _, c, _⟩, _, ⟨rfl, hB⟩, _⟩ := st.sep
  have hs := a (by simp : s ∈ [s])
  exact ⟨_, [s], [], ⟨h1, rfl⟩, st_one ⟨rfl, h2⟩ (by simpa using h2.lt) (by simp), ⟨h3.mono (fun x hx => .inl (by rw [List.mem_singleton.1 hx]; exact hs)), fun x hx => .inl (by rw [List.mem_singleton.1 hx]; exact hs), by simp⟩⟩
/-- A call that makes new blocks and turns nothing. -/
theorem post_new {H : List Asn} {w w' : World} {F S F' S' : List Nat} {A : Asn} {Φ : Value → List Asn → Prop} {v : Value} (st : St H F S w) (he : Ext [] w w') (hA : A.P F' S' w') (hF : ∀ b ∈ F', w.heap.size ≤ b ∧ b < w'.heap.size) (hS : ∀ b ∈ S', w.heap.size ≤ b ∧ b < w'.heap.size) (hΦ : Φ v (A :: H)) : PostS ⟨w, F, S⟩ Φ v w' := by
  obtain ⟨F2, S2, s2, f2⟩ := st.grow (From.refl w F S) he hF (fun b hb => ⟨(hS b hb).2, .inl (hS b hb).1⟩) hA (fun b hb hb' => by have := (hS b hb).1; have := st.ltF b hb'; omega)
  exact ⟨_, F2, S2, hΦ, s2, f2⟩
section
variable {n : Fm} {o : Org} {ρ : Env} {H H0 H1 : List Asn} {d : Option Nat} {ty : TypeId} {pos : String} {af : Array Edge} {gd : Option (Nat × Bool)} {args : Array Operand} {ats : Array TypeId}
theorem CS.callN {φ : Value → Asn → Prop} (hargs : evs ρ args.toList = some vs) (hc : ∀ (vs : Array Value) w, (callFunc f vs).run P w = .ok (.enter f vs) w)
    (hf : ∀ w F S, St H F S w → Meets P f vs w (fun v w' => ∃ A F' S', φ v A ∧ Ext [] w w' ∧ A.P F' S' w' ∧ (∀ b ∈ F', w.heap.size ≤ b ∧ b < w'.heap.size) ∧ (∀ b ∈ S', w.heap.size ≤ b ∧ b < w'.heap.size))) : CS P n o ρ H ⟨d, .call ⟨.value (.func f), args, ats⟩, ty, pos, af, gd⟩ (fun v H' => ∃ A, φ v A ∧ H' = A :: H) :=
  fun w F S s fr => Acts.callV (x := .func f) (first := #[]) (cap := #[]) rfl hargs (by simp) hc ((hf w F S s).mono fun v w' ⟨A, F', S', h1, h2, h3, h4, h5⟩ => by
    obtain ⟨H', F2, S2, q1, q2, q3⟩ := post_new (Φ := fun v H' => ∃ A, φ v A ∧ H' = A :: H) (v := v) s h2 h3 h4 h5 ⟨A, h1, rfl⟩
    exact ⟨H', F2, S2, q1, q2, fr.trans q3⟩)
/-- .. that clones. -/
theorem CS.callC {E size k : Nat} {xs : List Value} (hargs : evs ρ args.toList = some vs) (hc : ∀ (vs : Array Value) w, (callFunc f vs).run P w = .ok (.enter f vs) w)
    (hf : ∀ w F S, St H F S w → Meets P f vs w (Cloned w E size k xs)) : CS P n o ρ H ⟨d, .call ⟨.value (.func f), args, ats⟩, ty, pos, af, gd⟩ (fun v H' => ∃ a c, v = .slice a k c ∧ H' = own E size a k c xs :: H) :=
  (CS.callN (φ := fun v A => ∃ a c, v = .slice a k c ∧ A = own E size a k c xs) hargs hc fun w F S s => (hf w F S s).mono fun v w' ⟨a, c, M, hv, he, ho, hM⟩ => ⟨_, M, [], ⟨a, c, hv, rfl⟩, he, ho, fun b hb => ⟨hM b hb, ho.lt b hb⟩, by simp⟩).mono
    (by rintro v H' ⟨_, ⟨a, c, rfl, rfl⟩, rfl⟩; exact ⟨a, c, rfl, rfl⟩)
/-- A call of a function value that changes nothing. -/
theorem CS.callVR {x : Operand} {first cap : Array Value} {asv : List Value} {φ : Value → Prop} (hx : ev ρ x = some (.func (.func f) first cap)) (hargs : evs ρ args.toList = some asv) (hvs : first.toList ++ asv ++ cap.toList = vs) (hc : ∀ (vs : Array Value) w, (callFunc f vs).run P w = .ok (.enter f vs) w)
    (hf : ∀ w F S, St H F S w → Meets P f vs w (fun v w' => φ v ∧ Ext [] w w')) : CS P n o ρ H ⟨d, .call ⟨.value x, args, ats⟩, ty, pos, af, gd⟩ (fun v H' => φ v ∧ H' = H) :=
  fun w F S s fr => Acts.callV hx hargs hvs hc ((hf w F S s).mono fun v w' hv =>
    ⟨H, F, S, ⟨hv.1, rfl⟩, ⟨s.sep.ext hv.2 (Apart.nilR _) (Apart.nilR _), fun b hb => Nat.lt_of_lt_of_le (s.ltF b hb) hv.2.size, fun b hb => Nat.lt_of_lt_of_le (s.ltS b hb) hv.2.size⟩, ⟨fr.ext.trans0 hv.2, fr.fF, fr.fS⟩⟩)
theorem CS.buildA {T E size bytes : Nat} {z : Value} [t : TySlice P T E size bytes z] {d len : Nat} {parts : Array (Nat × Operand)} {vs : List (Nat × Value)} (hp : evps ρ parts.toList = some vs) (hl : Nat.ble (len * size) 16777216 = true) (hlen : Nat.beq vs.length len = true) (ho : inOrder 0 vs = true) (hs : vs.all (fun p => Nat.beq p.2.cells.size size) = true)
    (cs : List Value) (hcs : cellsOf vs = cs) : CS P n o ρ H ⟨some d, .buildSlice T len parts, ty, pos, af, gd⟩ (fun v H' => ∃ b, v = .slice (some ⟨b, 0, none⟩) len len ∧ H' = blk b cs E :: H) :=
  CS.mk (fun w => R.buildA hp hl hlen ho hs) (by simpa using hcs)
/-- A block is made of a struct. -/
theorem CS.boxA {T : TypeId} {x : Operand} {cs : List Value} {d : Nat} (hx : ev ρ x = some (.agg cs.toArray)) : CS P n o ρ H ⟨some d, .box T x, ty, pos, af, gd⟩ (fun v H' => ∃ b, v = .pointer (some ⟨b, 0, none⟩) ∧ H' = blk b cs T :: H) :=
  CS.box hx cs (by simp [Value.cells])
theorem CS.box1 {T : TypeId} {x : Operand} {v : Value} {d : Nat} (hx : ev ρ x = some v) (h1 : v.oneCell' = true) : CS P n o ρ H ⟨some d, .box T x, ty, pos, af, gd⟩ (fun v' H' => ∃ b, v' = .pointer (some ⟨b, 0, none⟩) ∧ H' = blk b [v] T :: H) :=
  CS.box hx [v] (by cases v <;> simp_all [Value.cells, Value.oneCell'])
end
end
/-- A block that stays as it is. -/
def fz (b : Nat) (cs : List Value) (T : TypeId) : Asn := sh (fun w => Blk w b cs.toArray T (0, 0))
instance (b : Nat) (cs : List Value) (T : TypeId) : Pers (fz b cs T) := ⟨fun _ _ _ h => h⟩
theorem St.fz {H H' : List Asn} {b : Nat} {cs : List Value} {T : TypeId} {F S : List Nat} {w : World} (s : St H F S w) (h : Sel H (Brv.fz b cs T) H') : Blk w b cs.toArray T (0, 0) := s.sh h
theorem Imp.fz {H H' : List Asn} {b : Nat} {cs : List Value} {T : TypeId} (h : Sel H (blk b cs T) H') : Imp H (Brv.fz b cs T :: H') := Imp.blkSh h fun _ h => h
/-- A block among the assertions, owned or frozen. -/
inductive SelB : List Asn → Nat → List Value → TypeId → Prop
  | blk {b : Nat} {cs : List Value} {T : TypeId} {H : List Asn} : SelB (Brv.blk b cs T :: H) b cs T
  | fz {b : Nat} {cs : List Value} {T : TypeId} {H : List Asn} : SelB (Brv.fz b cs T :: H) b cs T
  | there {A : Asn} {b : Nat} {cs : List Value} {T : TypeId} {H : List Asn} : SelB H b cs T → SelB (A :: H) b cs T
theorem SelB.get {H : List Asn} {b : Nat} {cs : List Value} {T : TypeId} (h : SelB H b cs T) : ∀ {F S : List Nat} {w : World}, Sep H F S w → Blk w b cs.toArray T (0, 0) := by
  induction h with
  | blk => exact fun {F S w} ⟨_, _, _, _, _, _, hA, _⟩ => hA.2
  | fz => exact fun {F S w} ⟨_, _, _, _, _, _, hA, _⟩ => hA [] w (Ext.refl _ _) (Apart.nilR _)
  | there _ ih => exact fun {F S w} ⟨_, _, _, _, _, _, _, hH⟩ => ih hH
theorem St.cel {H : List Asn} {b : Nat} {cs : List Value} {T : TypeId} {F S : List Nat} {w : World} (s : St H F S w) (h : SelB H b cs T) : Blk w b cs.toArray T (0, 0) := h.get s.sep
/-- An order of keys and values (its blocks are its own). -/
def mp {κ : Type} [Key κ] (TM TP sv : Nat) (m : Nat) (ps : List (Pr κ)) : Asn where
  P := fun F _ w => MapAt TM TP sv w m ps F
  ext := fun F S M w w' h he hF _ => h.ext he hF
theorem St.mp {κ : Type} [Key κ] {TM TP sv m : Nat} {ps : List (Pr κ)} {H H' : List Asn} {F S : List Nat} {w : World} (s : St H F S w) (h : Sel H (Brv.mp TM TP sv m ps) H') : ∃ S', MapAt TM TP sv w m ps S' := (s.sel h).elim fun F1 h => h.elim fun _ h => ⟨F1, h.2⟩
theorem St.mpS {κ : Type} [Key κ] {TM TP sv m : Nat} {ps : List (Pr κ)} {H H' : List Asn} {F S : List Nat} {w : World} (s : St H F S w) (h : Sel H (Brv.mp TM TP sv m ps) H') : Sorted ps := (s.mp h).elim fun _ h => h.sorted
/-- A call that turns an order. -/
theorem SpecS.ofMap {κ : Type} [Key κ] {P : Program} {f : FuncId} {vs : List Value} {TM TP sv m : Nat} {ps ps' : List (Pr κ)} {φ : Value → Prop} (h : ∀ w S, MapAt TM TP sv w m ps S → Meets P f vs w (fun v w' => φ v ∧ ∃ S', Grown S S' w w' ∧ MapAt TM TP sv w' m ps' S')) :
    SpecS P f vs [mp TM TP sv m ps] (fun v H' => φ v ∧ H' = [mp TM TP sv m ps']) := fun w F S st => by
  obtain ⟨F1, S1, _, _, ⟨a, _, c, _⟩, _, hm, _⟩ := st.sep
  refine (h w F1 hm).mono ?_
  rintro v w' ⟨h1, S', hg, hm'⟩
  exact ⟨_, S', [], ⟨h1, rfl⟩, st_one hm' hm'.lt (by simp), ⟨hg.1.mono (fun x hx => .inl (a hx)), fun x hx => (hg.2 x hx).imp (fun h => a h) id, by simp⟩⟩
theorem SpecS.ofNew {κ : Type} [Key κ] {P : Program} {f : FuncId} {TM TP sv : Nat} (h : ∀ w, Meets P f [] w (fun v w' => ∃ b, v = .pointer (some ⟨b, 0, none⟩) ∧ w.heap.size ≤ b ∧ Ext [] w w' ∧ MapAt (κ := κ) TM TP sv w' b [] [b])) :
    SpecS P f [] [] (fun v H' => ∃ b, v = .pointer (some ⟨b, 0, none⟩) ∧ H' = [mp (κ := κ) TM TP sv b []]) := fun w F S st => (h w).mono fun v w' ⟨b, h1, h2, h3, h4⟩ =>
  ⟨_, [b], [], ⟨b, h1, rfl⟩, st_one h4 h4.lt (by simp), ⟨h3.mono (by simp), fun x hx => .inr (by rw [List.mem_singleton.1 hx]; exact h2), by simp⟩⟩
end Brv
/-
  The walks of package record.
-/
set_option linter.unusedVariables false
set_option linter.unusedSimpArgs false
set_option maxRecDepth 4000
namespace Go.Proofs.Ytiiiplhfgblamaa
open Go Brv Brv.Pack
structure GtS where
  i : Nat
  os : List WriteV
  ra : Option Addr
  rc : Nat
  ll : List UInt8
  e : Int
noncomputable def getV (l : List UInt8) : (Int × Int × Int) × List (Int × List UInt8) := (getR l).getD ((0, 0, 0), [])
theorem numF_two_le (l : List UInt8) (e : Int) : (numF l e 2).1 ≤ 65535 := by
  unfold numF
  split
  · split
    · have := num_lt (l.take (2 : Int).toNat)
      have h2 : (l.take (2 : Int).toNat).length ≤ 2 := List.length_take_le _ _
      have : 256 ^ (l.take (2 : Int).toNat).length ≤ 256 ^ 2 := Nat.pow_le_pow_right (by decide) h2
      omega
    · exact Nat.zero_le _
  · exact Nat.zero_le _
theorem hdN_eq {l : List UInt8} (h : ¬ ((numF l 0 1).1 : Int) ≠ 2) : hdN l = ((((numF l 0 1).1 : Int), 0, 0), (numF l 0 1).2.1, (numF l 0 1).2.2) := by
  unfold hdN; exact if_pos (Classical.not_not.1 h)
theorem hdN_ne {l : List UInt8} (h : ((numF l 0 1).1 : Int) ≠ 2) : hdN l = ((((numF l 0 1).1 : Int), ((numF (numF l 0 1).2.1 (numF l 0 1).2.2 4).1 : Int), ((numF (numF (numF l 0 1).2.1 (numF l 0 1).2.2 4).2.1 (numF (numF l 0 1).2.1 (numF l 0 1).2.2 4).2.2 8).1 : Int)), (numF (numF (numF l 0 1).2.1 (numF l 0 1).2.2 4).2.1 (numF (numF l 0 1).2.1 (numF l 0 1).2.2 4).2.2 8).2.1, (numF (numF (numF l 0 1).2.1 (numF l 0 1).2.2 4).2.1 (numF (numF l 0 1).2.1 (numF l 0 1).2.2 4).2.2 8).2.2) := by
  unfold hdN; exact if_neg h
theorem refG_end {l : List UInt8} {n0 k : Nat} {ws : List (Int × List UInt8)} {ll : List UInt8} {e : Int} (h3 : (hdN l).1.1 = 3) (hn0 : n0 = (numF (hdN l).2.1 (hdN l).2.2 2).1)
    (hP : refP n0 (numF (hdN l).2.1 (hdN l).2.2 2).2.1 (numF (hdN l).2.1 (hdN l).2.2 2).2.2 = (ws ++ (refP k ll e).1, (refP k ll e).2)) (h : k = 0 ∨ e ≠ 0) : refG l = endR (hdN l).1 ws ll e := by
  have hq : refP k ll e = ([], ll, e) := by
    rcases h with rfl | h
    · rfl
    · cases k with
      | zero => rfl
      | succ k => simp only [refP]; rw [if_pos h]
  rw [hq, List.append_nil] at hP
  unfold refG
  rw [if_pos h3, ← hn0, hP]
theorem refG_short {l : List UInt8} {n0 k : Nat} {ws : List (Int × List UInt8)} {ll : List UInt8} (h3 : (hdN l).1.1 = 3) (hn0 : n0 = (numF (hdN l).2.1 (hdN l).2.2 2).1)
    (hP : refP n0 (numF (hdN l).2.1 (hdN l).2.2 2).2.1 (numF (hdN l).2.1 (hdN l).2.2 2).2.2 = (ws ++ (refP k ll 0).1, (refP k ll 0).2)) (hk : 0 < k) (hs : (numF ll 0 2).2.1.length < 64) : refG l = endR (hdN l).1 ws (numF ll 0 2).2.1 20 := by
  obtain ⟨k, rfl⟩ : ∃ q, k = q + 1 := ⟨k - 1, by omega⟩
  have hq : refP (k + 1) ll 0 = ([], (numF ll 0 2).2.1, 20) := by simp only [refP]; rw [if_neg (by simp), if_pos hs]
  rw [hq, List.append_nil] at hP
  unfold refG
  rw [if_pos h3, ← hn0, hP]
theorem refP_next {n0 i : Nat} {A : List UInt8} {B : Int} {os : List WriteV} {ll : List UInt8} {o : WriteV} (hP : refP n0 A B = (os.map wv ++ (refP (n0 - i) ll 0).1, (refP (n0 - i) ll 0).2)) (hi : i < n0) (hl : ¬ (numF ll 0 2).2.1.length < 64)
    (ho : wv o = (((numF ll 0 2).1 : Int), (numF ll 0 2).2.1.take 64)) : refP n0 A B = ((os ++ [o]).map wv ++ (refP (n0 - (i + 1)) ((numF ll 0 2).2.1.drop 64) (numF ll 0 2).2.2).1, (refP (n0 - (i + 1)) ((numF ll 0 2).2.1.drop 64) (numF ll 0 2).2.2).2) := by
  rw [hP, show n0 - i = (n0 - (i + 1)) + 1 by omega]
  have hq : refP (n0 - (i + 1) + 1) ll 0 = (wv o :: (refP (n0 - (i + 1)) ((numF ll 0 2).2.1.drop 64) (numF ll 0 2).2.2).1, (refP (n0 - (i + 1)) ((numF ll 0 2).2.1.drop 64) (numF ll 0 2).2.2).2) := by
    simp only [refP]; rw [if_neg (by simp), if_neg hl, ho]
  rw [hq, List.map_append, List.append_assoc]
  rfl
theorem getPost_none {l : List UInt8} (hg : getR l = none) : ∃ r : RowW, Value.tuple #[.agg #[.int .i64 0, .int .i64 0, .int .i64 0, .slice none 0 0], .bool false] = .tuple #[.agg #[.int .i64 (getV l).1.1, .int .i64 (getV l).1.2.1, .int .i64 (getV l).1.2.2, .slice r.a r.n r.c], .bool (getR l).isSome] ∧ r.os.map wv = (getV l).2 ∧ [sh (fun w => RowW.ok w ⟨none, 0, 0, []⟩)] = [sh (fun w => r.ok w)] := by
  unfold getV
  rw [hg]
  exact ⟨⟨none, 0, 0, []⟩, rfl, rfl, rfl⟩
theorem getPost_some {l : List UInt8} {h : Int × Int × Int} {ws : List (Int × List UInt8)} {rr : RowW} {L : List Asn} (hg : getR l = some (h, ws)) (hr : rr.os.map wv = ws) (hL : L = [sh (fun w => rr.ok w)]) : ∃ r : RowW, Value.tuple #[.agg #[.int .i64 h.1, .int .i64 h.2.1, .int .i64 h.2.2, .slice rr.a rr.n rr.c], .bool true] = .tuple #[.agg #[.int .i64 (getV l).1.1, .int .i64 (getV l).1.2.1, .int .i64 (getV l).1.2.2, .slice r.a r.n r.c], .bool (getR l).isSome] ∧ r.os.map wv = (getV l).2 ∧ L = [sh (fun w => r.ok w)] := by
  unfold getV
  rw [hg]
  exact ⟨rr, rfl, hr, hL⟩
theorem endR_yes {h : Int × Int × Int} {ws : List (Int × List UInt8)} {q : List UInt8} {e : Int} (hy : e = 0 ∧ q.length = 0 ∧ okR h.1 h.2.1 h.2.2 ws) : endR h ws q e = some (h, ws) := by unfold endR; exact if_pos hy
theorem numF_len (l : List UInt8) (e y : Int) : (numF l e y).2.1.length ≤ l.length := (numF_suf l e y).length_le
theorem hdN_len (l : List UInt8) : (hdN l).2.1.length ≤ l.length := (hdN_suf l).length_le

theorem refget7_ok (a : Option Addr) (n c : Nat) (l : List UInt8) (hn : l.length ≤ 2621400) : SpecS Try.prog 18 [.slice a n c] [bs a n l] (fun v H' => ∃ r : RowW, v = .tuple #[.agg #[.int .i64 (getV l).1.1, .int .i64 (getV l).1.2.1, .int .i64 (getV l).1.2.2, .slice r.a r.n r.c], .bool (getR l).isSome] ∧ r.os.map wv = (getV l).2 ∧ H' = [sh (fun w => r.ok w)]) := by
  refine SpecS.enter Try.func18 rfl 93 rfl (Nat.le_of_ble_eq_true rfl) (fun o => ?_)
  have hx1 := numF_len l 0 1
  have hx2 := numF_len (numF l 0 1).2.1 (numF l 0 1).2.2 4
  have hx3 := numF_len (numF (numF l 0 1).2.1 (numF l 0 1).2.2 4).2.1 (numF (numF l 0 1).2.1 (numF l 0 1).2.2 4).2.2 8
  refine SG.seq ?_
  refine SG.region ?_
  refine SL.step rfl rfl (CS.alloc [.int .i64 0, .int .i64 0, .int .i64 0, .slice none 0 0] rfl) ?_
  rintro _ _ ⟨b2, rfl, rfl⟩
  refine SL.val rfl rfl (fun w9 F9 S9 s => R.as rfl) ?_
  refine SL.nil ?_
  refine SN.seq ?_
  refine SG.seq ?_
  refine SG.region ?_
  refine SL.val rfl rfl (fun w9 F9 S9 s => R.mv rfl) ?_
  refine SL.val rfl rfl (fun w9 F9 S9 s => R.strB rfl (s.bs (by repeat (first | exact Sel.keep | exact Sel.here | apply Sel.there)))) ?_
  refine SL.val rfl rfl (fun w9 F9 S9 s => R.build (cs := [.string (str l), .int .i64 0].toArray) rfl rfl) ?_
  refine SL.step rfl rfl (CS.boxA rfl) ?_
  rintro _ _ ⟨b12, rfl, rfl⟩
  refine SL.val rfl rfl (fun w9 F9 S9 s => R.as rfl) ?_
  refine SL.nil ?_
  refine SN.seq ?_
  refine SG.seq ?_
  refine SG.region ?_
  refine SL.val rfl rfl (fun w9 F9 S9 s => R.mv rfl) ?_
  refine SL.step rfl rfl (CS.call rfl go65 (SpecS.ofBlk (fun w hB => refnum_ok b12 l 0 1 w hB (by omega))) (by repeat (first | exact Sels.nil | apply Sels.cons | exact Sel.keep | exact Sel.here | apply Sel.there))) ?_
  rintro _ _ ⟨_, ⟨rfl, rfl⟩, rfl⟩
  refine SL.n1 ?_
  refine SL.val rfl rfl (fun w9 F9 S9 s => R.build (cs := [.int .i64 ((((numF l 0 1).1 : Int))), .int .i64 0, .int .i64 0, .slice none 0 0].toArray) rfl rfl) ?_
  refine SL.step rfl rfl (CS.alloc [.int .i64 0, .int .i64 0, .int .i64 0, .slice none 0 0] rfl) ?_
  rintro _ _ ⟨b5, rfl, rfl⟩
  refine SL.step0 rfl (CS.stA rfl rfl (by repeat (first | exact Sel.keep | exact Sel.here | apply Sel.there)) (by rfl) (by rfl) (by intro u hu; simp only [List.mem_cons, List.not_mem_nil, or_false] at hu; rcases hu with rfl | rfl | rfl | rfl <;> rfl)) ?_
  rintro _ _ rfl
  refine SL.nil ?_
  refine SN.seq ?_
  refine SG.seq ?_
  refine SG.seq ?_
  refine SG.region ?_
  refine SL.val rfl rfl (fun w9 F9 S9 s => R.fld rfl) ?_
  refine SL.val rfl rfl (fun w9 F9 S9 s => R.ldB rfl (s.cel (by repeat (first | exact SelB.blk | exact SelB.fz | apply SelB.there))) (by rfl)) ?_
  refine SL.val rfl rfl (fun w9 F9 S9 s => R.neI rfl rfl) ?_
  refine SL.nil ?_
  refine SN.seq ?_
  refine SG.cut (X := Unit) (fun _ => [(2, .pointer (some ⟨b2, 0, none⟩)), (3, .bool false), (4, .pointer (some ⟨b12, 0, none⟩)), (5, .pointer (some ⟨b5, 0, none⟩))]) (fun _ => [blk b12 [.string (str ((hdN l).2.1)), .int .i64 ((hdN l).2.2)] 117, blk b5 [.int .i64 (hdN l).1.1, .int .i64 (hdN l).1.2.1, .int .i64 (hdN l).1.2.2, .slice none 0 0] 24, blk b2 [.int .i64 0, .int .i64 0, .int .i64 0, .slice none 0 0] 24]) (fun _ => True) ?_ ?_
  · refine SG.condP rfl (fun h0 => ?_) (fun h0 => ?_)
    · refine SG.seq ?_
      refine SG.region ?_
      refine SL.val rfl rfl (fun w9 F9 S9 s => R.mv rfl) ?_
      refine SL.step rfl rfl (CS.call rfl go65 (SpecS.ofBlk (fun w hB => refnum_ok b12 (numF l 0 1).2.1 (numF l 0 1).2.2 4 w hB (by omega))) (by repeat (first | exact Sels.nil | apply Sels.cons | exact Sel.keep | exact Sel.here | apply Sel.there))) ?_
      rintro _ _ ⟨_, ⟨rfl, rfl⟩, rfl⟩
      refine SL.n1 ?_
      refine SL.val rfl rfl (fun w9 F9 S9 s => R.fld rfl) ?_
      refine SL.step0 rfl (CS.st rfl rfl (by repeat (first | exact Sel.keep | exact Sel.here | apply Sel.there)) (by repeat (first | exact SetAt.here | apply SetAt.there)) rfl) ?_
      rintro _ _ rfl
      refine SL.nil ?_
      refine SN.seq ?_
      refine SG.region ?_
      refine SL.val rfl rfl (fun w9 F9 S9 s => R.mv rfl) ?_
      refine SL.step rfl rfl (CS.call rfl go65 (SpecS.ofBlk (fun w hB => refnum_ok b12 (numF (numF l 0 1).2.1 (numF l 0 1).2.2 4).2.1 (numF (numF l 0 1).2.1 (numF l 0 1).2.2 4).2.2 8 w hB (by omega))) (by repeat (first | exact Sels.nil | apply Sels.cons | exact Sel.keep | exact Sel.here | apply Sel.there))) ?_
      rintro _ _ ⟨_, ⟨rfl, rfl⟩, rfl⟩
      refine SL.n1 ?_
      refine SL.val rfl rfl (fun w9 F9 S9 s => R.fld rfl) ?_
      refine SL.step0 rfl (CS.st rfl rfl (by repeat (first | exact Sel.keep | exact Sel.here | apply Sel.there)) (by repeat (first | exact SetAt.here | apply SetAt.there)) rfl) ?_
      rintro _ _ rfl
      refine SL.nil ?_
      exact SN.handX () (Sub.cons rfl (Sub.cons rfl (Sub.cons rfl (Sub.cons rfl (Sub.nil _))))) (show Imp _ _ by rw [hdN_ne h0]; exact (Imp.sels (by repeat (first | exact Sels.nil | apply Sels.cons | exact Sel.keep | exact Sel.here | apply Sel.there)))) trivial
    · refine SG.skip ?_
      exact SN.handX () (Sub.cons rfl (Sub.cons rfl (Sub.cons rfl (Sub.cons rfl (Sub.nil _))))) (show Imp _ _ by rw [hdN_eq h0]; exact (Imp.sels (by repeat (first | exact Sels.nil | apply Sels.cons | exact Sel.keep | exact Sel.here | apply Sel.there)))) trivial
  · rintro _ _
    have hx4 := hdN_len l
    have hx5 := numF_len (hdN l).2.1 (hdN l).2.2 2
    refine SN.seq ?_
    refine SG.seq ?_
    refine SG.seq ?_
    refine SG.region ?_
    refine SL.val rfl rfl (fun w9 F9 S9 s => R.fld rfl) ?_
    refine SL.val rfl rfl (fun w9 F9 S9 s => R.ldB rfl (s.cel (by repeat (first | exact SelB.blk | exact SelB.fz | apply SelB.there))) (by rfl)) ?_
    refine SL.val rfl rfl (fun w9 F9 S9 s => R.eqI rfl rfl) ?_
    refine SL.nil ?_
    refine SN.seq ?_
    refine SG.cut (X := GtS) (fun x => [(2, .pointer (some ⟨b2, 0, none⟩)), (3, .bool false), (4, .pointer (some ⟨b12, 0, none⟩)), (5, .pointer (some ⟨b5, 0, none⟩))]) (fun x => [blk b12 [.string (str (x.ll)), .int .i64 (x.e)] 117, blk b5 [.int .i64 (hdN l).1.1, .int .i64 (hdN l).1.2.1, .int .i64 (hdN l).1.2.2, .slice x.ra x.os.length x.rc] 24, blk b2 [.int .i64 0, .int .i64 0, .int .i64 0, .slice none 0 0] 24, own 40 2 x.ra x.os.length x.rc (cellsW x.os), sh (fun w => ∀ o ∈ x.os, o.okW w)]) (fun x => refG l = endR (hdN l).1 (x.os.map wv) x.ll x.e ∧ x.os.length ≤ 65535 ∧ x.ll.length ≤ l.length) ?_ ?_
    · refine SG.condP rfl (fun h1 => ?_) (fun h1 => ?_)
      · obtain ⟨n0, hn0⟩ : ∃ n0, n0 = (numF (hdN l).2.1 (hdN l).2.2 2).1 := ⟨_, rfl⟩
        have hn16 : n0 ≤ 65535 := by rw [hn0]; exact numF_two_le _ _
        refine SG.seq ?_
        refine SG.region ?_
        refine SL.val rfl rfl (fun w9 F9 S9 s => R.mv rfl) ?_
        refine SL.step rfl rfl (CS.call rfl go65 (SpecS.ofBlk (fun w hB => refnum_ok b12 (hdN l).2.1 (hdN l).2.2 2 w hB (by omega))) (by repeat (first | exact Sels.nil | apply Sels.cons | exact Sel.keep | exact Sel.here | apply Sel.there))) ?_
        rintro _ _ ⟨_, ⟨rfl, rfl⟩, rfl⟩
        refine SL.n1 ?_
        refine SL.val rfl rfl (fun w9 F9 S9 s => R.as rfl) ?_
        refine SL.nil ?_
        refine SN.seq ?_
        refine SG.seq ?_
        refine SG.region ?_
        refine SL.val rfl rfl (fun w9 F9 S9 s => R.as rfl) ?_
        refine SL.nil ?_
        refine SN.seq ?_
        refine SG.block ?_
        refine SG.imp (Imp.ownNil 40 2) ?_
        refine SG.imp (Imp.pure (p := fun w => ∀ o ∈ ([] : List WriteV), o.okW w) (fun w o ho => by cases ho)) ?_
        rw [← hn0]
        refine SG.loop (X := GtS) (fun x => [(2, .pointer (some ⟨b2, 0, none⟩)), (3, .bool false), (4, .pointer (some ⟨b12, 0, none⟩)), (5, .pointer (some ⟨b5, 0, none⟩)), (6, .int .i64 (n0 : Int)), (7, .int .i64 (x.i : Int))]) (fun x => [blk b12 [.string (str (x.ll)), .int .i64 (x.e)] 117, blk b5 [.int .i64 (hdN l).1.1, .int .i64 (hdN l).1.2.1, .int .i64 (hdN l).1.2.2, .slice x.ra x.os.length x.rc] 24, blk b2 [.int .i64 0, .int .i64 0, .int .i64 0, .slice none 0 0] 24, own 40 2 x.ra x.os.length x.rc (cellsW x.os), sh (fun w => ∀ o ∈ x.os, o.okW w)]) (fun x => x.i ≤ n0 ∧ x.os.length = x.i ∧ x.ll.length ≤ l.length ∧ refP n0 (numF (hdN l).2.1 (hdN l).2.2 2).2.1 (numF (hdN l).2.1 (hdN l).2.2 2).2.2 = (x.os.map wv ++ (refP (n0 - x.i) x.ll x.e).1, (refP (n0 - x.i) x.ll x.e).2)) (fun x => n0 - x.i) (⟨0, [], none, 0, (numF (hdN l).2.1 (hdN l).2.2 2).2.1, (numF (hdN l).2.1 (hdN l).2.2 2).2.2⟩) (Sub.cons rfl (Sub.cons rfl (Sub.cons rfl (Sub.cons rfl (Sub.cons rfl (Sub.cons rfl (Sub.nil _))))))) ((Imp.sels (by repeat (first | exact Sels.nil | apply Sels.cons | exact Sel.keep | exact Sel.here | apply Sel.there)))) (by refine ⟨Nat.zero_le _, rfl, by show (numF (hdN l).2.1 (hdN l).2.2 2).2.1.length ≤ _; omega, ?_⟩; simp) ?_
        rintro ⟨i, os, ra, rc, ll, e⟩ ⟨hi, hol, hll, hP⟩
        dsimp only at hi hol hll hP
        have hosl : os.length ≤ 65535 := by omega
        show SG _ _ _ _ _ [(2, .pointer (some ⟨b2, 0, none⟩)), (3, .bool false), (4, .pointer (some ⟨b12, 0, none⟩)), (5, .pointer (some ⟨b5, 0, none⟩)), (6, .int .i64 (n0 : Int)), (7, .int .i64 (i : Int))] [blk b12 [.string (str (ll)), .int .i64 (e)] 117, blk b5 [.int .i64 (hdN l).1.1, .int .i64 (hdN l).1.2.1, .int .i64 (hdN l).1.2.2, .slice ra os.length rc] 24, blk b2 [.int .i64 0, .int .i64 0, .int .i64 0, .slice none 0 0] 24, own 40 2 ra os.length rc (cellsW os), sh (fun w => ∀ o ∈ os, o.okW w)] _
        refine SG.seq ?_
        refine SG.seq ?_
        refine SG.region ?_
        refine SL.val rfl rfl (fun w9 F9 S9 s => R.mv rfl) ?_
        refine SL.val rfl rfl (fun w9 F9 S9 s => R.mv rfl) ?_
        refine SL.val rfl rfl (fun w9 F9 S9 s => R.lss rfl rfl) ?_
        refine SL.val rfl rfl (fun w9 F9 S9 s => R.mv rfl) ?_
        refine SL.caseP 33 rfl (fun hg9_3 => ?_) (fun hg9_3 => ?_)
        · refine SL.val rfl rfl (fun w9 F9 S9 s => R.mv rfl) ?_
          refine SL.val rfl rfl (fun w9 F9 S9 s => R.nilChk rfl) ?_
          refine SL.val rfl rfl (fun w9 F9 S9 s => R.fld rfl) ?_
          refine SL.val rfl rfl (fun w9 F9 S9 s => R.ldB rfl (s.cel (by repeat (first | exact SelB.blk | exact SelB.fz | apply SelB.there))) (by rfl)) ?_
          refine SL.val rfl rfl (fun w9 F9 S9 s => R.eqI rfl rfl) ?_
          first | refine SL.val rfl rfl (fun w9 F9 S9 s => R.pickT rfl rfl) ?_ | refine SL.val rfl rfl (fun w9 F9 S9 s => R.pickF rfl rfl) ?_
          refine SL.nil ?_
          refine SN.seq ?_
          refine SG.condP rfl (fun h2 => ?_) (fun h2 => ?_)
          · subst h2
            have hx6 := numF_len ll 0 2
            refine SG.skip ?_
            refine SN.seq ?_
            refine SG.seq ?_
            refine SG.block ?_
            refine SG.seq ?_
            refine SG.region ?_
            refine SL.val rfl rfl (fun w9 F9 S9 s => R.mv rfl) ?_
            refine SL.step rfl rfl (CS.call rfl go65 (SpecS.ofBlk (fun w hB => refnum_ok b12 ll 0 2 w hB (by omega))) (by repeat (first | exact Sels.nil | apply Sels.cons | exact Sel.keep | exact Sel.here | apply Sel.there))) ?_
            rintro _ _ ⟨_, ⟨rfl, rfl⟩, rfl⟩
            refine SL.n1 ?_
            refine SL.val rfl rfl (fun w9 F9 S9 s => R.as rfl) ?_
            refine SL.nil ?_
            refine SN.seq ?_
            refine SG.seq ?_
            refine SG.seq ?_
            refine SG.region ?_
            refine SL.val rfl rfl (fun w9 F9 S9 s => R.mv rfl) ?_
            refine SL.val rfl rfl (fun w9 F9 S9 s => R.nilChk rfl) ?_
            refine SL.val rfl rfl (fun w9 F9 S9 s => R.fld rfl) ?_
            refine SL.val rfl rfl (fun w9 F9 S9 s => R.ldB rfl (s.cel (by repeat (first | exact SelB.blk | exact SelB.fz | apply SelB.there))) (by rfl)) ?_
            refine SL.val rfl rfl (fun w9 F9 S9 s => R.lenT rfl) ?_
            refine SL.val rfl rfl (fun w9 F9 S9 s => R.lss rfl rfl) ?_
            refine SL.nil ?_
            refine SN.seq ?_
            refine SG.condP rfl (fun h3 => ?_) (fun h3 => ?_)
            · have hend := refG_short h1 hn0 hP (by omega) (by omega)
              refine SG.seq ?_
              refine SG.region ?_
              refine SL.val rfl rfl (fun w9 F9 S9 s => R.mv rfl) ?_
              refine SL.val rfl rfl (fun w9 F9 S9 s => R.nilChk rfl) ?_
              refine SL.val rfl rfl (fun w9 F9 S9 s => R.fld rfl) ?_
              refine SL.step0 rfl (CS.st rfl rfl (by repeat (first | exact Sel.keep | exact Sel.here | apply Sel.there)) (by repeat (first | exact SetAt.here | apply SetAt.there)) rfl) ?_
              rintro _ _ rfl
              refine SL.nil ?_
              refine SN.seq ?_
              refine SG.exit _ rfl ?_
              exact SN.handX ⟨0, os, ra, rc, (numF ll 0 2).2.1, 20⟩ (Sub.cons rfl (Sub.cons rfl (Sub.cons rfl (Sub.cons rfl (Sub.nil _))))) (Imp.sels (by repeat (first | exact Sels.nil | apply Sels.cons | exact Sel.keep | exact Sel.here | apply Sel.there))) ⟨hend, hosl, Nat.le_trans (numF_len _ _ _) hll⟩
            · refine SG.skip ?_
              refine SN.seq ?_
              refine SG.seq ?_
              refine SG.draw [8, 10, 11, 13] [0, 1, 2, 3, 4, 5, 6, 7, 8, 9, 10, 11, 12, 13] (by decide +kernel) rfl ?_
              refine SW.pure rfl rfl rfl rfl (fun w9 => R.fld rfl) ?_
              refine SW.read rfl rfl rfl rfl (fun w9 F9 S9 s => R.ldB rfl (s.cel (by repeat (first | exact SelB.blk | exact SelB.fz | apply SelB.there))) (by rfl)) ?_
              refine SW.pure rfl rfl rfl rfl (fun w9 => R.mv rfl) ?_
              refine SW.pure rfl rfl rfl rfl (fun w9 => R.mv rfl) ?_
              refine SW.pure rfl rfl rfl rfl (fun w9 => R.nilChk rfl) ?_
              refine SW.pure rfl rfl rfl rfl (fun w9 => R.fld rfl) ?_
              refine SW.read rfl rfl rfl rfl (fun w9 F9 S9 s => R.ldB rfl (s.cel (by repeat (first | exact SelB.blk | exact SelB.fz | apply SelB.there))) (by rfl)) ?_
              refine SW.pure rfl rfl rfl rfl (fun w9 => R.slStrH rfl rfl (by omega) (by omega)) ?_
              refine SW.step rfl rfl rfl rfl (CS.strBytes rfl) ?_
              rintro _ _ ⟨a61, c61, rfl, hc61, rfl⟩
              refine ⟨⟨.inl (by decide +kernel), ⟨.inr (fun w9 F9 S9 s => R.ldB rfl (s.cel (by repeat (first | exact SelB.blk | exact SelB.fz | apply SelB.there))) (by rfl)), trivial⟩⟩, ?_⟩
              refine SW.pure rfl rfl rfl rfl (fun w9 => R.build (cs := (WriteV.cells (⟨((numF ll 0 2).1 : Int), a61, ((numF ll 0 2).2.1.take 64).length, c61, (numF ll 0 2).2.1.take 64⟩ : WriteV)).toArray) rfl rfl) ?_
              refine SW.step rfl rfl rfl rfl (CS.buildA rfl rfl rfl rfl rfl (WriteV.cells (⟨((numF ll 0 2).1 : Int), a61, ((numF ll 0 2).2.1.take 64).length, c61, (numF ll 0 2).2.1.take 64⟩ : WriteV)) rfl) ?_
              rintro _ _ ⟨b63, rfl, rfl⟩
              refine ⟨⟨.inl (by decide +kernel), ⟨.inr (fun w9 F9 S9 s => R.ldB rfl (s.cel (by repeat (first | exact SelB.blk | exact SelB.fz | apply SelB.there))) (by rfl)), trivial⟩⟩, ?_⟩
              refine SW.step rfl rfl rfl rfl (CS.app rfl rfl (by repeat (first | exact Sel.keep | exact Sel.here | apply Sel.there)) (fun w9 F9 S9 s => s.blkC (by repeat (first | exact Sel.keep | exact Sel.here | apply Sel.there))) rfl (by intro u hu; exact WriteV.cells.one _ u (by simpa using hu)) (by simp [maxLen]; omega) (by omega)) ?_
              rintro _ _ ⟨a64, c64, rfl, rfl⟩
              refine ⟨⟨.inl (by decide +kernel), ⟨.inl (by decide +kernel), trivial⟩⟩, ?_⟩
              refine SW.pure rfl rfl rfl rfl (fun w9 => R.fld rfl) ?_
              refine SW.step0 rfl rfl rfl (CS.st rfl rfl (by repeat (first | exact Sel.keep | exact Sel.here | apply Sel.there)) (by repeat (first | exact SetAt.here | apply SetAt.there)) rfl) ?_
              rintro _ _ rfl
              refine ⟨⟨.inl (by decide +kernel), ⟨.inl (by decide +kernel), trivial⟩⟩, ?_⟩
              refine SW.nil ?_
              refine SN.seq ?_
              refine SG.region ?_
              refine SL.val rfl rfl (fun w9 F9 S9 s => R.mv rfl) ?_
              refine SL.val rfl rfl (fun w9 F9 S9 s => R.mv rfl) ?_
              refine SL.val rfl rfl (fun w9 F9 S9 s => R.nilChk rfl) ?_
              refine SL.val rfl rfl (fun w9 F9 S9 s => R.fld rfl) ?_
              refine SL.val rfl rfl (fun w9 F9 S9 s => R.ldB rfl (s.cel (by repeat (first | exact SelB.blk | exact SelB.fz | apply SelB.there))) (by rfl)) ?_
              refine SL.val rfl rfl (fun w9 F9 S9 s => R.slStrL rfl rfl (by omega) (by omega)) ?_
              refine SL.val rfl rfl (fun w9 F9 S9 s => R.nilChk rfl) ?_
              refine SL.val rfl rfl (fun w9 F9 S9 s => R.fld rfl) ?_
              refine SL.step0 rfl (CS.st rfl rfl (by repeat (first | exact Sel.keep | exact Sel.here | apply Sel.there)) (by repeat (first | exact SetAt.here | apply SetAt.there)) rfl) ?_
              rintro _ _ rfl
              refine SL.nil ?_
              refine SN.imp (Imp.both (by repeat (first | exact Sel.keep | exact Sel.here | apply Sel.there)) (by repeat (first | exact Sel.keep | exact Sel.here | apply Sel.there)) (p := fun w => ∀ o ∈ os, o.okW w) (q := fun w => Bs w a61 ((numF ll 0 2).2.1.take 64).length ((numF ll 0 2).2.1.take 64))) ?_
              refine SN.imp (Imp.weak (by repeat (first | exact Sel.keep | exact Sel.here | apply Sel.there)) (p := fun w => (∀ o ∈ os, o.okW w) ∧ Bs w a61 ((numF ll 0 2).2.1.take 64).length ((numF ll 0 2).2.1.take 64)) (q := fun w => ∀ o ∈ os ++ [(⟨((numF ll 0 2).1 : Int), a61, ((numF ll 0 2).2.1.take 64).length, c61, (numF ll 0 2).2.1.take 64⟩ : WriteV)], o.okW w) (fun w h o ho => (List.mem_append.1 ho).elim (h.1 o) (fun h2 => by rw [List.mem_singleton.1 h2]; exact ⟨hc61, by show (List.take 64 _).length ≤ _; rw [List.length_take]; omega, h.2⟩))) ?_
              refine SN.block ?_
              refine SN.seq ?_
              refine SG.region ?_
              refine SL.val rfl rfl (fun w9 F9 S9 s => R.mv rfl) ?_
              refine SL.val rfl rfl (fun w9 F9 S9 s => R.add rfl rfl (by omega)) ?_
              refine SL.val rfl rfl (fun w9 F9 S9 s => R.as rfl) ?_
              refine SL.nil ?_
              exact SN.again (⟨i + 1, os ++ [(⟨((numF ll 0 2).1 : Int), a61, ((numF ll 0 2).2.1.take 64).length, c61, (numF ll 0 2).2.1.take 64⟩ : WriteV)], a64, c64, (numF ll 0 2).2.1.drop 64, (numF ll 0 2).2.2⟩) (by show n0 - (i + 1) < n0 - i; omega) (Sub.cons rfl (Sub.cons rfl (Sub.cons rfl (Sub.cons rfl (Sub.cons rfl (Sub.cons rfl (Sub.nil _))))))) ((show Imp _ _ by simp only [List.length_append, cellsW_append]; exact (Imp.sels (by repeat (first | exact Sels.nil | apply Sels.cons | exact Sel.keep | exact Sel.here | apply Sel.there))))) (⟨by show i + 1 ≤ n0; omega, by show (os ++ [(⟨((numF ll 0 2).1 : Int), a61, ((numF ll 0 2).2.1.take 64).length, c61, (numF ll 0 2).2.1.take 64⟩ : WriteV)]).length = i + 1; rw [List.length_append, hol]; rfl, by show ((numF ll 0 2).2.1.drop 64).length ≤ _; rw [List.length_drop]; omega, refP_next hP (by omega) (by omega) rfl⟩)
          · have hend := refG_end h1 hn0 hP (.inr h2)
            refine SG.exit _ rfl ?_
            exact SN.handX ⟨0, os, ra, rc, ll, e⟩ (Sub.cons rfl (Sub.cons rfl (Sub.cons rfl (Sub.cons rfl (Sub.nil _))))) (Imp.sels (by repeat (first | exact Sels.nil | apply Sels.cons | exact Sel.keep | exact Sel.here | apply Sel.there))) ⟨hend, hosl, hll⟩
        · refine SL.pass rfl rfl ?_
          refine SL.pass rfl rfl ?_
          refine SL.pass rfl rfl ?_
          refine SL.pass rfl rfl ?_
          refine SL.pass rfl rfl ?_
          first | refine SL.val rfl rfl (fun w9 F9 S9 s => R.pickT rfl rfl) ?_ | refine SL.val rfl rfl (fun w9 F9 S9 s => R.pickF rfl rfl) ?_
          refine SL.nil ?_
          refine SN.seq ?_
          refine SG.condF rfl ?_
          have hend := refG_end h1 hn0 hP (.inl (by omega))
          refine SG.exit _ rfl ?_
          exact SN.handX ⟨0, os, ra, rc, ll, e⟩ (Sub.cons rfl (Sub.cons rfl (Sub.cons rfl (Sub.cons rfl (Sub.nil _))))) (Imp.sels (by repeat (first | exact Sels.nil | apply Sels.cons | exact Sel.keep | exact Sel.here | apply Sel.there))) ⟨hend, hosl, hll⟩
      · have hend : refG l = endR (hdN l).1 (([] : List WriteV).map wv) (hdN l).2.1 (hdN l).2.2 := by unfold refG; rw [if_neg h1]; rfl
        refine SG.imp (Imp.ownNil 40 2) ?_
        refine SG.imp (Imp.pure (p := fun w => ∀ o ∈ ([] : List WriteV), o.okW w) (fun w o ho => by cases ho)) ?_
        refine SG.skip ?_
        exact SN.handX ⟨0, [], none, 0, (hdN l).2.1, (hdN l).2.2⟩ (Sub.cons rfl (Sub.cons rfl (Sub.cons rfl (Sub.cons rfl (Sub.nil _))))) (Imp.sels (by repeat (first | exact Sels.nil | apply Sels.cons | exact Sel.keep | exact Sel.here | apply Sel.there))) ⟨hend, Nat.zero_le _, hx4⟩
    · rintro ⟨_, os, ra, rc, ll, e⟩ ⟨hend, hosl, hll⟩
      show SN _ _ _ _ _ [(2, .pointer (some ⟨b2, 0, none⟩)), (3, .bool false), (4, .pointer (some ⟨b12, 0, none⟩)), (5, .pointer (some ⟨b5, 0, none⟩))] [blk b12 [.string (str (ll)), .int .i64 (e)] 117, blk b5 [.int .i64 (hdN l).1.1, .int .i64 (hdN l).1.2.1, .int .i64 (hdN l).1.2.2, .slice ra os.length rc] 24, blk b2 [.int .i64 0, .int .i64 0, .int .i64 0, .slice none 0 0] 24, own 40 2 ra os.length rc (cellsW os), sh (fun w => ∀ o ∈ os, o.okW w)]
      dsimp only at hend hosl hll
      refine SN.fact (fun w9 F9 S9 s => s.ownL (by repeat (first | exact Sel.keep | exact Sel.here | apply Sel.there))) (fun hf9 => ?_)
      obtain ⟨_, hrc⟩ := hf9
      refine SN.imp (Imp.ownSh (by repeat (first | exact Sel.keep | exact Sel.here | apply Sel.there)) (p := fun w => Cells w ra (cellsW os)) (fun w h => h)) ?_
      refine SN.imp (Imp.both (by repeat (first | exact Sel.keep | exact Sel.here | apply Sel.there)) (by repeat (first | exact Sel.keep | exact Sel.here | apply Sel.there)) (p := fun w => Cells w ra (cellsW os)) (q := fun w => ∀ o ∈ os, o.okW w)) ?_
      refine SN.imp (Imp.weak (by repeat (first | exact Sel.keep | exact Sel.here | apply Sel.there)) (p := fun w => Cells w ra (cellsW os) ∧ ∀ o ∈ os, o.okW w) (q := fun w => RowW.ok w ⟨ra, os.length, rc, os⟩) (fun w h => ⟨⟨hrc, by show os.length ≤ _; omega⟩, tabW h.1 rfl, h.2⟩)) ?_
      refine SN.seq ?_
      refine SG.seq ?_
      refine SG.seq ?_
      refine SG.region ?_
      refine SL.val rfl rfl (fun w9 F9 S9 s => R.mv rfl) ?_
      refine SL.val rfl rfl (fun w9 F9 S9 s => R.nilChk rfl) ?_
      refine SL.val rfl rfl (fun w9 F9 S9 s => R.fld rfl) ?_
      refine SL.val rfl rfl (fun w9 F9 S9 s => R.ldB rfl (s.cel (by repeat (first | exact SelB.blk | exact SelB.fz | apply SelB.there))) (by rfl)) ?_
      refine SL.val rfl rfl (fun w9 F9 S9 s => R.neI rfl rfl) ?_
      refine SL.val rfl rfl (fun w9 F9 S9 s => R.mv rfl) ?_
      refine SL.caseP 79 rfl (fun hg16_5 => ?_) (fun hg16_5 => ?_)
      · refine SL.pass rfl rfl ?_
        refine SL.pass rfl rfl ?_
        refine SL.pass rfl rfl ?_
        refine SL.pass rfl rfl ?_
        refine SL.pass rfl rfl ?_
        first | refine SL.val rfl rfl (fun w9 F9 S9 s => R.pickT rfl rfl) ?_ | refine SL.val rfl rfl (fun w9 F9 S9 s => R.pickF rfl rfl) ?_
        refine SL.val rfl rfl (fun w9 F9 S9 s => R.mv rfl) ?_
        refine SL.pass rfl rfl ?_
        refine SL.pass rfl rfl ?_
        refine SL.pass rfl rfl ?_
        first | refine SL.val rfl rfl (fun w9 F9 S9 s => R.pickT rfl rfl) ?_ | refine SL.val rfl rfl (fun w9 F9 S9 s => R.pickF rfl rfl) ?_
        refine SL.nil ?_
        refine SN.seq ?_
        refine SG.condT rfl ?_
        refine SG.seq ?_
        refine SG.region ?_
        refine SL.val rfl rfl (fun w9 F9 S9 s => R.build (cs := [.int .i64 0, .int .i64 0, .int .i64 0, .slice none 0 0].toArray) rfl rfl) ?_
        refine SL.step0 rfl (CS.stA rfl rfl (by repeat (first | exact Sel.keep | exact Sel.here | apply Sel.there)) (by rfl) (by rfl) (by intro u hu; simp only [List.mem_cons, List.not_mem_nil, or_false] at hu; rcases hu with rfl | rfl | rfl | rfl <;> rfl)) ?_
        rintro _ _ rfl
        refine SL.val rfl rfl (fun w9 F9 S9 s => R.as rfl) ?_
        refine SL.nil ?_
        refine SN.seq ?_
        have hg := (refG_eq l).symm.trans (hend.trans (endR_no (fun hq => hg16_5 hq.1)))
        exact SG.retCT rfl rfl rfl (by repeat (first | exact Sel.keep | exact Sel.here | apply Sel.there)) (by rfl) ((Imp.pure (p := fun w => RowW.ok w ⟨none, 0, 0, []⟩) (fun w => rowNil w)).trans (Imp.sels (by repeat (first | exact Sels.nil | apply Sels.cons | exact Sel.keep | exact Sel.here | apply Sel.there)))) (getPost_none hg)
      · refine SL.val rfl rfl (fun w9 F9 S9 s => R.mv rfl) ?_
        refine SL.val rfl rfl (fun w9 F9 S9 s => R.nilChk rfl) ?_
        refine SL.val rfl rfl (fun w9 F9 S9 s => R.fld rfl) ?_
        refine SL.val rfl rfl (fun w9 F9 S9 s => R.ldB rfl (s.cel (by repeat (first | exact SelB.blk | exact SelB.fz | apply SelB.there))) (by rfl)) ?_
        refine SL.val rfl rfl (fun w9 F9 S9 s => R.neStr rfl rfl) ?_
        first | refine SL.val rfl rfl (fun w9 F9 S9 s => R.pickT rfl rfl) ?_ | refine SL.val rfl rfl (fun w9 F9 S9 s => R.pickF rfl rfl) ?_
        refine SL.val rfl rfl (fun w9 F9 S9 s => R.mv rfl) ?_
        refine SL.caseP 86 rfl (fun hg16_12 => ?_) (fun hg16_12 => ?_)
        · refine SL.pass rfl rfl ?_
          refine SL.pass rfl rfl ?_
          refine SL.pass rfl rfl ?_
          first | refine SL.val rfl rfl (fun w9 F9 S9 s => R.pickT rfl rfl) ?_ | refine SL.val rfl rfl (fun w9 F9 S9 s => R.pickF rfl rfl) ?_
          refine SL.nil ?_
          refine SN.seq ?_
          refine SG.condT rfl ?_
          refine SG.seq ?_
          refine SG.region ?_
          refine SL.val rfl rfl (fun w9 F9 S9 s => R.build (cs := [.int .i64 0, .int .i64 0, .int .i64 0, .slice none 0 0].toArray) rfl rfl) ?_
          refine SL.step0 rfl (CS.stA rfl rfl (by repeat (first | exact Sel.keep | exact Sel.here | apply Sel.there)) (by rfl) (by rfl) (by intro u hu; simp only [List.mem_cons, List.not_mem_nil, or_false] at hu; rcases hu with rfl | rfl | rfl | rfl <;> rfl)) ?_
          rintro _ _ rfl
          refine SL.val rfl rfl (fun w9 F9 S9 s => R.as rfl) ?_
          refine SL.nil ?_
          refine SN.seq ?_
          have hg := (refG_eq l).symm.trans (hend.trans (endR_no (fun hq => hg16_12 (List.eq_nil_of_length_eq_zero hq.2.1))))
          exact SG.retCT rfl rfl rfl (by repeat (first | exact Sel.keep | exact Sel.here | apply Sel.there)) (by rfl) ((Imp.pure (p := fun w => RowW.ok w ⟨none, 0, 0, []⟩) (fun w => rowNil w)).trans (Imp.sels (by repeat (first | exact Sels.nil | apply Sels.cons | exact Sel.keep | exact Sel.here | apply Sel.there)))) (getPost_none hg)
        · refine SL.val rfl rfl (fun w9 F9 S9 s => R.ldBN rfl (s.cel (by repeat (first | exact SelB.blk | exact SelB.fz | apply SelB.there))) (by rfl)) ?_
          refine SL.step rfl rfl (CS.callR (φ := fun v => ∃ b, v = .bool b ∧ (b = true ↔ okR (hdN l).1.1 (hdN l).1.2.1 (hdN l).1.2.2 (os.map wv))) rfl go14 (fun w9 F9 S9 s => (refright7_ok _ _ _ ⟨ra, os.length, rc, os⟩ w9 (s.sh (by repeat (first | exact Sel.keep | exact Sel.here | apply Sel.there)))).mono (by rintro v w8 ⟨b, h1, h2, h3⟩; exact ⟨⟨b, h1, h2⟩, h3⟩))) ?_
          rintro _ _ ⟨⟨bR, rfl, hbR⟩, rfl⟩
          refine SL.val rfl rfl (fun w9 F9 S9 s => R.not rfl) ?_
          first | refine SL.val rfl rfl (fun w9 F9 S9 s => R.pickT rfl rfl) ?_ | refine SL.val rfl rfl (fun w9 F9 S9 s => R.pickF rfl rfl) ?_
          refine SL.nil ?_
          refine SN.seq ?_
          refine SG.condB rfl (fun h4 => ?_) (fun h4 => ?_)
          · refine SG.seq ?_
            refine SG.region ?_
            refine SL.val rfl rfl (fun w9 F9 S9 s => R.build (cs := [.int .i64 0, .int .i64 0, .int .i64 0, .slice none 0 0].toArray) rfl rfl) ?_
            refine SL.step0 rfl (CS.stA rfl rfl (by repeat (first | exact Sel.keep | exact Sel.here | apply Sel.there)) (by rfl) (by rfl) (by intro u hu; simp only [List.mem_cons, List.not_mem_nil, or_false] at hu; rcases hu with rfl | rfl | rfl | rfl <;> rfl)) ?_
            rintro _ _ rfl
            refine SL.val rfl rfl (fun w9 F9 S9 s => R.as rfl) ?_
            refine SL.nil ?_
            refine SN.seq ?_
            have hg := (refG_eq l).symm.trans (hend.trans (endR_no (fun hq => by rw [hbR.2 hq.2.2] at h4; cases h4)))
            exact SG.retCT rfl rfl rfl (by repeat (first | exact Sel.keep | exact Sel.here | apply Sel.there)) (by rfl) ((Imp.pure (p := fun w => RowW.ok w ⟨none, 0, 0, []⟩) (fun w => rowNil w)).trans (Imp.sels (by repeat (first | exact Sels.nil | apply Sels.cons | exact Sel.keep | exact Sel.here | apply Sel.there)))) (getPost_none hg)
          · refine SG.skip ?_
            refine SN.seq ?_
            refine SG.seq ?_
            refine SG.region ?_
            refine SL.val rfl rfl (fun w9 F9 S9 s => R.ldBN rfl (s.cel (by repeat (first | exact SelB.blk | exact SelB.fz | apply SelB.there))) (by rfl)) ?_
            refine SL.step0 rfl (CS.stA rfl rfl (by repeat (first | exact Sel.keep | exact Sel.here | apply Sel.there)) (by rfl) (by rfl) (by intro u hu; simp only [List.mem_cons, List.not_mem_nil, or_false] at hu; rcases hu with rfl | rfl | rfl | rfl <;> rfl)) ?_
            rintro _ _ rfl
            refine SL.val rfl rfl (fun w9 F9 S9 s => R.as rfl) ?_
            refine SL.nil ?_
            refine SN.seq ?_
            have hg : getR l = some ((hdN l).1, os.map wv) := (refG_eq l).symm.trans (hend.trans (endR_yes ⟨Classical.not_not.1 hg16_5, List.length_eq_zero_iff.2 (Classical.not_not.1 hg16_12), hbR.1 (by simpa using h4)⟩))
            exact SG.retCT rfl rfl rfl (by repeat (first | exact Sel.keep | exact Sel.here | apply Sel.there)) (by rfl) ((Imp.sels (by repeat (first | exact Sels.nil | apply Sels.cons | exact Sel.keep | exact Sel.here | apply Sel.there)))) (getPost_some (rr := ⟨ra, os.length, rc, os⟩) hg rfl rfl)

end Go.Proofs.Ytiiiplhfgblamaa
/-
  The walks of package record.
-/
set_option linter.unusedVariables false
set_option linter.unusedSimpArgs false
set_option maxRecDepth 4000
namespace Go.Proofs.Ytiiiplhfgblamaa
open Go Brv Brv.Pack
theorem _root_.Brv.Grown.freshLtR {S S' : List Nat} {s : Nat} {a b : World} (h : Grown S S' a b) (hs : ∀ g ∈ S, s < g) (ha : s < a.heap.size) : ∀ g ∈ S', s < g := fun g hg => (h.2 g hg).elim (hs g) (Nat.lt_of_lt_of_le ha)
def headB (kd tl nu : Int) : List UInt8 := be 1 kd.toNat ++ (if kd = 2 then [] else be 4 tl.toNat ++ be 8 nu.toNat)
def wrB (x : Int × List UInt8) : List UInt8 := be 2 x.1.toNat ++ x.2
def bodyB (ws : List (Int × List UInt8)) : List UInt8 := (ws.map wrB).flatten
def recB (kd tl nu : Int) (ws : List (Int × List UInt8)) : List UInt8 := headB kd tl nu ++ (if kd = 3 then be 2 ws.length ++ bodyB ws else [])
def recL (kd tl nu : Int) (ws : List (Int × List UInt8)) (i : Nat) : List UInt8 := headB kd tl nu ++ be 2 ws.length ++ bodyB (ws.take i)
theorem recL_succ {kd tl nu : Int} {ws : List (Int × List UInt8)} {i : Nat} {x : Int × List UInt8} (h : ws[i]? = some x) : recL kd tl nu ws (i + 1) = recL kd tl nu ws i ++ be 2 x.1.toNat ++ x.2 := by
  unfold recL bodyB
  rw [List.take_add_one, h]
  simp [wrB]
theorem okWs_ge {ws : List (Int × List UInt8)} (h : okWs ws) : ∀ (i : Nat) (x : Int × List UInt8), ws[i]? = some x → (i : Int) ≤ x.1
  | 0, x, hx => (h 0 x hx).1.1
  | i + 1, x, hx => by
    have hl : i < ws.length := by have := (List.getElem?_eq_some_iff.1 hx).1; omega
    have h1 := okWs_ge h i _ (List.getElem?_eq_getElem hl)
    have h2 := (h (i + 1) x hx).2.2 _ (by omega) (by rw [Nat.add_sub_cancel]; exact List.getElem?_eq_getElem hl)
    omega
theorem okWs_len {ws : List (Int × List UInt8)} (h : okWs ws) : ws.length ≤ 64 := by
  rcases Nat.eq_zero_or_pos ws.length with h0 | h0
  · omega
  · have hl : ws.length - 1 < ws.length := by omega
    have h1 := okWs_ge h _ _ (List.getElem?_eq_getElem hl)
    have h2 := (h _ _ (List.getElem?_eq_getElem hl)).1.2
    omega
theorem recL_len {kd tl nu : Int} {ws : List (Int × List UInt8)} (h : okWs ws) : ∀ i, (recL kd tl nu ws i).length ≤ 15 + 66 * i
  | 0 => by
    unfold recL headB bodyB
    split <;> simp [be_length]
  | i + 1 => by
    cases hx : ws[i]? with
    | some x =>
      have := (h i x hx).2.1
      have h2 := recL_len (kd := kd) (tl := tl) (nu := nu) h i
      rw [recL_succ hx]
      simp only [List.length_append, be_length]
      omega
    | none =>
      have h2 := recL_len (kd := kd) (tl := tl) (nu := nu) h i
      have e : recL kd tl nu ws (i + 1) = recL kd tl nu ws i := by unfold recL; rw [List.take_add_one, hx]; simp
      rw [e]; omega
theorem vbs_be2 {b : Int} (h : 0 ≤ b ∧ b ≤ 63) : [Value.int .u8 0, Value.int .u8 b] = vbs (be 2 b.toNat) := by
  obtain ⟨k, rfl⟩ := Int.eq_ofNat_of_zero_le h.1
  have hk : k ≤ 63 := by omega
  simp only [Int.toNat_natCast, be, vbs, vb, List.nil_append, List.cons_append, List.map_cons, List.map_nil, UInt8.toNat_ofNat', List.cons.injEq, Value.int.injEq, true_and, and_true]
  omega
def IsRec (s : Nat) (l : List UInt8) (v : Value) (w : World) : Prop := ∃ a c M, v = .slice a l.length c ∧ Own w 5 1 a l.length c (vbs l) M ∧ ∀ g ∈ M, s ≤ g
structure PtSt where
  i : Nat
  nn : Nat
  a : Option Addr
  c : Nat
  M : List Nat

theorem rput7_ok (kd tl nu : Int) (r : RowW) (w : World) (hr : r.ok w) : Meets Try.prog 20 [.agg #[.int .i64 kd, .int .i64 tl, .int .i64 nu, .slice r.a r.n r.c]] w (fun v w' => (okR kd tl nu (r.os.map wv) → IsRec w.heap.size (recB kd tl nu (r.os.map wv)) v w') ∧ (¬ okR kd tl nu (r.os.map wv) → v = .slice none 0 0) ∧ Ext [] w w') := by
  refine Meets.enter Try.func20 rfl 57 rfl (Nat.le_of_ble_eq_true rfl) ?_
  have E := Ext.refl [] w
  obtain ⟨hrc, hrT, hrO⟩ := hr
  have hrl := hrT.len
  rw [List.length_map] at hrl
  have hwl : (r.os.map wv).length = r.n := by rw [List.length_map]; omega
  refine G.seq ?_
  refine G.region ?_
  refine L.do rfl rfl (R.box rfl) ?_
  rintro _ w1 ⟨b1, rfl, hb1, hs1, e1, B1⟩
  replace E := E.trans0 e1
  replace B1 : Blk w1 b1 #[.int .i64 kd, .int .i64 tl, .int .i64 nu, .slice r.a r.n r.c] 24 (0, 0) := B1
  refine L.val rfl rfl (R.as rfl) ?_
  refine L.nil ?_
  refine N.seq ?_
  refine G.seq ?_
  refine G.seq ?_
  refine G.region ?_
  refine L.val rfl rfl (R.ldBN rfl B1 rfl) ?_
  refine L.callF rfl rfl rfl go19 (rright_ok kd tl nu r _ (RowW.ok.ext0 ⟨hrc, hrT, hrO⟩ E)) ?_
  rintro _ w2 ⟨bR, rfl, hbR, e2⟩
  replace E := E.trans0 e2
  replace B1 := B1.ext0 e2
  refine L.val rfl rfl (R.not rfl) ?_
  refine L.nil ?_
  refine N.seq ?_
  refine G.condB rfl (fun h0 => ?_) (fun h0 => ?_)
  · have hno : ¬ okR kd tl nu (r.os.map wv) := fun h => by rw [hbR.2 h] at h0; cases h0
    refine G.seq ?_
    refine G.region ?_
    refine L.val rfl rfl (R.as rfl) ?_
    refine L.nil ?_
    refine N.seq ?_
    refine G.ret1 rfl rfl ?_
    first
      | exact ⟨fun h => absurd h hno, fun _ => rfl, E⟩
      | (refine ⟨fun _ => ?_, fun h => absurd hok h, E⟩
         rw [hfin] at o hnn; rw [hnn] at o ⊢; exact ⟨a, c, M, rfl, o, hM⟩)
      | (refine ⟨fun _ => ?_, fun h => absurd hok h, E⟩
         have hfin : ([] ++ be (1 : Int).toNat kd.toNat ++ be (4 : Int).toNat tl.toNat ++ be (8 : Int).toNat nu.toNat) = recB kd tl nu (r.os.map wv) := by unfold recB headB; rw [if_neg (show ¬ kd = 2 by omega), if_neg (show ¬ kd = 3 by omega)]; simp
         rw [hfin] at o ⊢; exact ⟨a, c, M, rfl, o, hM⟩)
      | (refine ⟨fun _ => ?_, fun h => absurd hok h, E⟩
         have hfin : ([] ++ be (1 : Int).toNat kd.toNat) = recB kd tl nu (r.os.map wv) := by unfold recB headB; rw [if_pos (show kd = 2 by omega), if_neg (show ¬ kd = 3 by omega)]; simp
         rw [hfin] at o ⊢; exact ⟨a, c, M, rfl, o, hM⟩)
  · have hok : okR kd tl nu (r.os.map wv) := hbR.1 (by simpa using h0)
    have hN2 : (kd = 2 ∨ ((1 ≤ tl ∧ tl ≤ 2147483647) ∧ 0 ≤ nu ∧ nu ≤ 1099511627776)) ∧ 1 ≤ kd ∧ kd ≤ 3 := by rcases hok with ⟨h1, h2, _⟩ | ⟨h1, h2, _⟩ | ⟨h1, h2, _⟩ <;> (try unfold okTN at h2) <;> omega
    have h3 : kd = 3 → okWs (r.os.map wv) := fun h => by rcases hok with ⟨h1, _⟩ | ⟨h1, _⟩ | ⟨_, _, _, h2⟩; omega; omega; exact h2
    have q1 : fitsF kd 1 = true := by rw [fitsF_spec]; exact ⟨by decide, by decide, by omega, Int.lt_of_le_of_lt (show kd ≤ 255 by omega) (by decide)⟩
    refine G.skip ?_
    refine N.seq ?_
    refine G.seq ?_
    refine G.region ?_
    refine L.val rfl rfl (R.build rfl rfl) ?_
    refine L.do rfl rfl (R.box rfl) ?_
    rintro _ w3 ⟨b11, rfl, hb11, hs11, e3, B11⟩
    have hb18 := E.size
    have hb1l := B1.lt
    have hb1w : w.heap.size ≤ b1 := by omega
    replace E := E.trans0 e3
    replace B1 := B1.ext0 e3
    have P0 := PenAt.new (E := 5) B11
    have f0 : ∀ g ∈ [b11], b1 < g := by intro g hg; rw [List.mem_singleton.1 hg]; omega
    refine L.val rfl rfl (R.as rfl) ?_
    refine L.nil ?_
    refine N.seq ?_
    refine G.seq ?_
    refine G.region ?_
    refine L.val rfl rfl (R.mv rfl) ?_
    refine L.val rfl rfl (R.fld rfl) ?_
    refine L.val rfl rfl (R.ldB (v := .int .i64 kd) rfl B1 rfl) ?_
    refine L.callF rfl rfl rfl go68 (number_ok _ _ _ _ _ _ P0 (by simp) ⟨by omega, by omega⟩ (by decide)) ?_
    rintro _ w4 ⟨rfl, S1, P1, G1⟩
    rw [q1, if_pos rfl] at P1
    have hbl := B1.lt
    replace B1 := B1.ext G1.1 (fun h => by have := f0 _ h; omega)
    replace E := E.fresh G1.1 (fun g hg => by have := f0 _ hg; omega)
    have f1 : ∀ g ∈ S1, b1 < g := G1.freshLtR f0 hbl
    refine L.nil ?_
    refine N.seq ?_
    refine G.seq ?_
    refine G.seq ?_
    refine G.region ?_
    refine L.val rfl rfl (R.fld rfl) ?_
    refine L.val rfl rfl (R.ldB (v := .int .i64 kd) rfl B1 rfl) ?_
    refine L.val rfl rfl (R.neI rfl rfl) ?_
    refine L.nil ?_
    refine N.seq ?_
    refine G.condP rfl (fun h1 => ?_) (fun h1 => ?_)
    · have q2 : fitsF tl 4 = true := by rw [fitsF_spec]; exact ⟨by decide, by decide, by omega, Int.lt_of_le_of_lt (show tl ≤ 2147483647 by omega) (by decide)⟩
      have q3 : fitsF nu 8 = true := by rw [fitsF_spec]; exact ⟨by decide, by decide, by omega, Int.lt_of_le_of_lt (show nu ≤ 1099511627776 by omega) (by decide)⟩
      refine G.seq ?_
      refine G.region ?_
      refine L.val rfl rfl (R.mv rfl) ?_
      refine L.val rfl rfl (R.fld rfl) ?_
      refine L.val rfl rfl (R.ldB (v := .int .i64 tl) rfl B1 rfl) ?_
      refine L.callF rfl rfl rfl go68 (number_ok _ _ _ _ _ _ P1 (by simp [be_length]) ⟨by omega, by omega⟩ (by decide)) ?_
      rintro _ w5 ⟨rfl, S2, P2, G2⟩
      rw [q2, if_pos rfl] at P2
      have hbl := B1.lt
      replace B1 := B1.ext G2.1 (fun h => by have := f1 _ h; omega)
      replace E := E.fresh G2.1 (fun g hg => by have := f1 _ hg; omega)
      have f2 : ∀ g ∈ S2, b1 < g := G2.freshLtR f1 hbl
      refine L.nil ?_
      refine N.seq ?_
      refine G.region ?_
      refine L.val rfl rfl (R.mv rfl) ?_
      refine L.val rfl rfl (R.fld rfl) ?_
      refine L.val rfl rfl (R.ldB (v := .int .i64 nu) rfl B1 rfl) ?_
      refine L.callF rfl rfl rfl go68 (number_ok _ _ _ _ _ _ P2 (by simp [be_length]) ⟨by omega, by omega⟩ (by decide)) ?_
      rintro _ w6 ⟨rfl, S3, P3, G3⟩
      rw [q3, if_pos rfl] at P3
      have hbl := B1.lt
      replace B1 := B1.ext G3.1 (fun h => by have := f2 _ h; omega)
      replace E := E.fresh G3.1 (fun g hg => by have := f2 _ hg; omega)
      have f3 : ∀ g ∈ S3, b1 < g := G3.freshLtR f2 hbl
      refine L.nil ?_
      refine N.seq ?_
      refine G.seq ?_
      refine G.seq ?_
      refine G.region ?_
      refine L.val rfl rfl (R.fld rfl) ?_
      refine L.val rfl rfl (R.ldB (v := .int .i64 kd) rfl B1 rfl) ?_
      refine L.val rfl rfl (R.neI rfl rfl) ?_
      refine L.nil ?_
      refine N.seq ?_
      refine G.condP rfl (fun h2 => ?_) (fun h2 => ?_)
      · refine G.seq ?_
        refine G.region ?_
        refine L.val rfl rfl (R.mv rfl) ?_
        refine L.callF rfl rfl rfl go69 (bytes_ok _ _ _ _ P3 (by simp [be_length])) ?_
        rintro _ w9 ⟨a, c, M, rfl, e9, o, hM⟩
        have hEb := E.size
        replace E := E.trans0 e9
        replace hM : ∀ g ∈ M, w.heap.size ≤ g := fun g hg => Nat.le_trans hEb (hM g hg)
        refine L.val rfl rfl (R.as rfl) ?_
        refine L.nil ?_
        refine N.seq ?_
        refine G.ret1 rfl rfl ?_
        first
          | exact ⟨fun h => absurd h hno, fun _ => rfl, E⟩
          | (refine ⟨fun _ => ?_, fun h => absurd hok h, E⟩
             rw [hfin] at o hnn; rw [hnn] at o ⊢; exact ⟨a, c, M, rfl, o, hM⟩)
          | (refine ⟨fun _ => ?_, fun h => absurd hok h, E⟩
             have hfin : ([] ++ be (1 : Int).toNat kd.toNat ++ be (4 : Int).toNat tl.toNat ++ be (8 : Int).toNat nu.toNat) = recB kd tl nu (r.os.map wv) := by unfold recB headB; rw [if_neg (show ¬ kd = 2 by omega), if_neg (show ¬ kd = 3 by omega)]; simp
             rw [hfin] at o ⊢; exact ⟨a, c, M, rfl, o, hM⟩)
          | (refine ⟨fun _ => ?_, fun h => absurd hok h, E⟩
             have hfin : ([] ++ be (1 : Int).toNat kd.toNat) = recB kd tl nu (r.os.map wv) := by unfold recB headB; rw [if_pos (show kd = 2 by omega), if_neg (show ¬ kd = 3 by omega)]; simp
             rw [hfin] at o ⊢; exact ⟨a, c, M, rfl, o, hM⟩)
      · have hws := h3 (by omega)
        have hn64 := okWs_len hws
        rw [hwl] at hn64
        have q4 : fitsF (r.n : Int) 2 = true := by rw [fitsF_spec]; exact ⟨by decide, by decide, by omega, Int.lt_of_le_of_lt (show (r.n : Int) ≤ 65535 by omega) (by decide)⟩
        refine G.skip ?_
        refine N.seq ?_
        refine G.seq ?_
        refine G.region ?_
        refine L.val rfl rfl (R.mv rfl) ?_
        refine L.val rfl rfl (R.fld rfl) ?_
        refine L.val rfl rfl (R.ldB (v := .slice r.a r.n r.c) rfl B1 rfl) ?_
        refine L.val rfl rfl (R.lenS rfl) ?_
        refine L.callF rfl rfl rfl go68 (number_ok _ _ _ _ _ _ P3 (by simp [be_length]) ⟨by omega, by omega⟩ (by decide)) ?_
        rintro _ w7 ⟨rfl, S4, P4, G4⟩
        rw [q4, if_pos rfl] at P4
        have hbl := B1.lt
        replace B1 := B1.ext G4.1 (fun h => by have := f3 _ h; omega)
        replace E := E.fresh G4.1 (fun g hg => by have := f3 _ hg; omega)
        have f4 : ∀ g ∈ S4, b1 < g := G4.freshLtR f3 hbl
        refine L.nil ?_
        refine N.seq ?_
        refine G.seq ?_
        refine G.region ?_
        refine L.val rfl rfl (R.mv rfl) ?_
        refine L.callF rfl rfl rfl go69 (bytes_ok _ _ _ _ P4 (by simp [be_length])) ?_
        rintro _ w8 ⟨a, c, M, rfl, e8, o, hM⟩
        have hEb := E.size
        replace E := E.trans0 e8
        replace hM : ∀ g ∈ M, w.heap.size ≤ g := fun g hg => Nat.le_trans hEb (hM g hg)
        have hlp : ([] ++ be (1 : Int).toNat kd.toNat ++ be (4 : Int).toNat tl.toNat ++ be (8 : Int).toNat nu.toNat ++ be (2 : Int).toNat (r.n : Int).toNat) = (recL kd tl nu (r.os.map wv) 0) := by unfold recL headB bodyB; rw [if_neg (show ¬ kd = 2 by omega), hwl]; simp
        rw [hlp] at o ⊢
        replace B1 := B1.ext0 e8
        refine L.val rfl rfl (R.as rfl) ?_
        refine L.nil ?_
        refine N.seq ?_
        refine G.seq ?_
        refine G.seq ?_
        refine G.region ?_
        refine L.val rfl rfl (R.fld rfl) ?_
        refine L.val rfl rfl (R.ldB (v := .slice r.a r.n r.c) rfl B1 rfl) ?_
        refine L.val rfl rfl (R.lenS rfl) ?_
        refine L.val rfl rfl (R.mv rfl) ?_
        refine L.nil ?_
        refine N.seq ?_
        refine G.block ?_
        refine G.loop (X := PtSt) (fun s => [(1, .pointer (some ⟨b1, 0, none⟩)), (4, .slice s.a s.nn s.c), (40, .slice r.a r.n r.c), (41, .int .i64 (r.n : Int)), (42, .int .i64 (s.i : Int))]) (fun s w' => s.i ≤ r.n ∧ s.nn = (recL kd tl nu (r.os.map wv) s.i).length ∧ Own w' 5 1 s.a s.nn s.c (vbs (recL kd tl nu (r.os.map wv) s.i)) s.M ∧ (∀ g ∈ s.M, w.heap.size ≤ g) ∧ Ext [] w w') (fun s => r.n - s.i) (⟨0, (recL kd tl nu (r.os.map wv) 0).length, a, c, M⟩) (Sub.cons rfl (Sub.cons rfl (Sub.cons rfl (Sub.cons rfl (Sub.cons rfl (Sub.nil _)))))) ⟨Nat.zero_le _, rfl, o, hM, E⟩ ?_
        rintro ⟨i, nn, a, c, M⟩ w10 ⟨hi, hnn, o, hM, E⟩
        dsimp only at hi hnn o hM
        refine G.sub [(1, .pointer (some ⟨b1, 0, none⟩)), (4, .slice a nn c), (40, .slice r.a r.n r.c), (41, .int .i64 (r.n : Int)), (42, .int .i64 (i : Int))] (Sub.cons rfl (Sub.cons rfl (Sub.cons rfl (Sub.cons rfl (Sub.cons rfl (Sub.nil _)))))) ?_
        have hLl := recL_len (kd := kd) (tl := tl) (nu := nu) hws i
        rw [← hnn] at hLl
        refine G.seq ?_
        refine G.region ?_
        refine L.val rfl rfl (R.lss rfl rfl) ?_
        refine L.nil ?_
        refine N.seq ?_
        refine G.seq ?_
        refine G.condP rfl (fun h3 => ?_) (fun h3 => ?_)
        · refine G.skip ?_
          refine N.seq ?_
          refine G.seq ?_
          refine G.block ?_
          refine G.seq ?_
          refine G.region ?_
          obtain ⟨q12, hq12, hcl12⟩ := hrT.at (by decide) i (by rw [List.length_map]; omega)
          rw [List.getElem_map] at hcl12
          have hokx := hrO _ (List.getElem_mem (show i < r.os.length by omega))
          obtain ⟨x, hoe12⟩ : ∃ x, x = r.os[i]'(by omega) := ⟨_, rfl⟩
          rw [← hoe12] at hcl12 hokx
          refine L.val rfl rfl (R.idx rfl rfl (by omega) (by omega) q12 hq12) ?_
          refine L.val rfl rfl (R.ldN rfl (hcl12.ext0 E) rfl) ?_
          refine L.do rfl rfl (R.alloc) ?_
          rintro _ w12 ⟨b6, rfl, hbx12, hsx12, e12, B6⟩
          have hlo := o.lt
          have hEx12 := E.size
          replace E := E.trans0 e12
          replace o := o.ext0 e12
          have hn6 : b6 ∉ M := fun h => by have := hlo _ h; omega
          refine L.set rfl (R.stN rfl rfl B6 rfl (Nat.le_refl 2) (WriteV.cells.one _)) ?_
          rintro w13 ⟨e13, hsx13, B6⟩
          replace B6 : Blk w13 b6 x.cells.toArray 40 (0, 0) := B6
          replace E := E.trans e13 (M := []) (by simp) (by intro x hx; rw [List.mem_singleton.1 hx]; exact .inr (by omega))
          replace o := o.ext e13 (by intro g hg h; exact hn6 (by rw [← List.mem_singleton.1 h]; exact hg))
          have hwx : (r.os.map wv)[i]? = some (wv x) := at_map hoe12
          have hbk : 0 ≤ x.Block' ∧ x.Block' ≤ 63 := (hws i _ hwx).1
          have hx64 : x.B'.length = 64 := (hws i _ hwx).2.1
          have hxn : x.B'n = x.B'.length := hokx.2.2.len
          refine L.nil ?_
          refine N.seq ?_
          have hI : ∀ kq w', stage [Ext [] w13, Ext M w13, Ext M w13] kq w' → (Ext M w13) w' := fun kq w' hs => stage_all (I := Ext M w13) (by
            intro Ψ hΨ w' hJ
            simp only [List.mem_cons, List.not_mem_nil, or_false] at hΨ
            rcases hΨ with rfl | rfl | rfl
            · exact hJ.mono (by simp)
            · exact hJ
            · exact hJ) hs
          refine G.staged [5, 8] [.blocks (M), .above 0] [Ext [] w13, Ext M w13, Ext M w13] [(5, 50), (8, 50), (8, 51)] (by decide +kernel) (by decide +kernel) rfl rfl rfl (fun _ h => h) ?_
          refine Z.val rfl rfl rfl rfl rfl (fun w14 => R.mv rfl) ?_
          refine Z.val rfl rfl rfl rfl rfl (fun w14 => R.fld rfl) ?_
          refine Z.read 0 (by decide +kernel) rfl rfl rfl rfl rfl rfl (fun w14 hJ => R.ldB (v := .int .i64 x.Block') rfl (B6.ext0 hJ) rfl) ?_
          refine Z.val rfl rfl rfl rfl rfl (fun w14 => R.conv rfl x.Block' (wrap_u8 (by omega))) ?_
          refine Z.new (A := IsBs 2 (be 2 x.Block'.toNat)) (Lasts.kill (IsBs.keep _ _) (by decide +kernel)) 0 (by decide +kernel) rfl rfl rfl rfl rfl (fun w14 hJ => (R.buildA rfl rfl rfl rfl rfl).mono (fun v w1 h => by have h9 := NewS.bs h (show _ = vbs (be 2 x.Block'.toNat) from vbs_be2 hbk) (by rw [be_length]); exact ⟨h9.1, h9.2, hJ.trans0 h9.2⟩)) ?_
          refine Z.put (A := Held M w13.heap.size 5 1 (nn + 2) (vbs (recL kd tl nu (r.os.map wv) i ++ be 2 x.Block'.toNat))) (Lasts.kill (Held.keep _ _ _ _ _ _) (by decide +kernel)) 0 (by decide +kernel) rfl rfl rfl rfl rfl rfl rfl (fun w14 hJ => by rintro v ⟨a9, c9, rfl, hc9, hb9⟩; exact (R.app rfl rfl (o.ext0 hJ) hb9.cells (by rw [vbs_length, be_length]) (vbs_one _) (by simp [maxLen]; omega) (by omega)).mono (fun _ _ h => Held.app h hJ rfl (by rw [vbs_append]))) ?_
          refine Z.val rfl rfl rfl rfl rfl (fun w14 => R.fld rfl) ?_
          refine Z.readI (I := Ext M w13) hI rfl rfl rfl rfl rfl (fun w14 hJ => R.ldB (v := .slice x.B'a x.B'n x.B'c) rfl (B6.ext hJ hn6) rfl) ?_
          refine Z.put (A := Held M w13.heap.size 5 1 (nn + 2 + x.B'n) (vbs ((recL kd tl nu (r.os.map wv) (i + 1))))) (Lasts.kill (Held.keep _ _ _ _ _ _) (by decide +kernel)) 1 (by decide +kernel) rfl rfl rfl rfl rfl rfl rfl (fun w14 hJ => by rintro v ⟨a9, c9, M9, rfl, o9, hM9⟩; exact (R.app rfl rfl o9 (hokx.2.2.ext0 (E.trans hJ (by simp) (fun g hg => .inr (hM g hg)))).cells (by rw [vbs_length, hxn, Nat.mul_one]) (vbs_one _) (by simp [maxLen]; omega) (by omega)).mono (fun v9 w9 h => by obtain ⟨a3, c3, M3, rfl, e9, hM3, r3⟩ := h; exact ⟨⟨a3, c3, M3, rfl, by rw [recL_succ hwx, vbs_append]; exact r3, fun g hg => (hM3 g hg).elim (hM9 g) (fun h => .inr (Nat.le_trans hJ.size h))⟩, Above.of e9 (by simp), hJ.transN e9 hM9⟩)) ?_
          refine Z.valR (A := Held M w13.heap.size 5 1 (nn + 2 + x.B'n) (vbs ((recL kd tl nu (r.os.map wv) (i + 1))))) (Lasts.kill (Held.keep _ _ _ _ _ _) (by decide +kernel)) rfl rfl rfl rfl (fun w14 => fun v hv => ⟨v, R.as rfl, hv⟩) ?_
          refine Z.nil rfl rfl (fun w14 hJ => ?_)
          intro v4 hv4 v54 _
          obtain ⟨a, c, M3, rfl, o3, hM3⟩ := hv4
          have hE13 := E.size
          have hM4 : ∀ g ∈ M3, w.heap.size ≤ g := fun g hg => (hM3 g hg).elim (hM g) (fun h => by omega)
          replace E := E.trans hJ (M := []) (by simp) (fun g hg => .inr (hM g hg))
          refine N.block ?_
          refine N.seq ?_
          refine G.region ?_
          refine L.val rfl rfl (R.add rfl rfl (by omega)) ?_
          refine L.val rfl rfl (R.mv rfl) ?_
          refine L.nil ?_
          exact N.again (X := PtSt) ⟨i + 1, nn + 2 + x.B'n, a, c, M3⟩ (by show r.n - (i + 1) < r.n - i; omega) (Sub.cons rfl (Sub.cons rfl (Sub.cons rfl (Sub.cons rfl (Sub.cons rfl (Sub.nil _)))))) ⟨by show i + 1 ≤ r.n; omega, by show nn + 2 + x.B'n = (recL kd tl nu (r.os.map wv) (i + 1)).length; rw [recL_succ hwx, List.length_append, List.length_append, be_length, ← hnn, hxn]; rfl, o3, hM4, E⟩
        · obtain rfl : i = r.n := by omega
          have htk : (r.os.map wv).take r.n = (r.os.map wv) := List.take_of_length_le (by omega)
          have hfin : recL kd tl nu (r.os.map wv) r.n = recB kd tl nu (r.os.map wv) := by unfold recL recB; rw [htk, if_pos (show kd = 3 by omega), List.append_assoc]
          refine G.exit _ rfl ?_
          refine N.seq ?_
          refine G.seq ?_
          refine G.region ?_
          refine L.val rfl rfl (R.mv rfl) ?_
          refine L.val rfl rfl (R.as rfl) ?_
          refine L.nil ?_
          refine N.seq ?_
          refine G.ret1 rfl rfl ?_
          first
            | exact ⟨fun h => absurd h hno, fun _ => rfl, E⟩
            | (refine ⟨fun _ => ?_, fun h => absurd hok h, E⟩
               rw [hfin] at o hnn; rw [hnn] at o ⊢; exact ⟨a, c, M, rfl, o, hM⟩)
            | (refine ⟨fun _ => ?_, fun h => absurd hok h, E⟩
               have hfin : ([] ++ be (1 : Int).toNat kd.toNat ++ be (4 : Int).toNat tl.toNat ++ be (8 : Int).toNat nu.toNat) = recB kd tl nu (r.os.map wv) := by unfold recB headB; rw [if_neg (show ¬ kd = 2 by omega), if_neg (show ¬ kd = 3 by omega)]; simp
               rw [hfin] at o ⊢; exact ⟨a, c, M, rfl, o, hM⟩)
            | (refine ⟨fun _ => ?_, fun h => absurd hok h, E⟩
               have hfin : ([] ++ be (1 : Int).toNat kd.toNat) = recB kd tl nu (r.os.map wv) := by unfold recB headB; rw [if_pos (show kd = 2 by omega), if_neg (show ¬ kd = 3 by omega)]; simp
               rw [hfin] at o ⊢; exact ⟨a, c, M, rfl, o, hM⟩)
    · refine G.skip ?_
      refine N.seq ?_
      refine G.seq ?_
      refine G.seq ?_
      refine G.region ?_
      refine L.val rfl rfl (R.fld rfl) ?_
      refine L.val rfl rfl (R.ldB (v := .int .i64 kd) rfl B1 rfl) ?_
      refine L.val rfl rfl (R.neI rfl rfl) ?_
      refine L.nil ?_
      refine N.seq ?_
      refine G.condP rfl (fun h2 => ?_) (fun h2 => ?_)
      · refine G.seq ?_
        refine G.region ?_
        refine L.val rfl rfl (R.mv rfl) ?_
        refine L.callF rfl rfl rfl go69 (bytes_ok _ _ _ _ P1 (by simp [be_length])) ?_
        rintro _ w9 ⟨a, c, M, rfl, e9, o, hM⟩
        have hEb := E.size
        replace E := E.trans0 e9
        replace hM : ∀ g ∈ M, w.heap.size ≤ g := fun g hg => Nat.le_trans hEb (hM g hg)
        refine L.val rfl rfl (R.as rfl) ?_
        refine L.nil ?_
        refine N.seq ?_
        refine G.ret1 rfl rfl ?_
        first
          | exact ⟨fun h => absurd h hno, fun _ => rfl, E⟩
          | (refine ⟨fun _ => ?_, fun h => absurd hok h, E⟩
             rw [hfin] at o hnn; rw [hnn] at o ⊢; exact ⟨a, c, M, rfl, o, hM⟩)
          | (refine ⟨fun _ => ?_, fun h => absurd hok h, E⟩
             have hfin : ([] ++ be (1 : Int).toNat kd.toNat ++ be (4 : Int).toNat tl.toNat ++ be (8 : Int).toNat nu.toNat) = recB kd tl nu (r.os.map wv) := by unfold recB headB; rw [if_neg (show ¬ kd = 2 by omega), if_neg (show ¬ kd = 3 by omega)]; simp
             rw [hfin] at o ⊢; exact ⟨a, c, M, rfl, o, hM⟩)
          | (refine ⟨fun _ => ?_, fun h => absurd hok h, E⟩
             have hfin : ([] ++ be (1 : Int).toNat kd.toNat) = recB kd tl nu (r.os.map wv) := by unfold recB headB; rw [if_pos (show kd = 2 by omega), if_neg (show ¬ kd = 3 by omega)]; simp
             rw [hfin] at o ⊢; exact ⟨a, c, M, rfl, o, hM⟩)
      · exfalso; omega

end Go.Proofs.Ytiiiplhfgblamaa
/-
  The walks of package record.
-/
set_option linter.unusedVariables false
set_option linter.unusedSimpArgs false
set_option maxRecDepth 4000
namespace Go.Proofs.Ytiiiplhfgblamaa
open Go Brv Brv.Pack Brv.Frame
theorem refP_body : ∀ (ws : List (Int × List UInt8)), (∀ x ∈ ws, (0 ≤ x.1 ∧ x.1 ≤ 63) ∧ x.2.length = 64) → refP ws.length (bodyB ws) 0 = (ws, [], 0)
  | [], _ => rfl
  | x :: ws, h => by
    obtain ⟨⟨h1, h2⟩, h3⟩ := h x (by simp)
    have hb : bodyB (x :: ws) = be 2 x.1.toNat ++ (x.2 ++ bodyB ws) := by simp [bodyB, wrB, List.append_assoc]
    have hn := numF_be (y := 2) (x := x.1.toNat) (r := x.2 ++ bodyB ws) (by decide) (by decide) (Nat.lt_of_le_of_lt (show x.1.toNat ≤ 63 by omega) (by decide)) (fun h => by omega)
    have hn' : numF (bodyB (x :: ws)) 0 2 = (x.1.toNat, x.2 ++ bodyB ws, 0) := by rw [hb]; exact hn
    simp only [List.length_cons, refP, hn']
    rw [if_neg (by simp), if_neg (by rw [List.length_append]; omega)]
    have ht : (x.2 ++ bodyB ws).take 64 = x.2 := by rw [← h3, List.take_left]
    have hd : (x.2 ++ bodyB ws).drop 64 = bodyB ws := by rw [← h3, List.drop_left]
    rw [ht, hd, refP_body ws (fun y hy => h y (by simp [hy])), show ((x.1.toNat : Nat) : Int) = x.1 by omega]
theorem getR_recB {kd tl nu : Int} {ws : List (Int × List UInt8)} (h : okR kd tl nu ws) : getR (recB kd tl nu ws) = some ((kd, tl, nu), ws) := by
  rw [← refG_eq]
  have one : ∀ (k : Nat) (r : List UInt8), k < 256 → numF (be 1 k ++ r) 0 1 = (k, r, 0) := fun k r hk => numF_be (y := 1) (x := k) (r := r) (by decide) (by decide) (by simpa using hk) (fun h => by omega)
  have hd2 : ∀ (kd : Int) (r : List UInt8), 0 ≤ kd → kd < 256 → kd ≠ 2 → okTN tl nu → hdN (be 1 kd.toNat ++ (be 4 tl.toNat ++ (be 8 nu.toNat ++ r))) = ((kd, tl, nu), r, 0) := by
    intro kd r h0 h1 h2 ⟨⟨h3, h4⟩, h5, h6⟩
    have e1 := one kd.toNat (be 4 tl.toNat ++ (be 8 nu.toNat ++ r)) (by omega)
    have e2 : numF (be 4 tl.toNat ++ (be 8 nu.toNat ++ r)) 0 4 = (tl.toNat, be 8 nu.toNat ++ r, 0) := numF_be (y := 4) (by decide) (by decide) (Nat.lt_of_le_of_lt (show tl.toNat ≤ 2147483647 by omega) (by decide)) (fun h => by omega)
    have e3 : numF (be 8 nu.toNat ++ r) 0 8 = (nu.toNat, r, 0) := numF_be (y := 8) (by decide) (by decide) (Nat.lt_of_le_of_lt (show nu.toNat ≤ 1099511627776 by omega) (by decide)) (fun _ => by omega)
    unfold hdN
    simp only [e1, e2, e3]
    rw [if_neg (by omega), show ((kd.toNat : Nat) : Int) = kd by omega, show ((tl.toNat : Nat) : Int) = tl by omega, show ((nu.toNat : Nat) : Int) = nu by omega]
  have h0 := h
  rcases h with ⟨rfl, hn, hl⟩ | ⟨rfl, ⟨rfl, rfl⟩, hl⟩ | ⟨rfl, hn, hp, hw⟩
  · have hr : recB 1 tl nu ws = be 1 (1 : Int).toNat ++ (be 4 tl.toNat ++ (be 8 nu.toNat ++ [])) := by unfold recB headB; simp [List.append_assoc]
    have hh := hd2 1 [] (by decide) (by decide) (by decide) hn
    rw [hr]
    unfold refG
    rw [hh, if_neg (show ¬ (1 : Int) = 3 by decide), List.eq_nil_of_length_eq_zero hl]
    exact endR_yes ⟨rfl, rfl, List.eq_nil_of_length_eq_zero hl ▸ h0⟩
  · have hr : recB 2 0 0 ws = be 1 2 ++ [] := by unfold recB headB; simp
    have hh : hdN (be 1 2 ++ []) = ((2, 0, 0), [], 0) := by
      have e1 := one 2 [] (by decide)
      unfold hdN
      simp only [e1]
      rfl
    rw [hr]
    unfold refG
    rw [hh, if_neg (by decide), List.eq_nil_of_length_eq_zero hl]
    exact endR_yes ⟨rfl, rfl, List.eq_nil_of_length_eq_zero hl ▸ h0⟩
  · have hlw := okWs_len hw
    have hr : recB 3 tl nu ws = be 1 (3 : Int).toNat ++ (be 4 tl.toNat ++ (be 8 nu.toNat ++ (be 2 ws.length ++ bodyB ws))) := by unfold recB headB; simp [List.append_assoc]
    have hh := hd2 3 (be 2 ws.length ++ bodyB ws) (by decide) (by decide) (by decide) hn
    have e2 : numF (be 2 ws.length ++ bodyB ws) 0 2 = (ws.length, bodyB ws, 0) := numF_be (y := 2) (by decide) (by decide) (Nat.lt_of_le_of_lt hlw (by decide)) (fun h => by omega)
    have e3 := refP_body ws (fun x hx => by
      obtain ⟨i, hi⟩ := List.getElem?_of_mem hx
      have := hw i x hi
      exact ⟨this.1, this.2.1⟩)
    rw [hr]
    unfold refG
    rw [hh, if_pos rfl]
    simp only [e2, e3]
    exact endR_yes ⟨rfl, rfl, h0⟩

end Go.Proofs.Ytiiiplhfgblamaa
/-
  Plain laws on the document's merging: the least key that is left, its last write.
-/
set_option linter.unusedVariables false
set_option linter.unusedSimpArgs false
namespace Brv
open Go
def gtl : Option Int → Int → Prop
  | none, _ => True
  | some x, k => x < k
instance (l : Option Int) (k : Int) : Decidable (gtl l k) := by cases l <;> (simp only [gtl]; infer_instance)
def lastW (out : List Wr) : Option Int := out.getLast?.map Prod.fst
structure Best1 (all : List Wr) (last : Option Int) (i b : Nat) (w : Wr) : Prop where
  lt : b < i
  at' : all[b]? = some w
  gt : gtl last w.1
  least : ∀ j x, j < i → all[j]? = some x → gtl last x.1 → w.1 ≤ x.1
  last : ∀ j x, b < j → j < i → all[j]? = some x → x.1 ≠ w.1
def BestAt (all : List Wr) (last : Option Int) (i : Nat) (best : Int) : Prop :=
  (best = -1 ∧ ∀ j x, j < i → all[j]? = some x → ¬ gtl last x.1) ∨ ∃ (b : Nat) (w : Wr), best = b ∧ Best1 all last i b w
theorem BestAt.zero (all : List Wr) (last : Option Int) : BestAt all last 0 (-1) := .inl ⟨rfl, fun j x h => by omega⟩
theorem BestAt.take {all : List Wr} {last : Option Int} {i : Nat} {best : Int} {w : Wr} (h : BestAt all last i best) (hw : all[i]? = some w) (hg : gtl last w.1) (hb : best < 0 ∨ ∃ x, all[best.toNat]? = some x ∧ w.1 ≤ x.1) : BestAt all last (i + 1) i := by
  refine .inr ⟨i, w, rfl, by omega, hw, hg, ?_, fun j x h1 h2 => by omega⟩
  intro j x hj hx hgx
  by_cases hji : j = i
  · subst hji; rw [hw] at hx; cases hx; exact Int.le_refl _
  · rcases h with ⟨rfl, hno⟩ | ⟨b, v, rfl, B⟩
    · exact absurd hgx (hno j x (by omega) hx)
    · rcases hb with hb | ⟨y, hy, hle⟩
      · omega
      · rw [Int.toNat_natCast, B.at'] at hy; cases hy
        exact Int.le_trans hle (B.least j x (by omega) hx hgx)
theorem BestAt.pass {all : List Wr} {last : Option Int} {i : Nat} {best : Int} {w : Wr} (h : BestAt all last i best) (hw : all[i]? = some w) (hn : gtl last w.1 → ¬ (best < 0) ∧ ∀ x, all[best.toNat]? = some x → ¬ w.1 ≤ x.1) : BestAt all last (i + 1) best := by
  rcases h with ⟨rfl, hno⟩ | ⟨b, v, rfl, B⟩
  · refine .inl ⟨rfl, fun j x hj hx hg => ?_⟩
    by_cases hji : j = i
    · subst hji; rw [hw] at hx; cases hx; exact (hn hg).1 (by decide)
    · exact hno j x (by omega) hx hg
  · refine .inr ⟨b, v, rfl, by have := B.lt; omega, B.at', B.gt, fun j x hj hx hg => ?_, fun j x h1 h2 hx he => ?_⟩
    · by_cases hji : j = i
      · subst hji; rw [hw] at hx; cases hx
        have := (hn hg).2 v (by rw [Int.toNat_natCast]; exact B.at')
        omega
      · exact B.least j x (by omega) hx hg
    · by_cases hji : j = i
      · subst hji; rw [hw] at hx; cases hx
        have := (hn (by rw [he]; exact B.gt)).2 v (by rw [Int.toNat_natCast]; exact B.at')
        omega
      · exact B.last j x h1 (by omega) hx he
theorem BestAt.cell {all : List Wr} {last : Option Int} {i : Nat} {best : Int} (h : BestAt all last i best) (hb : ¬ best < 0) : ∃ (b : Nat) (w : Wr), best = b ∧ Best1 all last i b w := by
  rcases h with ⟨rfl, _⟩ | h
  · exact absurd (by decide) hb
  · exact h
theorem lastOf_idx : ∀ {all : List Wr} {b : Nat} {w : Wr}, all[b]? = some w → (∀ j x, b < j → all[j]? = some x → x.1 ≠ w.1) → lastOf all w.1 = some w.2
  | y :: r, 0, w, h, hl => by
    simp only [List.getElem?_cons_zero, Option.some.injEq] at h; subst h
    have hn : lastOf r y.1 = none := by
      have : ∀ (r : List Wr), (∀ (j : Nat) (x : Wr), r[j]? = some x → x.1 ≠ y.1) → lastOf r y.1 = none := by
        intro r
        induction r with
        | nil => intro _; rfl
        | cons z r ih =>
          intro h
          simp only [lastOf]
          rw [ih (fun j x hx => h (j + 1) x hx), if_neg (h 0 z rfl)]
      exact this r (fun j x hx => hl (j + 1) x (by omega) hx)
    simp only [lastOf]; rw [hn]; simp
  | y :: r, b + 1, w, h, hl => by
    simp only [lastOf]
    rw [lastOf_idx (all := r) (b := b) h (fun j x hj hx => hl (j + 1) x (by omega) hx)]
theorem lastOf_mem : ∀ {all : List Wr} {k : Int} {b : List UInt8}, lastOf all k = some b → ∃ x ∈ all, x.1 = k
  | y :: r, k, b, h => by
    simp only [lastOf] at h
    cases hr : lastOf r k with
    | some b' => obtain ⟨x, hx, e⟩ := lastOf_mem hr; exact ⟨x, List.mem_cons_of_mem _ hx, e⟩
    | none =>
      rw [hr] at h
      by_cases e : y.1 = k
      · exact ⟨y, by simp, e⟩
      · rw [if_neg e] at h; cases h
structure OutOk (all out : List Wr) : Prop where
  sorted : Sorted (out.map toQ)
  mem : ∀ x ∈ out, lastOf all x.1 = some x.2
  rest : ∀ x ∈ all, (∃ y ∈ out, y.1 = x.1) ∨ gtl (lastW out) x.1
theorem OutOk.nil (all : List Wr) : OutOk all [] := ⟨List.Pairwise.nil, by simp, fun x _ => .inr trivial⟩
theorem sorted_le_last {out : List Wr} {x : Wr} (h : Sorted (out.map toQ)) (hx : x ∈ out) {k : Int} (hk : gtl (lastW out) k) : x.1 < k := by
  obtain ⟨r, z, rfl⟩ : ∃ r z, out = r ++ [z] := by
    rcases List.eq_nil_or_concat out with rfl | ⟨r, z, h⟩
    · cases hx
    · exact ⟨r, z, by simpa using h⟩
  simp only [lastW, List.getLast?_append, List.getLast?_singleton, Option.some_or, Option.map_some, gtl] at hk
  rcases List.mem_append.1 hx with hx | hx
  · rw [List.map_append] at h
    have := (List.pairwise_append.1 h).2.2 (toQ x) (List.mem_map.2 ⟨x, hx, rfl⟩) (toQ z) (by simp)
    have h2 : Key.lt x.1 z.1 = true := this
    have : x.1 < z.1 := of_decide_eq_true h2
    omega
  · rw [List.mem_singleton.1 hx]; exact hk
theorem lastW_snoc (out : List Wr) (w : Wr) : lastW (out ++ [w]) = some w.1 := by simp [lastW]
theorem OutOk.step {all out : List Wr} {b : Nat} {w : Wr} (h : OutOk all out) (B : Best1 all (lastW out) all.length b w) : OutOk all (out ++ [w]) := by
  refine ⟨?_, ?_, ?_⟩
  · rw [List.map_append]
    refine List.pairwise_append.2 ⟨h.sorted, List.pairwise_singleton _ _, ?_⟩
    intro p hp q hq
    obtain ⟨x, hx, rfl⟩ := List.mem_map.1 hp
    rw [List.map_cons, List.map_nil] at hq
    rw [List.mem_singleton.1 hq]
    exact decide_eq_true (sorted_le_last h.sorted hx B.gt)
  · intro x hx
    rcases List.mem_append.1 hx with hx | hx
    · exact h.mem x hx
    · rw [List.mem_singleton.1 hx]
      exact lastOf_idx B.at' (fun j y hj hy => B.last j y hj (List.getElem?_eq_some_iff.1 hy).1 hy)
  · intro x hx
    rcases h.rest x hx with ⟨y, hy, e⟩ | hg
    · exact .inl ⟨y, List.mem_append_left _ hy, e⟩
    · obtain ⟨j, hj⟩ := List.getElem?_of_mem hx
      have := B.least j x (List.getElem?_eq_some_iff.1 hj).1 hj hg
      rw [lastW_snoc]
      by_cases e : x.1 = w.1
      · exact .inl ⟨w, by simp, e.symm⟩
      · exact .inr (show w.1 < x.1 by omega)
theorem OutOk.done {all out : List Wr} (h : OutOk all out) (hb : BestAt all (lastW out) all.length (-1)) : out.map toQ = mergeP [] all := by
  have hno : ∀ x ∈ all, ¬ gtl (lastW out) x.1 := by
    rcases hb with ⟨_, hno⟩ | ⟨b, w, e, _⟩
    · intro x hx
      obtain ⟨j, hj⟩ := List.getElem?_of_mem hx
      exact hno j x (List.getElem?_eq_some_iff.1 hj).1 hj
    · omega
  refine sorted_ext h.sorted (mergeP_sorted nil_sorted all) fun p => ?_
  rw [mem_mergeP nil_sorted]
  constructor
  · intro hp
    obtain ⟨x, hx, rfl⟩ := List.mem_map.1 hp
    exact .inl ⟨x.2, h.mem x hx, rfl⟩
  · rintro (⟨b, h1, h2⟩ | ⟨_, h2⟩)
    · obtain ⟨x, hx, e⟩ := lastOf_mem h1
      rcases h.rest x hx with ⟨y, hy, e2⟩ | hg
      · have h3 := h.mem y hy
        rw [e2, e, h1] at h3; cases h3
        refine List.mem_map.2 ⟨y, hy, ?_⟩
        obtain ⟨k, u⟩ := p
        simp only at e e2 h2 ⊢
        rw [toQ, e2, e, h2]
      · exact absurd hg (hno x hx)
    · cases h2
def leftN (all : List Wr) (last : Option Int) : Nat := (all.filter (fun x => decide (gtl last x.1))).length
theorem leftN_lt {all : List Wr} {last : Option Int} {i b : Nat} {w : Wr} (B : Best1 all last i b w) : leftN all (some w.1) < leftN all last := by
  have hw : w ∈ all := List.mem_of_getElem? B.at'
  have hsub : ∀ x : Wr, gtl (some w.1) x.1 → gtl last x.1 := by
    intro x hx
    have h1 : w.1 < x.1 := hx
    have := B.gt
    cases last with
    | none => trivial
    | some y => have : y < w.1 := this; show y < x.1; omega
  have gen : ∀ (l : List Wr), (l.filter (fun x => decide (gtl (some w.1) x.1))).length ≤ (l.filter (fun x => decide (gtl last x.1))).length ∧ (w ∈ l → (l.filter (fun x => decide (gtl (some w.1) x.1))).length < (l.filter (fun x => decide (gtl last x.1))).length) := by
    intro l
    induction l with
    | nil => exact ⟨Nat.le_refl _, fun h => by cases h⟩
    | cons x l ih =>
      simp only [List.filter_cons]
      by_cases h1 : gtl (some w.1) x.1
      · have h2 := hsub x h1
        rw [decide_eq_true h1, decide_eq_true h2]
        simp only [if_true, List.length_cons]
        refine ⟨Nat.succ_le_succ ih.1, fun h => Nat.succ_lt_succ (ih.2 ((List.mem_cons.1 h).resolve_left (fun e => ?_)))⟩
        subst e
        exact absurd (show w.1 < w.1 from h1) (Int.lt_irrefl _)
      · rw [decide_eq_false h1]
        simp only [Bool.false_eq_true, if_false]
        by_cases h2 : gtl last x.1
        · rw [decide_eq_true h2]
          simp only [if_true, List.length_cons]
          exact ⟨Nat.le_succ_of_le ih.1, fun _ => Nat.lt_succ_of_le ih.1⟩
        · rw [decide_eq_false h2]
          simp only [Bool.false_eq_true, if_false]
          refine ⟨ih.1, fun h => ih.2 ((List.mem_cons.1 h).resolve_left (fun e => ?_))⟩
          subst e; exact h2 B.gt
  exact (gen all).2 hw
theorem nodup_le : ∀ {l m : List Int}, l.Nodup → (∀ k ∈ l, k ∈ m) → l.length ≤ m.length
  | [], _, _, _ => Nat.zero_le _
  | x :: l, m, hn, hs => by
    obtain ⟨h1, h2⟩ := List.nodup_cons.1 hn
    have hx := hs x (by simp)
    have := nodup_le (l := l) (m := m.erase x) h2 (fun k hk => (List.mem_erase_of_ne (fun e => h1 (by rw [← e]; exact hk))).2 (hs k (by simp [hk])))
    rw [List.length_erase_of_mem hx] at this
    have := List.length_pos_of_mem hx
    simp only [List.length_cons]; omega
theorem OutOk.len {all out : List Wr} (h : OutOk all out) : out.length ≤ all.length := by
  have hk : (out.map Prod.fst).Nodup := by
    have := h.sorted
    rw [Sorted, List.pairwise_map] at this
    rw [List.Nodup, List.pairwise_map]
    refine this.imp fun {a b} hab => ?_
    intro e
    have h2 : Key.lt a.1 b.1 = true := hab
    have h3 : a.1 < b.1 := of_decide_eq_true h2
    omega
  have hs : ∀ k ∈ out.map Prod.fst, k ∈ all.map Prod.fst := by
    intro k hk
    obtain ⟨x, hx, rfl⟩ := List.mem_map.1 hk
    obtain ⟨y, hy, e⟩ := lastOf_mem (h.mem x hx)
    exact List.mem_map.2 ⟨y, hy, e⟩
  have := nodup_le hk hs
  simpa using this
end Brv
/-
  The walks of package order.
-/
set_option linter.unusedVariables false
set_option linter.unusedSimpArgs false
set_option maxRecDepth 4000
namespace Go.Proofs.Ytiiiplhfgblamaa
open Go Brv
theorem nanI_ok (x : Int) (w : World) : Meets Try.prog 127 [.int .i64 x] w (fun v w' => v = .bool false ∧ w' = w) := by
  refine Meets.enter Try.func127 rfl 6 rfl (Nat.le_of_ble_eq_true rfl) ?_
  refine G.seq ?_
  refine G.region ?_
  refine L.val rfl rfl (R.as rfl) ?_
  refine L.nil ?_
  refine N.seq ?_
  refine G.seq ?_
  refine G.region ?_
  refine L.val rfl rfl (R.mv rfl) ?_
  refine L.val rfl rfl (R.mv rfl) ?_
  refine L.val rfl rfl (R.neI rfl rfl) ?_
  refine L.val rfl rfl (R.as rfl) ?_
  refine L.nil ?_
  refine N.seq ?_
  refine G.ret1 rfl rfl ?_
  exact ⟨congrArg Value.bool (by simp), rfl⟩

theorem cmpI_ok (x y : Int) (w : World) : Meets Try.prog 114 [.int .i64 x, .int .i64 y] w (fun v w' => v = .int .i64 (cmpF x y) ∧ w' = w) := by
  refine Meets.enter Try.func114 rfl 20 rfl (Nat.le_of_ble_eq_true rfl) ?_
  refine G.seq ?_
  refine G.region ?_
  refine L.val rfl rfl (R.as rfl) ?_
  refine L.nil ?_
  refine N.seq ?_
  refine G.seq ?_
  refine G.region ?_
  refine L.val rfl rfl (R.mv rfl) ?_
  refine L.callF rfl rfl rfl go127 (nanI_ok _ _) ?_
  rintro _ _ ⟨rfl, hw⟩
  obtain rfl := hw.symm
  refine L.val rfl rfl (R.as rfl) ?_
  refine L.nil ?_
  refine N.seq ?_
  refine G.seq ?_
  refine G.region ?_
  refine L.val rfl rfl (R.mv rfl) ?_
  refine L.callF rfl rfl rfl go127 (nanI_ok _ _) ?_
  rintro _ _ ⟨rfl, hw⟩
  obtain rfl := hw.symm
  refine L.val rfl rfl (R.as rfl) ?_
  refine L.nil ?_
  refine N.seq ?_
  refine G.seq ?_
  refine G.seq ?_
  refine G.region ?_
  refine L.val rfl rfl (R.mv rfl) ?_
  refine L.nil ?_
  refine N.seq ?_
  refine G.condF rfl ?_
  refine G.skip ?_
  refine N.seq ?_
  refine G.seq ?_
  refine G.seq ?_
  refine G.region ?_
  refine L.val rfl rfl (R.mv rfl) ?_
  refine L.nil ?_
  refine N.seq ?_
  refine G.condF rfl ?_
  refine G.skip ?_
  refine N.seq ?_
  refine G.seq ?_
  refine G.seq ?_
  refine G.region ?_
  refine L.val rfl rfl (R.mv rfl) ?_
  refine L.val rfl rfl (R.mv rfl) ?_
  refine L.val rfl rfl (R.lss rfl rfl) ?_
  refine L.nil ?_
  refine N.seq ?_
  refine G.condB rfl (fun h3 => ?_) (fun h3 => ?_)
  · refine G.seq ?_
    refine G.region ?_
    refine L.val rfl rfl (R.as rfl) ?_
    refine L.nil ?_
    refine N.seq ?_
    refine G.ret1 rfl rfl ?_
    first
      | exact ⟨congrArg (Value.int .i64) (cmpF_lt (show Key.lt x y = true from h3)).symm, rfl⟩
      | exact ⟨congrArg (Value.int .i64) (cmpF_gt (show Key.lt x y = false from h3) (show Key.lt y x = true from h4)).symm, rfl⟩
      | exact ⟨congrArg (Value.int .i64) (cmpF_eq (show Key.lt x y = false from h3) (show Key.lt y x = false from h4)).symm, rfl⟩
  · refine G.skip ?_
    refine N.seq ?_
    refine G.seq ?_
    refine G.seq ?_
    refine G.region ?_
    refine L.val rfl rfl (R.mv rfl) ?_
    refine L.val rfl rfl (R.mv rfl) ?_
    refine L.val rfl rfl (R.gtr rfl rfl) ?_
    refine L.nil ?_
    refine N.seq ?_
    refine G.condB rfl (fun h4 => ?_) (fun h4 => ?_)
    · refine G.seq ?_
      refine G.region ?_
      refine L.val rfl rfl (R.as rfl) ?_
      refine L.nil ?_
      refine N.seq ?_
      refine G.ret1 rfl rfl ?_
      first
        | exact ⟨congrArg (Value.int .i64) (cmpF_lt (show Key.lt x y = true from h3)).symm, rfl⟩
        | exact ⟨congrArg (Value.int .i64) (cmpF_gt (show Key.lt x y = false from h3) (show Key.lt y x = true from h4)).symm, rfl⟩
        | exact ⟨congrArg (Value.int .i64) (cmpF_eq (show Key.lt x y = false from h3) (show Key.lt y x = false from h4)).symm, rfl⟩
    · refine G.skip ?_
      refine N.seq ?_
      refine G.seq ?_
      refine G.region ?_
      refine L.val rfl rfl (R.as rfl) ?_
      refine L.nil ?_
      refine N.seq ?_
      refine G.ret1 rfl rfl ?_
      first
        | exact ⟨congrArg (Value.int .i64) (cmpF_lt (show Key.lt x y = true from h3)).symm, rfl⟩
        | exact ⟨congrArg (Value.int .i64) (cmpF_gt (show Key.lt x y = false from h3) (show Key.lt y x = true from h4)).symm, rfl⟩
        | exact ⟨congrArg (Value.int .i64) (cmpF_eq (show Key.lt x y = false from h3) (show Key.lt y x = false from h4)).symm, rfl⟩

end Go.Proofs.Ytiiiplhfgblamaa
/-
  The walks of package order.
-/
set_option linter.unusedVariables false
set_option linter.unusedSimpArgs false
set_option maxRecDepth 4000
namespace Go.Proofs.Ytiiiplhfgblamaa
open Go Brv
theorem find1B_ok (p : Pr (Int)) (k : Int) (w : World) : Meets Try.prog 113 [.agg (pcell p).toArray, .int .i64 k] w (fun v w' => v = .int .i64 (cmpF p.1 k) ∧ Ext [] w w') := by
  refine Meets.enter Try.func113 rfl 9 rfl (Nat.le_of_ble_eq_true rfl) ?_
  have E := Ext.refl [] w
  refine G.seq ?_
  refine G.region ?_
  refine L.do rfl rfl (R.box rfl) ?_
  rintro _ w1 ⟨b2, rfl, hb2, hs2, e1, B2⟩
  replace B2 : Blk w1 b2 (pcell p).toArray 165 (0, 0) := B2
  replace E := E.trans0 e1
  refine L.val rfl rfl (R.as rfl) ?_
  refine L.nil ?_
  refine N.seq ?_
  refine G.seq ?_
  refine G.region ?_
  refine L.val rfl rfl (R.fld rfl) ?_
  refine L.val rfl rfl (R.ldB (v := .int .i64 p.1) rfl B2 rfl) ?_
  refine L.val rfl rfl (R.mv rfl) ?_
  refine L.callF rfl rfl rfl go114 (cmpI_ok _ _ _) ?_
  rintro _ _ ⟨rfl, hw⟩
  obtain rfl := hw.symm
  refine L.val rfl rfl (R.as rfl) ?_
  refine L.nil ?_
  refine N.seq ?_
  refine G.ret1 rfl rfl ?_
  exact ⟨rfl, E⟩

theorem bsB_ok (a : Option Addr) (n c : Nat) (ps : List (Pr (Int))) (k : Int) (w : World) (hc : Cells w a (pcells ps)) (hn : n = ps.length) (hok : OkP 1 ps) (hs : Sorted ps) (hnl : n ≤ 1000000) : Meets Try.prog 112 [.slice a n c, .int .i64 k, .func (.func 113) #[] #[]] w (fun v w' => v = .tuple #[.int .i64 (low ps k : Int), .bool (hasK ps k)] ∧ Ext [] w w') := by
  refine Meets.enter Try.func112 rfl 49 rfl (Nat.le_of_ble_eq_true rfl) ?_
  have E := Ext.refl [] w
  have hT := Tab.pairs hc hn hok
  have hlo := low_le ps k
  refine G.seq ?_
  refine G.region ?_
  refine L.val rfl rfl (R.as rfl) ?_
  refine L.val rfl rfl (R.as rfl) ?_
  refine L.nil ?_
  refine N.seq ?_
  refine G.seq ?_
  refine G.region ?_
  refine L.val rfl rfl (R.mv rfl) ?_
  refine L.val rfl rfl (R.lenS rfl) ?_
  refine L.val rfl rfl (R.as rfl) ?_
  refine L.nil ?_
  refine N.seq ?_
  refine G.seq ?_
  refine G.region ?_
  refine L.val rfl rfl (R.mv rfl) ?_
  refine L.val rfl rfl (R.as rfl) ?_
  refine L.val rfl rfl (R.as rfl) ?_
  refine L.nil ?_
  refine N.seq ?_
  refine G.seq ?_
  refine G.block ?_
  refine G.loop (X := Nat × Nat) (fun s => [(0, .slice a n c), (1, .int .i64 k), (2, .func (.func 113) #[] #[]), (8, .int .i64 (n : Int)), (9, .int .i64 (s.1 : Int)), (10, .int .i64 (s.2 : Int))]) (fun s w' => s.1 ≤ s.2 ∧ s.2 ≤ n ∧ s.1 ≤ low ps k ∧ low ps k ≤ s.2 ∧ Ext [] w w') (fun s => s.2 - s.1) ((0, n)) (Sub.cons rfl (Sub.cons rfl (Sub.cons rfl (Sub.cons rfl (Sub.cons rfl (Sub.cons rfl (Sub.nil _))))))) ⟨Nat.zero_le _, Nat.le_refl _, Nat.zero_le _, by show low ps k ≤ n; omega, E⟩ ?_
  rintro ⟨i, j⟩ w1 ⟨hi1, hi2, hi3, hi4, E⟩
  dsimp only at hi1 hi2 hi3 hi4
  refine G.sub [(0, .slice a n c), (1, .int .i64 k), (2, .func (.func 113) #[] #[]), (8, .int .i64 (n : Int)), (9, .int .i64 (i : Int)), (10, .int .i64 (j : Int))] (Sub.cons rfl (Sub.cons rfl (Sub.cons rfl (Sub.cons rfl (Sub.cons rfl (Sub.cons rfl (Sub.nil _))))))) ?_
  refine G.seq ?_
  refine G.seq ?_
  refine G.region ?_
  refine L.val rfl rfl (R.mv rfl) ?_
  refine L.val rfl rfl (R.mv rfl) ?_
  refine L.val rfl rfl (R.lss rfl rfl) ?_
  refine L.nil ?_
  refine N.seq ?_
  refine G.condP rfl (fun h0 => ?_) (fun h0 => ?_)
  · have hij : i < j := by omega
    obtain ⟨hm, hhm⟩ : ∃ hm, hm = (i + j) / 2 := ⟨_, rfl⟩
    have hm1 : i ≤ hm := by omega
    have hm2 : hm < j := by omega
    refine G.skip ?_
    refine N.seq ?_
    refine G.block ?_
    refine G.seq ?_
    refine G.region ?_
    refine L.val rfl rfl (R.mv rfl) ?_
    refine L.val rfl rfl (R.mv rfl) ?_
    refine L.val rfl rfl (R.add rfl rfl (by omega)) ?_
    refine L.val rfl rfl (R.conv rfl ((i + j : Nat) : Int) (by rw [wrap_u64 (by omega)]; omega)) ?_
    refine L.val rfl rfl (R.shrW rfl rfl (by decide) (hm : Int) (by rw [shr1]; omega)) ?_
    refine L.val rfl rfl (R.conv rfl (hm : Int) (wrap_i64 (by omega))) ?_
    refine L.val rfl rfl (R.as rfl) ?_
    refine L.nil ?_
    refine N.seq ?_
    refine G.seq ?_
    refine G.region ?_
    refine L.val rfl rfl (R.mv rfl) ?_
    refine L.val rfl rfl (R.mv rfl) ?_
    refine L.val rfl rfl (R.mv rfl) ?_
    obtain ⟨p1, hp1⟩ : ∃ p, ps[hm]? = some p := ⟨_, List.getElem?_eq_getElem (by omega)⟩
    obtain ⟨qp1, hqp1, hclp1⟩ := hT.at (by decide) hm (by rw [List.length_map]; omega)
    have hep1 : (ps.map pcell)[hm]'(by rw [List.length_map]; omega) = pcell p1 := by rw [List.getElem_map]; exact congrArg pcell (List.getElem?_eq_some_iff.1 hp1).2
    rw [hep1] at hclp1
    have hszp1 : (pcell p1).length = 2 := by show p1.2.length + 1 = _; rw [(hok p1 (List.mem_of_getElem? hp1)).1]
    refine L.val rfl rfl (R.idx rfl rfl (by omega) (by omega) qp1 hqp1) ?_
    refine L.val rfl rfl (R.ldN (vs := pcell p1) rfl (hclp1.ext0 E) hszp1) ?_
    refine L.val rfl rfl (R.mv rfl) ?_
    refine L.callV rfl rfl rfl rfl rfl go113 (find1B_ok p1 k _) ?_
    rintro _ w2 ⟨rfl, e2⟩
    replace E := E.trans0 e2
    refine L.val rfl rfl (R.lss rfl rfl) ?_
    refine L.nil ?_
    refine N.seq ?_
    refine G.condP rfl (fun h1 => ?_) (fun h1 => ?_)
    · have hcmp : cmpF p1.1 k < 0 := h1
      refine G.region ?_
      refine L.val rfl rfl (R.mv rfl) ?_
      refine L.val rfl rfl (R.add rfl rfl (by omega)) ?_
      refine L.val rfl rfl (R.as rfl) ?_
      refine L.nil ?_
      refine N.block ?_
      first
        | exact N.again (hm + 1, j) (by show j - (hm + 1) < j - i; omega) (Sub.cons rfl (Sub.cons rfl (Sub.cons rfl (Sub.cons rfl (Sub.cons rfl (Sub.cons rfl (Sub.nil _))))))) ⟨by show hm + 1 ≤ j; omega, hi2, by show hm + 1 ≤ low ps k; have := (lt_low hs hp1).1 hcmp; omega, hi4, E⟩
        | exact N.again (i, hm) (by show hm - i < j - i; omega) (Sub.cons rfl (Sub.cons rfl (Sub.cons rfl (Sub.cons rfl (Sub.cons rfl (Sub.cons rfl (Sub.nil _))))))) ⟨by show i ≤ hm; omega, by show hm ≤ n; omega, hi3, by show low ps k ≤ hm; have : ¬ hm < low ps k := fun h9 => hcmp ((lt_low hs hp1).2 h9); omega, E⟩
    · have hcmp : ¬ cmpF p1.1 k < 0 := h1
      refine G.region ?_
      refine L.val rfl rfl (R.mv rfl) ?_
      refine L.val rfl rfl (R.as rfl) ?_
      refine L.nil ?_
      refine N.block ?_
      first
        | exact N.again (hm + 1, j) (by show j - (hm + 1) < j - i; omega) (Sub.cons rfl (Sub.cons rfl (Sub.cons rfl (Sub.cons rfl (Sub.cons rfl (Sub.cons rfl (Sub.nil _))))))) ⟨by show hm + 1 ≤ j; omega, hi2, by show hm + 1 ≤ low ps k; have := (lt_low hs hp1).1 hcmp; omega, hi4, E⟩
        | exact N.again (i, hm) (by show hm - i < j - i; omega) (Sub.cons rfl (Sub.cons rfl (Sub.cons rfl (Sub.cons rfl (Sub.cons rfl (Sub.cons rfl (Sub.nil _))))))) ⟨by show i ≤ hm; omega, by show hm ≤ n; omega, hi3, by show low ps k ≤ hm; have : ¬ hm < low ps k := fun h9 => hcmp ((lt_low hs hp1).2 h9); omega, E⟩
  · have hij : i = low ps k := by omega
    refine G.exit _ rfl ?_
    refine N.seq ?_
    refine G.seq ?_
    refine G.region ?_
    refine L.val rfl rfl (R.mv rfl) ?_
    refine L.val rfl rfl (R.mv rfl) ?_
    refine L.val rfl rfl (R.mv rfl) ?_
    refine L.val rfl rfl (R.lss rfl rfl) ?_
    refine L.val rfl rfl (R.mv rfl) ?_
    refine L.caseP 39 rfl (fun hg8_4 => ?_) (fun hg8_4 => ?_)
    · refine L.val rfl rfl (R.mv rfl) ?_
      refine L.val rfl rfl (R.mv rfl) ?_
      refine L.val rfl rfl (R.mv rfl) ?_
      obtain ⟨p2, hp2⟩ : ∃ p, ps[i]? = some p := ⟨_, List.getElem?_eq_getElem (by omega)⟩
      obtain ⟨qp2, hqp2, hclp2⟩ := hT.at (by decide) i (by rw [List.length_map]; omega)
      have hep2 : (ps.map pcell)[i]'(by rw [List.length_map]; omega) = pcell p2 := by rw [List.getElem_map]; exact congrArg pcell (List.getElem?_eq_some_iff.1 hp2).2
      rw [hep2] at hclp2
      have hszp2 : (pcell p2).length = 2 := by show p2.2.length + 1 = _; rw [(hok p2 (List.mem_of_getElem? hp2)).1]
      refine L.val rfl rfl (R.idx rfl rfl (by omega) (by omega) qp2 hqp2) ?_
      refine L.val rfl rfl (R.ldN (vs := pcell p2) rfl (hclp2.ext0 E) hszp2) ?_
      refine L.val rfl rfl (R.mv rfl) ?_
      refine L.callV rfl rfl rfl rfl rfl go113 (find1B_ok p2 k _) ?_
      rintro _ w3 ⟨rfl, e3⟩
      replace E := E.trans0 e3
      refine L.val rfl rfl (R.eqI rfl rfl) ?_
      first | refine L.val rfl rfl (R.pickT rfl rfl) ?_ | refine L.val rfl rfl (R.pickF rfl rfl) ?_
      refine L.val rfl rfl (R.as rfl) ?_
      refine L.val rfl rfl (R.as rfl) ?_
      refine L.nil ?_
      refine N.seq ?_
      refine G.ret2 rfl rfl rfl ?_
      first
        | exact ⟨by rw [hfound, ← hij], E⟩
        | exact ⟨by rw [hasK_at hs (by rw [← hij]; exact hp2), ← hij], E⟩
    · have hfound : hasK ps k = false := hasK_end (by omega)
      refine L.pass rfl rfl ?_
      refine L.pass rfl rfl ?_
      refine L.pass rfl rfl ?_
      refine L.pass rfl rfl ?_
      refine L.pass rfl rfl ?_
      refine L.pass rfl rfl ?_
      refine L.pass rfl rfl ?_
      refine L.pass rfl rfl ?_
      first | refine L.val rfl rfl (R.pickT rfl rfl) ?_ | refine L.val rfl rfl (R.pickF rfl rfl) ?_
      refine L.val rfl rfl (R.as rfl) ?_
      refine L.val rfl rfl (R.as rfl) ?_
      refine L.nil ?_
      refine N.seq ?_
      refine G.ret2 rfl rfl rfl ?_
      first
        | exact ⟨by rw [hfound, ← hij], E⟩
        | exact ⟨by rw [hasK_at hs (by rw [← hij]; exact hp2), ← hij], E⟩

theorem findB_ok (m : Nat) (ps : List (Pr (Int))) (S : List Nat) (k : Int) (w : World) (hd : MapAt (κ := Int) 161 165 1 w m ps S) (hl : ps.length ≤ 100000) : Meets Try.prog 96 [.pointer (some ⟨m, 0, none⟩), .int .i64 k] w (fun v w' => v = .tuple #[.int .i64 (low ps k : Int), .bool (hasK ps k)] ∧ Ext [] w w') := by
  refine Meets.enter Try.func96 rfl 14 rfl (Nat.le_of_ble_eq_true rfl) ?_
  have E := Ext.refl [] w
  obtain ⟨a, c, M, rfl, hm0, Bm, om, hok, hs⟩ := hd
  refine G.seq ?_
  refine G.region ?_
  refine L.val rfl rfl (R.as rfl) ?_
  refine L.val rfl rfl (R.as rfl) ?_
  refine L.nil ?_
  refine N.seq ?_
  refine G.seq ?_
  refine G.region ?_
  refine L.val rfl rfl (R.mv rfl) ?_
  refine L.val rfl rfl (R.nilChk rfl) ?_
  refine L.val rfl rfl (R.fld rfl) ?_
  refine L.val rfl rfl (R.ldB rfl Bm rfl) ?_
  refine L.val rfl rfl (R.mv rfl) ?_
  refine L.callF rfl rfl rfl go112 (bsB_ok _ _ _ ps k _ om.cells rfl hok hs (by omega)) ?_
  rintro _ w1 ⟨rfl, e1⟩
  replace E := E.trans0 e1
  refine L.val rfl rfl (R.ext rfl rfl) ?_
  refine L.val rfl rfl (R.ext rfl rfl) ?_
  refine L.val rfl rfl (R.as rfl) ?_
  refine L.val rfl rfl (R.as rfl) ?_
  refine L.nil ?_
  refine N.seq ?_
  refine G.ret2 rfl rfl rfl ?_
  exact ⟨rfl, E⟩

theorem insB_ok (a : Option Addr) (n c : Nat) (ps : List (Pr (Int))) (M : List Nat) (i : Nat) (p : Pr (Int)) (vb : Nat) (w : World) (ho : Own w 165 (1 + 1) a n c (pcells ps) M) (hn : n = ps.length) (hok : OkP 1 ps) (hi : i ≤ n) (hp : p.2.length = 1 ∧ ∀ u ∈ p.2, u.oneCell' = true) (Bv : Blk w vb (pcell p).toArray 165 (0, 0)) (hvM : vb ∉ M) (hnl : n ≤ 100000) : Meets Try.prog 97 [.slice a n c, .int .i64 (i : Int), .slice (some ⟨vb, 0, none⟩) 1 1] w (fun v w' => ∃ a' c' M', v = .slice a' (n + 1) c' ∧ Ext M w w' ∧ (∀ g ∈ M', g ∈ M ∨ w.heap.size ≤ g) ∧ Own w' 165 (1 + 1) a' (n + 1) c' (pcells (ps.take i ++ p :: ps.drop i)) M') := by
  refine Meets.enter Try.func97 rfl 95 rfl (Nat.le_of_ble_eq_true rfl) ?_
  have hl2 : (pcell p).length = 2 := by show p.2.length + 1 = _; rw [hp.1]
  have hp1 : ∀ u ∈ pcell p, u.oneCell' = true := pcell1 hp.2
  have hoc := ho.le
  have hps := (pcells_take (sv := 1) hok.len i (by omega))
  rw [show 1 + 1 = 2 from rfl] at hps
  have hcd : (pcells (ps.drop i)).length = (n - i) * 2 := by rw [pcells_len (sv := 1) (fun q hq => (hok q (List.mem_of_mem_drop hq)).1), List.length_drop, hn]
  have hci : (pcells (ps.take i)).length = i * 2 := by rw [pcells_len (sv := 1) (fun q hq => (hok q (List.mem_of_mem_take hq)).1), List.length_take, Nat.min_eq_left (by omega)]
  have hone := pcell_one hok
  have hone2 : ∀ u ∈ pcells (ps.drop i), u.oneCell' = true := fun u hu => hone u (by have h9 := hps.2; rw [← h9] at hu; exact List.mem_of_mem_drop hu)
  have Cv : Cells w (some ⟨vb, 0, none⟩) (pcell p) := Cells.of_blk Bv 0 _ (fun j v hj => by simpa using hj)
  refine G.seq ?_
  refine G.region ?_
  refine L.val rfl rfl (R.as rfl) ?_
  refine L.nil ?_
  refine N.seq ?_
  refine G.seq ?_
  refine G.region ?_
  refine L.val rfl rfl (R.mv rfl) ?_
  refine L.val rfl rfl (R.mv rfl) ?_
  refine L.val rfl rfl (R.slL rfl rfl (by omega) (by omega)) ?_
  refine L.nil ?_
  refine N.seq ?_
  refine G.seq ?_
  refine G.region ?_
  refine L.val rfl rfl (R.mv rfl) ?_
  refine L.val rfl rfl (R.lenS rfl) ?_
  refine L.val rfl rfl (R.as rfl) ?_
  refine L.nil ?_
  refine N.seq ?_
  refine G.seq ?_
  refine G.seq ?_
  refine G.region ?_
  refine L.val rfl rfl (R.mv rfl) ?_
  refine L.val rfl rfl (R.eqI rfl rfl) ?_
  refine L.nil ?_
  refine N.seq ?_
  refine G.condP rfl (fun h0 => ?_) (fun h0 => ?_)
  · exfalso; omega
  · refine G.skip ?_
    refine N.seq ?_
    refine G.seq ?_
    refine G.region ?_
    refine L.val rfl rfl (R.mv rfl) ?_
    refine L.val rfl rfl (R.lenS rfl) ?_
    refine L.val rfl rfl (R.as rfl) ?_
    refine L.nil ?_
    refine N.seq ?_
    refine G.seq ?_
    refine G.seq ?_
    refine G.region ?_
    refine L.val rfl rfl (R.mv rfl) ?_
    refine L.val rfl rfl (R.mv rfl) ?_
    refine L.val rfl rfl (R.eqI rfl rfl) ?_
    refine L.nil ?_
    refine N.seq ?_
    refine G.condP rfl (fun h1 => ?_) (fun h1 => ?_)
    · obtain rfl : i = n := by omega
      refine G.seq ?_
      refine G.region ?_
      refine L.val rfl rfl (R.mv rfl) ?_
      refine L.val rfl rfl (R.mv rfl) ?_
      refine L.do rfl rfl (R.app rfl rfl ho Cv (by rw [hl2]) hp1 (by simp [maxLen]; omega) (by omega)) ?_
      rintro _ w1 ⟨a1, c1, M1, rfl, e1, hM1, o1⟩
      refine L.val rfl rfl (R.as rfl) ?_
      refine L.nil ?_
      refine N.seq ?_
      refine G.ret1 rfl rfl ?_
      first
        | (have e9 : pcells ps ++ pcell p = pcells (ps.take i ++ p :: ps.drop i) := by rw [← pcells_ins, List.take_of_length_le (by omega), List.drop_of_length_le (by omega)]; simp [pcells]
           rw [e9] at o1; exact ⟨a1, c1, M1, rfl, e1, hM1, o1⟩)
        | (refine ⟨_, c1, [g1], rfl, n3.mono (by simp), fun x hx => .inr (by rw [List.mem_singleton.1 hx]; exact hg1), ?_⟩
           have hfin := hog.1; rw [pcells_ins, ← Nat.add_one_mul, ← Nat.add_mul, show i + 1 + (n - i) = n + 1 by omega] at hfin
           refine ⟨by rw [pcells_len (sv := 1) (fun q hq => (okIns hok hp q hq).1), List.length_append, List.length_cons, List.length_take, List.length_drop]; congr 1; omega, .inr ⟨g1, _, rfl, rfl, B3, by omega, hx1, ?_, hfin⟩⟩
           rw [← Nat.add_one_mul] at hog; rw [hog.2.2]; exact hz1)
        | (refine ⟨_, c, [g0], rfl, hE5, fun x hx => .inl hx, ?_⟩
           have hfin := hoi.1; rw [pcells_ins, ← Nat.add_one_mul] at hfin
           refine ⟨by rw [pcells_len (sv := 1) (fun q hq => (okIns hok hp q hq).1), List.length_append, List.length_cons, List.length_take, List.length_drop]; congr 1; omega, .inr ⟨g0, _, rfl, rfl, B5, by omega, hx0, ?_, hfin⟩⟩
           rw [hoi.2.2]; exact hz0)
    · have hin : i < n := by omega
      refine G.skip ?_
      refine N.seq ?_
      refine G.seq ?_
      refine G.seq ?_
      refine G.region ?_
      refine L.val rfl rfl (R.mv rfl) ?_
      refine L.val rfl rfl (R.mv rfl) ?_
      refine L.val rfl rfl (R.add rfl rfl (by omega)) ?_
      refine L.val rfl rfl (R.mv rfl) ?_
      refine L.val rfl rfl (R.capS rfl) ?_
      refine L.val rfl rfl (R.gtr rfl rfl) ?_
      refine L.nil ?_
      refine N.seq ?_
      refine G.condP rfl (fun h2 => ?_) (fun h2 => ?_)
      · have hgc : c < n + 1 := by omega
        refine G.seq ?_
        refine G.region ?_
        refine L.val rfl rfl (R.mv rfl) ?_
        refine L.val rfl rfl (R.mv rfl) ?_
        refine L.val rfl rfl (R.slH rfl rfl (by omega) (by omega)) ?_
        refine L.be 34 rfl (show _ = Value.slice a i c by rw [subA_zero, Int.toNat_natCast]) ?_
        refine L.val rfl rfl (R.mv rfl) ?_
        refine L.val rfl rfl (R.mv rfl) ?_
        refine L.val rfl rfl (R.add rfl rfl (by omega)) ?_
        refine L.val rfl rfl (R.mv rfl) ?_
        refine L.val rfl rfl (R.sub' rfl rfl (by omega)) ?_
        refine L.be 39 rfl (show _ = Value.int .i64 ((n + 1 - i : Nat) : Int) by congr 1; omega) ?_
        refine L.do rfl rfl (R.appZN (m := n + 1 - i) rfl rfl (ho.pre (i := i) (by omega)) (by intro u hu; simp [Value.cells] at hu; first | (rcases hu with rfl | rfl <;> rfl) | (rcases hu with rfl | rfl | rfl <;> rfl) | (rcases hu with rfl | rfl | rfl | rfl <;> rfl) | (rcases hu with rfl | rfl | rfl | rfl | rfl <;> rfl)) (by simp [maxLen]; omega) (by omega) (by decide) (by decide) (by omega)) ?_
        rintro _ w1 ⟨a1, c1, M1, rfl, e1, o1, hM1⟩
        rw [show i + (n + 1 - i) = n + 1 by omega] at o1 ⊢
        obtain ⟨g1, cur1, rfl, rfl, B1, hc1, hx1, hz1, ht1⟩ := o1.some (by omega)
        have hg1 := hM1 g1 (by simp)
        have hcu : (cur1.toList.take (i * 2)) = pcells (ps.take i) := by
          have h9 := congrArg (List.take (i * 2)) ht1
          rw [List.take_take, Nat.min_eq_left (Nat.mul_le_mul_right _ (by omega))] at h9
          refine h9.trans ?_
          show List.take (i * 2) (List.take (i * 2) (pcells ps) ++ _) = _
          rw [List.take_append_of_le_length (by rw [hps.1, hci]; exact Nat.le_refl _), List.take_take, Nat.min_self]
          exact hps.1
        have hzz : (n + 1) * 2 ≤ cur1.size := Nat.le_trans (Nat.mul_le_mul_right _ hc1) hz1
        have hog := over_grow (c1 := pcell p) (c2 := pcells (ps.drop i)) (s := 2) (K := (n - i) * 2) hcu (by omega) hl2 hcd (by omega)
        refine L.val rfl rfl (R.as rfl) ?_
        refine L.nil ?_
        refine N.seq ?_
        refine G.seq ?_
        refine G.region ?_
        refine L.val rfl rfl (R.mv rfl) ?_
        refine L.val rfl rfl (R.mv rfl) ?_
        refine L.val rfl rfl (R.slL rfl rfl (by omega) (by omega)) ?_
        refine L.be 43 rfl (show _ = Value.slice (some ⟨g1, i * 2, none⟩) (n + 1 - i) (c1 - i) by rw [Int.toNat_natCast, subA_lit (by omega), Nat.zero_add]) ?_
        refine L.val rfl rfl (R.mv rfl) ?_
        refine L.do rfl rfl (R.copyN (m := 1) rfl rfl B1 (Cv.ext0 e1) (Nat.min_eq_left (by omega)) (by rw [hl2]) (by rw [hl2]; omega) hp1) ?_
        rintro _ w2 ⟨rfl, P2⟩
        obtain ⟨e2, hs2, B2⟩ := P2
        have n2 := e1.news2 e2 hg1
        have Cd : Cells w2 (subA a i c 2) (pcells (ps.drop i)) := by
          have h9 := (ho.cells.ext0 n2).sub i c 2 ((n - i) * 2) (by rw [ho.1, show 1 + 1 = 2 from rfl, ← Nat.add_mul]; exact Nat.mul_le_mul_right _ (by omega)) (by omega)
          rw [hps.2, List.take_of_length_le (by omega)] at h9
          exact h9
        refine L.nil ?_
        refine N.seq ?_
        refine G.seq ?_
        refine G.staged [8] [.blocks ([g1])] [fun w' => Ext [] w2 w', fun w' => Ext [g1] w2 w' ∧ Blk w' g1 (Over (Over cur1 (i * 2) (pcell p)) ((i + 1) * 2) (pcells (ps.drop i))) 165 (0, 0)] [] (by decide +kernel) (by decide +kernel) rfl rfl rfl (fun _ h => h) ?_
        refine Z.val rfl rfl rfl rfl rfl (fun w3 => R.mv rfl) ?_
        refine Z.val rfl rfl rfl rfl rfl (fun w3 => R.mv rfl) ?_
        refine Z.val rfl rfl rfl rfl rfl (fun w3 => R.mv rfl) ?_
        refine Z.val rfl rfl rfl rfl rfl (fun w3 => R.add rfl rfl (by omega)) ?_
        refine Z.val rfl rfl rfl rfl rfl (fun w3 => R.slL rfl rfl (by omega) (by omega)) ?_
        refine Z.be 50 rfl (show _ = Value.slice (some ⟨g1, (i + 1) * 2, none⟩) (n - i) (c1 - (i + 1)) by rw [show ((i : Int) + ((1 : Nat) : Int)).toNat = i + 1 by omega, subA_lit (by omega), Nat.zero_add, show n + 1 - (i + 1) = n - i by omega]) ?_
        refine Z.val rfl rfl rfl rfl rfl (fun w3 => R.mv rfl) ?_
        refine Z.val rfl rfl rfl rfl rfl (fun w3 => R.mv rfl) ?_
        refine Z.val rfl rfl rfl rfl rfl (fun w3 => R.slL rfl rfl (by omega) (by omega)) ?_
        refine Z.be 53 rfl (show _ = Value.slice (subA a i c 2) (n - i) (c - i) by rw [Int.toNat_natCast]) ?_
        refine Z.put (A := fun v _ => True) (Lasts.kill (fun _ _ _ _ h => h) (by decide +kernel)) 0 (by decide +kernel) rfl rfl rfl rfl rfl rfl rfl (fun w3 hJ => (R.copyN (m := n - i) rfl rfl (B2.ext0 hJ) (Cd.ext0 hJ) (Nat.min_self _) hcd (by rw [hcd, hog.2.1]; omega) hone2).mono (fun v w9 h => by obtain ⟨_, h1, h2, h3⟩ := h; exact ⟨trivial, h1, h1.after hJ, h3⟩)) ?_
        refine Z.nil rfl rfl (fun w3 hJ => ?_)
        obtain ⟨e3, B3⟩ := hJ
        intro v54 _
        have n3 := n2.news2 e3 hg1
        refine N.seq ?_
        refine G.seq ?_
        refine G.region ?_
        refine L.val rfl rfl (R.mv rfl) ?_
        refine L.val rfl rfl (R.as rfl) ?_
        refine L.nil ?_
        refine N.seq ?_
        refine G.ret1 rfl rfl ?_
        first
          | (have e9 : pcells ps ++ pcell p = pcells (ps.take i ++ p :: ps.drop i) := by rw [← pcells_ins, List.take_of_length_le (by omega), List.drop_of_length_le (by omega)]; simp [pcells]
             rw [e9] at o1; exact ⟨a1, c1, M1, rfl, e1, hM1, o1⟩)
          | (refine ⟨_, c1, [g1], rfl, n3.mono (by simp), fun x hx => .inr (by rw [List.mem_singleton.1 hx]; exact hg1), ?_⟩
             have hfin := hog.1; rw [pcells_ins, ← Nat.add_one_mul, ← Nat.add_mul, show i + 1 + (n - i) = n + 1 by omega] at hfin
             refine ⟨by rw [pcells_len (sv := 1) (fun q hq => (okIns hok hp q hq).1), List.length_append, List.length_cons, List.length_take, List.length_drop]; congr 1; omega, .inr ⟨g1, _, rfl, rfl, B3, by omega, hx1, ?_, hfin⟩⟩
             rw [← Nat.add_one_mul] at hog; rw [hog.2.2]; exact hz1)
          | (refine ⟨_, c, [g0], rfl, hE5, fun x hx => .inl hx, ?_⟩
             have hfin := hoi.1; rw [pcells_ins, ← Nat.add_one_mul] at hfin
             refine ⟨by rw [pcells_len (sv := 1) (fun q hq => (okIns hok hp q hq).1), List.length_append, List.length_cons, List.length_take, List.length_drop]; congr 1; omega, .inr ⟨g0, _, rfl, rfl, B5, by omega, hx0, ?_, hfin⟩⟩
             rw [hoi.2.2]; exact hz0)
      · have hroom : n + 1 ≤ c := by omega
        obtain ⟨g0, cur0, rfl, rfl, B0, hc0, hx0, hz0, ht0⟩ := ho.some (by omega)
        have hzz : (n + 1) * 2 ≤ cur0.size := Nat.le_trans (Nat.mul_le_mul_right _ hroom) hz0
        have hxl : (pcells ps).length = n * 2 := ho.1
        have hoi := over_insert (s := 2) (A := i * 2) (L := n * 2) ht0 hxl (Nat.mul_le_mul_right _ (by omega)) hl2 (by omega)
        rw [hps.1, hps.2] at hoi
        have hro : i * 2 + 2 + (n - i) * 2 ≤ cur0.size := by
          have h9 : (i + 1 + (n - i)) * 2 ≤ cur0.size := by rw [show i + 1 + (n - i) = n + 1 by omega]; exact hzz
          rwa [Nat.add_mul, Nat.add_mul, Nat.one_mul] at h9
        have Cd : Cells w (some ⟨g0, i * 2, none⟩) (pcells (ps.drop i)) := Cells.of_blk B0 (i * 2) (pcells (ps.drop i)) (fun j v hj => by
          rw [← hps.2, ← ht0, List.drop_take, List.getElem?_take] at hj
          split at hj
          · simpa [List.getElem?_drop] using hj
          · cases hj)
        refine G.skip ?_
        refine N.seq ?_
        refine G.seq ?_
        refine G.region ?_
        refine L.val rfl rfl (R.mv rfl) ?_
        refine L.val rfl rfl (R.mv rfl) ?_
        refine L.val rfl rfl (R.mv rfl) ?_
        refine L.val rfl rfl (R.add rfl rfl (by omega)) ?_
        refine L.val rfl rfl (R.slH rfl rfl (by omega) (by omega)) ?_
        refine L.be 60 rfl (show _ = Value.slice (some ⟨g0, 0, none⟩) (n + 1) c by rw [subA_zero, show ((n : Int) + ((1 : Nat) : Int)).toNat = n + 1 by omega]) ?_
        refine L.val rfl rfl (R.as rfl) ?_
        refine L.nil ?_
        refine N.seq ?_
        refine G.seq ?_
        refine G.seq ?_
        refine G.region ?_
        refine L.val rfl rfl (R.mv rfl) ?_
        refine L.val rfl rfl (R.mv rfl) ?_
        refine L.val rfl rfl (R.mv rfl) ?_
        refine L.val rfl rfl (R.mv rfl) ?_
        refine L.val rfl rfl (R.add rfl rfl (by omega)) ?_
        refine L.val rfl rfl (R.slL rfl rfl (by omega) (by omega)) ?_
        refine L.be 66 rfl (show _ = Value.slice (subA (some ⟨g0, 0, none⟩) (i + 1) c 2) (n + 1 - (i + 1)) (c - (i + 1)) by rw [show ((i : Int) + ((1 : Nat) : Int)).toNat = i + 1 by omega]) ?_
        refine L.be 66 rfl (show _ = Value.slice (some ⟨g0, (i + 1) * 2, none⟩) (n - i) (c - (i + 1)) by rw [subA_lit (by omega), Nat.zero_add, show n + 1 - (i + 1) = n - i by omega]) ?_
        refine L.val rfl rfl (R.overlaps (A := (pcell p).toArray) (B := cur0) Try.func115 (by decide) rfl rfl rfl rfl rfl Bv B0 (by simpa using hvM) (by omega)) ?_
        refine L.val rfl rfl (R.not rfl) ?_
        refine L.nil ?_
        refine N.seq ?_
        refine G.condT rfl ?_
        refine G.seq ?_
        refine G.staged [8] [.blocks ([g0])] [fun w' => Ext [] w w', fun w' => Ext [g0] w w' ∧ Blk w' g0 (Over cur0 (i * 2 + 2) (pcells (ps.drop i))) 165 (0, 0)] [] (by decide +kernel) (by decide +kernel) rfl rfl rfl (fun _ h => h) ?_
        refine Z.val rfl rfl rfl rfl rfl (fun w1 => R.mv rfl) ?_
        refine Z.val rfl rfl rfl rfl rfl (fun w1 => R.mv rfl) ?_
        refine Z.val rfl rfl rfl rfl rfl (fun w1 => R.mv rfl) ?_
        refine Z.val rfl rfl rfl rfl rfl (fun w1 => R.add rfl rfl (by omega)) ?_
        refine Z.val rfl rfl rfl rfl rfl (fun w1 => R.slL rfl rfl (by omega) (by omega)) ?_
        refine Z.be 73 rfl (show _ = Value.slice (some ⟨g0, i * 2 + 2, none⟩) (n - i) (c - (i + 1)) by rw [show ((i : Int) + ((1 : Nat) : Int)).toNat = i + 1 by omega, subA_lit (by omega), Nat.zero_add, show n + 1 - (i + 1) = n - i by omega, Nat.add_mul]) ?_
        refine Z.val rfl rfl rfl rfl rfl (fun w1 => R.mv rfl) ?_
        refine Z.val rfl rfl rfl rfl rfl (fun w1 => R.mv rfl) ?_
        refine Z.val rfl rfl rfl rfl rfl (fun w1 => R.slL rfl rfl (by omega) (by omega)) ?_
        refine Z.be 76 rfl (show _ = Value.slice (some ⟨g0, i * 2, none⟩) (n + 1 - i) (c - i) by rw [Int.toNat_natCast, subA_lit (by omega), Nat.zero_add]) ?_
        refine Z.put (A := fun v _ => True) (Lasts.kill (fun _ _ _ _ h => h) (by decide +kernel)) 0 (by decide +kernel) rfl rfl rfl rfl rfl rfl rfl (fun w1 hJ => (R.copyN (m := n - i) rfl rfl (B0.ext0 hJ) (Cd.ext0 hJ) (Nat.min_eq_right (by omega)) hcd (by rw [hcd]; omega) hone2).mono (fun v w9 h => by obtain ⟨_, h1, h2, h3⟩ := h; exact ⟨trivial, h1, h1.after hJ, h3⟩)) ?_
        refine Z.nil rfl rfl (fun w1 hJ => ?_)
        obtain ⟨e3, B3⟩ := hJ
        intro v77 _
        have hvg : vb ≠ g0 := fun h => hvM (by rw [h]; simp)
        refine N.seq ?_
        refine G.seq ?_
        refine G.region ?_
        refine L.val rfl rfl (R.mv rfl) ?_
        refine L.val rfl rfl (R.mv rfl) ?_
        refine L.val rfl rfl (R.slL rfl rfl (by omega) (by omega)) ?_
        refine L.be 80 rfl (show _ = Value.slice (some ⟨g0, i * 2, none⟩) (n + 1 - i) (c - i) by rw [Int.toNat_natCast, subA_lit (by omega), Nat.zero_add]) ?_
        refine L.val rfl rfl (R.mv rfl) ?_
        refine L.do rfl rfl (R.copyN (m := 1) rfl rfl B3 (Cv.ext e3 (by intro q hq; cases hq; simpa using hvg)) (Nat.min_eq_left (by omega)) (by rw [hl2]) (by rw [hl2, hoi.2.1]; omega) hp1) ?_
        rintro _ w5 ⟨rfl, P5⟩
        obtain ⟨e5, hs5, B5⟩ := P5
        have hE5 := e3.transN e5 (fun x hx => .inl hx)
        refine L.nil ?_
        refine N.seq ?_
        refine G.seq ?_
        refine G.region ?_
        refine L.val rfl rfl (R.mv rfl) ?_
        refine L.val rfl rfl (R.as rfl) ?_
        refine L.nil ?_
        refine N.seq ?_
        refine G.ret1 rfl rfl ?_
        first
          | (have e9 : pcells ps ++ pcell p = pcells (ps.take i ++ p :: ps.drop i) := by rw [← pcells_ins, List.take_of_length_le (by omega), List.drop_of_length_le (by omega)]; simp [pcells]
             rw [e9] at o1; exact ⟨a1, c1, M1, rfl, e1, hM1, o1⟩)
          | (refine ⟨_, c1, [g1], rfl, n3.mono (by simp), fun x hx => .inr (by rw [List.mem_singleton.1 hx]; exact hg1), ?_⟩
             have hfin := hog.1; rw [pcells_ins, ← Nat.add_one_mul, ← Nat.add_mul, show i + 1 + (n - i) = n + 1 by omega] at hfin
             refine ⟨by rw [pcells_len (sv := 1) (fun q hq => (okIns hok hp q hq).1), List.length_append, List.length_cons, List.length_take, List.length_drop]; congr 1; omega, .inr ⟨g1, _, rfl, rfl, B3, by omega, hx1, ?_, hfin⟩⟩
             rw [← Nat.add_one_mul] at hog; rw [hog.2.2]; exact hz1)
          | (refine ⟨_, c, [g0], rfl, hE5, fun x hx => .inl hx, ?_⟩
             have hfin := hoi.1; rw [pcells_ins, ← Nat.add_one_mul] at hfin
             refine ⟨by rw [pcells_len (sv := 1) (fun q hq => (okIns hok hp q hq).1), List.length_append, List.length_cons, List.length_take, List.length_drop]; congr 1; omega, .inr ⟨g0, _, rfl, rfl, B5, by omega, hx0, ?_, hfin⟩⟩
             rw [hoi.2.2]; exact hz0)

end Go.Proofs.Ytiiiplhfgblamaa
/-
  The walks of package order.
-/
set_option linter.unusedVariables false
set_option linter.unusedSimpArgs false
set_option maxRecDepth 4000
namespace Go.Proofs.Ytiiiplhfgblamaa
open Go Brv
theorem scB_ok (a : Option Addr) (n c : Nat) (xs : List Value) (w : World) (hb : Cells w a xs) (hl : n * (1 + 1) = xs.length) (hone : ∀ u ∈ xs, u.oneCell' = true) (hn : n ≤ 1000000) : Meets Try.prog 100 [.slice a n c] w (Cloned w 165 (1 + 1) n xs) := by
  refine Meets.enter Try.func100 rfl 8 rfl (Nat.le_of_ble_eq_true rfl) ?_
  refine G.seq ?_
  refine G.region ?_
  refine L.val rfl rfl (R.as rfl) ?_
  refine L.nil ?_
  refine N.seq ?_
  refine G.seq ?_
  refine G.seq ?_
  refine G.region ?_
  refine L.val rfl rfl (R.mv rfl) ?_
  refine L.val rfl rfl (R.eqNilS rfl rfl) ?_
  refine L.nil ?_
  refine N.seq ?_
  refine G.condB rfl (fun h0 => ?_) (fun h0 => ?_)
  · obtain rfl : a = none := by simpa using h0
    obtain rfl := cells_none hb
    obtain rfl : n = 0 := by simp at hl; omega
    refine G.seq ?_
    refine G.region ?_
    refine L.val rfl rfl (R.as rfl) ?_
    refine L.nil ?_
    refine N.seq ?_
    refine G.ret1 rfl rfl ?_
    exact ⟨none, 0, [], rfl, Ext.refl _ _, Own.nil _ _ _, by simp⟩
  · refine G.skip ?_
    refine N.seq ?_
    refine G.seq ?_
    refine G.region ?_
    refine L.do rfl rfl (R.buildS rfl (by decide) rfl) ?_
    rintro _ w1 ⟨b5, rfl, hb5, hs5, e1, B5⟩
    have hb := hb.ext0 e1
    have o0 := Own.blk (n := 0) (size := 1 + 1) B5 (by simp) (by simp [maxLen])
    refine L.val rfl rfl (R.mv rfl) ?_
    refine L.do rfl rfl (R.app rfl rfl o0 hb hl.symm hone (by simp [maxLen]; omega) (by omega)) ?_
    rintro _ w2 ⟨a1, c1, M1, rfl, e2, hM1, o1⟩
    refine L.val rfl rfl (R.as rfl) ?_
    refine L.nil ?_
    refine N.seq ?_
    refine G.ret1 rfl rfl ?_
    exact ⟨a1, c1, M1, by rw [Nat.zero_add] , e1.trans e2 (by simp) (by simp; omega), by simpa using o1, by intro g hg; have := hM1 g hg; have := e1.size; simp at *; omega⟩

theorem onewB_ok  (w : World) : Meets Try.prog 73 [] w (fun v w' => ∃ b, v = .pointer (some ⟨b, 0, none⟩) ∧ w.heap.size ≤ b ∧ Ext [] w w' ∧ MapAt (κ := Int) 161 165 1 w' b [] [b]) := by
  refine Meets.enter Try.func73 rfl 3 rfl (Nat.le_of_ble_eq_true rfl) ?_
  have E := Ext.refl [] w
  refine G.seq ?_
  refine G.region ?_
  refine L.val rfl rfl (R.as rfl) ?_
  refine L.nil ?_
  refine N.seq ?_
  refine G.seq ?_
  refine G.region ?_
  refine L.val rfl rfl (R.build (cs := #[.slice none 0 0]) rfl rfl) ?_
  refine L.do rfl rfl (R.box rfl) ?_
  rintro _ w1 ⟨b, rfl, hb2, hs2, e1, B2⟩
  replace E := E.trans0 e1
  refine L.val rfl rfl (R.as rfl) ?_
  refine L.nil ?_
  refine N.seq ?_
  refine G.ret1 rfl rfl ?_
  exact ⟨b, rfl, by omega, E, MapAt.mk (M := []) (by simp) B2 rfl (Own.nil _ _ _) (by intro p hp; cases hp) List.Pairwise.nil⟩

theorem putB_ok (m : Nat) (ps : List (Pr (Int))) (S : List Nat) (k : Int) (ua : Option Addr) (un uc : Nat) (w : World) (hd : MapAt (κ := Int) 161 165 1 w m ps S) (hl : ps.length ≤ 99999) : Meets Try.prog 74 [.pointer (some ⟨m, 0, none⟩), .int .i64 k, .slice ua un uc] w (fun v w' => v = .bool (!hasK ps k) ∧ ∃ S', Grown S S' w w' ∧ MapAt (κ := Int) 161 165 1 w' m (putK ps k [.slice ua un uc]) S') := by
  refine Meets.enter Try.func74 rfl 39 rfl (Nat.le_of_ble_eq_true rfl) ?_
  have E := Ext.refl [] w
  have hd0 := hd
  obtain ⟨a, c, M, rfl, hm0, Bm, om, hok, hs⟩ := hd
  have hone : ∀ u ∈ ([.slice ua un uc] : List Value), u.oneCell' = true := by intro x hx; rw [List.mem_singleton.1 hx]; rfl
  refine G.seq ?_
  refine G.region ?_
  refine L.val rfl rfl (R.as rfl) ?_
  refine L.nil ?_
  refine N.seq ?_
  refine G.seq ?_
  refine G.seq ?_
  refine G.region ?_
  refine L.val rfl rfl (R.mv rfl) ?_
  refine L.val rfl rfl (R.eqNilP rfl rfl) ?_
  refine L.nil ?_
  refine N.seq ?_
  refine G.condF rfl ?_
  refine G.skip ?_
  refine N.seq ?_
  refine G.seq ?_
  refine G.region ?_
  refine L.val rfl rfl (R.mv rfl) ?_
  refine L.val rfl rfl (R.mv rfl) ?_
  refine L.callF rfl rfl rfl go96 (findB_ok m ps (m :: M) k _ hd0 (by omega)) ?_
  rintro _ w1 ⟨rfl, e1⟩
  replace E := E.trans0 e1
  replace Bm := Bm.ext0 e1
  replace om := om.ext0 e1
  refine L.val rfl rfl (R.mv rfl) ?_
  refine L.val rfl rfl (R.ext rfl rfl) ?_
  refine L.val rfl rfl (R.ext rfl rfl) ?_
  refine L.val rfl rfl (R.as rfl) ?_
  refine L.val rfl rfl (R.as rfl) ?_
  refine L.nil ?_
  refine N.seq ?_
  refine G.seq ?_
  refine G.seq ?_
  refine G.region ?_
  refine L.val rfl rfl (R.mv rfl) ?_
  refine L.nil ?_
  refine N.seq ?_
  refine G.condB rfl (fun h1 => ?_) (fun h1 => ?_)
  · have hk : hasK ps k = true := h1
    have hlt := hasK_lt hk
    obtain ⟨g, cur, rfl, rfl, Bg, hnc, hcm, hcs, ht⟩ := om.some (by omega)
    have hgm : m ≠ g := fun h => hm0 (by simp [h])
    have hsz : low ps k * 2 + 2 ≤ cur.size := by
      have h9 : (low ps k + 1) * 2 ≤ c * 2 := Nat.mul_le_mul_right _ (by omega)
      rw [Nat.add_mul, Nat.one_mul] at h9
      exact Nat.le_trans h9 hcs
    refine G.seq ?_
    refine G.region ?_
    refine L.val rfl rfl (R.mv rfl) ?_
    refine L.val rfl rfl (R.nilChk rfl) ?_
    refine L.val rfl rfl (R.fld rfl) ?_
    refine L.val rfl rfl (R.ldB rfl Bm rfl) ?_
    refine L.val rfl rfl (R.mv rfl) ?_
    refine L.val rfl rfl (R.mv rfl) ?_
    refine L.val rfl rfl (R.idx rfl rfl (by omega) (by omega) _ rfl) ?_
    refine L.be 24 rfl (show _ = Value.pointer (some ⟨g, low ps k * 2, none⟩) by rw [Int.toNat_natCast, Go.Addr.add_lit, Nat.zero_add]) ?_
    refine L.val rfl rfl (R.fld rfl) ?_
    refine L.set rfl (R.st rfl rfl Bg (by omega) rfl) ?_
    rintro w2 ⟨e2, hs2, Bg⟩
    rw [set_at (by omega)] at Bg
    replace Bm := Bm.ext e2 (by simpa using hgm)
    have o2 := own_set (v := [.slice ua un uc]) rfl hok hs hk rfl hnc hcm hcs ht Bg
    have X := e2.after E
    refine L.nil ?_
    refine N.seq ?_
    refine G.seq ?_
    refine G.region ?_
    refine L.val rfl rfl (R.as rfl) ?_
    refine L.nil ?_
    refine N.seq ?_
    refine G.ret1 rfl rfl ?_
    first
      | exact ⟨by rw [hk]; rfl, [m, g], ⟨X.mono (fun x hx => .inl (List.mem_cons_of_mem _ hx)), fun x hx => .inl hx⟩, MapAt.mk hm0 Bm (by rw [put_len, if_pos hk]) o2 (hok.put ⟨rfl, hone⟩) (sorted_put hs _ _)⟩
      | exact ⟨by rw [hk]; rfl, m :: M3, ⟨X, fun x hx => (List.mem_cons.1 hx).elim (fun h => .inl (by simp [h])) (fun h => (hM3 x h).elim (fun h => .inl (List.mem_cons_of_mem _ h)) (fun h => .inr (by omega)))⟩, MapAt.mk hm3 Bm (by rw [put_len, if_neg (by simp [hk])]) (by rw [putK_no hk]; exact o4) (hok.put ⟨rfl, hone⟩) (sorted_put hs _ _)⟩
  · have hk : hasK ps k = false := h1
    have hio := low_le ps k
    have hMl := om.lt
    have hml := Bm.lt
    refine G.skip ?_
    refine N.seq ?_
    refine G.seq ?_
    refine G.region ?_
    refine L.val rfl rfl (R.mv rfl) ?_
    refine L.val rfl rfl (R.mv rfl) ?_
    refine L.val rfl rfl (R.nilChk rfl) ?_
    refine L.val rfl rfl (R.fld rfl) ?_
    refine L.val rfl rfl (R.ldB rfl Bm rfl) ?_
    refine L.val rfl rfl (R.mv rfl) ?_
    refine L.val rfl rfl (R.mv rfl) ?_
    refine L.val rfl rfl (R.mv rfl) ?_
    refine L.val rfl rfl (R.build (cs := #[.int .i64 k, .slice ua un uc]) rfl rfl) ?_
    refine L.do rfl rfl (R.buildA rfl rfl rfl rfl rfl) ?_
    rintro _ w2 ⟨vb, rfl, hvb, hs2, e2, Bv⟩
    replace Bv : Blk w2 vb (pcell ((k, [.slice ua un uc]) : Pr (Int))).toArray 165 (0, 0) := Bv
    replace E := E.trans0 e2
    replace Bm := Bm.ext0 e2
    replace om := om.ext0 e2
    have hvM : vb ∉ M := fun h => by have := hMl vb h; omega
    have hE2 := E.size
    have hws := e2.size
    refine L.callF rfl rfl rfl go97 (insB_ok a ps.length c ps M (low ps k) ((k, [.slice ua un uc]) : Pr (Int)) vb _ om rfl hok hio ⟨rfl, hone⟩ Bv hvM (by omega)) ?_
    rintro _ w3 ⟨a3, c3, M3, rfl, e3, hM3, o3⟩
    replace Bm := Bm.ext e3 hm0
    have hm3 : m ∉ M3 := fun h => (hM3 m h).elim hm0 (by omega)
    refine L.val rfl rfl (R.nilChk rfl) ?_
    refine L.val rfl rfl (R.fld rfl) ?_
    refine L.set rfl (R.st rfl rfl Bm (by show 0 < 1; decide) rfl) ?_
    rintro w4 ⟨e4, hs4, Bm⟩
    replace Bm : Blk w4 m #[.slice a3 (ps.length + 1) c3] 161 (0, 0) := Bm
    have o4 := o3.ext e4 (by intro g hg h; rw [List.mem_singleton.1 h] at hg; exact hm3 hg)
    have X : Ext (m :: M) w w4 := ((e3.after E).mono (fun x hx => .inl (List.mem_cons_of_mem _ hx))).transN e4 (fun x hx => .inl (by rw [List.mem_singleton.1 hx]; simp))
    refine L.nil ?_
    refine N.seq ?_
    refine G.seq ?_
    refine G.region ?_
    refine L.val rfl rfl (R.as rfl) ?_
    refine L.nil ?_
    refine N.seq ?_
    refine G.ret1 rfl rfl ?_
    first
      | exact ⟨by rw [hk]; rfl, [m, g], ⟨X.mono (fun x hx => .inl (List.mem_cons_of_mem _ hx)), fun x hx => .inl hx⟩, MapAt.mk hm0 Bm (by rw [put_len, if_pos hk]) o2 (hok.put ⟨rfl, hone⟩) (sorted_put hs _ _)⟩
      | exact ⟨by rw [hk]; rfl, m :: M3, ⟨X, fun x hx => (List.mem_cons.1 hx).elim (fun h => .inl (by simp [h])) (fun h => (hM3 x h).elim (fun h => .inl (List.mem_cons_of_mem _ h)) (fun h => .inr (by omega)))⟩, MapAt.mk hm3 Bm (by rw [put_len, if_neg (by simp [hk])]) (by rw [putK_no hk]; exact o4) (hok.put ⟨rfl, hone⟩) (sorted_put hs _ _)⟩

end Go.Proofs.Ytiiiplhfgblamaa
/-
  The walks of package order.
-/
set_option linter.unusedVariables false
set_option linter.unusedSimpArgs false
set_option maxRecDepth 4000
namespace Go.Proofs.Ytiiiplhfgblamaa
open Go Brv
theorem pallB_ok (a : Option Addr) (n c : Nat) (w : World) : Meets Try.prog 99 [.slice a n c] w (fun v w' => ∃ b0, v = .func (.func 118) #[] #[.pointer (some ⟨b0, 0, none⟩)] ∧ Ext [] w w' ∧ Blk w' b0 #[.slice a n c] 159 (0, 0) ∧ w.heap.size ≤ b0) := by
  refine Meets.enter Try.func99 rfl 4 rfl (Nat.le_of_ble_eq_true rfl) ?_
  have E := Ext.refl [] w
  refine G.seq ?_
  refine G.region ?_
  refine L.do rfl rfl (R.box rfl) ?_
  rintro _ w1 ⟨b0, rfl, hb1, hs1, e1, B1⟩
  replace E := E.trans0 e1
  refine L.val rfl rfl (R.as rfl) ?_
  refine L.nil ?_
  refine N.seq ?_
  refine G.seq ?_
  refine G.region ?_
  refine L.val rfl rfl (R.mkFunc rfl rfl) ?_
  refine L.val rfl rfl (R.as rfl) ?_
  refine L.nil ?_
  refine N.seq ?_
  refine G.ret1 rfl rfl ?_
  exact ⟨b0, rfl, E, B1, by omega⟩

theorem pall1B_ok (y : Value) (b0 : Nat) (a : Option Addr) (n c : Nat) (ps : List (Pr (Int))) (Ma : List Nat) (D₀ : List Nat) (J Jx : Nat → List Nat → World → Prop) (w : World) (hB0 : Blk w b0 #[.slice a n c] 159 (0, 0)) (ho : Own w 165 (1 + 1) a n c (pcells ps) Ma) (hn : n = ps.length) (hok : OkP 1 ps) (hnl : n ≤ 1000000) (hD : ∀ g ∈ D₀, g < w.heap.size ∧ g ∉ b0 :: Ma ∧ g ∉ ([] : List Nat)) (hJ : ∀ k D W₁ W₂ M', J k D W₁ → Ext M' W₁ W₂ → (∀ g ∈ M', g ∉ D ∧ (g ∈ ([] : List Nat) ∨ w.heap.size ≤ g)) → J k D W₂) (hJx : ∀ k D W₁ W₂ M', Jx k D W₁ → Ext M' W₁ W₂ → (∀ g ∈ M', g ∉ D ∧ (g ∈ ([] : List Nat) ∨ w.heap.size ≤ g)) → Jx k D W₂) (hY : ∀ k D vs W₁, k < n → J k D W₁ → prE (fun k => ps[k]?) k vs W₁ → (∀ g ∈ D, g < W₁.heap.size) → YCall Try.prog y vs W₁ fun b W₂ => ∃ D', Ext D W₁ W₂ ∧ (∀ g ∈ D', g < W₂.heap.size ∧ (g ∈ D ∨ W₁.heap.size ≤ g)) ∧ (b = true → J (k + 1) D' W₂) ∧ (b = false → Jx (k + 1) D' W₂)) (h0 : J 0 D₀ w) : Meets Try.prog 118 [y, .pointer (some ⟨b0, 0, none⟩)] w (fun _ W₂ => (∃ D, J n D W₂ ∧ True) ∨ ∃ k D, k ≤ n ∧ Jx k D W₂ ∧ True) := by
  refine Meets.enter Try.func118 rfl 18 rfl (Nat.le_of_ble_eq_true rfl) ?_
  have hb0D : b0 ∉ D₀ := fun h => (hD _ h).2.1 (by simp)
  have hMD : ∀ g ∈ Ma, g ∉ D₀ := fun g hg h => (hD _ h).2.1 (by simp [hg])
  refine G.seq ?_
  refine G.region ?_
  refine L.val rfl rfl (R.ldB rfl hB0 rfl) ?_
  refine L.val rfl rfl (R.lenS rfl) ?_
  refine L.val rfl rfl (R.mv rfl) ?_
  refine L.nil ?_
  refine N.seq ?_
  refine G.block ?_
  refine G.loop (X := Nat) (fun i => [(0, y), (5, .slice a n c), (6, .int .i64 (n : Int)), (7, .int .i64 (i : Int))]) (fun i w' => i ≤ n ∧ (∃ D, J i D w' ∧ ∀ g ∈ D, g < w'.heap.size ∧ (g ∈ D₀ ∨ w.heap.size ≤ g)) ∧ Ext D₀ w w') (fun i => n - i) (0) (Sub.cons rfl (Sub.cons rfl (Sub.cons rfl (Sub.cons rfl (Sub.nil _))))) ⟨Nat.zero_le _, ⟨D₀, h0, fun g hg => ⟨(hD g hg).1, .inl hg⟩⟩, Ext.refl _ _⟩ ?_
  rintro i w1 ⟨hi, ⟨D, hJi, hDD⟩, e1⟩
  have ho1 := ho.ext e1 hMD
  have B0 := hB0.ext e1 hb0D
  refine G.seq ?_
  refine G.region ?_
  refine L.val rfl rfl (R.lss rfl rfl) ?_
  refine L.nil ?_
  refine N.seq ?_
  refine G.seq ?_
  refine G.condP rfl (fun h0 => ?_) (fun h0 => ?_)
  · have hil : i < n := by omega
    have hes := e1.size
    obtain ⟨p, hp⟩ : ∃ p, ps[i]? = some p := ⟨_, List.getElem?_eq_getElem (by omega)⟩
    obtain ⟨q, hq, hcl⟩ := (Tab.pairs ho1.cells hn hok).at (by decide) i (by rw [List.length_map]; omega)
    have he : (ps.map pcell)[i]'(by rw [List.length_map]; omega) = pcell p := by rw [List.getElem_map]; exact congrArg pcell (List.getElem?_eq_some_iff.1 hp).2
    rw [he] at hcl
    have hsz : (pcell p).length = 2 := by show p.2.length + 1 = _; rw [(hok p (List.mem_of_getElem? hp)).1]
    have hsA : (pcell p).toArray.size = 2 := by rw [List.size_toArray]; exact hsz
    have h1c : ∀ u ∈ (pcell p).toArray.toList, u.oneCell' = true := pcell1 (hok p (List.mem_of_getElem? hp)).2
    refine G.skip ?_
    refine N.seq ?_
    refine G.seq ?_
    refine G.block ?_
    refine G.seq ?_
    refine G.region ?_
    refine L.val rfl rfl (R.mv rfl) ?_
    refine L.val rfl rfl (R.idx rfl rfl (by omega) (by omega) q hq) ?_
    refine L.val rfl rfl (R.ldN (vs := pcell p) rfl hcl hsz) ?_
    refine L.do rfl rfl (R.alloc) ?_
    rintro _ w2 ⟨b4, rfl, hb4, hs4, e2, B4⟩
    have hDb : ∀ g ∈ D, g < b4 := fun g hg => by have := (hDD g hg).1; omega
    replace B4 : Blk w2 b4 (.agg #[.int .i64 0, .slice none 0 0] : Value).cells 165 (0, 0) := B4
    replace hJi := hJ _ D w1 w2 [] hJi e2 (by simp)
    replace hDD := fun g hg => And.intro (Nat.lt_of_lt_of_le (hDD g hg).1 e2.size) (hDD g hg).2
    replace e1 := e1.trans0 e2
    have hws := e1.size
    refine L.val rfl rfl (R.as rfl) ?_
    refine L.set rfl (R.stN rfl rfl B4 hsA (by show 0 + (pcell p).toArray.size ≤ 2; omega) h1c) ?_
    rintro w3 ⟨e3, hs3, B4⟩
    rw [over_all (show (.agg #[.int .i64 0, .slice none 0 0] : Value).cells.size = (pcell p).toArray.size from hsA.symm)] at B4
    replace hJi := hJ _ D w2 w3 [b4] hJi e3 (fun g hg => by rw [List.mem_singleton.1 hg]; exact ⟨fun h => by have := hDb _ h; omega, .inr (by omega)⟩)
    replace hDD := fun g hg => And.intro (Nat.lt_of_lt_of_le (hDD g hg).1 e3.size) (hDD g hg).2
    replace e1 := e1.transN e3 (fun g hg => .inr (by rw [List.mem_singleton.1 hg]; omega))
    refine L.nil ?_
    refine N.seq ?_
    refine G.seq ?_
    refine G.region ?_
    refine L.val rfl rfl (R.mv rfl) ?_
    refine L.val rfl rfl (R.mv rfl) ?_
    refine L.val rfl rfl (R.ldBN rfl B4 hsA) ?_
    refine L.ycall rfl rfl rfl rfl (hY i D _ _ hil hJi ⟨p, _, hp, rfl⟩ (fun g hg => (hDD g hg).1)) ?_
    rintro bb w4 ⟨D2, eD, hD2, hT, hF⟩
    refine L.val rfl rfl (R.not rfl) ?_
    refine L.nil ?_
    refine N.seq ?_
    refine G.condB rfl (fun h1 => ?_) (fun h1 => ?_)
    · obtain rfl : bb = false := by simpa using h1
      refine G.ret0 rfl ?_
      exact .inr ⟨i + 1, D2, by omega, hF rfl, trivial⟩
    · obtain rfl : bb = true := by simpa using h1
      refine G.skip ?_
      refine N.block ?_
      refine N.seq ?_
      refine G.region ?_
      refine L.val rfl rfl (R.add rfl rfl (by omega)) ?_
      refine L.val rfl rfl (R.mv rfl) ?_
      refine L.nil ?_
      exact N.again (i + 1) (by omega) (Sub.cons rfl (Sub.cons rfl (Sub.cons rfl (Sub.cons rfl (Sub.nil _))))) ⟨by omega, ⟨D2, hT rfl, fun g hg => ⟨(hD2 g hg).1, (hD2 g hg).2.elim (fun h => (hDD g h).2) (fun h => .inr (Nat.le_trans e1.size h))⟩⟩, e1.transN eD (fun g hg => (hDD g hg).2)⟩
  · refine G.exit _ rfl ?_
    refine N.end0 rfl ?_
    obtain rfl : i = n := by omega
    exact .inl ⟨D, hJi, trivial⟩

theorem pallB_iter (b0 : Nat) (a : Option Addr) (n c : Nat) (ps : List (Pr (Int))) (Ma : List Nat) (w : World) (hB0 : Blk w b0 #[.slice a n c] 159 (0, 0)) (ho : Own w 165 (1 + 1) a n c (pcells ps) Ma) (hn : n = ps.length) (hok : OkP 1 ps) (hnl : n ≤ 1000000) : Iter Try.prog 118 [.pointer (some ⟨b0, 0, none⟩)] w n (prE (fun k => ps[k]?)) (fun _ _ => True) (b0 :: Ma) [] := by
  intro y D₀ J Jx W hE hD hJ hJx hY h0
  exact pall1B_ok y b0 a n c ps Ma D₀ J Jx W (hB0.ext0 hE) (ho.ext0 hE) hn hok hnl hD (fun k D W₁ W₂ M' h he hm => hJ k D W₁ W₂ M' h he (fun g hg => ⟨(hm g hg).1, (hm g hg).2.imp id (Nat.le_trans hE.size)⟩)) (fun k D W₁ W₂ M' h he hm => hJx k D W₁ W₂ M' h he (fun g hg => ⟨(hm g hg).1, (hm g hg).2.imp id (Nat.le_trans hE.size)⟩)) hY h0

theorem walkB_ok (gf : FuncId) (lb : List Value) (w : World) : Meets Try.prog 98 [.func (.func gf) #[] lb.toArray] w (fun v w' => ∃ b1, v = .func (.func 117) #[] #[.pointer (some ⟨b1, 0, none⟩)] ∧ Ext [] w w' ∧ Blk w' b1 #[.func (.func gf) #[] lb.toArray] 169 (0, 0) ∧ w.heap.size ≤ b1) := by
  refine Meets.enter Try.func98 rfl 4 rfl (Nat.le_of_ble_eq_true rfl) ?_
  have E := Ext.refl [] w
  refine G.seq ?_
  refine G.region ?_
  refine L.do rfl rfl (R.box rfl) ?_
  rintro _ w1 ⟨b1, rfl, hb1, hs1, e1, B1⟩
  replace E := E.trans0 e1
  refine L.val rfl rfl (R.as rfl) ?_
  refine L.nil ?_
  refine N.seq ?_
  refine G.seq ?_
  refine G.region ?_
  refine L.val rfl rfl (R.mkFunc rfl rfl) ?_
  refine L.val rfl rfl (R.as rfl) ?_
  refine L.nil ?_
  refine N.seq ?_
  refine G.ret1 rfl rfl ?_
  exact ⟨b1, rfl, E, B1, by omega⟩

theorem walk1B_ok (y : Value) (b1 : Nat) (gf : FuncId) (lb : List Value) (Nn : Nat) (q : Nat → Option (Pr (Int))) (F : List Nat) (D₀ : List Nat) (J Jx : Nat → List Nat → World → Prop) (w : World) (hB1 : Blk w b1 #[.func (.func gf) #[] lb.toArray] 169 (0, 0)) (eg : ∀ (vs : Array Value) w, (callFunc gf vs).run Try.prog w = .ok (.enter gf vs) w) (hit : ∀ W, Ext [] w W → Iter Try.prog gf lb W Nn (prE q) (fun _ _ => True) F []) (hF : ∀ x ∈ F, x < w.heap.size) (hq : ∀ k (p : Pr (Int)), q k = some p → p.2.length = 1 ∧ ∀ u ∈ p.2, u.oneCell' = true) (hD : ∀ g ∈ D₀, g < w.heap.size ∧ g ∉ b1 :: F ∧ g ∉ ([] : List Nat)) (hJ : ∀ k D W₁ W₂ M', J k D W₁ → Ext M' W₁ W₂ → (∀ g ∈ M', g ∉ D ∧ (g ∈ ([] : List Nat) ∨ w.heap.size ≤ g)) → J k D W₂) (hJx : ∀ k D W₁ W₂ M', Jx k D W₁ → Ext M' W₁ W₂ → (∀ g ∈ M', g ∉ D ∧ (g ∈ ([] : List Nat) ∨ w.heap.size ≤ g)) → Jx k D W₂) (hY : ∀ k D vs W₁, k < Nn → J k D W₁ → (kvE gv1' q) k vs W₁ → (∀ g ∈ D, g < W₁.heap.size) → YCall Try.prog y vs W₁ fun b W₂ => ∃ D', Ext D W₁ W₂ ∧ (∀ g ∈ D', g < W₂.heap.size ∧ (g ∈ D ∨ W₁.heap.size ≤ g)) ∧ (b = true → J (k + 1) D' W₂) ∧ (b = false → Jx (k + 1) D' W₂)) (h0 : J 0 D₀ w) : Meets Try.prog 117 [y, .pointer (some ⟨b1, 0, none⟩)] w (fun _ W₂ => (∃ D, J Nn D W₂ ∧ True) ∨ ∃ k D, k ≤ Nn ∧ Jx k D W₂ ∧ True) := by
  refine Meets.enter Try.func117 rfl 15 rfl (Nat.le_of_ble_eq_true rfl) ?_
  refine G.seq ?_
  refine G.region ?_
  refine L.do rfl rfl (R.box rfl) ?_
  rintro _ w1 ⟨b2, rfl, hb2, hs2, e1, B2⟩
  have hw1 := e1.size
  refine L.nil ?_
  refine N.seq ?_
  refine G.seq ?_
  refine G.region ?_
  refine L.val rfl rfl (R.ldB rfl (hB1.ext0 e1) rfl) ?_
  refine L.nil ?_
  refine N.seq ?_
  refine G.block ?_
  have hD0 : ∀ g ∈ b2 :: D₀, g < w1.heap.size ∧ g ∉ F ∧ g ∉ ([] : List Nat) := by
    intro g hg
    rcases List.mem_cons.1 hg with rfl | hg
    · exact ⟨by omega, fun h => by have := hF _ h; omega, by simp⟩
    · exact ⟨Nat.lt_of_lt_of_le (hD g hg).1 hw1, fun h => (hD g hg).2.1 (List.mem_cons_of_mem _ h), by simp⟩
  have hI0 : wkI J b2 129 y 0 (b2 :: D₀) w1 := ⟨D₀, rfl, fun h => by have := (hD _ h).1; omega, hJ 0 D₀ w w1 [] h0 e1 (by simp), B2⟩
  refine G.range (lb := lb) rfl rfl eg (hit _ e1) (fun _ _ _ h _ => h) (b2 :: D₀) hD0 (fun x h => h.elim (fun h => Nat.lt_of_lt_of_le (hF x h) hw1) (by simp)) (wkI J b2 129 y) (wkX Jx b2) ?_ ?_ hI0 ?_ ?_ ?_
  · rintro k DD W1 W2 M2 ⟨D, rfl, hn2, hj, hb⟩ he hm
    exact ⟨D, rfl, hn2, hJ k D W1 W2 M2 hj he (fun g hg => ⟨fun h => (hm g hg).1 (List.mem_cons_of_mem _ h), (hm g hg).2.imp id (Nat.le_trans hw1)⟩), hb.ext he (fun h => (hm _ h).1 (by simp))⟩
  · rintro c k DD W1 W2 M2 ⟨hc, D, rfl, hn2, hj⟩ he hm
    exact ⟨hc, D, rfl, hn2, hJx k D W1 W2 M2 hj he (fun g hg => ⟨fun h => (hm g hg).1 (List.mem_cons_of_mem _ h), (hm g hg).2.imp id (Nat.le_trans hw1)⟩)⟩
  · rintro l k DD vs W1 hl2 hlt hlD hDl hk ⟨D, rfl, hn2, hj, B2⟩ ⟨p, v0, hp, rfl⟩
    refine ⟨rfl, ?_⟩
    refine G.sub [(7, .agg (pcell p).toArray), (2, .pointer (some ⟨b2, 0, none⟩))] (Sub.cons rfl (Sub.cons rfl (Sub.nil _))) ?_
    have hpl := hq k p hp
    have hsz : (pcell p).length = 2 := by show p.2.length + 1 = _; rw [hpl.1]
    have hsA : (pcell p).toArray.size = 2 := by rw [List.size_toArray]; exact hsz
    have h1c : ∀ u ∈ (pcell p).toArray.toList, u.oneCell' = true := pcell1 hpl.2
    have l2 := B2.lt
    refine G.region ?_
    refine L.do rfl rfl (R.alloc) ?_
    rintro _ w2 ⟨b4, rfl, hb4, hs4, e2, B4⟩
    replace B4 : Blk w2 b4 (.agg #[.int .i64 0, .slice none 0 0] : Value).cells 165 (0, 0) := B4
    refine L.set rfl (R.stN rfl rfl B4 hsA (by show 0 + (pcell p).toArray.size ≤ 2; omega) h1c) ?_
    rintro w3 ⟨e3, hs3, B4⟩
    rw [over_all (show (.agg #[.int .i64 0, .slice none 0 0] : Value).cells.size = (pcell p).toArray.size from hsA.symm)] at B4
    have hEW := e2.news2 e3 (by omega)
    refine L.nil ?_
    refine N.round (hEW) (fun wb hb1 hb2 => ?_)
    replace B4 := B4.still hb2
    replace B2 := (B2.ext0 hEW).still hb2
    have hjw := hJ k D _ wb [l] (hJ k D W1 _ [] hj hEW (by simp)) hb1 (fun g hg => by rw [List.mem_singleton.1 hg]; exact ⟨fun h => hlD (List.mem_cons_of_mem _ h), .inr (by omega)⟩)
    have hDw : ∀ g ∈ D, g < wb.heap.size := fun g hg => Nat.lt_of_lt_of_le (hDl g (List.mem_cons_of_mem _ hg)) (Nat.le_trans hEW.size hb1.size)
    have l2b := B2.lt
    obtain ⟨x, hx⟩ := List.length_eq_one_iff.1 hpl.1
    have hyc := hY k D [.int .i64 p.1, x] wb hk hjw ⟨p, hp, by rw [hx]; rfl⟩ hDw
    have hcy : y.cells = #[y] := by rcases hyc with ⟨l9, rfl, _⟩ | ⟨f9, u9, c9, rfl, _⟩ <;> rfl
    rw [hcy] at B2
    refine G.block ?_
    refine G.seq ?_
    refine G.region ?_
    refine L.val rfl rfl (R.ldB rfl B2 rfl) ?_
    refine L.val rfl rfl (R.fld rfl) ?_
    refine L.val rfl rfl (R.ldB (v := .int .i64 p.1) rfl B4 rfl) ?_
    refine L.val rfl rfl (R.fld rfl) ?_
    refine L.val rfl rfl (R.ldB (v := x) rfl B4 (by show (Key.val p.1 :: p.2).toArray[1]? = _; rw [hx]; rfl)) ?_
    refine L.ycall rfl rfl rfl rfl hyc ?_
    rintro bb w7 ⟨D2, eD, hD2, hT, hFl⟩
    have X : Ext (b2 :: D) wb w7 := eD.mono (fun g hg => .inl (List.mem_cons_of_mem _ hg))
    have hn3 : b2 ∉ D2 := fun h => (hD2 b2 h).2.elim hn2 (fun h => by omega)
    have hDD : ∀ g ∈ b2 :: D2, g < w7.heap.size ∧ (g ∈ b2 :: D ∨ wb.heap.size ≤ g) := by
      intro g hg
      rcases List.mem_cons.1 hg with rfl | hg
      · exact ⟨Nat.lt_of_lt_of_le l2b eD.size, .inl (by simp)⟩
      · exact ⟨(hD2 g hg).1, (hD2 g hg).2.imp (fun h => List.mem_cons_of_mem _ h) id⟩
    refine L.val rfl rfl (R.not rfl) ?_
    refine L.nil ?_
    refine N.seq ?_
    refine G.condB rfl (fun h0 => ?_) (fun h0 => ?_)
    · obtain rfl : bb = false := by simpa using h0
      refine G.ret fun _ _ => ?_
      exact ⟨b2 :: D2, X, hDD, rfl, D2, rfl, hn3, hFl rfl⟩
    · obtain rfl : bb = true := by simpa using h0
      refine G.skip ?_
      refine N.block ?_
      refine N.done fun _ _ => ?_
      exact ⟨b2 :: D2, X, hDD, D2, rfl, hn3, hT rfl, by rw [hcy]; exact B2.ext eD hn2⟩
  · rintro d DD W2 hd hdD hK ⟨D, rfl, hn2, hj, B2⟩ _
    refine N.block ?_
    refine N.end0M rfl (leave1 hK) ?_
    exact .inl ⟨D, hJ Nn D W2 _ [d] hj (Ext.putObj _ _ _) (fun g hg => by rw [List.mem_singleton.1 hg]; exact ⟨fun h => hdD (List.mem_cons_of_mem _ h), .inr (by omega)⟩), trivial⟩
  · rintro d DD k c W2 hd hdD hK hk ⟨rfl, D, rfl, hn2, hj⟩ _
    refine G.ret0M rfl (leave1 hK) ?_
    exact .inr ⟨k, D, hk, hJx k D W2 _ [d] hj (Ext.putObj _ _ _) (fun g hg => by rw [List.mem_singleton.1 hg]; exact ⟨fun h => hdD (List.mem_cons_of_mem _ h), .inr (by omega)⟩), trivial⟩

theorem walkB_iter (b1 : Nat) (gf : FuncId) (lb : List Value) (Nn : Nat) (q : Nat → Option (Pr (Int))) (F : List Nat) (w : World) (hB1 : Blk w b1 #[.func (.func gf) #[] lb.toArray] 169 (0, 0)) (eg : ∀ (vs : Array Value) w, (callFunc gf vs).run Try.prog w = .ok (.enter gf vs) w) (hit : ∀ W, Ext [] w W → Iter Try.prog gf lb W Nn (prE q) (fun _ _ => True) F []) (hF : ∀ x ∈ F, x < w.heap.size) (hq : ∀ k (p : Pr (Int)), q k = some p → p.2.length = 1 ∧ ∀ u ∈ p.2, u.oneCell' = true) : Iter Try.prog 117 [.pointer (some ⟨b1, 0, none⟩)] w Nn (kvE gv1' q) (fun _ _ => True) (b1 :: F) [] := by
  intro y D₀ J Jx W hE hD hJ hJx hY h0
  exact walk1B_ok y b1 gf lb Nn q F D₀ J Jx W (hB1.ext0 hE) eg (fun W' h => hit W' (hE.trans0 h)) (fun x hx => Nat.lt_of_lt_of_le (hF x hx) hE.size) hq hD (fun k D W₁ W₂ M' h he hm => hJ k D W₁ W₂ M' h he (fun g hg => ⟨(hm g hg).1, (hm g hg).2.imp id (Nat.le_trans hE.size)⟩)) (fun k D W₁ W₂ M' h he hm => hJx k D W₁ W₂ M' h he (fun g hg => ⟨(hm g hg).1, (hm g hg).2.imp id (Nat.le_trans hE.size)⟩)) hY h0

end Go.Proofs.Ytiiiplhfgblamaa
/-
  The walks of package order.
-/
set_option linter.unusedVariables false
set_option linter.unusedSimpArgs false
set_option maxRecDepth 4000
namespace Go.Proofs.Ytiiiplhfgblamaa
open Go Brv
theorem oallB_ok (m : Nat) (ps : List (Pr (Int))) (S : List Nat) (w : World) (hd : MapAt (κ := Int) 161 165 1 w m ps S) (hl : ps.length ≤ 99999) : Meets Try.prog 75 [.pointer (some ⟨m, 0, none⟩)] w (fun v w' => ∃ lb F, v = .func (.func 117) #[] (lb : List Value).toArray ∧ Ext [] w w' ∧ (∀ W, Ext [] w' W → Iter Try.prog 117 lb W ps.length (kvE gv1' (fun k => ps[k]?)) (fun _ _ => True) F []) ∧ ∀ x ∈ F, w.heap.size ≤ x ∧ x < w'.heap.size) := by
  refine Meets.enter Try.func75 rfl 15 rfl (Nat.le_of_ble_eq_true rfl) ?_
  have E := Ext.refl [] w
  have hd0 := hd
  obtain ⟨a, c, M, rfl, hm0, Bm, om, hok, hs⟩ := hd
  refine G.seq ?_
  refine G.region ?_
  refine L.val rfl rfl (R.as rfl) ?_
  refine L.nil ?_
  refine N.seq ?_
  refine G.seq ?_
  refine G.seq ?_
  refine G.region ?_
  refine L.val rfl rfl (R.mv rfl) ?_
  refine L.val rfl rfl (R.eqNilP rfl rfl) ?_
  refine L.nil ?_
  refine N.seq ?_
  refine G.condF rfl ?_
  refine G.skip ?_
  refine N.seq ?_
  refine G.seq ?_
  refine G.region ?_
  refine L.val rfl rfl (R.mv rfl) ?_
  refine L.val rfl rfl (R.nilChk rfl) ?_
  refine L.val rfl rfl (R.fld rfl) ?_
  refine L.val rfl rfl (R.ldB rfl Bm rfl) ?_
  refine L.callF rfl rfl rfl go100 (scB_ok _ _ _ _ _ om.cells (by rw [om.1]) (pcell_one hok) (by omega)) ?_
  rintro _ w1 ⟨a1, c1, M1, rfl, e1, o1, hM1⟩
  have hE0 := E.size
  replace E := E.trans0 e1
  have hl1 := o1.lt
  have hE1 := E.size
  refine L.callF rfl rfl rfl go99 (pallB_ok a1 ps.length c1 _) ?_
  rintro _ w2 ⟨b0, rfl, e2, B0, hb0⟩
  have hE2 := E.size
  replace E := E.trans0 e2
  replace o1 := o1.ext0 e2
  have l0 := B0.lt
  have hE3 := E.size
  refine L.callF rfl rfl rfl go98 (walkB_ok 118 [.pointer (some ⟨b0, 0, none⟩)] _) ?_
  rintro _ w3 ⟨b1, rfl, e3, B1, hb1⟩
  replace E := E.trans0 e3
  replace o1 := o1.ext0 e3
  replace B0 := B0.ext0 e3
  have l1 := B1.lt
  have hs3 := e3.size
  have hs2 := e2.size
  have hFl : ∀ y ∈ b1 :: b0 :: M1, w.heap.size ≤ y ∧ y < w3.heap.size := by
    intro y hy
    simp only [List.mem_cons] at hy
    rcases hy with rfl | rfl | hy
    · exact ⟨by omega, l1⟩
    · exact ⟨by omega, by omega⟩
    · have := hl1 y hy; have := hM1 y hy; exact ⟨by omega, by omega⟩
  refine L.val rfl rfl (R.as rfl) ?_
  refine L.nil ?_
  refine N.seq ?_
  refine G.ret1 rfl rfl ?_
  exact ⟨[.pointer (some ⟨b1, 0, none⟩)], b1 :: b0 :: M1, rfl, E, fun W hW => walkB_iter b1 118 [.pointer (some ⟨b0, 0, none⟩)] ps.length (fun k => ps[k]?) (b0 :: M1) W (B1.ext0 hW) go118 (fun W' h => pallB_iter b0 a1 ps.length c1 ps M1 W' (B0.ext0 (hW.trans0 h)) (o1.ext0 (hW.trans0 h)) (by simp) hok (by omega)) (fun y hy => Nat.lt_of_lt_of_le (hFl y (List.mem_cons_of_mem _ hy)).2 hW.size) (fun k p hp => hok p (List.mem_of_getElem? hp)), hFl⟩

theorem oallB_nil (ps : List (Pr (Int))) (w : World) (hps : ps = []) : Meets Try.prog 75 [.pointer none] w (fun v w' => ∃ lb F, v = .func (.func 117) #[] (lb : List Value).toArray ∧ Ext [] w w' ∧ (∀ W, Ext [] w' W → Iter Try.prog 117 lb W ps.length (kvE gv1' (fun k => ps[k]?)) (fun _ _ => True) F []) ∧ ∀ x ∈ F, w.heap.size ≤ x ∧ x < w'.heap.size) := by
  refine Meets.enter Try.func75 rfl 15 rfl (Nat.le_of_ble_eq_true rfl) ?_
  have E := Ext.refl [] w
  subst hps
  refine G.seq ?_
  refine G.region ?_
  refine L.val rfl rfl (R.as rfl) ?_
  refine L.nil ?_
  refine N.seq ?_
  refine G.seq ?_
  refine G.seq ?_
  refine G.region ?_
  refine L.val rfl rfl (R.mv rfl) ?_
  refine L.val rfl rfl (R.eqNilP rfl rfl) ?_
  refine L.nil ?_
  refine N.seq ?_
  refine G.condT rfl ?_
  refine G.seq ?_
  refine G.region ?_
  refine L.do rfl rfl (R.buildS rfl (by decide) rfl) ?_
  rintro _ w1 ⟨b5, rfl, hb5, hs5, e1, B5⟩
  have hE0 := E.size
  replace E := E.trans0 e1
  have o1 : Own w1 165 (1 + 1) (some ⟨b5, 0, none⟩) 0 0 [] [b5] := by have := Own.blk (n := 0) (size := 1 + 1) B5 (by simp) (by simp [maxLen]); simpa using this
  have hE1 := E.size
  refine L.callF rfl rfl rfl go99 (pallB_ok (some ⟨b5, 0, none⟩) 0 0 _) ?_
  rintro _ w2 ⟨b0, rfl, e2, B0, hb0⟩
  replace E := E.trans0 e2
  replace o1 := o1.ext0 e2
  have l0 := B0.lt
  have hE2 := E.size
  have hs2 := e2.size
  refine L.callF rfl rfl rfl go98 (walkB_ok 118 [.pointer (some ⟨b0, 0, none⟩)] _) ?_
  rintro _ w3 ⟨b1, rfl, e3, B1, hb1⟩
  replace E := E.trans0 e3
  replace o1 := o1.ext0 e3
  replace B0 := B0.ext0 e3
  have l1 := B1.lt
  have hs3 := e3.size
  have hFl : ∀ y ∈ [b1, b0, b5], w.heap.size ≤ y ∧ y < w3.heap.size := by
    intro y hy
    simp only [List.mem_cons, List.not_mem_nil, or_false] at hy
    omega
  refine L.val rfl rfl (R.as rfl) ?_
  refine L.nil ?_
  refine N.seq ?_
  refine G.ret1 rfl rfl ?_
  exact ⟨[.pointer (some ⟨b1, 0, none⟩)], [b1, b0, b5], rfl, E, fun W hW => walkB_iter b1 118 [.pointer (some ⟨b0, 0, none⟩)] 0 (fun k => ([] : List (Pr (Int)))[k]?) [b0, b5] W (B1.ext0 hW) go118 (fun W' h => pallB_iter b0 (some ⟨b5, 0, none⟩) 0 0 ([] : List (Pr (Int))) [b5] W' (B0.ext0 (hW.trans0 h)) (o1.ext0 (hW.trans0 h)) rfl (by intro p hp; cases hp) (by omega)) (fun y hy => Nat.lt_of_lt_of_le (hFl y (List.mem_cons_of_mem _ hy)).2 hW.size) (fun k p hp => by simp at hp), hFl⟩

end Go.Proofs.Ytiiiplhfgblamaa
/-
  The walks of package record.
-/
set_option linter.unusedVariables false
set_option linter.unusedSimpArgs false
set_option maxRecDepth 4000
namespace Go.Proofs.Ytiiiplhfgblamaa
open Go Brv
structure MgSt where
  i : Nat
  zs : List WriteV
  S : List Nat
theorem merge_snoc (l : List WriteV) (o : WriteV) : mergeP [] ((l ++ [o]).map wv) = putK (mergeP [] (l.map wv)) o.Block' (vbs o.B') := by
  rw [List.map_append, mergeP_append]; rfl
theorem toQ_map {a b : List WriteV} (h : a.map wv = b.map wv) : (a.map fun o => toQ (wv o)) = b.map fun o => toQ (wv o) := by
  have := congrArg (List.map toQ) h
  rw [List.map_map, List.map_map] at this
  exact this

theorem merge_ok (la : Option Addr) (ln lc : Nat) (rs : List RowW) (w : World) (hL : Cells w la (rs.map RowW.val)) (hln : ln = rs.length) (hR : ∀ r ∈ rs, r.ok w) (htot : (allW rs).length ≤ 50000) (hlb : ln ≤ 2000000) : Meets Try.prog 25 [.slice la ln lc] w (fun v w' => ∃ (a : Option Addr) (n c : Nat) (os : List WriteV), v = .slice a n c ∧ n ≤ c ∧ n = os.length ∧ n ≤ 50000 ∧ Tab w' a n 2 (os.map WriteV.cells) ∧ (∀ o ∈ os, o.okW w') ∧ (os.map fun o => toQ (wv o)) = mergeP [] ((allW rs).map wv) ∧ Ext [] w w') := by
  refine Meets.enter Try.func25 rfl 44 rfl (Nat.le_of_ble_eq_true rfl) ?_
  have E := Ext.refl [] w
  refine G.seq ?_
  refine G.region ?_
  refine L.val rfl rfl (R.as rfl) ?_
  refine L.nil ?_
  refine N.seq ?_
  refine G.seq ?_
  refine G.region ?_
  refine L.callF rfl rfl rfl go73 (onewB_ok _) ?_
  rintro _ w1 ⟨m, rfl, hm, e1, D⟩
  have hS : ∀ y ∈ [m], w.heap.size ≤ y := by simpa using hm
  replace E := E.trans0 e1
  refine L.val rfl rfl (R.as rfl) ?_
  refine L.nil ?_
  refine N.seq ?_
  refine G.seq ?_
  refine G.seq ?_
  refine G.region ?_
  refine L.val rfl rfl (R.mv rfl) ?_
  refine L.val rfl rfl (R.lenS rfl) ?_
  refine L.val rfl rfl (R.mv rfl) ?_
  refine L.nil ?_
  refine N.seq ?_
  refine G.block ?_
  refine G.loop (X := MgSt) (fun s => [(3, .pointer (some ⟨m, 0, none⟩)), (12, .slice la ln lc), (13, .int .i64 (ln : Int)), (14, .int .i64 (s.i : Int))]) (fun s w' => s.i ≤ ln ∧ (s.zs.map fun o => toQ (wv o)) = mergeP [] ((allW (rs.take s.i)).map wv) ∧ s.zs.length ≤ (allW (rs.take s.i)).length ∧ (∀ z ∈ s.zs, z.okW w) ∧ MapAt (κ := Int) 161 165 1 w' m (s.zs.map toP) s.S ∧ (∀ y ∈ s.S, w.heap.size ≤ y) ∧ Ext [] w w') (fun s => ln - s.i) (⟨0, [], [m]⟩) (Sub.cons rfl (Sub.cons rfl (Sub.cons rfl (Sub.cons rfl (Sub.nil _))))) ⟨Nat.zero_le _, rfl, Nat.zero_le _, (by intro z hz; cases hz), D, hS, E⟩ ?_
  rintro ⟨i, zs, S⟩ w2 ⟨hi, hz, hzl, hzk, D, hS, E⟩
  dsimp only at hi hz hzl hzk D hS
  refine G.sub [(3, .pointer (some ⟨m, 0, none⟩)), (12, .slice la ln lc), (13, .int .i64 (ln : Int)), (14, .int .i64 (i : Int))] (Sub.cons rfl (Sub.cons rfl (Sub.cons rfl (Sub.cons rfl (Sub.nil _))))) ?_
  refine G.seq ?_
  refine G.region ?_
  refine L.val rfl rfl (R.lss rfl rfl) ?_
  refine L.nil ?_
  refine N.seq ?_
  refine G.seq ?_
  refine G.condP rfl (fun h0 => ?_) (fun h0 => ?_)
  · obtain ⟨r, hr⟩ : ∃ r, rs[i]? = some r := ⟨_, List.getElem?_eq_getElem (by omega)⟩
    obtain ⟨q, hq, hcq⟩ := hL i r.val (by rw [List.getElem?_map, hr]; rfl)
    obtain ⟨hrc, hrT, hrO⟩ := hR r (List.mem_of_getElem? hr)
    have hrl := hrT.len
    rw [List.length_map] at hrl
    have hal := allW_le hr
    refine G.skip ?_
    refine N.seq ?_
    refine G.seq ?_
    refine G.block ?_
    refine G.seq ?_
    refine G.region ?_
    refine L.val rfl rfl (R.idx rfl rfl (by omega) (by omega) q hq) ?_
    refine L.val rfl rfl (R.ld rfl (v := .slice r.a r.n r.c) (ev_at hcq E)) ?_
    refine L.val rfl rfl (R.as rfl) ?_
    refine L.nil ?_
    refine N.seq ?_
    refine G.seq ?_
    refine G.region ?_
    refine L.val rfl rfl (R.mv rfl) ?_
    refine L.val rfl rfl (R.lenS rfl) ?_
    refine L.val rfl rfl (R.mv rfl) ?_
    refine L.nil ?_
    refine N.seq ?_
    refine G.block ?_
    refine G.loop (X := MgSt) (fun s => [(3, .pointer (some ⟨m, 0, none⟩)), (12, .slice la ln lc), (13, .int .i64 (ln : Int)), (14, .int .i64 (i : Int)), (18, .slice r.a r.n r.c), (19, .int .i64 (r.n : Int)), (20, .int .i64 (s.i : Int))]) (fun s w' => s.i ≤ r.n ∧ (s.zs.map fun o => toQ (wv o)) = mergeP [] ((allW (rs.take i) ++ r.os.take s.i).map wv) ∧ s.zs.length ≤ (allW (rs.take i) ++ r.os.take s.i).length ∧ (∀ z ∈ s.zs, z.okW w) ∧ MapAt (κ := Int) 161 165 1 w' m (s.zs.map toP) s.S ∧ (∀ y ∈ s.S, w.heap.size ≤ y) ∧ Ext [] w w') (fun s => r.n - s.i) (⟨0, zs, S⟩) (Sub.cons rfl (Sub.cons rfl (Sub.cons rfl (Sub.cons rfl (Sub.cons rfl (Sub.cons rfl (Sub.cons rfl (Sub.nil _)))))))) ⟨Nat.zero_le _, by show _ = mergeP [] ((allW (rs.take i) ++ r.os.take 0).map wv); rw [List.take_zero, List.append_nil]; exact hz, by show _ ≤ (allW (rs.take i) ++ r.os.take 0).length; rw [List.take_zero, List.append_nil]; exact hzl, hzk, D, hS, E⟩ ?_
    rintro ⟨j, zs, S⟩ w2 ⟨hj, hz, hzl, hzk, D, hS, E⟩
    dsimp only at hj hz hzl hzk D hS
    refine G.sub [(3, .pointer (some ⟨m, 0, none⟩)), (12, .slice la ln lc), (13, .int .i64 (ln : Int)), (14, .int .i64 (i : Int)), (18, .slice r.a r.n r.c), (19, .int .i64 (r.n : Int)), (20, .int .i64 (j : Int))] (Sub.cons rfl (Sub.cons rfl (Sub.cons rfl (Sub.cons rfl (Sub.cons rfl (Sub.cons rfl (Sub.cons rfl (Sub.nil _)))))))) ?_
    have hDl := D.lt
    have hlj : (allW (rs.take i) ++ r.os.take j).length ≤ 50000 := by rw [List.length_append, List.length_take]; omega
    refine G.seq ?_
    refine G.region ?_
    refine L.val rfl rfl (R.lss rfl rfl) ?_
    refine L.nil ?_
    refine N.seq ?_
    refine G.seq ?_
    refine G.condP rfl (fun h1 => ?_) (fun h1 => ?_)
    · refine G.skip ?_
      refine N.seq ?_
      refine G.seq ?_
      refine G.block ?_
      refine G.seq ?_
      refine G.region ?_
      obtain ⟨q9, hq9, hcl⟩ := hrT.at (by decide) j (by rw [List.length_map]; omega)
      rw [List.getElem_map] at hcl
      have hok := hrO _ (List.getElem_mem (show j < r.os.length by omega))
      generalize hoe : r.os[j]'(by omega) = o at *
      refine L.val rfl rfl (R.idx rfl rfl (by omega) (by omega) q9 hq9) ?_
      refine L.val rfl rfl (R.ldN rfl (hcl.ext0 E) rfl) ?_
      refine L.do rfl rfl (R.alloc) ?_
      rintro _ w2 ⟨b9, rfl, hb9, hs9, e2, B9⟩
      have hEb := E.size
      replace E := E.trans0 e2
      replace D := D.ext0 e2
      have h9S : b9 ∉ S := fun h => by have := hDl _ h; omega
      refine L.set rfl (R.stN rfl rfl B9 rfl (Nat.le_refl 2) (WriteV.cells.one _)) ?_
      rintro w3 ⟨e3, hs3, B9⟩
      replace B9 : Blk w3 b9 o.cells.toArray 40 (0, 0) := B9
      replace E := E.trans e3 (M := []) (by simp) (by intro x hx; rw [List.mem_singleton.1 hx]; exact .inr (by omega))
      replace D := D.ext e3 (fun y hy h => h9S (by rw [← List.mem_singleton.1 h]; exact hy))
      have hjo : r.os[j]? = some o := by rw [List.getElem?_eq_getElem (by omega), hoe]
      have htk : r.os.take (j + 1) = r.os.take j ++ [o] := by rw [List.take_add_one, hjo]; rfl
      refine L.nil ?_
      refine N.seq ?_
      refine G.region ?_
      refine L.val rfl rfl (R.mv rfl) ?_
      refine L.val rfl rfl (R.fld rfl) ?_
      refine L.val rfl rfl (R.ldB (v := .int .i64 o.Block') rfl B9 rfl) ?_
      refine L.val rfl rfl (R.fld rfl) ?_
      refine L.val rfl rfl (R.ldB (v := .slice o.B'a o.B'n o.B'c) rfl B9 rfl) ?_
      refine L.callF rfl rfl rfl go74 (putB_ok m (zs.map toP) S o.Block' o.B'a o.B'n o.B'c _ D (by rw [List.length_map]; omega)) ?_
      rintro _ w5 ⟨rfl, S5, g5, D⟩
      have hE5 := E.size
      replace E := E.fresh g5.1 hS
      replace hS := g5.fresh hS hE5
      rw [← putW_toP] at D
      refine L.nil ?_
      refine N.block ?_
      refine N.seq ?_
      refine G.region ?_
      refine L.val rfl rfl (R.add rfl rfl (by omega)) ?_
      refine L.val rfl rfl (R.mv rfl) ?_
      refine L.nil ?_
      exact N.again (X := MgSt) ⟨j + 1, putW zs o, S5⟩ (by show r.n - (j + 1) < r.n - j; omega) (Sub.cons rfl (Sub.cons rfl (Sub.cons rfl (Sub.cons rfl (Sub.cons rfl (Sub.cons rfl (Sub.cons rfl (Sub.nil _)))))))) ⟨by show j + 1 ≤ r.n; omega, by show _ = mergeP [] ((allW (rs.take i) ++ r.os.take (j + 1)).map wv); rw [putW_toQ, hz, htk, ← List.append_assoc]; exact (merge_snoc _ _).symm, by show _ ≤ (allW (rs.take i) ++ r.os.take (j + 1)).length; rw [htk, ← List.append_assoc, List.length_append]; exact Nat.le_trans (putW_len zs o) (Nat.add_le_add_right hzl 1), fun z hz => (putW_mem hz).elim (fun e => e ▸ hok) (hzk z), D, hS, E⟩
    · obtain rfl : j = r.n := by omega
      have htr : r.os.take r.n = r.os := List.take_of_length_le (by omega)
      rw [htr] at hz hzl
      refine G.exit _ rfl ?_
      refine N.block ?_
      refine N.seq ?_
      refine G.region ?_
      refine L.val rfl rfl (R.add rfl rfl (by omega)) ?_
      refine L.val rfl rfl (R.mv rfl) ?_
      refine L.nil ?_
      exact N.again (X := MgSt) ⟨i + 1, zs, S⟩ (by show ln - (i + 1) < ln - i; omega) (Sub.cons rfl (Sub.cons rfl (Sub.cons rfl (Sub.cons rfl (Sub.nil _))))) ⟨by show i + 1 ≤ ln; omega, by show _ = mergeP [] ((allW (rs.take (i + 1))).map wv); rw [allW_succ hr]; exact hz, by show _ ≤ (allW (rs.take (i + 1))).length; rw [allW_succ hr]; exact hzl, hzk, D, hS, E⟩
  · obtain rfl : ln = i := by omega
    rw [List.take_of_length_le (by omega)] at hz hzl
    refine G.exit _ rfl ?_
    refine N.seq ?_
    refine G.seq ?_
    refine G.region ?_
    refine L.do rfl rfl (R.alloc) ?_
    rintro _ w6 ⟨b8, rfl, hb8, hs8, e6, B8⟩
    have hE5 := E.size
    replace B8 : Blk w6 b8 #[.slice none 0 0] 22 (0, 0) := B8
    replace E := E.trans0 e6
    replace D := D.ext0 e6
    refine L.nil ?_
    refine N.seq ?_
    refine G.seq ?_
    refine G.seq ?_
    refine G.region ?_
    refine L.val rfl rfl (R.mv rfl) ?_
    refine L.callF rfl rfl rfl go75 (oallB_ok m (zs.map toP) S _ D (by rw [List.length_map]; omega)) ?_
    rintro _ w7 ⟨lb, Fp, rfl, e7, hit, hFp⟩
    replace E := E.trans0 e7
    have l8 := B8.lt
    replace B8 := B8.ext0 e7
    have hE7 := E.size
    have hs7 := e7.size
    refine L.nil ?_
    refine N.seq ?_
    refine G.block ?_
    have hD0 : ∀ y ∈ [b8], y < w7.heap.size ∧ y ∉ Fp ∧ y ∉ ([] : List Nat) := by
      intro y hy
      rw [List.mem_singleton] at hy
      subst hy
      exact ⟨B8.lt, fun h => by have := hFp _ h; omega, by simp⟩
    have hI0 : mgI zs 22 40 b8 w 0 [b8] w7 := ⟨none, 0, [], [], [], rfl, B8, Own.nil _ _ _, rfl, by simp, (fun _ _ _ _ o ho => by cases ho), by simp, by simp, by omega, E⟩
    refine G.range (lb := lb) rfl rfl go117 (hit _ (Ext.refl _ _)) (fun _ _ _ h _ => h) [b8] hD0 (fun y h => h.elim (fun h => (hFp y h).2) (by simp)) (mgI zs 22 40 b8 w) (fun _ _ _ _ => False) (fun k D W1 W2 M2 h he hm => mgI_keep hE7 h he hm) (fun _ _ _ _ _ _ h _ _ => h) hI0 ?_ ?_ ?_
    · rintro l k D vs W1 hl2 hlt hlD hDl hk hIk ⟨p, hp, rfl⟩
      replace hp : (zs.map toP)[k]? = some p := hp
      rw [List.getElem?_map] at hp
      obtain ⟨z, hz9, rfl⟩ : ∃ z, zs[k]? = some z ∧ toP z = p := by
        cases h9 : zs[k]? with
        | none => rw [h9] at hp; cases hp
        | some z => rw [h9] at hp; exact ⟨z, rfl, by simpa using hp⟩
      rw [List.length_map] at hk
      have hzo := hzk z (List.mem_of_getElem? hz9)
      refine ⟨rfl, ?_⟩
      refine G.sub [(35, .slice z.B'a z.B'n z.B'c), (34, .int .i64 z.Block'), (8, .pointer (some ⟨b8, 0, none⟩))] (Sub.cons rfl (Sub.cons rfl (Sub.cons rfl (Sub.nil _)))) ?_
      refine G.seq ?_
      refine G.region ?_
      refine L.val rfl rfl (R.as rfl) ?_
      refine L.nil ?_
      refine N.seq ?_
      refine G.region ?_
      refine L.val rfl rfl (R.as rfl) ?_
      refine L.nil ?_
      refine N.round (Ext.refl _ _) (fun wb hb1 hb2 => ?_)
      obtain ⟨a1, c1, MB, CB, os, rfl, B8, o, hol, how, hko, hMC, hdj, h8, E⟩ := hIk
      replace B8 := B8.still hb2
      replace o := o.still hb2
      replace hko := hko.ext hb1 (fun g hg h => hlD (by rw [← List.mem_singleton.1 hg]; simp [h]))
      replace E := E.transN hb1 (fun g hg => .inr (by rw [List.mem_singleton.1 hg]; omega))
      have hEb := E.size
      have l8b := B8.lt
      have hlo := o.lt
      have hsb := hb1.size
      have hn8 : b8 ∉ MB := fun h => (hMC _ (List.mem_append_left _ h)).2.1 rfl
      have hzn : z.B'n = z.B'.length := hzo.2.2.len
      have hzl9 : z.B'.length ≤ 140737488351232 := by rw [← hzn]; exact hzo.2.1
      refine G.block ?_
      refine G.staged [6, 7] [.blocks (MB), .blocks ([b8])] [Ext [] wb, Ext MB wb, fun w' => ∃ a3 c3 M3 o3 MC, Blk w' b8 #[.slice a3 (k + 1) c3] 22 (0, 0) ∧ Own w' 40 2 a3 (k + 1) c3 (cellsW (os ++ [o3])) M3 ∧ (∀ g ∈ M3, g ∈ MB ∨ wb.heap.size ≤ g) ∧ ClV wb.heap.size 5 z o3 MC w' ∧ (∀ g ∈ MC, g ∉ M3) ∧ Ext (b8 :: MB) wb w'] [(6, 39), (6, 40), (6, 41), (7, 39), (7, 40), (7, 41), (7, 42)] (by decide +kernel) (by decide +kernel) rfl rfl rfl (fun _ h => h) ?_
      refine Z.read 0 (by decide +kernel) rfl rfl rfl rfl rfl rfl (fun w8 hJ => R.ldB rfl (B8.ext0 hJ) rfl) ?_
      refine Z.val rfl rfl rfl rfl rfl (fun w8 => R.mv rfl) ?_
      refine Z.val rfl rfl rfl rfl rfl (fun w8 => R.mv rfl) ?_
      refine Z.callR (A := Held [] wb.heap.size 5 1 z.B'n (vbs z.B')) (Lasts.kill (Held.keep _ _ _ _ _ _) (by decide +kernel)) 0 (by decide +kernel) rfl rfl rfl rfl go76 (fun w8 hJ => ⟨_, rfl, (bclone_ok z.B'a z.B'n z.B'c z.B' _ (hzo.2.2.ext0 (E.trans0 hJ)) (by omega)).mono (fun v w9 h => by obtain ⟨a9, c9, M9, rfl, e9, o9, hM9⟩ := h; exact ⟨⟨a9, c9, M9, rfl, o9, fun g hg => .inr (Nat.le_trans hJ.size (hM9 g hg))⟩, e9, hJ.trans0 e9⟩)⟩) ?_
      refine Z.valR (A := IsO wb.heap.size 5 z) (Lasts.kill (IsO.keep _ _ _) (by decide +kernel)) rfl rfl rfl rfl (fun w8 => fun v hv => by obtain ⟨a9, c9, M9, rfl, o9, hM9⟩ := hv; exact ⟨_, R.build (cs := #[.int .i64 z.Block', .slice a9 z.B'n c9]) rfl rfl, ⟨z.Block', a9, z.B'n, c9, z.B'⟩, M9, rfl, rfl, o9, hzn, fun g hg => (hM9 g hg).elim (by simp) id⟩) ?_
      refine Z.new (A := IsS wb.heap.size 5 z) (Lasts.kill (IsS.keep _ _ _) (by decide +kernel)) 0 (by decide +kernel) rfl rfl rfl rfl rfl (fun w8 hJ => fun v hv => by obtain ⟨o9, MC, rfl, hcl⟩ := hv; exact (R.buildA rfl rfl rfl rfl rfl).mono (fun v w1 h => by obtain ⟨g, rfl, _, _, e9, B9⟩ := h; exact ⟨⟨g, o9, MC, rfl, Cells.of_blk B9 0 _ (fun j u hj => by simpa [cellsOf, Value.cells] using hj), hcl.ext e9 (by simp)⟩, e9, hJ.trans0 e9⟩)) ?_
      refine Z.put (A := RowN 40 wb.heap.size 5 k MB os z) (Lasts.kill (RowN.keep _ _ _ _ _ _ _) (by decide +kernel)) 0 (by decide +kernel) rfl rfl rfl rfl rfl rfl rfl (fun w8 hJ => by rintro v ⟨g9, o9, MC, rfl, hc9, hcl9⟩; exact (R.app rfl rfl (o.ext0 hJ) hc9 rfl (fun u hu => WriteV.cells.one o9 u (by simpa using hu)) (by simp [maxLen]; omega) (by omega)).mono (fun v w9 h => by obtain ⟨a3, c3, M3, rfl, e9, hM3, r3⟩ := h; have hq9 := hcl9.2.1.lt; have hsq := hJ.size; exact ⟨⟨a3, c3, M3, o9, MC, rfl, by rw [cellsW_append]; exact (show cellsW [o9] = o9.cells from List.append_nil _) ▸ r3, fun g hg => (hM3 g hg).imp id (fun h => Nat.le_trans hsq h), hcl9.ext e9 (fun g hg hm => by have := hlo g hm; have := hcl9.2.2.2 g hg; omega), fun g hg hm => (hM3 g hm).elim (fun h => by have := hlo g h; have := hcl9.2.2.2 g hg; omega) (fun h => by have := hq9 g hg; omega)⟩, e9, e9.after hJ⟩)) ?_
      refine Z.set 1 (by decide +kernel) rfl rfl rfl rfl rfl rfl (fun w8 hJ => fun v hv => (R.st rfl rfl (B8.ext hJ hn8) (by show 0 < 1; decide) (by obtain ⟨_, _, _, _, _, rfl, _⟩ := hv; rfl)).mono (fun _ h => ⟨h.1, by obtain ⟨a3, c3, M3, o3, MC, rfl, r3, hM3, hcl3, hd3⟩ := hv; have n8 : b8 ∉ M3 := fun hm => (hM3 _ hm).elim hn8 (by omega); exact ⟨a3, c3, M3, o3, MC, h.2.2, r3.ext h.1 (fun g hg hm => n8 (by rw [← List.mem_singleton.1 hm]; exact hg)), hM3, hcl3.ext h.1 (fun g hg hm => by have := hcl3.2.2.2 g hg; rw [List.mem_singleton.1 hm] at this; omega), hd3, (hJ.mono (fun g hg => .inl (List.mem_cons_of_mem _ hg))).transN h.1 (fun g hg => .inl (by rw [List.mem_singleton.1 hg]; simp))⟩⟩)) ?_
      refine Z.nil rfl rfl (fun w8 hJ => ?_)
      obtain ⟨a3, c3, M3, o3, MC, B8n, r3, hM3, hcl3, hd3, X0⟩ := hJ
      replace B8 := B8n
      have hMCl := hcl3.2.1.lt
      have hr3 := r3.lt
      have hsx := X0.size
      have X : Ext (b8 :: (MB ++ CB)) wb _ := X0.mono (fun g hg => .inl (by rcases List.mem_cons.1 hg with h | h <;> simp [h]))
      have how3 : (os ++ [o3]).map wv = (zs.take (k + 1)).map wv := by rw [List.map_append, how, List.take_add_one, hz9, List.map_append]; congr 1; show [wv o3] = [wv z]; rw [hcl3.1]
      have hcx : ∀ g ∈ CB, g ∉ b8 :: MB := fun g hg hm => by
        rcases List.mem_cons.1 hm with h | h
        · exact (hMC g (List.mem_append_right _ hg)).2.1 h
        · exact hdj g h hg
      have hko3 : OkF _ (CB ++ MC) (os ++ [o3]) := fun M9 w9 e9 hm9 x hx => by
        rcases List.mem_append.1 hx with hx | hx
        · exact (hko.ext X0 (fun g hg hc => hcx g hc hg)) M9 w9 e9 (fun g hg hc => hm9 g hg (List.mem_append_left _ hc)) x hx
        · exact (hcl3.okF hzl9) M9 w9 e9 (fun g hg hc => hm9 g hg (List.mem_append_right _ hc)) x hx
      have hMC3 : ∀ g ∈ M3 ++ (CB ++ MC), w.heap.size ≤ g ∧ g ≠ b8 ∧ g < (w8).heap.size := by
        intro g hg
        rcases List.mem_append.1 hg with h | h
        · exact ⟨(hM3 g h).elim (fun h => (hMC g (List.mem_append_left _ h)).1) (fun h => by omega), (hM3 g h).elim (fun h => (hMC g (List.mem_append_left _ h)).2.1) (fun h => by omega), hr3 g h⟩
        · rcases List.mem_append.1 h with h | h
          · have := hMC g (List.mem_append_right _ h); exact ⟨this.1, this.2.1, by omega⟩
          · have := hcl3.2.2.2 g h; exact ⟨by omega, by omega, hMCl g h⟩
      have hdj3 : ∀ g ∈ M3, g ∉ CB ++ MC := by
        intro g hg hc
        rcases List.mem_append.1 hc with hc | hc
        · exact (hM3 g hg).elim (fun h => hdj g h hc) (fun h => by have := (hMC g (List.mem_append_right _ hc)).2.2; omega)
        · exact hd3 g hc hg
      have hD2 : ∀ g ∈ b8 :: (M3 ++ (CB ++ MC)), g < (w8).heap.size ∧ (g ∈ b8 :: (MB ++ CB) ∨ wb.heap.size ≤ g) := by
        intro g hg
        rcases List.mem_cons.1 hg with rfl | hg
        · exact ⟨B8.lt, .inl (by simp)⟩
        · refine ⟨(hMC3 g hg).2.2, ?_⟩
          rcases List.mem_append.1 hg with h | h
          · exact (hM3 g h).imp (fun h => by simp [h]) id
          · rcases List.mem_append.1 h with h | h
            · exact .inl (by simp [h])
            · exact .inr (hcl3.2.2.2 g h)
      replace E := E.transN X0 (fun g hg => .inr ((List.mem_cons.1 hg).elim (fun h => by omega) (fun h => (hMC g (List.mem_append_left _ h)).1)))
      refine N.block ?_
      refine N.done fun _ _ => ?_
      exact ⟨b8 :: (M3 ++ (CB ++ MC)), X, hD2, a3, c3, M3, CB ++ MC, os ++ [o3], rfl, B8, r3, by rw [List.length_append, hol]; rfl, how3, hko3, hMC3, hdj3, h8, E⟩
    · rintro d2 DD W2 hd2 hdD hK ⟨a1, c1, MB, CB, os, rfl, B8, o, hol, how, hko, hMC, hdj, h8, E⟩ _
      have hst := Still.putObj (.deferred none) hK rfl
      rw [List.length_map] at hol
      rw [List.length_map, List.take_length] at how
      rw [List.length_map] at B8 o
      refine N.block ?_
      refine N.seq ?_
      refine G.seq ?_
      refine G.region ?_
      refine L.val rfl rfl (R.ldB rfl B8 rfl) ?_
      refine L.val rfl rfl (R.as rfl) ?_
      refine L.nil ?_
      refine N.seq ?_
      refine G.ret1M rfl rfl (leave1 hK) ?_
      exact ⟨a1, zs.length, c1, os, rfl, o.le, hol.symm, by omega, tabW (o.still hst).cells hol.symm, fun x hx => hko [d2] _ (Ext.putObj _ _ _) (fun g hg hc => hdD (by rw [List.mem_singleton.1 hg] at hc; simp [hc])) x hx, by rw [← hz]; exact (toQ_map how), E.transN (Ext.putObj _ _ _) (fun g hg => .inr (by rw [List.mem_singleton.1 hg]; omega))⟩
    · rintro _ _ _ _ _ _ _ _ _ h _
      exact h.elim

end Go.Proofs.Ytiiiplhfgblamaa
/-
  The walks of package record.
-/
set_option linter.unusedVariables false
set_option linter.unusedSimpArgs false
set_option maxRecDepth 4000
namespace Go.Proofs.Ytiiiplhfgblamaa
open Go Brv
theorem row_cell {w : World} {la : Option Addr} {q : Addr} {rs : List RowW} {i : Nat} {r : RowW} (h : Cells w la (rs.map RowW.val)) (hq : la = some q) (hr : rs[i]? = some r) : w.cell? (q.add ((i : Int).toNat * 1)) = some (.slice r.a r.n r.c) := by
  obtain ⟨p, hp, hc⟩ := h i r.val (by rw [List.getElem?_map, hr]; rfl)
  rw [hq] at hp; cases hp
  rw [Int.toNat_natCast, Nat.mul_one]; exact hc
theorem row_some {w : World} {la : Option Addr} {rs : List RowW} {i : Nat} {r : RowW} (h : Cells w la (rs.map RowW.val)) (hr : rs[i]? = some r) : ∃ q, la = some q := by
  obtain ⟨p, hp, hc⟩ := h i r.val (by rw [List.getElem?_map, hr]; rfl)
  exact ⟨p, hp⟩
theorem cellsW_at {w : World} {p : Addr} {ws : List WriteV} {i : Nat} {o : WriteV} (h : Cells w (some p) (cellsW ws)) (ho : ws[i]? = some o) : Cells w (some (p.add ((i : Int).toNat * 2))) (WriteV.cells o) := by
  obtain ⟨hi, rfl⟩ := List.getElem?_eq_some_iff.1 ho
  obtain ⟨q, hq, hc⟩ := (tabW h rfl).at (by decide) i (by simpa using hi)
  cases hq
  rw [Int.toNat_natCast]
  simpa using hc
theorem cellsW_blk {w : World} {p : Addr} {ws : List WriteV} {i : Nat} {o : WriteV} (h : Cells w (some p) (cellsW ws)) (ho : ws[i]? = some o) : w.cell? ((p.add ((i : Int).toNat * 2)).add 0) = some (.int .i64 o.Block') := by
  exact (cellsW_at h ho).load (j := 0) rfl
theorem cells_to {w : World} {a b : Option Addr} {vs : List Value} (h : Cells w a vs) (e : a = b) : Cells w b vs := e ▸ h
structure MgO where
  os : List WriteV
  oa : Option Addr
  oc : Nat
theorem last_map {os : List WriteV} {z : WriteV} (h : os[os.length - 1]? = some z) : lastW (os.map wv) = some z.Block' := by
  rw [lastW, List.getLast?_map, List.getLast?_eq_getElem?, h]; rfl
theorem all_at {ws : List WriteV} {i : Nat} {o : WriteV} (h : ws[i]? = some o) : (ws.map wv)[i]? = some (wv o) := by rw [List.getElem?_map, h]; rfl
theorem best_lt {all : List Wr} {last : Option Int} {i : Nat} {best : Int} (h : BestAt all last i best) : best < i := by
  rcases h with ⟨rfl, _⟩ | ⟨b, w, rfl, B⟩
  · omega
  · have := B.lt; omega

structure MgA where
  i : Nat
  a : Option Addr
  c : Nat

theorem refmerge7_ok (la : Option Addr) (ln lc : Nat) (rs : List RowW) (hln : ln = rs.length) (htot : (allW rs).length ≤ 50000) (hlb : ln ≤ 2000000) : SpecS Try.prog 26 [.slice la ln lc] [sh (fun w => Cells w la (rs.map RowW.val) ∧ ∀ r ∈ rs, r.ok w)] (fun v H' => ∃ r : RowW, v = .slice r.a r.n r.c ∧ (r.os.map fun o => toQ (wv o)) = mergeP [] ((allW rs).map wv) ∧ r.n ≤ 50000 ∧ H' = [sh (fun w => r.ok w)]) := by
  refine SpecS.enter Try.func26 rfl 68 rfl (Nat.le_of_ble_eq_true rfl) (fun o => ?_)
  refine SG.imp (Imp.ownNil 40 2) ?_
  refine SG.seq ?_
  refine SG.region ?_
  refine SL.val rfl rfl (fun w9 F9 S9 s => R.as rfl) ?_
  refine SL.nil ?_
  refine SN.seq ?_
  refine SG.seq ?_
  refine SG.region ?_
  refine SL.val rfl rfl (fun w9 F9 S9 s => R.as rfl) ?_
  refine SL.val rfl rfl (fun w9 F9 S9 s => R.as rfl) ?_
  refine SL.nil ?_
  refine SN.seq ?_
  refine SG.seq ?_
  refine SG.seq ?_
  refine SG.region ?_
  refine SL.val rfl rfl (fun w9 F9 S9 s => R.mv rfl) ?_
  refine SL.val rfl rfl (fun w9 F9 S9 s => R.lenS rfl) ?_
  refine SL.val rfl rfl (fun w9 F9 S9 s => R.mv rfl) ?_
  refine SL.nil ?_
  refine SN.seq ?_
  refine SG.block ?_
  refine SG.loop (X := MgA) (fun x => [(2, .slice none 0 0), (3, .slice x.a (allW (rs.take x.i)).length x.c), (4, .slice none 0 0), (10, .slice la ln lc), (11, .int .i64 (ln : Int)), (12, .int .i64 (x.i : Int))]) (fun x => [sh (fun w => Cells w la (rs.map RowW.val) ∧ ∀ r ∈ rs, r.ok w), own 40 2 x.a (allW (rs.take x.i)).length x.c (cellsW (allW (rs.take x.i)))]) (fun x => x.i ≤ ln) (fun x => ln - x.i) (⟨0, none, 0⟩) (Sub.cons rfl (Sub.cons rfl (Sub.cons rfl (Sub.cons rfl (Sub.cons rfl (Sub.cons rfl (Sub.nil _))))))) ((Imp.sels (by repeat (first | exact Sels.nil | apply Sels.cons | exact Sel.keep | exact Sel.here | apply Sel.there)))) (Nat.zero_le _) ?_
  rintro ⟨i, a, c⟩ hi
  dsimp only at hi
  show SG _ _ _ _ _ [(2, .slice none 0 0), (3, .slice a (allW (rs.take i)).length c), (4, .slice none 0 0), (10, .slice la ln lc), (11, .int .i64 (ln : Int)), (12, .int .i64 (i : Int))] [sh (fun w => Cells w la (rs.map RowW.val) ∧ ∀ r ∈ rs, r.ok w), own 40 2 a (allW (rs.take i)).length c (cellsW (allW (rs.take i)))] _
  refine SG.seq ?_
  refine SG.region ?_
  refine SL.val rfl rfl (fun w9 F9 S9 s => R.lss rfl rfl) ?_
  refine SL.nil ?_
  refine SN.seq ?_
  refine SG.seq ?_
  refine SG.condP rfl (fun h0 => ?_) (fun h0 => ?_)
  · obtain ⟨r, hr⟩ : ∃ r, rs[i]? = some r := ⟨_, List.getElem?_eq_getElem (by omega)⟩
    refine SG.fact (fun w9 F9 S9 s => row_some (s.sh (by repeat (first | exact Sel.keep | exact Sel.here | apply Sel.there)) (p := fun w => Cells w la (rs.map RowW.val) ∧ ∀ r ∈ rs, r.ok w)).1 hr) (fun hf9 => ?_)
    obtain ⟨q, hq⟩ := hf9
    refine SG.fact (fun w9 F9 S9 s => (show r.os.length = r.n by have h9 := ((s.sh (by repeat (first | exact Sel.keep | exact Sel.here | apply Sel.there)) (p := fun w => Cells w la (rs.map RowW.val) ∧ ∀ r ∈ rs, r.ok w)).2 r (List.mem_of_getElem? hr)).2.1.len; rw [List.length_map] at h9; exact h9.symm)) (fun hf9 => ?_)
    have hrn := hf9; clear hf9
    have hal := allW_le hr
    refine SG.skip ?_
    refine SN.seq ?_
    refine SG.seq ?_
    refine SG.block ?_
    refine SG.seq ?_
    refine SG.region ?_
    refine SL.val rfl rfl (fun w9 F9 S9 s => R.idx rfl rfl (by omega) (by omega) q hq) ?_
    refine SL.val rfl rfl (fun w9 F9 S9 s => R.ld rfl (v := .slice r.a r.n r.c) (row_cell (s.sh (by repeat (first | exact Sel.keep | exact Sel.here | apply Sel.there)) (p := fun w => Cells w la (rs.map RowW.val) ∧ ∀ r ∈ rs, r.ok w)).1 hq hr)) ?_
    refine SL.val rfl rfl (fun w9 F9 S9 s => R.as rfl) ?_
    refine SL.nil ?_
    refine SN.seq ?_
    refine SG.region ?_
    refine SL.val rfl rfl (fun w9 F9 S9 s => R.mv rfl) ?_
    refine SL.val rfl rfl (fun w9 F9 S9 s => R.mv rfl) ?_
    refine SL.step rfl rfl (CS.app (news := cellsW r.os) rfl rfl (by repeat (first | exact Sel.keep | exact Sel.here | apply Sel.there)) (fun w9 F9 S9 s => ((s.sh (by repeat (first | exact Sel.keep | exact Sel.here | apply Sel.there)) (p := fun w => Cells w la (rs.map RowW.val) ∧ ∀ r ∈ rs, r.ok w)).2 r (List.mem_of_getElem? hr)).2.1.cells) (by rw [cellsW_length, hrn]) (cellsW_one _) (by simp [maxLen]; omega) (by omega)) ?_
    rintro _ _ ⟨a18, c18, rfl, rfl⟩
    refine SL.val rfl rfl (fun w9 F9 S9 s => R.as rfl) ?_
    refine SL.nil ?_
    refine SN.be 3 rfl (show Value.slice a18 ((allW (rs.take i)).length + r.n) c18 = Value.slice a18 (allW (rs.take (i + 1))).length c18 by rw [allW_succ hr, List.length_append, hrn]) ?_
    refine SN.block ?_
    refine SN.seq ?_
    refine SG.region ?_
    refine SL.val rfl rfl (fun w9 F9 S9 s => R.add rfl rfl (by omega)) ?_
    refine SL.val rfl rfl (fun w9 F9 S9 s => R.mv rfl) ?_
    refine SL.nil ?_
    exact SN.again (⟨i + 1, a18, c18⟩) (by show ln - (i + 1) < ln - i; omega) (Sub.cons rfl (Sub.cons rfl (Sub.cons rfl (Sub.cons rfl (Sub.cons rfl (Sub.cons rfl (Sub.nil _))))))) ((show Imp _ _ by simp only [allW_succ hr, List.length_append, cellsW_append, hrn]; exact (Imp.sels (by repeat (first | exact Sels.nil | apply Sels.cons | exact Sel.keep | exact Sel.here | apply Sel.there))))) (by show i + 1 ≤ ln; omega)
  · obtain rfl : ln = i := by omega
    have hta : rs.take ln = rs := List.take_of_length_le (by omega)
    rw [hta]
    obtain ⟨aa, haa⟩ : ∃ aa, aa = a := ⟨_, rfl⟩
    obtain ⟨ac, hac⟩ : ∃ ac, ac = c := ⟨_, rfl⟩
    rw [← haa, ← hac]
    refine SG.imp (Imp.weak (by repeat (first | exact Sel.keep | exact Sel.here | apply Sel.there)) (p := fun w => Cells w la (rs.map RowW.val) ∧ ∀ r ∈ rs, r.ok w) (q := fun w => ∀ o ∈ allW rs, o.okW w) (fun w h o ho => by obtain ⟨os, hos, ho⟩ := List.mem_flatten.1 ho; obtain ⟨r, hr, rfl⟩ := List.mem_map.1 hos; exact (h.2 r hr).2.2 o ho)) ?_
    refine SG.exit _ rfl ?_
    refine SN.seq ?_
    refine SG.block ?_
    refine SG.imp (Imp.ownNil 40 2) ?_
    refine SG.loop (X := MgO) (fun x => [(3, .slice aa (allW rs).length ac), (4, .slice x.oa x.os.length x.oc)]) (fun x => [sh (fun w => ∀ o ∈ allW rs, o.okW w), own 40 2 aa (allW rs).length ac (cellsW (allW rs)), own 40 2 x.oa x.os.length x.oc (cellsW x.os)]) (fun x => OutOk ((allW rs).map wv) (x.os.map wv) ∧ ∀ z ∈ x.os, z ∈ allW rs) (fun x => leftN ((allW rs).map wv) (lastW (x.os.map wv))) (⟨[], none, 0⟩) (Sub.cons rfl (Sub.cons rfl (Sub.nil _))) ((Imp.sels (by repeat (first | exact Sels.nil | apply Sels.cons | exact Sel.keep | exact Sel.here | apply Sel.there)))) (⟨OutOk.nil _, by simp⟩) ?_
    rintro ⟨os, oa, oc⟩ ⟨hO, hI⟩
    dsimp only at hO hI
    have hln := hO.len
    rw [List.length_map, List.length_map] at hln
    show SG _ _ _ _ _ [(3, .slice aa (allW rs).length ac), (4, .slice oa os.length oc)] [sh (fun w => ∀ o ∈ allW rs, o.okW w), own 40 2 aa (allW rs).length ac (cellsW (allW rs)), own 40 2 oa os.length oc (cellsW os)] _
    refine SG.block ?_
    refine SG.seq ?_
    refine SG.region ?_
    refine SL.val rfl rfl (fun w9 F9 S9 s => R.as rfl) ?_
    refine SL.nil ?_
    refine SN.seq ?_
    refine SG.seq ?_
    refine SG.seq ?_
    refine SG.region ?_
    refine SL.val rfl rfl (fun w9 F9 S9 s => R.mv rfl) ?_
    refine SL.val rfl rfl (fun w9 F9 S9 s => R.lenS rfl) ?_
    refine SL.val rfl rfl (fun w9 F9 S9 s => R.mv rfl) ?_
    refine SL.nil ?_
    refine SN.seq ?_
    refine SG.block ?_
    refine SG.loop (X := Nat × Int) (fun x => [(3, .slice aa (allW rs).length ac), (4, .slice oa os.length oc), (7, .int .i64 x.2), (20, .slice aa (allW rs).length ac), (21, .int .i64 ((allW rs).length : Int)), (22, .int .i64 (x.1 : Int))]) (fun x => [sh (fun w => ∀ o ∈ allW rs, o.okW w), own 40 2 aa (allW rs).length ac (cellsW (allW rs)), own 40 2 oa os.length oc (cellsW os)]) (fun x => x.1 ≤ (allW rs).length ∧ BestAt ((allW rs).map wv) (lastW (os.map wv)) x.1 x.2) (fun x => (allW rs).length - x.1) ((0, -1)) (Sub.cons rfl (Sub.cons rfl (Sub.cons rfl (Sub.cons rfl (Sub.cons rfl (Sub.cons rfl (Sub.nil _))))))) ((Imp.sels (by repeat (first | exact Sels.nil | apply Sels.cons | exact Sel.keep | exact Sel.here | apply Sel.there)))) (⟨Nat.zero_le _, BestAt.zero _ _⟩) ?_
    rintro ⟨i, best⟩ ⟨hi, hB⟩
    dsimp only at hi hB
    have hbl := best_lt hB
    show SG _ _ _ _ _ [(3, .slice aa (allW rs).length ac), (4, .slice oa os.length oc), (7, .int .i64 best), (20, .slice aa (allW rs).length ac), (21, .int .i64 ((allW rs).length : Int)), (22, .int .i64 (i : Int))] [sh (fun w => ∀ o ∈ allW rs, o.okW w), own 40 2 aa (allW rs).length ac (cellsW (allW rs)), own 40 2 oa os.length oc (cellsW os)] _
    refine SG.seq ?_
    refine SG.region ?_
    refine SL.val rfl rfl (fun w9 F9 S9 s => R.lss rfl rfl) ?_
    refine SL.nil ?_
    refine SN.seq ?_
    refine SG.seq ?_
    refine SG.condP rfl (fun h1 => ?_) (fun h1 => ?_)
    · obtain ⟨z, hz⟩ : ∃ z, (allW rs)[i]? = some z := ⟨_, List.getElem?_eq_getElem (by omega)⟩
      have hzw := all_at hz
      refine SG.fact (fun w9 F9 S9 s => s.ownG (a := aa) (by repeat (first | exact Sel.keep | exact Sel.here | apply Sel.there)) (by omega)) (fun hf9 => ?_)
      obtain ⟨g3, hg3⟩ := hf9
      refine SG.skip ?_
      refine SN.seq ?_
      refine SG.seq ?_
      refine SG.block ?_
      refine SG.seq ?_
      refine SG.region ?_
      refine SL.val rfl rfl (fun w9 F9 S9 s => R.mv rfl) ?_
      refine SL.val rfl rfl (fun w9 F9 S9 s => R.idx rfl rfl (by omega) (by omega) ⟨g3, 0, none⟩ hg3) ?_
      refine SL.val rfl rfl (fun w9 F9 S9 s => R.ldN (vs := WriteV.cells z) rfl (cellsW_at (cells_to (s.ownC (a := aa) (by repeat (first | exact Sel.keep | exact Sel.here | apply Sel.there))) hg3) hz) rfl) ?_
      refine SL.step rfl rfl (CS.alloc [.int .i64 0, .slice none 0 0] rfl) ?_
      rintro _ _ ⟨b9, rfl, rfl⟩
      refine SL.val rfl rfl (fun w9 F9 S9 s => R.as rfl) ?_
      refine SL.step0 rfl (CS.stA (vs := WriteV.cells z) rfl rfl (by repeat (first | exact Sel.keep | exact Sel.here | apply Sel.there)) (by rfl) (by rfl) (by intro u hu; exact WriteV.cells.one _ u (by simpa using hu))) ?_
      rintro _ _ rfl
      refine SL.nil ?_
      refine SN.seq ?_
      refine SG.seq ?_
      refine SG.draw [] [0, 1, 2, 3, 4, 5, 6, 7, 8, 9, 10, 11, 12, 13, 14, 15, 16, 17, 18, 19, 20, 21, 22, 23, 24, 25, 26, 27, 28] (by decide +kernel) rfl ?_
      refine SW.pure rfl rfl rfl rfl (fun w9 => R.mv rfl) ?_
      refine SW.pure rfl rfl rfl rfl (fun w9 => R.lenS rfl) ?_
      refine SW.pure rfl rfl rfl rfl (fun w9 => R.eqI rfl rfl) ?_
      refine SW.pure rfl rfl rfl rfl (fun w9 => R.mv rfl) ?_
      refine SW.caseP 30 rfl (fun hg11_3 => ?_) (fun hg11_3 => ?_)
      · have hgt : gtl (lastW (os.map wv)) (wv z).1 := by rw [List.eq_nil_of_length_eq_zero (show os.length = 0 by omega)]; trivial
        refine SW.pass (hd := rfl) rfl rfl rfl ?_
        refine SW.pass (hd := rfl) rfl rfl rfl ?_
        refine SW.pass (hd := rfl) rfl rfl rfl ?_
        refine SW.pass (hd := rfl) rfl rfl rfl ?_
        refine SW.pass (hd := rfl) rfl rfl rfl ?_
        refine SW.pass (hd := rfl) rfl rfl rfl ?_
        refine SW.pass (hd := rfl) rfl rfl rfl ?_
        refine SW.pass (hd := rfl) rfl rfl rfl ?_
        refine SW.pass (hd := rfl) rfl rfl rfl ?_
        refine SW.pass (hd := rfl) rfl rfl rfl ?_
        first | refine SW.pure rfl rfl rfl rfl (fun w9 => R.pickT rfl rfl) ?_ | refine SW.pure rfl rfl rfl rfl (fun w9 => R.pickF rfl rfl) ?_
        refine SW.pure rfl rfl rfl rfl (fun w9 => R.mv rfl) ?_
        refine SW.pure rfl rfl rfl rfl (fun w9 => R.mv rfl) ?_
        refine SW.pure rfl rfl rfl rfl (fun w9 => R.lss rfl rfl) ?_
        refine SW.pure rfl rfl rfl rfl (fun w9 => R.mv rfl) ?_
        refine SW.caseP 45 rfl (fun hg11_18 => ?_) (fun hg11_18 => ?_)
        · have hnew := hB.take hzw hgt (.inl hg11_18)
          refine SW.pass (hd := rfl) rfl rfl rfl ?_
          refine SW.pass (hd := rfl) rfl rfl rfl ?_
          refine SW.pass (hd := rfl) rfl rfl rfl ?_
          refine SW.pass (hd := rfl) rfl rfl rfl ?_
          refine SW.pass (hd := rfl) rfl rfl rfl ?_
          refine SW.pass (hd := rfl) rfl rfl rfl ?_
          refine SW.pass (hd := rfl) rfl rfl rfl ?_
          refine SW.pass (hd := rfl) rfl rfl rfl ?_
          first | refine SW.pure rfl rfl rfl rfl (fun w9 => R.pickT rfl rfl) ?_ | refine SW.pure rfl rfl rfl rfl (fun w9 => R.pickF rfl rfl) ?_
          first | refine SW.pure rfl rfl rfl rfl (fun w9 => R.pickT rfl rfl) ?_ | refine SW.pure rfl rfl rfl rfl (fun w9 => R.pickF rfl rfl) ?_
          refine SW.nil ?_
          refine SN.seq ?_
          refine SG.condT rfl ?_
          refine SG.region ?_
          refine SL.val rfl rfl (fun w9 F9 S9 s => R.mv rfl) ?_
          refine SL.val rfl rfl (fun w9 F9 S9 s => R.as rfl) ?_
          refine SL.nil ?_
          refine SN.block ?_
          refine SN.seq ?_
          refine SG.region ?_
          refine SL.val rfl rfl (fun w9 F9 S9 s => R.add rfl rfl (by omega)) ?_
          refine SL.val rfl rfl (fun w9 F9 S9 s => R.mv rfl) ?_
          refine SL.nil ?_
          first
            | exact SN.again (i + 1, (i : Int)) (by show _ - (i + 1) < _ - i; omega) (Sub.cons rfl (Sub.cons rfl (Sub.cons rfl (Sub.cons rfl (Sub.cons rfl (Sub.cons rfl (Sub.nil _))))))) (Imp.sels (by repeat (first | exact Sels.nil | apply Sels.cons | exact Sel.keep | exact Sel.here | apply Sel.there))) ⟨by show i + 1 ≤ _; omega, hnew⟩
            | exact SN.again (i + 1, _) (by show _ - (i + 1) < _ - i; omega) (Sub.cons rfl (Sub.cons rfl (Sub.cons rfl (Sub.cons rfl (Sub.cons rfl (Sub.cons rfl (Sub.nil _))))))) (Imp.sels (by repeat (first | exact Sels.nil | apply Sels.cons | exact Sel.keep | exact Sel.here | apply Sel.there))) ⟨by show i + 1 ≤ _; omega, hnew⟩
        · obtain ⟨b9, w9, hb9, hB9⟩ := hB.cell hg11_18
          subst hb9
          obtain ⟨y9, hy9⟩ : ∃ y9, (allW rs)[b9]? = some y9 := ⟨_, List.getElem?_eq_getElem (by omega)⟩
          have hyw := all_at hy9
          refine SW.pure rfl rfl rfl rfl (fun w9 => R.fld rfl) ?_
          refine SW.read rfl rfl rfl rfl (fun w9 F9 S9 s => R.ldB rfl (s.cel (by repeat (first | exact SelB.blk | exact SelB.fz | apply SelB.there))) (by rfl)) ?_
          refine SW.pure rfl rfl rfl rfl (fun w9 => R.mv rfl) ?_
          refine SW.pure rfl rfl rfl rfl (fun w9 => R.mv rfl) ?_
          refine SW.pure rfl rfl rfl rfl (fun w9 => R.idx rfl rfl (by omega) (by omega) ⟨g3, 0, none⟩ hg3) ?_
          refine SW.pure rfl rfl rfl rfl (fun w9 => R.fldA rfl) ?_
          refine SW.read rfl rfl rfl rfl (fun w9 F9 S9 s => R.ld (v := .int .i64 y9.Block') rfl (cellsW_blk (cells_to (s.ownC (a := aa) (by repeat (first | exact Sel.keep | exact Sel.here | apply Sel.there))) hg3) hy9)) ?_
          refine SW.pure rfl rfl rfl rfl (fun w9 => R.leq rfl rfl) ?_
          first | refine SW.pure rfl rfl rfl rfl (fun w9 => R.pickT rfl rfl) ?_ | refine SW.pure rfl rfl rfl rfl (fun w9 => R.pickF rfl rfl) ?_
          first | refine SW.pure rfl rfl rfl rfl (fun w9 => R.pickT rfl rfl) ?_ | refine SW.pure rfl rfl rfl rfl (fun w9 => R.pickF rfl rfl) ?_
          refine SW.nil ?_
          refine SN.seq ?_
          refine SG.condP rfl (fun h2 => ?_) (fun h2 => ?_)
          · have hnew := hB.take hzw hgt (.inr ⟨wv y9, by rw [Int.toNat_natCast]; exact hyw, h2⟩)
            refine SG.region ?_
            refine SL.val rfl rfl (fun w9 F9 S9 s => R.mv rfl) ?_
            refine SL.val rfl rfl (fun w9 F9 S9 s => R.as rfl) ?_
            refine SL.nil ?_
            refine SN.block ?_
            refine SN.seq ?_
            refine SG.region ?_
            refine SL.val rfl rfl (fun w9 F9 S9 s => R.add rfl rfl (by omega)) ?_
            refine SL.val rfl rfl (fun w9 F9 S9 s => R.mv rfl) ?_
            refine SL.nil ?_
            first
              | exact SN.again (i + 1, (i : Int)) (by show _ - (i + 1) < _ - i; omega) (Sub.cons rfl (Sub.cons rfl (Sub.cons rfl (Sub.cons rfl (Sub.cons rfl (Sub.cons rfl (Sub.nil _))))))) (Imp.sels (by repeat (first | exact Sels.nil | apply Sels.cons | exact Sel.keep | exact Sel.here | apply Sel.there))) ⟨by show i + 1 ≤ _; omega, hnew⟩
              | exact SN.again (i + 1, _) (by show _ - (i + 1) < _ - i; omega) (Sub.cons rfl (Sub.cons rfl (Sub.cons rfl (Sub.cons rfl (Sub.cons rfl (Sub.cons rfl (Sub.nil _))))))) (Imp.sels (by repeat (first | exact Sels.nil | apply Sels.cons | exact Sel.keep | exact Sel.here | apply Sel.there))) ⟨by show i + 1 ≤ _; omega, hnew⟩
          · have hnew := hB.pass hzw (fun _ => ⟨hg11_18, fun x hx => by rw [Int.toNat_natCast, hyw] at hx; cases hx; exact h2⟩)
            refine SG.skip ?_
            refine SN.block ?_
            refine SN.seq ?_
            refine SG.region ?_
            refine SL.val rfl rfl (fun w9 F9 S9 s => R.add rfl rfl (by omega)) ?_
            refine SL.val rfl rfl (fun w9 F9 S9 s => R.mv rfl) ?_
            refine SL.nil ?_
            first
              | exact SN.again (i + 1, (i : Int)) (by show _ - (i + 1) < _ - i; omega) (Sub.cons rfl (Sub.cons rfl (Sub.cons rfl (Sub.cons rfl (Sub.cons rfl (Sub.cons rfl (Sub.nil _))))))) (Imp.sels (by repeat (first | exact Sels.nil | apply Sels.cons | exact Sel.keep | exact Sel.here | apply Sel.there))) ⟨by show i + 1 ≤ _; omega, hnew⟩
              | exact SN.again (i + 1, _) (by show _ - (i + 1) < _ - i; omega) (Sub.cons rfl (Sub.cons rfl (Sub.cons rfl (Sub.cons rfl (Sub.cons rfl (Sub.cons rfl (Sub.nil _))))))) (Imp.sels (by repeat (first | exact Sels.nil | apply Sels.cons | exact Sel.keep | exact Sel.here | apply Sel.there))) ⟨by show i + 1 ≤ _; omega, hnew⟩
      · refine SW.fact (fun w9 F9 S9 s => s.ownG (a := oa) (by repeat (first | exact Sel.keep | exact Sel.here | apply Sel.there)) (by omega)) (fun hf9 => ?_)
        obtain ⟨g4, hg4⟩ := hf9
        obtain ⟨y, hy⟩ : ∃ y, os[os.length - 1]? = some y := ⟨_, List.getElem?_eq_getElem (by omega)⟩
        have hyl := last_map hy
        have hcast : ((os.length : Int) - 1) = ((os.length - 1 : Nat) : Int) := by omega
        refine SW.pure rfl rfl rfl rfl (fun w9 => R.fld rfl) ?_
        refine SW.read rfl rfl rfl rfl (fun w9 F9 S9 s => R.ldB rfl (s.cel (by repeat (first | exact SelB.blk | exact SelB.fz | apply SelB.there))) (by rfl)) ?_
        refine SW.pure rfl rfl rfl rfl (fun w9 => R.mv rfl) ?_
        refine SW.pure rfl rfl rfl rfl (fun w9 => R.mv rfl) ?_
        refine SW.pure rfl rfl rfl rfl (fun w9 => R.lenS rfl) ?_
        refine SW.pure rfl rfl rfl rfl (fun w9 => R.sub' rfl rfl (by omega)) ?_
        refine SW.be 36 rfl (congrArg (Value.int .i64) hcast) ?_
        refine SW.pure rfl rfl rfl rfl (fun w9 => R.idx rfl rfl (by omega) (by omega) ⟨g4, 0, none⟩ hg4) ?_
        refine SW.pure rfl rfl rfl rfl (fun w9 => R.fldA rfl) ?_
        refine SW.read rfl rfl rfl rfl (fun w9 F9 S9 s => R.ld (v := .int .i64 y.Block') rfl (cellsW_blk (cells_to (s.ownC (a := oa) (by repeat (first | exact Sel.keep | exact Sel.here | apply Sel.there))) hg4) hy)) ?_
        refine SW.pure rfl rfl rfl rfl (fun w9 => R.gtr rfl rfl) ?_
        first | refine SW.pure rfl rfl rfl rfl (fun w9 => R.pickT rfl rfl) ?_ | refine SW.pure rfl rfl rfl rfl (fun w9 => R.pickF rfl rfl) ?_
        refine SW.pure rfl rfl rfl rfl (fun w9 => R.mv rfl) ?_
        refine SW.caseP 42 rfl (fun hg11_15 => ?_) (fun hg11_15 => ?_)
        · have hgt : gtl (lastW (os.map wv)) (wv z).1 := by rw [hyl]; show y.Block' < z.Block'; omega
          refine SW.pure rfl rfl rfl rfl (fun w9 => R.mv rfl) ?_
          refine SW.pure rfl rfl rfl rfl (fun w9 => R.lss rfl rfl) ?_
          refine SW.pure rfl rfl rfl rfl (fun w9 => R.mv rfl) ?_
          refine SW.caseP 45 rfl (fun hg11_18 => ?_) (fun hg11_18 => ?_)
          · have hnew := hB.take hzw hgt (.inl hg11_18)
            refine SW.pass (hd := rfl) rfl rfl rfl ?_
            refine SW.pass (hd := rfl) rfl rfl rfl ?_
            refine SW.pass (hd := rfl) rfl rfl rfl ?_
            refine SW.pass (hd := rfl) rfl rfl rfl ?_
            refine SW.pass (hd := rfl) rfl rfl rfl ?_
            refine SW.pass (hd := rfl) rfl rfl rfl ?_
            refine SW.pass (hd := rfl) rfl rfl rfl ?_
            refine SW.pass (hd := rfl) rfl rfl rfl ?_
            first | refine SW.pure rfl rfl rfl rfl (fun w9 => R.pickT rfl rfl) ?_ | refine SW.pure rfl rfl rfl rfl (fun w9 => R.pickF rfl rfl) ?_
            first | refine SW.pure rfl rfl rfl rfl (fun w9 => R.pickT rfl rfl) ?_ | refine SW.pure rfl rfl rfl rfl (fun w9 => R.pickF rfl rfl) ?_
            refine SW.nil ?_
            refine SN.seq ?_
            refine SG.condT rfl ?_
            refine SG.region ?_
            refine SL.val rfl rfl (fun w9 F9 S9 s => R.mv rfl) ?_
            refine SL.val rfl rfl (fun w9 F9 S9 s => R.as rfl) ?_
            refine SL.nil ?_
            refine SN.block ?_
            refine SN.seq ?_
            refine SG.region ?_
            refine SL.val rfl rfl (fun w9 F9 S9 s => R.add rfl rfl (by omega)) ?_
            refine SL.val rfl rfl (fun w9 F9 S9 s => R.mv rfl) ?_
            refine SL.nil ?_
            first
              | exact SN.again (i + 1, (i : Int)) (by show _ - (i + 1) < _ - i; omega) (Sub.cons rfl (Sub.cons rfl (Sub.cons rfl (Sub.cons rfl (Sub.cons rfl (Sub.cons rfl (Sub.nil _))))))) (Imp.sels (by repeat (first | exact Sels.nil | apply Sels.cons | exact Sel.keep | exact Sel.here | apply Sel.there))) ⟨by show i + 1 ≤ _; omega, hnew⟩
              | exact SN.again (i + 1, _) (by show _ - (i + 1) < _ - i; omega) (Sub.cons rfl (Sub.cons rfl (Sub.cons rfl (Sub.cons rfl (Sub.cons rfl (Sub.cons rfl (Sub.nil _))))))) (Imp.sels (by repeat (first | exact Sels.nil | apply Sels.cons | exact Sel.keep | exact Sel.here | apply Sel.there))) ⟨by show i + 1 ≤ _; omega, hnew⟩
          · obtain ⟨b9, w9, hb9, hB9⟩ := hB.cell hg11_18
            subst hb9
            obtain ⟨y9, hy9⟩ : ∃ y9, (allW rs)[b9]? = some y9 := ⟨_, List.getElem?_eq_getElem (by omega)⟩
            have hyw := all_at hy9
            refine SW.pure rfl rfl rfl rfl (fun w9 => R.fld rfl) ?_
            refine SW.read rfl rfl rfl rfl (fun w9 F9 S9 s => R.ldB rfl (s.cel (by repeat (first | exact SelB.blk | exact SelB.fz | apply SelB.there))) (by rfl)) ?_
            refine SW.pure rfl rfl rfl rfl (fun w9 => R.mv rfl) ?_
            refine SW.pure rfl rfl rfl rfl (fun w9 => R.mv rfl) ?_
            refine SW.pure rfl rfl rfl rfl (fun w9 => R.idx rfl rfl (by omega) (by omega) ⟨g3, 0, none⟩ hg3) ?_
            refine SW.pure rfl rfl rfl rfl (fun w9 => R.fldA rfl) ?_
            refine SW.read rfl rfl rfl rfl (fun w9 F9 S9 s => R.ld (v := .int .i64 y9.Block') rfl (cellsW_blk (cells_to (s.ownC (a := aa) (by repeat (first | exact Sel.keep | exact Sel.here | apply Sel.there))) hg3) hy9)) ?_
            refine SW.pure rfl rfl rfl rfl (fun w9 => R.leq rfl rfl) ?_
            first | refine SW.pure rfl rfl rfl rfl (fun w9 => R.pickT rfl rfl) ?_ | refine SW.pure rfl rfl rfl rfl (fun w9 => R.pickF rfl rfl) ?_
            first | refine SW.pure rfl rfl rfl rfl (fun w9 => R.pickT rfl rfl) ?_ | refine SW.pure rfl rfl rfl rfl (fun w9 => R.pickF rfl rfl) ?_
            refine SW.nil ?_
            refine SN.seq ?_
            refine SG.condP rfl (fun h2 => ?_) (fun h2 => ?_)
            · have hnew := hB.take hzw hgt (.inr ⟨wv y9, by rw [Int.toNat_natCast]; exact hyw, h2⟩)
              refine SG.region ?_
              refine SL.val rfl rfl (fun w9 F9 S9 s => R.mv rfl) ?_
              refine SL.val rfl rfl (fun w9 F9 S9 s => R.as rfl) ?_
              refine SL.nil ?_
              refine SN.block ?_
              refine SN.seq ?_
              refine SG.region ?_
              refine SL.val rfl rfl (fun w9 F9 S9 s => R.add rfl rfl (by omega)) ?_
              refine SL.val rfl rfl (fun w9 F9 S9 s => R.mv rfl) ?_
              refine SL.nil ?_
              first
                | exact SN.again (i + 1, (i : Int)) (by show _ - (i + 1) < _ - i; omega) (Sub.cons rfl (Sub.cons rfl (Sub.cons rfl (Sub.cons rfl (Sub.cons rfl (Sub.cons rfl (Sub.nil _))))))) (Imp.sels (by repeat (first | exact Sels.nil | apply Sels.cons | exact Sel.keep | exact Sel.here | apply Sel.there))) ⟨by show i + 1 ≤ _; omega, hnew⟩
                | exact SN.again (i + 1, _) (by show _ - (i + 1) < _ - i; omega) (Sub.cons rfl (Sub.cons rfl (Sub.cons rfl (Sub.cons rfl (Sub.cons rfl (Sub.cons rfl (Sub.nil _))))))) (Imp.sels (by repeat (first | exact Sels.nil | apply Sels.cons | exact Sel.keep | exact Sel.here | apply Sel.there))) ⟨by show i + 1 ≤ _; omega, hnew⟩
            · have hnew := hB.pass hzw (fun _ => ⟨hg11_18, fun x hx => by rw [Int.toNat_natCast, hyw] at hx; cases hx; exact h2⟩)
              refine SG.skip ?_
              refine SN.block ?_
              refine SN.seq ?_
              refine SG.region ?_
              refine SL.val rfl rfl (fun w9 F9 S9 s => R.add rfl rfl (by omega)) ?_
              refine SL.val rfl rfl (fun w9 F9 S9 s => R.mv rfl) ?_
              refine SL.nil ?_
              first
                | exact SN.again (i + 1, (i : Int)) (by show _ - (i + 1) < _ - i; omega) (Sub.cons rfl (Sub.cons rfl (Sub.cons rfl (Sub.cons rfl (Sub.cons rfl (Sub.cons rfl (Sub.nil _))))))) (Imp.sels (by repeat (first | exact Sels.nil | apply Sels.cons | exact Sel.keep | exact Sel.here | apply Sel.there))) ⟨by show i + 1 ≤ _; omega, hnew⟩
                | exact SN.again (i + 1, _) (by show _ - (i + 1) < _ - i; omega) (Sub.cons rfl (Sub.cons rfl (Sub.cons rfl (Sub.cons rfl (Sub.cons rfl (Sub.cons rfl (Sub.nil _))))))) (Imp.sels (by repeat (first | exact Sels.nil | apply Sels.cons | exact Sel.keep | exact Sel.here | apply Sel.there))) ⟨by show i + 1 ≤ _; omega, hnew⟩
        · have hnew : BestAt ((allW rs).map wv) (lastW (os.map wv)) (i + 1) best := hB.pass hzw (fun hg => by rw [hyl] at hg; have : y.Block' < z.Block' := hg; omega)
          refine SW.pass (hd := rfl) rfl rfl rfl ?_
          refine SW.pass (hd := rfl) rfl rfl rfl ?_
          refine SW.pass (hd := rfl) rfl rfl rfl ?_
          refine SW.pass (hd := rfl) rfl rfl rfl ?_
          refine SW.pass (hd := rfl) rfl rfl rfl ?_
          refine SW.pass (hd := rfl) rfl rfl rfl ?_
          refine SW.pass (hd := rfl) rfl rfl rfl ?_
          refine SW.pass (hd := rfl) rfl rfl rfl ?_
          refine SW.pass (hd := rfl) rfl rfl rfl ?_
          refine SW.pass (hd := rfl) rfl rfl rfl ?_
          refine SW.pass (hd := rfl) rfl rfl rfl ?_
          refine SW.pass (hd := rfl) rfl rfl rfl ?_
          first | refine SW.pure rfl rfl rfl rfl (fun w9 => R.pickT rfl rfl) ?_ | refine SW.pure rfl rfl rfl rfl (fun w9 => R.pickF rfl rfl) ?_
          refine SW.nil ?_
          refine SN.seq ?_
          refine SG.condF rfl ?_
          refine SG.skip ?_
          refine SN.block ?_
          refine SN.seq ?_
          refine SG.region ?_
          refine SL.val rfl rfl (fun w9 F9 S9 s => R.add rfl rfl (by omega)) ?_
          refine SL.val rfl rfl (fun w9 F9 S9 s => R.mv rfl) ?_
          refine SL.nil ?_
          first
            | exact SN.again (i + 1, (i : Int)) (by show _ - (i + 1) < _ - i; omega) (Sub.cons rfl (Sub.cons rfl (Sub.cons rfl (Sub.cons rfl (Sub.cons rfl (Sub.cons rfl (Sub.nil _))))))) (Imp.sels (by repeat (first | exact Sels.nil | apply Sels.cons | exact Sel.keep | exact Sel.here | apply Sel.there))) ⟨by show i + 1 ≤ _; omega, hnew⟩
            | exact SN.again (i + 1, _) (by show _ - (i + 1) < _ - i; omega) (Sub.cons rfl (Sub.cons rfl (Sub.cons rfl (Sub.cons rfl (Sub.cons rfl (Sub.cons rfl (Sub.nil _))))))) (Imp.sels (by repeat (first | exact Sels.nil | apply Sels.cons | exact Sel.keep | exact Sel.here | apply Sel.there))) ⟨by show i + 1 ≤ _; omega, hnew⟩
    · obtain rfl : i = (allW rs).length := by omega
      refine SG.exit _ rfl ?_
      refine SN.seq ?_
      refine SG.seq ?_
      refine SG.seq ?_
      refine SG.region ?_
      refine SL.val rfl rfl (fun w9 F9 S9 s => R.mv rfl) ?_
      refine SL.val rfl rfl (fun w9 F9 S9 s => R.lss rfl rfl) ?_
      refine SL.nil ?_
      refine SN.seq ?_
      refine SG.condP rfl (fun h3 => ?_) (fun h3 => ?_)
      · refine SG.seq ?_
        refine SG.region ?_
        refine SL.val rfl rfl (fun w9 F9 S9 s => R.mv rfl) ?_
        refine SL.val rfl rfl (fun w9 F9 S9 s => R.as rfl) ?_
        refine SL.nil ?_
        refine SN.seq ?_
        have hdone : (os.map wv).map toQ = mergeP [] ((allW rs).map wv) := hO.done (by rw [List.length_map]; have hbm : best = -1 := by { rcases hB with h9 | ⟨b9, w9, h9, _⟩; exact h9.1; omega }; rw [← hbm]; exact hB)
        refine SG.fact (fun w9 F9 S9 s => s.ownL (show Sel _ (own 40 2 oa os.length oc (cellsW os)) _ from (by repeat (first | exact Sel.keep | exact Sel.here | apply Sel.there)))) (fun hf9 => ?_)
        obtain ⟨_, hoc⟩ := hf9
        refine SG.imp (Imp.ownSh (show Sel _ (own 40 2 oa os.length oc (cellsW os)) _ from (by repeat (first | exact Sel.keep | exact Sel.here | apply Sel.there))) (p := fun w => Cells w oa (cellsW os)) (fun w h => h)) ?_
        refine SG.imp (Imp.both (by repeat (first | exact Sel.keep | exact Sel.here | apply Sel.there)) (by repeat (first | exact Sel.keep | exact Sel.here | apply Sel.there)) (p := fun w => Cells w oa (cellsW os)) (q := fun w => ∀ o ∈ allW rs, o.okW w)) ?_
        refine SG.imp (Imp.weak (by repeat (first | exact Sel.keep | exact Sel.here | apply Sel.there)) (p := fun w => Cells w oa (cellsW os) ∧ ∀ o ∈ allW rs, o.okW w) (q := fun w => RowW.ok w ⟨oa, os.length, oc, os⟩) (fun w h => ⟨⟨hoc, by show os.length ≤ _; omega⟩, tabW h.1 rfl, fun o ho => h.2 o (hI o ho)⟩)) ?_
        exact SG.ret1 rfl rfl ((Imp.sels (by repeat (first | exact Sels.nil | apply Sels.cons | exact Sel.keep | exact Sel.here | apply Sel.there)))) (⟨⟨oa, os.length, oc, os⟩, rfl, by rw [← hdone, List.map_map]; rfl, by show os.length ≤ 50000; omega, rfl⟩)
      · obtain ⟨b9, w9, hb9, hB1⟩ := hB.cell h3
        subst hb9
        obtain ⟨z, hz⟩ : ∃ z, (allW rs)[b9]? = some z := ⟨_, List.getElem?_eq_getElem hB1.lt⟩
        have hzw := all_at hz
        obtain rfl : w9 = wv z := by have := hB1.at'; rw [hzw] at this; cases this; rfl
        have hO2 := hO.step (by rw [List.length_map]; exact hB1)
        have hl2 := hO2.len
        rw [List.length_append, List.length_map, List.length_map] at hl2
        refine SG.fact (fun w9 F9 S9 s => s.ownG (a := aa) (by repeat (first | exact Sel.keep | exact Sel.here | apply Sel.there)) (by omega)) (fun hf9 => ?_)
        obtain ⟨g3, hg3⟩ := hf9
        refine SG.skip ?_
        refine SN.seq ?_
        refine SG.region ?_
        refine SL.val rfl rfl (fun w9 F9 S9 s => R.mv rfl) ?_
        refine SL.val rfl rfl (fun w9 F9 S9 s => R.mv rfl) ?_
        refine SL.val rfl rfl (fun w9 F9 S9 s => R.mv rfl) ?_
        refine SL.val rfl rfl (fun w9 F9 S9 s => R.idx rfl rfl (by omega) (by omega) ⟨g3, 0, none⟩ hg3) ?_
        refine SL.val rfl rfl (fun w9 F9 S9 s => R.ldN (vs := WriteV.cells z) rfl (cellsW_at (cells_to (s.ownC (a := aa) (by repeat (first | exact Sel.keep | exact Sel.here | apply Sel.there))) hg3) hz) rfl) ?_
        refine SL.step rfl rfl (CS.buildA rfl rfl rfl rfl rfl (WriteV.cells z) rfl) ?_
        rintro _ _ ⟨b66, rfl, rfl⟩
        refine SL.step rfl rfl (CS.app rfl rfl (show Sel _ (own 40 2 oa os.length oc (cellsW os)) _ from (by repeat (first | exact Sel.keep | exact Sel.here | apply Sel.there))) (fun w9 F9 S9 s => s.blkC (by repeat (first | exact Sel.keep | exact Sel.here | apply Sel.there))) rfl (by intro u hu; exact WriteV.cells.one _ u (by simpa using hu)) (by simp [maxLen]; simp at hl2; omega) (by simp at hl2; omega)) ?_
        rintro _ _ ⟨a67, c67, rfl, rfl⟩
        refine SL.val rfl rfl (fun w9 F9 S9 s => R.as rfl) ?_
        refine SL.nil ?_
        refine SN.be 4 rfl (show Value.slice a67 (os.length + 1) c67 = Value.slice a67 (os ++ [z]).length c67 by rw [List.length_append]; rfl) ?_
        refine SN.block ?_
        exact SN.again (⟨os ++ [z], a67, c67⟩) (by show leftN ((allW rs).map wv) (lastW ((os ++ [z]).map wv)) < leftN ((allW rs).map wv) (lastW (os.map wv)); rw [List.map_append, List.map_cons, List.map_nil, lastW_snoc]; exact leftN_lt hB1) (Sub.cons rfl (Sub.cons rfl (Sub.nil _))) ((show Imp _ _ by simp only [List.length_append, cellsW_append]; exact (Imp.sels (by repeat (first | exact Sels.nil | apply Sels.cons | exact Sel.keep | exact Sel.here | apply Sel.there))))) (⟨by show OutOk _ ((os ++ [z]).map wv); rw [List.map_append]; exact hO.step (by rw [List.length_map]; exact hB1), fun y hy => (List.mem_append.1 hy).elim (hI y) (fun h => by rw [List.mem_singleton.1 h]; exact List.mem_of_getElem? hz)⟩)

end Go.Proofs.Ytiiiplhfgblamaa
/-
  The walks of package record.
-/
set_option linter.unusedVariables false
set_option linter.unusedSimpArgs false
set_option maxRecDepth 4000
namespace Go.Proofs.Ytiiiplhfgblamaa
open Go Brv Brv.Pack Brv.Frame
theorem refput7_ok (kd tl nu : Int) (r : RowW) (w : World) (hr : r.ok w) (hok : okR kd tl nu (r.os.map wv)) : Meets Try.prog 15 [.agg #[.int .i64 kd, .int .i64 tl, .int .i64 nu, .slice r.a r.n r.c]] w (fun v w' => v = .string (str (recB kd tl nu (r.os.map wv))) ∧ Ext [] w w') := by
  refine Meets.enter Try.func15 rfl 49 rfl (Nat.le_of_ble_eq_true rfl) ?_
  have E := Ext.refl [] w
  obtain ⟨hrc, hrT, hrO⟩ := hr
  have hrl := hrT.len
  rw [List.length_map] at hrl
  have hwl : (r.os.map wv).length = r.n := by rw [List.length_map]; omega
  have hN2 : (kd = 2 ∨ ((1 ≤ tl ∧ tl ≤ 2147483647) ∧ 0 ≤ nu ∧ nu ≤ 1099511627776)) ∧ 1 ≤ kd ∧ kd ≤ 3 := by rcases hok with ⟨h1, h2, _⟩ | ⟨h1, h2, _⟩ | ⟨h1, h2, _⟩ <;> (try unfold okTN at h2) <;> omega
  have h3 : kd = 3 → okWs (r.os.map wv) := fun h => by rcases hok with ⟨h1, _⟩ | ⟨h1, _⟩ | ⟨_, _, _, h2⟩; omega; omega; exact h2
  refine G.seq ?_
  refine G.region ?_
  refine L.do rfl rfl (R.box rfl) ?_
  rintro _ w1 ⟨b1, rfl, hb1, hs1, e1, B1⟩
  replace E := E.trans0 e1
  replace B1 : Blk w1 b1 #[.int .i64 kd, .int .i64 tl, .int .i64 nu, .slice r.a r.n r.c] 24 (0, 0) := B1
  refine L.val rfl rfl (R.as rfl) ?_
  refine L.nil ?_
  refine N.seq ?_
  refine G.seq ?_
  refine G.region ?_
  refine L.val rfl rfl (R.fld rfl) ?_
  refine L.val rfl rfl (R.ldB (v := .int .i64 kd) rfl B1 rfl) ?_
  refine L.be 7 rfl (congrArg (Value.int .i64) (show kd = ((kd.toNat : Nat) : Int) by omega)) ?_
  refine L.callF rfl rfl rfl go58 (refnumber_ok 1 _ _ (by decide) (by omega)) ?_
  rintro _ w2 ⟨rfl, e2⟩
  replace E := E.trans0 e2
  replace B1 := B1.ext0 e2
  refine L.val rfl rfl (R.as rfl) ?_
  refine L.nil ?_
  refine N.seq ?_
  refine G.seq ?_
  refine G.seq ?_
  refine G.region ?_
  refine L.val rfl rfl (R.fld rfl) ?_
  refine L.val rfl rfl (R.ldB (v := .int .i64 kd) rfl B1 rfl) ?_
  refine L.val rfl rfl (R.eqI rfl rfl) ?_
  refine L.nil ?_
  refine N.seq ?_
  refine G.condP rfl (fun h0 => ?_) (fun h0 => ?_)
  · refine G.seq ?_
    refine G.region ?_
    refine L.val rfl rfl (R.mv rfl) ?_
    refine L.val rfl rfl (R.as rfl) ?_
    refine L.nil ?_
    refine N.seq ?_
    refine G.ret1 rfl rfl ?_
    first
      | exact ⟨by rw [← hfin], E⟩
      | exact ⟨congrArg (fun l => Value.string (str l)) (by unfold recB headB; rw [if_pos h0, if_neg (show ¬ kd = 3 by omega)]; simp), E⟩
      | exact ⟨congrArg (fun l => Value.string (str l)) (by unfold recB headB; rw [if_neg h0, if_neg h1]; simp), E⟩
  · refine G.skip ?_
    refine N.seq ?_
    refine G.seq ?_
    refine G.quiet (by decide +kernel) rfl ?_
    refine Q.val rfl rfl rfl rfl (fun w3 hE => R.mv rfl) ?_
    refine Q.val rfl rfl rfl rfl (fun w3 hE => R.fld rfl) ?_
    refine Q.val rfl rfl rfl rfl (fun w3 hE => R.ldB (v := .int .i64 tl) rfl (B1.ext0 hE) rfl) ?_
    refine Q.be 15 rfl (congrArg (Value.int .i64) (show tl = ((tl.toNat : Nat) : Int) by omega)) ?_
    refine Q.call (.string (str (be 4 tl.toNat))) rfl rfl rfl go58 (fun w3 hE => ⟨_, rfl, (refnumber_ok 4 _ _ (by decide) (by omega)).mono (fun _ _ h => h)⟩) ?_
    refine Q.val rfl rfl rfl rfl (fun w3 hE => R.fld rfl) ?_
    refine Q.val rfl rfl rfl rfl (fun w3 hE => R.ldB (v := .int .i64 nu) rfl (B1.ext0 hE) rfl) ?_
    refine Q.be 18 rfl (congrArg (Value.int .i64) (show nu = ((nu.toNat : Nat) : Int) by omega)) ?_
    refine Q.call (.string (str (be 8 nu.toNat))) rfl rfl rfl go58 (fun w3 hE => ⟨_, rfl, (refnumber_ok 8 _ _ (by decide) (by omega)).mono (fun _ _ h => h)⟩) ?_
    refine Q.val rfl rfl rfl rfl (fun w3 hE => R.addStr rfl rfl (by simp only [List.length_append, be_length]; omega)) ?_
    refine Q.val rfl rfl rfl rfl (fun w3 hE => R.addStr rfl rfl (by simp only [List.length_append, be_length]; omega)) ?_
    refine Q.val rfl rfl rfl rfl (fun w3 hE => R.as rfl) ?_
    refine Q.nil (fun w3 e3 => ?_)
    replace E := E.trans0 e3
    replace B1 := B1.ext0 e3
    refine N.seq ?_
    refine G.seq ?_
    refine G.seq ?_
    refine G.region ?_
    refine L.val rfl rfl (R.fld rfl) ?_
    refine L.val rfl rfl (R.ldB (v := .int .i64 kd) rfl B1 rfl) ?_
    refine L.val rfl rfl (R.eqI rfl rfl) ?_
    refine L.nil ?_
    refine N.seq ?_
    refine G.condP rfl (fun h1 => ?_) (fun h1 => ?_)
    · have hws := h3 h1
      have hn64 := okWs_len hws
      rw [hwl] at hn64
      refine G.seq ?_
      refine G.region ?_
      refine L.val rfl rfl (R.mv rfl) ?_
      refine L.val rfl rfl (R.fld rfl) ?_
      refine L.val rfl rfl (R.ldB (v := .slice r.a r.n r.c) rfl B1 rfl) ?_
      refine L.val rfl rfl (R.lenS rfl) ?_
      refine L.callF rfl rfl rfl go58 (refnumber_ok 2 r.n _ (by decide) (by omega)) ?_
      rintro _ w5 ⟨rfl, e5⟩
      replace E := E.trans0 e5
      replace B1 := B1.ext0 e5
      refine L.val rfl rfl (R.addStr rfl rfl (by simp only [List.length_append, be_length]; omega)) ?_
      refine L.val rfl rfl (R.as rfl) ?_
      refine L.be 3 rfl (show _ = Value.string (str (recL kd tl nu (r.os.map wv) 0)) by unfold recL headB bodyB; rw [if_neg h0, hwl]; simp) ?_
      refine L.nil ?_
      refine N.seq ?_
      refine G.seq ?_
      refine G.region ?_
      refine L.val rfl rfl (R.fld rfl) ?_
      refine L.val rfl rfl (R.ldB (v := .slice r.a r.n r.c) rfl B1 rfl) ?_
      refine L.val rfl rfl (R.lenS rfl) ?_
      refine L.val rfl rfl (R.mv rfl) ?_
      refine L.nil ?_
      refine N.seq ?_
      refine G.block ?_
      refine G.loop (X := Nat) (fun s => [(1, .pointer (some ⟨b1, 0, none⟩)), (3, .string (str (recL kd tl nu (r.os.map wv) s))), (32, .slice r.a r.n r.c), (33, .int .i64 (r.n : Int)), (34, .int .i64 (s : Int))]) (fun s w' => s ≤ r.n ∧ Ext [] w w') (fun s => r.n - s) (0) (Sub.cons rfl (Sub.cons rfl (Sub.cons rfl (Sub.cons rfl (Sub.cons rfl (Sub.nil _)))))) ⟨Nat.zero_le _, E⟩ ?_
      rintro i w10 ⟨hi, E⟩
      refine G.sub [(1, .pointer (some ⟨b1, 0, none⟩)), (3, .string (str (recL kd tl nu (r.os.map wv) i))), (32, .slice r.a r.n r.c), (33, .int .i64 (r.n : Int)), (34, .int .i64 (i : Int))] (Sub.cons rfl (Sub.cons rfl (Sub.cons rfl (Sub.cons rfl (Sub.cons rfl (Sub.nil _)))))) ?_
      have hLl := recL_len (kd := kd) (tl := tl) (nu := nu) hws i
      refine G.seq ?_
      refine G.region ?_
      refine L.val rfl rfl (R.lss rfl rfl) ?_
      refine L.nil ?_
      refine N.seq ?_
      refine G.seq ?_
      refine G.condP rfl (fun h2 => ?_) (fun h2 => ?_)
      · refine G.skip ?_
        refine N.seq ?_
        refine G.seq ?_
        refine G.block ?_
        refine G.seq ?_
        refine G.region ?_
        obtain ⟨q12, hq12, hcl12⟩ := hrT.at (by decide) i (by rw [List.length_map]; omega)
        rw [List.getElem_map] at hcl12
        have hokx := hrO _ (List.getElem_mem (show i < r.os.length by omega))
        obtain ⟨x, hoe12⟩ : ∃ x, x = r.os[i]'(by omega) := ⟨_, rfl⟩
        rw [← hoe12] at hcl12 hokx
        refine L.val rfl rfl (R.idx rfl rfl (by omega) (by omega) q12 hq12) ?_
        refine L.val rfl rfl (R.ldN rfl (hcl12.ext0 E) rfl) ?_
        refine L.do rfl rfl (R.alloc) ?_
        rintro _ w12 ⟨b5, rfl, hbx12, hsx12, e12, B5⟩
        have hEx12 := E.size
        replace E := E.trans0 e12
        refine L.set rfl (R.stN rfl rfl B5 rfl (Nat.le_refl 2) (WriteV.cells.one _)) ?_
        rintro w13 ⟨e13, hsx13, B5⟩
        replace B5 : Blk w13 b5 x.cells.toArray 40 (0, 0) := B5
        replace E := E.trans e13 (M := []) (by simp) (by intro x hx; rw [List.mem_singleton.1 hx]; exact .inr (by omega))
        have hwx : (r.os.map wv)[i]? = some (wv x) := at_map hoe12
        have hbk : 0 ≤ x.Block' ∧ x.Block' ≤ 63 := (hws i _ hwx).1
        have hx64 : x.B'.length = 64 := (hws i _ hwx).2.1
        have hxn : x.B'n = x.B'.length := hokx.2.2.len
        refine L.nil ?_
        refine N.seq ?_
        refine G.quiet (by decide +kernel) rfl ?_
        refine Q.val rfl rfl rfl rfl (fun w14 hE => R.mv rfl) ?_
        refine Q.val rfl rfl rfl rfl (fun w14 hE => R.fld rfl) ?_
        refine Q.val rfl rfl rfl rfl (fun w14 hE => R.ldB (v := .int .i64 x.Block') rfl (B5.ext0 hE) rfl) ?_
        refine Q.be 40 rfl (congrArg (Value.int .i64) (show x.Block' = ((x.Block'.toNat : Nat) : Int) by omega)) ?_
        refine Q.call (.string (str (be 2 x.Block'.toNat))) rfl rfl rfl go58 (fun w14 hE => ⟨_, rfl, (refnumber_ok 2 _ _ (by decide) (by omega)).mono (fun _ _ h => h)⟩) ?_
        refine Q.val rfl rfl rfl rfl (fun w14 hE => R.fld rfl) ?_
        refine Q.val rfl rfl rfl rfl (fun w14 hE => R.ldB (v := .slice x.B'a x.B'n x.B'c) rfl (B5.ext0 hE) rfl) ?_
        refine Q.val rfl rfl rfl rfl (fun w14 hE => R.bytesStr rfl (hokx.2.2.ext0 (E.trans0 hE)).cells hxn) ?_
        refine Q.val rfl rfl rfl rfl (fun w14 hE => R.addStr rfl rfl (by simp only [List.length_append, be_length]; omega)) ?_
        refine Q.val rfl rfl rfl rfl (fun w14 hE => R.addStr rfl rfl (by simp only [List.length_append, be_length]; omega)) ?_
        refine Q.be 46 rfl (show _ = Value.string (str (recL kd tl nu (r.os.map wv) (i + 1))) by rw [recL_succ hwx, List.append_assoc]; rfl) ?_
        refine Q.val rfl rfl rfl rfl (fun w14 hE => R.as rfl) ?_
        refine Q.nil (fun w14 e14 => ?_)
        replace E := E.trans0 e14
        refine N.block ?_
        refine N.seq ?_
        refine G.region ?_
        refine L.val rfl rfl (R.add rfl rfl (by omega)) ?_
        refine L.val rfl rfl (R.mv rfl) ?_
        refine L.nil ?_
        exact N.again (i + 1) (by omega) (Sub.cons rfl (Sub.cons rfl (Sub.cons rfl (Sub.cons rfl (Sub.cons rfl (Sub.nil _)))))) ⟨by omega, E⟩
      · obtain rfl : i = r.n := by omega
        have htk : (r.os.map wv).take r.n = (r.os.map wv) := List.take_of_length_le (by omega)
        have hfin : recL kd tl nu (r.os.map wv) r.n = recB kd tl nu (r.os.map wv) := by unfold recL recB; rw [htk, if_pos h1, List.append_assoc]
        refine G.exit _ rfl ?_
        refine N.seq ?_
        refine G.seq ?_
        refine G.region ?_
        refine L.val rfl rfl (R.mv rfl) ?_
        refine L.val rfl rfl (R.as rfl) ?_
        refine L.nil ?_
        refine N.seq ?_
        refine G.ret1 rfl rfl ?_
        first
          | exact ⟨by rw [← hfin], E⟩
          | exact ⟨congrArg (fun l => Value.string (str l)) (by unfold recB headB; rw [if_pos h0, if_neg (show ¬ kd = 3 by omega)]; simp), E⟩
          | exact ⟨congrArg (fun l => Value.string (str l)) (by unfold recB headB; rw [if_neg h0, if_neg h1]; simp), E⟩
    · refine G.skip ?_
      refine N.seq ?_
      refine G.seq ?_
      refine G.region ?_
      refine L.val rfl rfl (R.mv rfl) ?_
      refine L.val rfl rfl (R.as rfl) ?_
      refine L.nil ?_
      refine N.seq ?_
      refine G.ret1 rfl rfl ?_
      first
        | exact ⟨by rw [← hfin], E⟩
        | exact ⟨congrArg (fun l => Value.string (str l)) (by unfold recB headB; rw [if_pos h0, if_neg (show ¬ kd = 3 by omega)]; simp), E⟩
        | exact ⟨congrArg (fun l => Value.string (str l)) (by unfold recB headB; rw [if_neg h0, if_neg h1]; simp), E⟩

theorem recB_len {kd tl nu : Int} {ws : List (Int × List UInt8)} (h : okR kd tl nu ws) : (recB kd tl nu ws).length ≤ 4239 := by
  unfold recB
  split
  · rename_i h9
    have hw : okWs ws := by rcases h with ⟨h1, _⟩ | ⟨h1, _⟩ | ⟨_, _, _, h2⟩; omega; omega; exact h2
    have h1 := recL_len (kd := kd) (tl := tl) (nu := nu) hw ws.length
    have h2 := okWs_len hw
    unfold recL at h1
    rw [List.take_length, List.append_assoc] at h1
    omega
  · unfold headB
    split <;> simp [be_length]
theorem rsectors_ok (kd tl nu : Int) (r : RowW) (w : World) (hr : r.ok w) : Meets Try.prog 21 [.agg #[.int .i64 kd, .int .i64 tl, .int .i64 nu, .slice r.a r.n r.c]] w (fun v w' => (okR kd tl nu (r.os.map wv) → v = .int .i64 ((secN (recB kd tl nu (r.os.map wv)) : Nat) : Int)) ∧ (¬ okR kd tl nu (r.os.map wv) → v = .int .i64 0) ∧ Ext [] w w') := by
  refine Meets.enter Try.func21 rfl 10 rfl (Nat.le_of_ble_eq_true rfl) ?_
  have E := Ext.refl [] w
  refine G.seq ?_
  refine G.region ?_
  refine L.do rfl rfl (R.box rfl) ?_
  rintro _ w1 ⟨b1, rfl, hb1, hs1, e1, B1⟩
  replace E := E.trans0 e1
  replace B1 : Blk w1 b1 #[.int .i64 kd, .int .i64 tl, .int .i64 nu, .slice r.a r.n r.c] 24 (0, 0) := B1
  refine L.val rfl rfl (R.as rfl) ?_
  refine L.nil ?_
  refine N.seq ?_
  refine G.seq ?_
  refine G.seq ?_
  refine G.region ?_
  refine L.val rfl rfl (R.ldBN rfl B1 rfl) ?_
  refine L.callF rfl rfl rfl go19 (rright_ok kd tl nu r _ (hr.ext0 E)) ?_
  rintro _ w2 ⟨bR, rfl, hbR, e2⟩
  replace E := E.trans0 e2
  replace B1 := B1.ext0 e2
  refine L.val rfl rfl (R.not rfl) ?_
  refine L.nil ?_
  refine N.seq ?_
  refine G.condB rfl (fun h0 => ?_) (fun h0 => ?_)
  · have hno : ¬ okR kd tl nu (r.os.map wv) := fun h => by rw [hbR.2 h] at h0; cases h0
    refine G.seq ?_
    refine G.region ?_
    refine L.val rfl rfl (R.as rfl) ?_
    refine L.nil ?_
    refine N.seq ?_
    refine G.ret1 rfl rfl ?_
    first
      | exact ⟨fun h => absurd h hno, fun _ => rfl, E⟩
      | exact ⟨fun _ => rfl, fun h => absurd hok h, E⟩
  · have hok : okR kd tl nu (r.os.map wv) := hbR.1 (by simpa using h0)
    have hlb := recB_len hok
    refine G.skip ?_
    refine N.seq ?_
    refine G.seq ?_
    refine G.region ?_
    refine L.val rfl rfl (R.ldBN rfl B1 rfl) ?_
    refine L.callF rfl rfl rfl go20 (rput7_ok kd tl nu r _ (hr.ext0 E)) ?_
    rintro v w3 ⟨hv, _, e3⟩
    obtain ⟨a, c, M, rfl, _, _⟩ := hv hok
    replace E := E.trans0 e3
    refine L.val rfl rfl (R.lenS rfl) ?_
    refine L.callF rfl rfl rfl go70 (fsecN_ok _ _ (by omega)) ?_
    rintro _ _ ⟨rfl, hw⟩
    obtain rfl := hw.symm
    refine L.val rfl rfl (R.as rfl) ?_
    refine L.nil ?_
    refine N.seq ?_
    refine G.ret1 rfl rfl ?_
    first
      | exact ⟨fun h => absurd h hno, fun _ => rfl, E⟩
      | exact ⟨fun _ => rfl, fun h => absurd hok h, E⟩

end Go.Proofs.Ytiiiplhfgblamaa
/-
  The walks of package record.
-/
set_option linter.unusedVariables false
set_option linter.unusedSimpArgs false
set_option maxRecDepth 4000
namespace Go.Proofs.Ytiiiplhfgblamaa
open Go Brv Brv.Pack Brv.Frame
theorem rsec6_ok (l : List UInt8) (w : World) (hl : l.length ≤ 2621400) : Meets Try.prog 59 [.int .i64 (l.length : Int)] w (fun v w' => v = .int .i64 ((secN l : Nat) : Int) ∧ w' = w) := by
  refine Meets.enter Try.func59 rfl 22 rfl (Nat.le_of_ble_eq_true rfl) ?_
  refine G.seq ?_
  refine G.region ?_
  refine L.val rfl rfl (R.as rfl) ?_
  refine L.nil ?_
  refine N.seq ?_
  refine G.seq ?_
  refine G.seq ?_
  refine G.region ?_
  refine L.val rfl rfl (R.mv rfl) ?_
  refine L.val rfl rfl (R.lss rfl rfl) ?_
  refine L.val rfl rfl (R.mv rfl) ?_
  refine L.caseP 6 rfl (fun hg1_2 => ?_) (fun hg1_2 => ?_)
  · refine L.pass rfl rfl ?_
    refine L.pass rfl rfl ?_
    first | refine L.val rfl rfl (R.pickT rfl rfl) ?_ | refine L.val rfl rfl (R.pickF rfl rfl) ?_
    refine L.nil ?_
    refine N.seq ?_
    refine G.condT rfl ?_
    refine G.seq ?_
    refine G.region ?_
    refine L.val rfl rfl (R.as rfl) ?_
    refine L.nil ?_
    refine N.seq ?_
    refine G.ret1 rfl rfl ?_
    first
      | exact ⟨congrArg (Value.int .i64) (by unfold secN; split <;> omega), rfl⟩
      | (exfalso; omega)
  · refine L.val rfl rfl (R.mv rfl) ?_
    refine L.val rfl rfl (R.gtr rfl rfl) ?_
    first | refine L.val rfl rfl (R.pickT rfl rfl) ?_ | refine L.val rfl rfl (R.pickF rfl rfl) ?_
    refine L.nil ?_
    refine N.seq ?_
    refine G.condP rfl (fun h0 => ?_) (fun h0 => ?_)
    · refine G.seq ?_
      refine G.region ?_
      refine L.val rfl rfl (R.as rfl) ?_
      refine L.nil ?_
      refine N.seq ?_
      refine G.ret1 rfl rfl ?_
      first
        | exact ⟨congrArg (Value.int .i64) (by unfold secN; split <;> omega), rfl⟩
        | (exfalso; omega)
    · refine G.skip ?_
      refine N.seq ?_
      refine G.seq ?_
      refine G.region ?_
      refine L.val rfl rfl (R.mv rfl) ?_
      refine L.val rfl rfl (R.quo rfl rfl (by omega) (by omega)) ?_
      refine L.val rfl rfl (R.as rfl) ?_
      refine L.nil ?_
      refine N.seq ?_
      refine G.seq ?_
      refine G.seq ?_
      refine G.region ?_
      refine L.val rfl rfl (R.mv rfl) ?_
      refine L.val rfl rfl (R.rem rfl rfl (by omega) (by omega)) ?_
      refine L.val rfl rfl (R.neI rfl rfl) ?_
      refine L.val rfl rfl (R.mv rfl) ?_
      refine L.caseP 15 rfl (fun hg4_3 => ?_) (fun hg4_3 => ?_)
      · refine L.pass rfl rfl ?_
        refine L.pass rfl rfl ?_
        first | refine L.val rfl rfl (R.pickT rfl rfl) ?_ | refine L.val rfl rfl (R.pickF rfl rfl) ?_
        refine L.nil ?_
        refine N.seq ?_
        refine G.condT rfl ?_
        refine G.region ?_
        refine L.val rfl rfl (R.mv rfl) ?_
        refine L.val rfl rfl (R.add rfl rfl (by omega)) ?_
        refine L.val rfl rfl (R.as rfl) ?_
        refine L.nil ?_
        refine N.seq ?_
        refine G.seq ?_
        refine G.region ?_
        refine L.val rfl rfl (R.mv rfl) ?_
        refine L.val rfl rfl (R.as rfl) ?_
        refine L.nil ?_
        refine N.seq ?_
        refine G.ret1 rfl rfl ?_
        first
          | exact ⟨congrArg (Value.int .i64) (by unfold secN; split <;> omega), rfl⟩
          | (exfalso; omega)
      · refine L.val rfl rfl (R.mv rfl) ?_
        refine L.val rfl rfl (R.eqI rfl rfl) ?_
        first | refine L.val rfl rfl (R.pickT rfl rfl) ?_ | refine L.val rfl rfl (R.pickF rfl rfl) ?_
        refine L.nil ?_
        refine N.seq ?_
        refine G.condP rfl (fun h1 => ?_) (fun h1 => ?_)
        · refine G.region ?_
          refine L.val rfl rfl (R.mv rfl) ?_
          refine L.val rfl rfl (R.add rfl rfl (by omega)) ?_
          refine L.val rfl rfl (R.as rfl) ?_
          refine L.nil ?_
          refine N.seq ?_
          refine G.seq ?_
          refine G.region ?_
          refine L.val rfl rfl (R.mv rfl) ?_
          refine L.val rfl rfl (R.as rfl) ?_
          refine L.nil ?_
          refine N.seq ?_
          refine G.ret1 rfl rfl ?_
          first
            | exact ⟨congrArg (Value.int .i64) (by unfold secN; split <;> omega), rfl⟩
            | (exfalso; omega)
        · refine G.skip ?_
          refine N.seq ?_
          refine G.seq ?_
          refine G.region ?_
          refine L.val rfl rfl (R.mv rfl) ?_
          refine L.val rfl rfl (R.as rfl) ?_
          refine L.nil ?_
          refine N.seq ?_
          refine G.ret1 rfl rfl ?_
          first
            | exact ⟨congrArg (Value.int .i64) (by unfold secN; split <;> omega), rfl⟩
            | (exfalso; omega)

theorem refsectors7_ok (kd tl nu : Int) (r : RowW) (w : World) (hr : r.ok w) (hok : okR kd tl nu (r.os.map wv)) : Meets Try.prog 16 [.agg #[.int .i64 kd, .int .i64 tl, .int .i64 nu, .slice r.a r.n r.c]] w (fun v w' => v = .int .i64 ((secN (recB kd tl nu (r.os.map wv)) : Nat) : Int) ∧ Ext [] w w') := by
  refine Meets.enter Try.func16 rfl 7 rfl (Nat.le_of_ble_eq_true rfl) ?_
  have E := Ext.refl [] w
  refine G.seq ?_
  refine G.region ?_
  refine L.do rfl rfl (R.box rfl) ?_
  rintro _ w1 ⟨b1, rfl, hb1, hs1, e1, B1⟩
  replace E := E.trans0 e1
  replace B1 : Blk w1 b1 #[.int .i64 kd, .int .i64 tl, .int .i64 nu, .slice r.a r.n r.c] 24 (0, 0) := B1
  have hlb := recB_len hok
  refine L.val rfl rfl (R.as rfl) ?_
  refine L.nil ?_
  refine N.seq ?_
  refine G.seq ?_
  refine G.region ?_
  refine L.val rfl rfl (R.ldBN rfl B1 rfl) ?_
  refine L.callF rfl rfl rfl go15 (refput7_ok kd tl nu r _ (hr.ext0 E) hok) ?_
  rintro _ w2 ⟨rfl, e2⟩
  replace E := E.trans0 e2
  refine L.val rfl rfl (R.lenStr rfl) ?_
  refine L.callF rfl rfl rfl go59 (rsec6_ok (recB kd tl nu (r.os.map wv)) _ (by omega)) ?_
  rintro _ _ ⟨rfl, hw⟩
  obtain rfl := hw.symm
  refine L.val rfl rfl (R.as rfl) ?_
  refine L.nil ?_
  refine N.seq ?_
  refine G.ret1 rfl rfl ?_
  exact ⟨rfl, E⟩

theorem great_any (kd tl nu : Int) (r : RowW) (w : World) (hr : r.ok w) : Meets Try.prog 13 [.agg #[.int .i64 kd, .int .i64 tl, .int .i64 nu, .slice r.a r.n r.c]] w (fun v w' => ∃ b, v = .bool b ∧ Ext [] w w') := by
  refine Meets.enter Try.func13 rfl 22 rfl (Nat.le_of_ble_eq_true rfl) ?_
  have E := Ext.refl [] w
  obtain ⟨hrc, hrT, hrO⟩ := hr
  have hrl := hrT.len
  rw [List.length_map] at hrl
  refine G.seq ?_
  refine G.region ?_
  refine L.do rfl rfl (R.box rfl) ?_
  rintro _ w1 ⟨b1, rfl, hb1, hs1, e1, B1⟩
  replace E := E.trans0 e1
  replace B1 : Blk w1 b1 #[.int .i64 kd, .int .i64 tl, .int .i64 nu, .slice r.a r.n r.c] 24 (0, 0) := B1
  refine L.val rfl rfl (R.as rfl) ?_
  refine L.nil ?_
  refine N.seq ?_
  refine G.seq ?_
  refine G.region ?_
  refine L.val rfl rfl (R.as rfl) ?_
  refine L.nil ?_
  refine N.seq ?_
  refine G.seq ?_
  refine G.seq ?_
  refine G.region ?_
  refine L.val rfl rfl (R.fld rfl) ?_
  refine L.val rfl rfl (R.ldB (v := .slice r.a r.n r.c) rfl B1 rfl) ?_
  refine L.val rfl rfl (R.lenS rfl) ?_
  refine L.val rfl rfl (R.mv rfl) ?_
  refine L.nil ?_
  refine N.seq ?_
  refine G.block ?_
  refine G.loop (X := Nat × Int) (fun s => [(3, .int .i64 s.2), (7, .slice r.a r.n r.c), (8, .int .i64 (r.n : Int)), (9, .int .i64 (s.1 : Int))]) (fun s w' => s.1 ≤ r.n ∧ Ext [] w w') (fun s => r.n - s.1) ((0, 0)) (Sub.cons rfl (Sub.cons rfl (Sub.cons rfl (Sub.cons rfl (Sub.nil _))))) ⟨Nat.zero_le _, E⟩ ?_
  rintro ⟨i, z⟩ w2 ⟨hi, E⟩
  dsimp only at hi
  refine G.sub [(3, .int .i64 z), (7, .slice r.a r.n r.c), (8, .int .i64 (r.n : Int)), (9, .int .i64 (i : Int))] (Sub.cons rfl (Sub.cons rfl (Sub.cons rfl (Sub.cons rfl (Sub.nil _))))) ?_
  refine G.seq ?_
  refine G.region ?_
  refine L.val rfl rfl (R.lss rfl rfl) ?_
  refine L.nil ?_
  refine N.seq ?_
  refine G.seq ?_
  refine G.condP rfl (fun h0 => ?_) (fun h0 => ?_)
  · refine G.skip ?_
    refine N.seq ?_
    refine G.seq ?_
    refine G.block ?_
    refine G.seq ?_
    refine G.region ?_
    obtain ⟨q12, hq12, hcl12⟩ := hrT.at (by decide) i (by rw [List.length_map]; omega)
    rw [List.getElem_map] at hcl12
    have hokx := hrO _ (List.getElem_mem (show i < r.os.length by omega))
    obtain ⟨x, hoe12⟩ : ∃ x, x = r.os[i]'(by omega) := ⟨_, rfl⟩
    rw [← hoe12] at hcl12 hokx
    refine L.val rfl rfl (R.idx rfl rfl (by omega) (by omega) q12 hq12) ?_
    refine L.val rfl rfl (R.ldN rfl (hcl12.ext0 E) rfl) ?_
    refine L.do rfl rfl (R.alloc) ?_
    rintro _ w12 ⟨b5, rfl, hbx12, hsx12, e12, B5⟩
    have hEx12 := E.size
    replace E := E.trans0 e12
    refine L.set rfl (R.stN rfl rfl B5 rfl (Nat.le_refl 2) (WriteV.cells.one _)) ?_
    rintro w13 ⟨e13, hsx13, B5⟩
    replace B5 : Blk w13 b5 x.cells.toArray 40 (0, 0) := B5
    replace E := E.trans e13 (M := []) (by simp) (by intro x hx; rw [List.mem_singleton.1 hx]; exact .inr (by omega))
    refine L.nil ?_
    refine N.seq ?_
    refine G.region ?_
    refine L.val rfl rfl (R.mv rfl) ?_
    refine L.val rfl rfl (R.fld rfl) ?_
    refine L.val rfl rfl (R.ldB (v := .slice x.B'a x.B'n x.B'c) rfl B5 rfl) ?_
    refine L.val rfl rfl (R.lenS rfl) ?_
    have hxn := hokx.2.1
    refine L.val rfl rfl (R.add rfl rfl (by omega)) ?_
    refine L.val rfl rfl (R.addW rfl rfl _ rfl) ?_
    refine L.val rfl rfl (R.as rfl) ?_
    refine L.nil ?_
    refine N.block ?_
    refine N.seq ?_
    refine G.region ?_
    refine L.val rfl rfl (R.add rfl rfl (by omega)) ?_
    refine L.val rfl rfl (R.mv rfl) ?_
    refine L.nil ?_
    exact N.again (i + 1, _) (by show r.n - (i + 1) < r.n - i; omega) (Sub.cons rfl (Sub.cons rfl (Sub.cons rfl (Sub.cons rfl (Sub.nil _))))) ⟨by show i + 1 ≤ r.n; omega, E⟩
  · refine G.exit _ rfl ?_
    refine N.seq ?_
    refine G.seq ?_
    refine G.region ?_
    refine L.val rfl rfl (R.mv rfl) ?_
    refine L.val rfl rfl (R.gtr rfl rfl) ?_
    refine L.val rfl rfl (R.as rfl) ?_
    refine L.nil ?_
    refine N.seq ?_
    refine G.ret1 rfl rfl ?_
    exact ⟨_, rfl, E⟩

end Go.Proofs.Ytiiiplhfgblamaa
/-
  Laws over assertions: all that is there at the beginning is shared.
-/
set_option linter.unusedVariables false
set_option linter.unusedSimpArgs false
namespace Brv
open Go
theorem Imp.blkBs {H H' : List Asn} {b : Nat} {l : List UInt8} {T : TypeId} (h : Sel H (blk b (vbs l) T) H') : Imp H (bs (some ⟨b, 0, none⟩) l.length l :: H') :=
  Imp.blkSh h fun w h => ⟨Cells.of_blk h 0 _ (fun j v hj => by simpa using hj), rfl⟩
class PersL (H : List Asn) : Prop where
  h : ∀ F S w, Sep H F S w → Sep H [] S w
instance : PersL [] := ⟨fun _ _ _ _ => trivial⟩
instance (A : Asn) (H : List Asn) [a : Pers A] [t : PersL H] : PersL (A :: H) := ⟨fun F S w ⟨F1, S1, F2, S2, ⟨p, q, r, s⟩, _, hA, hH⟩ =>
  ⟨[], S1, [], S2, ⟨by simp, by simp, r, s⟩, ⟨Apart.nilL _, Apart.nilL _, Apart.nilR _⟩, a.h _ _ _ hA, t.h _ _ _ hH⟩⟩
def lawO (w : World) : Org := ⟨w, [], List.range w.heap.size⟩
theorem lawO_S {w : World} : ∀ b, b < (lawO w).w.heap.size → b ∈ (lawO w).S := fun b h => List.mem_range.2 h
/-- What is true of the old blocks, at a law's beginning. -/
theorem law_nil (w : World) : St [] [] (List.range w.heap.size) w := ⟨trivial, by simp, fun b h => List.mem_range.1 h⟩
theorem law_cons {H : List Asn} {w : World} {p : World → Prop} (hp : ∀ w', Ext [] w w' → p w') (h : St H [] (List.range w.heap.size) w) : St (sh p :: H) [] (List.range w.heap.size) w :=
  ⟨⟨[], List.range w.heap.size, [], List.range w.heap.size, ⟨by simp, by simp, subR _, subR _⟩, ⟨Apart.nilL _, Apart.nilL _, Apart.nilR _⟩, sh_old hp [], h.sep⟩, by simp, fun b h => List.mem_range.1 h⟩
theorem law_bs {H : List Asn} {w : World} {a : Option Addr} {n : Nat} {l : List UInt8} (hb : Bs w a n l) (h : St H [] (List.range w.heap.size) w) : St (bs a n l :: H) [] (List.range w.heap.size) w := law_cons (fun w' he => hb.ext0 he) h
theorem Meets.law {P : Program} {f : FuncId} {fn : Func} {c : Code} {args : List Value} {w : World} {H : List Asn} {x : Value} (hf : P.funcs[f]? = some fn) (hb : fn.body = some c) (n : Nat) (hn : fn.ntmps = n) (hl : args.length ≤ n) (hs : St H [] (List.range w.heap.size) w)
    (h : SG P (Func.base P fn (PostS (lawO w) (fun v _ => v = x))) ⟨n, [], none⟩ (lawO w) [] (argEnv 0 args) H c) : Meets P f args w (fun v w' => v = x ∧ Ext [] w w') :=
  (Meets.enter hf hb n hn hl (h w [] _ hs (From.refl w [] _))).mono fun v w' ⟨_, _, _, hv, _, fr⟩ => ⟨hv, fr.ext⟩
section
variable {P : Program} {n : Fm} {w₀ : World} {ρ : Env} {H H0 H1 : List Asn} {d : Option Nat} {ty : TypeId} {pos : String} {af : Array Edge} {gd : Option (Nat × Bool)} {args : Array Operand} {ats : Array TypeId} {f : FuncId} {vs : List Value}
/-- A call that changes nothing old, and gives something true. -/
theorem CS.callP {φ : Value → (World → Prop) → Prop} (hargs : evs ρ args.toList = some vs) (hc : ∀ (vs : Array Value) w, (callFunc f vs).run P w = .ok (.enter f vs) w)
    (hf : ∀ w F S, St H F S w → Meets P f vs w (fun v w' => ∃ p : World → Prop, φ v p ∧ Ext [] w w' ∧ ∀ w'', Ext [] w' w'' → p w'')) [t : PersL H] : CS P n (lawO w₀) ρ H ⟨d, .call ⟨.value (.func f), args, ats⟩, ty, pos, af, gd⟩ (fun v H' => ∃ p, φ v p ∧ H' = sh p :: H) :=
  fun w F S s fr => Acts.callV (x := .func f) (first := #[]) (cap := #[]) rfl hargs (by simp) hc ((hf w F S s).mono fun v w' ⟨p, h1, h2, h3⟩ => by
    have hsep := (t.h _ _ _ s.sep).ext h2 (Apart.nilR _) (Apart.nilR _)
    refine ⟨_, [], List.range w'.heap.size, ⟨p, h1, rfl⟩, ⟨⟨[], List.range w'.heap.size, [], S, ⟨by simp, by simp, subR _, fun b hb => List.mem_range.2 (Nat.lt_of_lt_of_le (s.ltS b hb) h2.size)⟩, ⟨Apart.nilL _, Apart.nilL _, Apart.nilR _⟩, sh_old h3 [], hsep⟩, by simp, fun b h => List.mem_range.1 h⟩, ⟨fr.ext.trans0 h2, by simp, fun b hb => ?_⟩⟩
    rcases Nat.lt_or_ge b w₀.heap.size with h | h
    · exact .inl (lawO_S b h)
    · exact .inr (.inr h))
end
section
variable {P : Program} {n : Fm} {o : Org} {ρ : Env} {H H1 : List Asn} {ty : TypeId} {pos : String} {af : Array Edge} {gd : Option (Nat × Bool)}
/-- []byte of []byte: the same, that is not written any more. -/
theorem CS.markB {T E : TypeId} [t : TyBytes P T E] {d : Nat} {x : Operand} {b c m : Nat} {l : List UInt8} {U : TypeId} (hx : ev ρ x = some (.slice (some ⟨b, 0, none⟩) m c)) (sel : Sel H (blk b (vbs l) U) H1) (hm : m = l.length) :
    CS P n o ρ H ⟨some d, .convert T T x, ty, pos, af, gd⟩ (fun v H' => v = .slice (some ⟨b, 0, none⟩) l.length c ∧ H' = bs (some ⟨b, 0, none⟩) l.length l :: H1) := by
  subst hm
  refine CS.mono (CS.upd sel (φ := fun v A' => v = .slice (some ⟨b, 0, none⟩) l.length c ∧ A' = bs (some ⟨b, 0, none⟩) l.length l) fun w F S F1 S1 st hA hlt => ?_) (by rintro v H' ⟨_, ⟨rfl, rfl⟩, rfl⟩; exact ⟨rfl, rfl⟩)
  obtain ⟨rfl, hB⟩ := hA
  obtain ⟨v, w', hr, fz', rfl, he, hsz, hB'⟩ := R.bytesBytes (P := P) (n := n) (d := d) (ty := ty) (pos := pos) (af := af) (gd := gd) (T := T) (w := w) hx hB
  refine .inl ⟨_, w', hr, _, [], [b], ⟨rfl, rfl⟩, fun M w'' he' hM => ⟨Cells.of_blk (hB'.ext he' (hM b (by simp))) 0 _ (fun j v hj => by simpa using hj), rfl⟩, by simp, fun x hx => by have := hlt x hx; omega, ⟨he, by simp, fun x hx => .inr (.inl hx)⟩⟩
end
end Brv
/-
  The walks of package record.
-/
set_option linter.unusedVariables false
set_option linter.unusedSimpArgs false
set_option maxRecDepth 4000
namespace Go.Proofs.Ytiiiplhfgblamaa
open Go Brv Brv.Pack Brv.Frame
open Classical in
noncomputable def rightB (kd tl nu : Int) (ws : List (Int × List UInt8)) : Bool := decide (okR kd tl nu ws)
open Classical in
noncomputable def putR (kd tl nu : Int) (ws : List (Int × List UInt8)) : List UInt8 := if okR kd tl nu ws then recB kd tl nu ws else []
open Classical in
noncomputable def secR (kd tl nu : Int) (ws : List (Int × List UInt8)) : Int := if okR kd tl nu ws then ((secN (recB kd tl nu ws) : Nat) : Int) else 0
theorem rightB_iff {kd tl nu : Int} {ws : List (Int × List UInt8)} : rightB kd tl nu ws = true ↔ okR kd tl nu ws := by unfold rightB; simp
theorem putR_yes {kd tl nu : Int} {ws : List (Int × List UInt8)} (h : okR kd tl nu ws) : putR kd tl nu ws = recB kd tl nu ws := if_pos h
theorem putR_no {kd tl nu : Int} {ws : List (Int × List UInt8)} (h : ¬ okR kd tl nu ws) : putR kd tl nu ws = [] := if_neg h
theorem secR_yes {kd tl nu : Int} {ws : List (Int × List UInt8)} (h : okR kd tl nu ws) : secR kd tl nu ws = ((secN (recB kd tl nu ws) : Nat) : Int) := if_pos h
theorem secR_no {kd tl nu : Int} {ws : List (Int × List UInt8)} (h : ¬ okR kd tl nu ws) : secR kd tl nu ws = 0 := if_neg h
theorem eqv {b : Bool} {kd tl nu : Int} {ws : List (Int × List UInt8)} (h : b = true ↔ okR kd tl nu ws) : b = rightB kd tl nu ws := by
  rw [Bool.eq_iff_iff, h, rightB_iff]
theorem rightV (kd tl nu : Int) (r : RowW) (w : World) (hr : r.ok w) : Meets Try.prog 19 [.agg #[.int .i64 kd, .int .i64 tl, .int .i64 nu, .slice r.a r.n r.c]] w (fun v w' => v = .bool (rightB kd tl nu (r.os.map wv)) ∧ Ext [] w w') :=
  (rright_ok kd tl nu r w hr).mono fun v w' ⟨b, h1, h2, h3⟩ => ⟨by rw [h1, eqv h2], h3⟩
theorem refrightV (kd tl nu : Int) (r : RowW) (w : World) (hr : r.ok w) : Meets Try.prog 14 [.agg #[.int .i64 kd, .int .i64 tl, .int .i64 nu, .slice r.a r.n r.c]] w (fun v w' => v = .bool (rightB kd tl nu (r.os.map wv)) ∧ Ext [] w w') :=
  (refright7_ok kd tl nu r w hr).mono fun v w' ⟨b, h1, h2, h3⟩ => ⟨by rw [h1, eqv h2], h3⟩
theorem sectorsV (kd tl nu : Int) (r : RowW) (w : World) (hr : r.ok w) : Meets Try.prog 21 [.agg #[.int .i64 kd, .int .i64 tl, .int .i64 nu, .slice r.a r.n r.c]] w (fun v w' => v = .int .i64 (secR kd tl nu (r.os.map wv)) ∧ Ext [] w w') :=
  (rsectors_ok kd tl nu r w hr).mono fun v w' ⟨h1, h2, h3⟩ => ⟨by
    by_cases h : okR kd tl nu (r.os.map wv)
    · rw [h1 h, secR_yes h]
    · rw [h2 h, secR_no h], h3⟩
theorem putP (kd tl nu : Int) (r : RowW) (w : World) (hr : r.ok w) : Meets Try.prog 20 [.agg #[.int .i64 kd, .int .i64 tl, .int .i64 nu, .slice r.a r.n r.c]] w (fun v w' => ∃ p : World → Prop, (∃ a c, v = .slice a (putR kd tl nu (r.os.map wv)).length c ∧ (putR kd tl nu (r.os.map wv)).length ≤ c ∧ p = fun w => Bs w a (putR kd tl nu (r.os.map wv)).length (putR kd tl nu (r.os.map wv))) ∧ Ext [] w w' ∧ ∀ w'', Ext [] w' w'' → p w'') :=
  (rput7_ok kd tl nu r w hr).mono fun v w' ⟨h1, h2, h3⟩ => by
    by_cases h : okR kd tl nu (r.os.map wv)
    · obtain ⟨a, c, M, hv, ho, _⟩ := h1 h
      rw [putR_yes h]
      exact ⟨_, ⟨a, c, hv, ho.le, rfl⟩, h3, fun w'' he => (Bs.of_own ho).ext0 he⟩
    · rw [putR_no h]
      exact ⟨_, ⟨none, 0, h2 h, Nat.le_refl _, rfl⟩, h3, fun w'' he => Bs.nil _⟩
theorem getP (a : Option Addr) (n c : Nat) (l : List UInt8) (w : World) (hb : Bs w a n l) (hnc : n ≤ c) (hn : n ≤ 2621400) : Meets Try.prog 17 [.slice a n c] w (fun v w' => ∃ p : World → Prop, (∃ r : RowW, v = .tuple #[.agg #[.int .i64 (getV l).1.1, .int .i64 (getV l).1.2.1, .int .i64 (getV l).1.2.2, .slice r.a r.n r.c], .int .i64 (if (getR l).isSome then 0 else 20)] ∧ r.os.map wv = (getV l).2 ∧ p = fun w => r.ok w) ∧ Ext [] w w' ∧ ∀ w'', Ext [] w' w'' → p w'') :=
  (rget7_ok a n c l w hb hnc hn).mono fun v w' ⟨h1, h2, h3⟩ => by
    cases hg : getR l with
    | none => exact ⟨_, ⟨⟨none, 0, 0, []⟩, by rw [h1 hg]; unfold getV; rw [hg]; rfl, by unfold getV; rw [hg]; rfl, rfl⟩, h3, fun w'' he => rowNil w''⟩
    | some p =>
      obtain ⟨h, ws⟩ := p
      obtain ⟨r, hv, hr, hw⟩ := h2 h ws hg
      exact ⟨_, ⟨r, by rw [hv]; unfold getV; rw [hg]; rfl, by rw [hw]; unfold getV; rw [hg]; rfl, rfl⟩, h3, fun w'' he => hr.ext0 he⟩
theorem mergeP7 (la : Option Addr) (ln lc : Nat) (rs : List RowW) (w : World) (hL : Cells w la (rs.map RowW.val)) (hln : ln = rs.length) (hR : ∀ r ∈ rs, r.ok w) (htot : (allW rs).length ≤ 50000) (hlb : ln ≤ 2000000) : Meets Try.prog 25 [.slice la ln lc] w (fun v w' => ∃ p : World → Prop, (∃ r : RowW, v = .slice r.a r.n r.c ∧ (r.os.map fun o => toQ (wv o)) = mergeP [] ((allW rs).map wv) ∧ r.n ≤ 50000 ∧ r.os.length = r.n ∧ p = fun w => r.ok w) ∧ Ext [] w w' ∧ ∀ w'', Ext [] w' w'' → p w'') :=
  (merge_ok la ln lc rs w hL hln hR htot hlb).mono fun v w' ⟨a, n, c, os, h1, h2, h3, h4, h5, h6, h7, h8⟩ =>
    ⟨_, ⟨⟨a, n, c, os⟩, h1, h7, h4, h3.symm, rfl⟩, h8, fun w'' he => ⟨⟨h2, by show n ≤ _; omega⟩, h5.ext0 he, fun o ho => (h6 o ho).ext0 he⟩⟩
theorem _root_.Brv.St.row {H H' : List Asn} {r : RowW} {F S : List Nat} {w : World} (s : St H F S w) (h : Sel H (sh (fun w => RowW.ok w r)) H') : RowW.ok w r := s.sh h
theorem rowB {H H1 H2 : List Asn} {b : Nat} {cs : List Value} {T : TypeId} {p : World → Prop} (os : List WriteV) (hb : Sel H (blk b cs T) H1) (hcs : cs = cellsW os) (hs : Sel H1 (sh p) H2) (hp : ∀ w, p w → ∀ o ∈ os, o.okW w) (hl : os.length ≤ 1000) : Imp H (sh (fun w => RowW.ok w ⟨some ⟨b, 0, none⟩, os.length, os.length, os⟩) :: H2) :=
  (Imp.turn hb (B := sh (fun w => Cells w (some ⟨b, 0, none⟩) (cellsW os))) (fun F S w hA => by
    obtain ⟨F', S', h⟩ := (⟨[], F ++ S, .inl ⟨fun M w' he hS => Cells.of_blk (hA.2.ext he (hS b (by rw [hA.1]; simp))) 0 _ (fun j v hj => by rw [← hcs] at hj; simpa using hj), by simp, subR _, Apart.nilL _⟩⟩ : ∃ F' S', (sh (fun w => Cells w (some ⟨b, 0, none⟩) (cellsW os))).P F' S' w ∧ F' ⊆ F ∧ S' ⊆ F ++ S ∧ Apart F' S' ∨ (sh (fun w => Cells w (some ⟨b, 0, none⟩) (cellsW os))).P F S w)
    exact ⟨F', S', h⟩)).trans ((Imp.both .here hs).trans (Imp.weak .here fun w h => ⟨⟨Nat.le_refl _, by show os.length ≤ _; omega⟩, tabW h.1 rfl, hp w h.2⟩))

end Go.Proofs.Ytiiiplhfgblamaa
/-
  The walks of package record.
-/
set_option linter.unusedVariables false
set_option linter.unusedSimpArgs false
set_option maxRecDepth 4000
namespace Go.Proofs.Ytiiiplhfgblamaa
open Go Brv Brv.Pack Brv.Frame
theorem okR_first : okR 3 1 5 [((1 : Int), (List.replicate 64 (0 : UInt8)))] := .inr (.inr ⟨rfl, ⟨by decide, by decide⟩, by decide, fun i x hx => by
  match i, hx with
  | 0, hx =>
    simp only [List.getElem?_cons_zero, Option.some.injEq] at hx
    subst hx
    exact ⟨by decide, by simp, fun y h => by omega⟩
  | i + 1, hx => simp at hx⟩)
theorem merge_first {r0 r1 rm : RowW} (h0 : r0.os.map wv = [((1 : Int), (List.replicate 64 (0 : UInt8)))]) (h1 : r1.os.map wv = [((0 : Int), [(97 : UInt8)]), (1, [98])]) (h : (rm.os.map fun o => toQ (wv o)) = mergeP [] ((allW [r0, r1]).map wv)) : rm.os.map wv = [((0 : Int), [(97 : UInt8)]), (1, [98])] := by
  have ha : (allW [r0, r1]).map wv = [((1 : Int), (List.replicate 64 (0 : UInt8)))] ++ [((0 : Int), [(97 : UInt8)]), (1, [98])] := by unfold allW; simp [h0, h1]
  rw [ha] at h
  refine toQ_inj ?_
  rw [List.map_map]
  exact h.trans rfl
theorem rm_some {rm : RowW} {oa ob : WriteV} {w : World} (hos : rm.os = [oa, ob]) (h : rm.ok w) : ∃ q, rm.a = some q := by
  obtain ⟨q, hq, _⟩ := h.2.1.at (by decide) 1 (by rw [hos]; simp)
  exact ⟨q, hq⟩
theorem rm_cell {rm : RowW} {oa ob : WriteV} {w : World} {q : Addr} (hos : rm.os = [oa, ob]) (hq : rm.a = some q) (h : rm.ok w) : w.cell? ((q.add ((1 : Int).toNat * 2)).add 1) = some (.slice ob.B'a ob.B'n ob.B'c) := by
  obtain ⟨q', hq', hc⟩ := h.2.1.at (by decide) 1 (by rw [hos]; simp)
  rw [hq] at hq'; cases hq'
  have : (rm.os.map WriteV.cells)[1]'(by rw [hos]; simp) = WriteV.cells ob := by simp [hos]
  rw [this] at hc
  exact hc.load (j := 1) rfl
theorem rm_bs {rm : RowW} {oa ob : WriteV} {w : World} (hos : rm.os = [oa, ob]) (h : rm.ok w) : Bs w ob.B'a ob.B'n ob.B' := (h.2.2 ob (by rw [hos]; simp)).2.2

theorem first7_ok  (w : World) : Meets Try.prog 12 [] w (fun v w' => v = .bool true ∧ Ext [] w w') := by
  refine Meets.law Try.func12 rfl 69 rfl (Nat.le_of_ble_eq_true rfl) (law_nil w) ?_
  refine SG.seq ?_
  refine SG.region ?_
  refine SL.val rfl rfl (fun w9 F9 S9 s => R.as rfl) ?_
  refine SL.nil ?_
  refine SN.seq ?_
  refine SG.seq ?_
  refine SG.region ?_
  refine SL.step rfl rfl (CS.make rfl rfl (by decide) (by decide) (by decide) (by decide) (vbs (List.replicate 64 (0 : UInt8))) (madeCells_bytes 64)) ?_
  rintro _ _ ⟨b7, rfl, rfl⟩
  refine SL.imp (Imp.blkBs (by repeat (first | exact Sel.keep | exact Sel.here | apply Sel.there))) ?_
  refine SL.val rfl rfl (fun w9 F9 S9 s => R.build (cs := (WriteV.cells (⟨1, some ⟨b7, 0, none⟩, 64, 64, (List.replicate 64 (0 : UInt8))⟩ : WriteV)).toArray) rfl rfl) ?_
  refine SL.step rfl rfl (CS.buildA rfl rfl rfl rfl rfl (WriteV.cells (⟨1, some ⟨b7, 0, none⟩, 64, 64, (List.replicate 64 (0 : UInt8))⟩ : WriteV)) rfl) ?_
  rintro _ _ ⟨b9, rfl, rfl⟩
  refine SL.val rfl rfl (fun w9 F9 S9 s => R.as rfl) ?_
  refine SL.nil ?_
  refine SN.imp (rowB [(⟨1, some ⟨b7, 0, none⟩, 64, 64, (List.replicate 64 (0 : UInt8))⟩ : WriteV)] (show Sel _ (blk b9 (WriteV.cells (⟨1, some ⟨b7, 0, none⟩, 64, 64, (List.replicate 64 (0 : UInt8))⟩ : WriteV)) 40) _ from (by repeat (first | exact Sel.keep | exact Sel.here | apply Sel.there))) rfl (show Sel _ (sh (fun w => Bs w (some ⟨b7, 0, none⟩) 64 (List.replicate 64 (0 : UInt8)))) _ from (by repeat (first | exact Sel.keep | exact Sel.here | apply Sel.there))) (fun w h o ho => by rw [List.mem_singleton.1 ho]; exact ⟨Nat.le_refl _, by show 64 ≤ _; decide, h⟩) (by simp)) ?_
  obtain ⟨r0, hr0⟩ : ∃ r : RowW, r = (⟨some ⟨b9, 0, none⟩, 1, 1, [(⟨1, some ⟨b7, 0, none⟩, 64, 64, (List.replicate 64 (0 : UInt8))⟩ : WriteV)]⟩ : RowW) := ⟨_, rfl⟩
  have hw0 : r0.os.map wv = [((1 : Int), (List.replicate 64 (0 : UInt8)))] := by rw [hr0]; rfl
  refine SN.be 1 rfl (show Value.slice (some ⟨b9, 0, none⟩) 1 1 = .slice r0.a r0.n r0.c by rw [hr0]) ?_
  refine SN.imp (Imp.weak (show Sel _ (sh (fun w => RowW.ok w ⟨some ⟨b9, 0, none⟩, [(⟨1, some ⟨b7, 0, none⟩, 64, 64, (List.replicate 64 (0 : UInt8))⟩ : WriteV)].length, [(⟨1, some ⟨b7, 0, none⟩, 64, 64, (List.replicate 64 (0 : UInt8))⟩ : WriteV)].length, [(⟨1, some ⟨b7, 0, none⟩, 64, 64, (List.replicate 64 (0 : UInt8))⟩ : WriteV)]⟩)) _ from (by repeat (first | exact Sel.keep | exact Sel.here | apply Sel.there))) (q := fun w => r0.ok w) (fun w h => by rw [hr0]; exact h)) ?_
  refine SN.imp (Imp.pick (H0 := [sh (fun w => r0.ok w)]) (by repeat (first | exact Sels.nil | apply Sels.cons | exact Sel.keep | exact Sel.here | apply Sel.there))) ?_
  have hok : okR 3 1 5 (r0.os.map wv) := by rw [hw0]; exact okR_first
  obtain ⟨RB, hRB⟩ : ∃ x, x = putR 3 1 5 (r0.os.map wv) := ⟨_, rfl⟩
  have hRB2 : RB = recB 3 1 5 (r0.os.map wv) := hRB.trans (putR_yes hok)
  have hRBl : RB.length = 81 := by rw [hRB2, hw0]; decide +kernel
  have hgV : getR RB = some ((3, 1, 5), r0.os.map wv) := by rw [hRB2]; exact getR_recB hok
  have hgv2 : getV RB = ((3, 1, 5), r0.os.map wv) := by unfold getV; rw [hgV]; rfl
  refine SN.seq ?_
  refine SG.seq ?_
  refine SG.region ?_
  refine SL.val rfl rfl (fun w9 F9 S9 s => R.mv rfl) ?_
  refine SL.val rfl rfl (fun w9 F9 S9 s => R.build (cs := [.int .i64 3, .int .i64 1, .int .i64 5, .slice r0.a r0.n r0.c].toArray) rfl rfl) ?_
  refine SL.step rfl rfl (CS.alloc [.int .i64 0, .int .i64 0, .int .i64 0, .slice none 0 0] rfl) ?_
  rintro _ _ ⟨b2, rfl, rfl⟩
  refine SL.step0 rfl (CS.stA rfl rfl (by repeat (first | exact Sel.keep | exact Sel.here | apply Sel.there)) (by rfl) (by rfl) (by intro u hu; simp only [List.mem_cons, List.not_mem_nil, or_false] at hu; rcases hu with rfl | rfl | rfl | rfl <;> rfl)) ?_
  rintro _ _ rfl
  refine SL.nil ?_
  refine SN.imp (Imp.fz (by repeat (first | exact Sel.keep | exact Sel.here | apply Sel.there))) ?_
  refine SN.seq ?_
  refine SG.seq ?_
  refine SG.region ?_
  refine SL.val rfl rfl (fun w9 F9 S9 s => R.ldBN rfl (s.cel (by repeat (first | exact SelB.blk | exact SelB.fz | apply SelB.there))) (by rfl)) ?_
  refine SL.step rfl rfl (CS.callP rfl go20 (fun w9 F9 S9 s => putP 3 1 5 r0 w9 (s.row (by repeat (first | exact Sel.keep | exact Sel.here | apply Sel.there))))) ?_
  rintro _ _ ⟨_, ⟨ap, cp, rfl, hcp, rfl, rfl⟩, rfl⟩
  rw [← hRB] at hcp ⊢
  refine SL.val rfl rfl (fun w9 F9 S9 s => R.as rfl) ?_
  refine SL.nil ?_
  refine SN.seq ?_
  refine SG.seq ?_
  refine SG.region ?_
  refine SL.val rfl rfl (fun w9 F9 S9 s => R.mv rfl) ?_
  refine SL.step rfl rfl (CS.callP rfl go17 (fun w9 F9 S9 s => getP ap RB.length cp RB w9 (s.sh (p := fun w => Bs w ap RB.length RB) (by repeat (first | exact Sel.keep | exact Sel.here | apply Sel.there))) hcp (by omega))) ?_
  rintro _ _ ⟨_, ⟨rg, rfl, hrg, rfl, rfl⟩, rfl⟩
  rw [hgv2] at hrg ⊢
  simp only [hgV, Option.isSome_some, if_true]
  refine SL.val rfl rfl (fun w9 F9 S9 s => R.mv rfl) ?_
  refine SL.val rfl rfl (fun w9 F9 S9 s => R.ext rfl rfl) ?_
  refine SL.val rfl rfl (fun w9 F9 S9 s => R.ext rfl rfl) ?_
  refine SL.step rfl rfl (CS.alloc [.int .i64 0, .int .i64 0, .int .i64 0, .slice none 0 0] rfl) ?_
  rintro _ _ ⟨b4, rfl, rfl⟩
  refine SL.step0 rfl (CS.stA rfl rfl (by repeat (first | exact Sel.keep | exact Sel.here | apply Sel.there)) (by rfl) (by rfl) (by intro u hu; simp only [List.mem_cons, List.not_mem_nil, or_false] at hu; rcases hu with rfl | rfl | rfl | rfl <;> rfl)) ?_
  rintro _ _ rfl
  refine SL.val rfl rfl (fun w9 F9 S9 s => R.as rfl) ?_
  refine SL.nil ?_
  refine SN.imp (Imp.fz (by repeat (first | exact Sel.keep | exact Sel.here | apply Sel.there))) ?_
  refine SN.seq ?_
  refine SG.seq ?_
  refine SG.region ?_
  refine SL.val rfl rfl (fun w9 F9 S9 s => R.mv rfl) ?_
  refine SL.step rfl rfl (CS.buildA rfl rfl rfl rfl rfl (vbs [97]) rfl) ?_
  rintro _ _ ⟨b20, rfl, rfl⟩
  refine SL.step rfl rfl (CS.markB (l := [97]) rfl (by repeat (first | exact Sel.keep | exact Sel.here | apply Sel.there)) rfl) ?_
  rintro _ _ ⟨rfl, rfl⟩
  refine SL.val rfl rfl (fun w9 F9 S9 s => R.build (cs := (WriteV.cells (⟨0, some ⟨b20, 0, none⟩, 1, 1, [97]⟩ : WriteV)).toArray) rfl rfl) ?_
  refine SL.step rfl rfl (CS.buildA rfl rfl rfl rfl rfl (vbs [98]) rfl) ?_
  rintro _ _ ⟨b23, rfl, rfl⟩
  refine SL.step rfl rfl (CS.markB (l := [98]) rfl (by repeat (first | exact Sel.keep | exact Sel.here | apply Sel.there)) rfl) ?_
  rintro _ _ ⟨rfl, rfl⟩
  refine SL.val rfl rfl (fun w9 F9 S9 s => R.build (cs := (WriteV.cells (⟨1, some ⟨b23, 0, none⟩, 1, 1, [98]⟩ : WriteV)).toArray) rfl rfl) ?_
  refine SL.step rfl rfl (CS.buildA rfl rfl rfl rfl rfl (cellsW [(⟨0, some ⟨b20, 0, none⟩, 1, 1, [97]⟩ : WriteV), (⟨1, some ⟨b23, 0, none⟩, 1, 1, [98]⟩ : WriteV)]) rfl) ?_
  rintro _ _ ⟨b26, rfl, rfl⟩
  refine SL.imp (Imp.both (p := fun w => Bs w (some ⟨b20, 0, none⟩) 1 [97]) (q := fun w => Bs w (some ⟨b23, 0, none⟩) 1 [98]) (by repeat (first | exact Sel.keep | exact Sel.here | apply Sel.there)) (by repeat (first | exact Sel.keep | exact Sel.here | apply Sel.there))) ?_
  refine SL.imp (rowB [(⟨0, some ⟨b20, 0, none⟩, 1, 1, [97]⟩ : WriteV), (⟨1, some ⟨b23, 0, none⟩, 1, 1, [98]⟩ : WriteV)] (show Sel _ (blk b26 (cellsW [(⟨0, some ⟨b20, 0, none⟩, 1, 1, [97]⟩ : WriteV), (⟨1, some ⟨b23, 0, none⟩, 1, 1, [98]⟩ : WriteV)]) 40) _ from (by repeat (first | exact Sel.keep | exact Sel.here | apply Sel.there))) rfl (show Sel _ (sh (fun w => Bs w (some ⟨b20, 0, none⟩) 1 [97] ∧ Bs w (some ⟨b23, 0, none⟩) 1 [98])) _ from (by repeat (first | exact Sel.keep | exact Sel.here | apply Sel.there))) (fun w h o ho => by simp only [List.mem_cons, List.not_mem_nil, or_false] at ho; rcases ho with rfl | rfl; exact ⟨Nat.le_refl _, by show 1 ≤ _; decide, h.1⟩; exact ⟨Nat.le_refl _, by show 1 ≤ _; decide, h.2⟩) (by simp)) ?_
  obtain ⟨r1, hr1⟩ : ∃ r : RowW, r = (⟨some ⟨b26, 0, none⟩, 2, 2, [(⟨0, some ⟨b20, 0, none⟩, 1, 1, [97]⟩ : WriteV), (⟨1, some ⟨b23, 0, none⟩, 1, 1, [98]⟩ : WriteV)]⟩ : RowW) := ⟨_, rfl⟩
  have hw1 : r1.os.map wv = [((0 : Int), [(97 : UInt8)]), (1, [98])] := by rw [hr1]; rfl
  refine SL.be 26 rfl (show Value.slice (some ⟨b26, 0, none⟩) 2 2 = r1.val by rw [hr1]; rfl) ?_
  refine SL.imp (Imp.weak (show Sel _ (sh (fun w => RowW.ok w ⟨some ⟨b26, 0, none⟩, [(⟨0, some ⟨b20, 0, none⟩, 1, 1, [97]⟩ : WriteV), (⟨1, some ⟨b23, 0, none⟩, 1, 1, [98]⟩ : WriteV)].length, [(⟨0, some ⟨b20, 0, none⟩, 1, 1, [97]⟩ : WriteV), (⟨1, some ⟨b23, 0, none⟩, 1, 1, [98]⟩ : WriteV)].length, [(⟨0, some ⟨b20, 0, none⟩, 1, 1, [97]⟩ : WriteV), (⟨1, some ⟨b23, 0, none⟩, 1, 1, [98]⟩ : WriteV)]⟩)) _ from (by repeat (first | exact Sel.keep | exact Sel.here | apply Sel.there))) (q := fun w => r1.ok w) (fun w h => by rw [hr1]; exact h)) ?_
  refine SL.step rfl rfl (CS.buildA rfl rfl rfl rfl rfl ([r0, r1].map RowW.val) rfl) ?_
  rintro _ _ ⟨b27, rfl, rfl⟩
  refine SL.imp (Imp.blkSh (p := fun w => Cells w (some ⟨b27, 0, none⟩) ([r0, r1].map RowW.val)) (show Sel _ (blk b27 ([r0, r1].map RowW.val) _) _ from (by repeat (first | exact Sel.keep | exact Sel.here | apply Sel.there))) (fun w h => Cells.of_blk h 0 _ (fun j v hj => by simpa using hj))) ?_
  refine SL.step rfl rfl (CS.callP rfl go25 (fun w9 F9 S9 s => mergeP7 (some ⟨b27, 0, none⟩) 2 2 [r0, r1] w9 (s.sh (p := fun w => Cells w (some ⟨b27, 0, none⟩) ([r0, r1].map RowW.val)) (by repeat (first | exact Sel.keep | exact Sel.here | apply Sel.there))) rfl (by intro r hr; simp only [List.mem_cons, List.not_mem_nil, or_false] at hr; rcases hr with rfl | rfl; exact s.row (by repeat (first | exact Sel.keep | exact Sel.here | apply Sel.there)); exact s.row (by repeat (first | exact Sel.keep | exact Sel.here | apply Sel.there))) (by rw [hr0, hr1]; simp [allW]) (by decide))) ?_
  rintro _ _ ⟨_, ⟨rm, rfl, hrm, hrmn, hrml, rfl, rfl⟩, rfl⟩
  have hmw := merge_first hw0 hw1 hrm
  obtain ⟨oa, ob, hos⟩ : ∃ oa ob, rm.os = [oa, ob] := by
    have hl := congrArg List.length hmw
    simp at hl
    match h9 : rm.os, hl with
    | [oa, ob], _ => exact ⟨oa, ob, rfl⟩
  have hob : ob.B' = [98] := by
    rw [hos] at hmw
    simp at hmw
    exact congrArg Prod.snd hmw.2
  have hn2 : rm.n = 2 := by rw [← hrml, hos]; rfl
  refine SL.val rfl rfl (fun w9 F9 S9 s => R.as rfl) ?_
  refine SL.nil ?_
  refine SN.seq ?_
  refine SG.seq ?_
  refine SG.region ?_
  refine SL.val rfl rfl (fun w9 F9 S9 s => R.mv rfl) ?_
  refine SL.val rfl rfl (fun w9 F9 S9 s => R.eqI rfl rfl) ?_
  refine SL.val rfl rfl (fun w9 F9 S9 s => R.mv rfl) ?_
  refine SL.isT 31 rfl (by decide) ?_
  refine SL.val rfl rfl (fun w9 F9 S9 s => R.ldBN rfl (s.cel (by repeat (first | exact SelB.blk | exact SelB.fz | apply SelB.there))) (by rfl)) ?_
  refine SL.val rfl rfl (fun w9 F9 S9 s => R.ldBN rfl (s.cel (by repeat (first | exact SelB.blk | exact SelB.fz | apply SelB.there))) (by rfl)) ?_
  refine SL.step rfl rfl (CS.callR rfl go22 (fun w9 F9 S9 s => rsame_ok 3 1 5 3 1 5 rg r0 w9 (s.row (by repeat (first | exact Sel.keep | exact Sel.here | apply Sel.there))) (s.row (by repeat (first | exact Sel.keep | exact Sel.here | apply Sel.there))))) ?_
  rintro _ _ ⟨rfl, rfl⟩
  first | refine SL.val rfl rfl (fun w9 F9 S9 s => R.pickT rfl rfl) ?_ | refine SL.val rfl rfl (fun w9 F9 S9 s => R.pickF rfl rfl) ?_
  refine SL.val rfl rfl (fun w9 F9 S9 s => R.mv rfl) ?_
  refine SL.isT 36 rfl (by simp [hrg]) ?_
  refine SL.val rfl rfl (fun w9 F9 S9 s => R.ldBN rfl (s.cel (by repeat (first | exact SelB.blk | exact SelB.fz | apply SelB.there))) (by rfl)) ?_
  refine SL.step rfl rfl (CS.callR rfl go21 (fun w9 F9 S9 s => sectorsV 3 1 5 r0 w9 (s.row (by repeat (first | exact Sel.keep | exact Sel.here | apply Sel.there))))) ?_
  rintro _ _ ⟨rfl, rfl⟩
  have hsec : secR 3 1 5 (r0.os.map wv) = 3 := by rw [secR_yes hok, ← hRB2]; unfold secN; rw [hRBl]; decide
  refine SL.val rfl rfl (fun w9 F9 S9 s => R.eqI rfl rfl) ?_
  first | refine SL.val rfl rfl (fun w9 F9 S9 s => R.pickT rfl rfl) ?_ | refine SL.val rfl rfl (fun w9 F9 S9 s => R.pickF rfl rfl) ?_
  refine SL.val rfl rfl (fun w9 F9 S9 s => R.mv rfl) ?_
  refine SL.isT 41 rfl (by rw [hsec]; decide) ?_
  refine SL.val rfl rfl (fun w9 F9 S9 s => R.mv rfl) ?_
  refine SL.val rfl rfl (fun w9 F9 S9 s => R.lenS rfl) ?_
  refine SL.val rfl rfl (fun w9 F9 S9 s => R.eqI rfl rfl) ?_
  first | refine SL.val rfl rfl (fun w9 F9 S9 s => R.pickT rfl rfl) ?_ | refine SL.val rfl rfl (fun w9 F9 S9 s => R.pickF rfl rfl) ?_
  refine SL.val rfl rfl (fun w9 F9 S9 s => R.mv rfl) ?_
  refine SL.isT 46 rfl (by rw [hRBl]; decide) ?_
  refine SL.val rfl rfl (fun w9 F9 S9 s => R.build (cs := [.int .i64 2, .int .i64 0, .int .i64 0, .slice none 0 0].toArray) rfl rfl) ?_
  refine SL.step rfl rfl (CS.callP rfl go20 (fun w9 F9 S9 s => putP 2 0 0 ⟨none, 0, 0, []⟩ w9 (rowNil w9))) ?_
  rintro _ _ ⟨_, ⟨aq, cq, rfl, hcq, rfl, rfl⟩, rfl⟩
  have hq2 : putR 2 0 0 (([] : List WriteV).map wv) = [2] := by rw [putR_yes (.inr (.inl ⟨rfl, ⟨rfl, rfl⟩, rfl⟩))]; decide +kernel
  rw [hq2]
  refine SL.val rfl rfl (fun w9 F9 S9 s => R.strB rfl (s.sh (p := fun w => Bs w aq ([2] : List UInt8).length [2]) (by repeat (first | exact Sel.keep | exact Sel.here | apply Sel.there)))) ?_
  refine SL.val rfl rfl (fun w9 F9 S9 s => R.eqStr (b := [2]) rfl rfl) ?_
  first | refine SL.val rfl rfl (fun w9 F9 S9 s => R.pickT rfl rfl) ?_ | refine SL.val rfl rfl (fun w9 F9 S9 s => R.pickF rfl rfl) ?_
  refine SL.val rfl rfl (fun w9 F9 S9 s => R.mv rfl) ?_
  refine SL.isT 52 rfl (by simp) ?_
  refine SL.val rfl rfl (fun w9 F9 S9 s => R.ldBN rfl (s.cel (by repeat (first | exact SelB.blk | exact SelB.fz | apply SelB.there))) (by rfl)) ?_
  refine SL.step rfl rfl (CS.callR rfl go19 (fun w9 F9 S9 s => rightV 3 1 5 r0 w9 (s.row (by repeat (first | exact Sel.keep | exact Sel.here | apply Sel.there))))) ?_
  rintro _ _ ⟨rfl, rfl⟩
  have hrt := rightB_iff.2 hok
  first | refine SL.val rfl rfl (fun w9 F9 S9 s => R.pickT rfl rfl) ?_ | refine SL.val rfl rfl (fun w9 F9 S9 s => R.pickF rfl rfl) ?_
  refine SL.val rfl rfl (fun w9 F9 S9 s => R.mv rfl) ?_
  refine SL.isT 56 rfl (hrt) ?_
  refine SL.val rfl rfl (fun w9 F9 S9 s => R.mv rfl) ?_
  refine SL.val rfl rfl (fun w9 F9 S9 s => R.lenS rfl) ?_
  refine SL.val rfl rfl (fun w9 F9 S9 s => R.eqI rfl rfl) ?_
  first | refine SL.val rfl rfl (fun w9 F9 S9 s => R.pickT rfl rfl) ?_ | refine SL.val rfl rfl (fun w9 F9 S9 s => R.pickF rfl rfl) ?_
  refine SL.val rfl rfl (fun w9 F9 S9 s => R.mv rfl) ?_
  refine SL.isT 61 rfl (by rw [hn2]; decide) ?_
  refine SL.val rfl rfl (fun w9 F9 S9 s => R.mv rfl) ?_
  refine SL.fact (fun w9 F9 S9 s => rm_some hos (s.row (r := rm) (by repeat (first | exact Sel.keep | exact Sel.here | apply Sel.there)))) (fun hf9 => ?_)
  obtain ⟨q, hq⟩ := hf9
  refine SL.val rfl rfl (fun w9 F9 S9 s => R.idx rfl rfl (by omega) (by rw [hn2]; decide) q hq) ?_
  refine SL.val rfl rfl (fun w9 F9 S9 s => R.fldA rfl) ?_
  refine SL.val rfl rfl (fun w9 F9 S9 s => R.ld (v := .slice ob.B'a ob.B'n ob.B'c) rfl (rm_cell hos hq (s.row (r := rm) (by repeat (first | exact Sel.keep | exact Sel.here | apply Sel.there))))) ?_
  refine SL.val rfl rfl (fun w9 F9 S9 s => R.strB (l := [98]) rfl (hob ▸ rm_bs hos (s.row (r := rm) (by repeat (first | exact Sel.keep | exact Sel.here | apply Sel.there))))) ?_
  refine SL.val rfl rfl (fun w9 F9 S9 s => R.eqStr (b := [98]) rfl rfl) ?_
  first | refine SL.val rfl rfl (fun w9 F9 S9 s => R.pickT rfl rfl) ?_ | refine SL.val rfl rfl (fun w9 F9 S9 s => R.pickF rfl rfl) ?_
  refine SL.val rfl rfl (fun w9 F9 S9 s => R.as rfl) ?_
  refine SL.nil ?_
  refine SN.seq ?_
  exact SG.ret1 rfl rfl ((Imp.sels (by repeat (first | exact Sels.nil | apply Sels.cons | exact Sel.keep | exact Sel.here | apply Sel.there)))) (congrArg Value.bool (by simp))

end Go.Proofs.Ytiiiplhfgblamaa
