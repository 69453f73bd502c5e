/-
  Structs of plain fields, compared.
-/
import Derived.Test.YthpolibakkmmeaaC16
import Derived.ChangeKeysEq
set_option linter.unusedVariables false
namespace Brv
open Go
inductive Kd where
  | i (k : IntKind)
  | s
  | b
  | no
  | other
def Kd.eq : Kd → Kd → Bool
  | .i x, .i y => decide (x = y)
  | .s, .s => true
  | .b, .b => true
  | _, _ => false
theorem Kd.of_eq {x y : Kd} (h : Kd.eq x y = true) : x = y := by
  cases x <;> cases y <;> simp_all [Kd.eq]
def kindOf : Value → Kd
  | .int k _ => .i k
  | .string _ => .s
  | .bool _ => .b
  | _ => .no
def kindD : Option TypeDesc → Kd
  | some (.int k) => .i k
  | some .string => .s
  | some .bool => .b
  | _ => .other
def kindT (P : Program) (T : TypeId) : Kd := kindD (P.underlying T)
def veq : Value → Value → Bool
  | .int _ a, .int _ b => a == b
  | .string a, .string b => a.toList == b.toList
  | .bool a, .bool b => a == b
  | _, _ => false
def eqL : List Value → List Value → Bool
  | [], [] => true
  | x :: xs, y :: ys => veq x y && eqL xs ys
  | _, _ => false
/-- The fields lie one behind the other, each a cell, of these kinds. -/
def okFs (P : Program) : List Field → Nat → List Kd → Bool
  | [], _, [] => true
  | f :: fs, i, k :: ks => decide (f.name ≠ "_") && P.plainKey f.type && Nat.beq f.offset i && Kd.eq (kindT P f.type) k && okFs P fs (i + 1) ks
  | _, _, _ => false
class TyEqS (P : Program) (T : TypeId) (ks : outParam (List Kd)) : Prop where
  h : P.underlying T = some (.struct (P.fieldsOf T))
  s : P.stoodInHeld T = false
  g : P.eqGuardType P.depth T = false
  f : okFs P (P.fieldsOf T).toList 0 ks = true
theorem run_veq {P : Program} (w : World) (d : Nat) {T : TypeId} {u v : Value} {k : Kd} (hk : kindT P T = k) (hp : P.plainKey T = true) (hu : kindOf u = k) (hv : kindOf v = k) : (Op.equalIn (d + 1) T u v).run P w = .ok (veq u v) w := by
  unfold Program.plainKey at hp
  cases ht : P.underlying T with
  | none => simp [ht] at hp
  | some t =>
    unfold kindT at hk
    rw [ht] at hk
    cases t <;> simp [ht] at hp
    · simp only [kindD] at hk
      subst hk
      cases u <;> simp [kindOf] at hu
      cases v <;> simp [kindOf] at hv
      simp [Op.equalIn, run_underlying ht, veq]
    · simp only [kindD] at hk
      subst hk
      cases u <;> simp [kindOf] at hu
      cases v <;> simp [kindOf] at hv
      subst hu; subst hv
      exact run_equalIn_int w d T _ _ _ _ ht
    · simp only [kindD] at hk
      subst hk
      cases u <;> simp [kindOf] at hu
      cases v <;> simp [kindOf] at hv
      exact run_equalIn_string w d T _ _ ht
theorem run_eqFields {P : Program} (w : World) (d : Nat) (xs ys : Array Value) : ∀ (fs : List Field) (i : Nat) (ks : List Kd), okFs P fs i ks = true → (xs.toList.drop i).map kindOf = ks → (ys.toList.drop i).map kindOf = ks →
    (Op.eqFields (d + 1) xs ys fs).run P w = .ok (eqL (xs.toList.drop i) (ys.toList.drop i)) w
  | [], i, ks, h, hx, hy => by
    cases ks with
    | nil =>
      have h1 : xs.toList.drop i = [] := List.map_eq_nil_iff.1 hx
      have h2 : ys.toList.drop i = [] := List.map_eq_nil_iff.1 hy
      rw [h1, h2]; simp [Op.eqFields, eqL]
    | cons k ks => simp [okFs] at h
  | f :: fs, i, ks, h, hx, hy => by
    cases ks with
    | nil => simp [okFs] at h
    | cons k ks =>
      simp only [okFs, Bool.and_eq_true, decide_eq_true_eq] at h
      obtain ⟨⟨⟨⟨h1, h2⟩, h3⟩, h4⟩, h5⟩ := h
      replace h3 := Nat.eq_of_beq_eq_true h3
      replace h4 := Kd.of_eq h4
      have ex : ∀ {zs : Array Value}, (zs.toList.drop i).map kindOf = k :: ks → ∃ u, zs[i]? = some u ∧ zs.toList.drop i = u :: zs.toList.drop (i + 1) ∧ kindOf u = k ∧ (zs.toList.drop (i + 1)).map kindOf = ks := by
        intro zs hz
        cases hd : zs.toList.drop i with
        | nil => rw [hd] at hz; cases hz
        | cons u r =>
          rw [hd] at hz
          have hi : i < zs.toList.length := by
            rcases Nat.lt_or_ge i zs.toList.length with h | h
            · exact h
            · rw [List.drop_of_length_le h] at hd; cases hd
          rw [List.drop_eq_getElem_cons hi] at hd
          injection hd with e1 e2
          injection hz with e3 e4
          refine ⟨u, ?_, by rw [e2], e3, by rw [e2]; exact e4⟩
          rw [← Array.getElem?_toList, List.getElem?_eq_getElem hi, e1]
      obtain ⟨u, u1, u2, u3, u4⟩ := ex hx
      obtain ⟨v, v1, v2, v3, v4⟩ := ex hy
      have ih := run_eqFields (P := P) w d xs ys fs (i + 1) ks h5 u4 v4
      rw [u2, v2]
      simp only [Op.eqFields, if_pos h1, Sem.run_bind, h3, run_part_plain w h2 u1, run_part_plain w h2 v1, Result.andThen_ok, run_veq w d h4 h2 u3 v3, eqL]
      cases veq u v
      · simp
      · simpa using ih
section
variable {P : Program} {n : Fm} {ρ : Env} {w : World} {d : Nat} {ty : TypeId} {pos : String} {af : Array Edge} {gd : Option (Nat × Bool)}
theorem run_eqS {T : TypeId} {ks : List Kd} [t : TyEqS P T ks] {xs ys : Array Value} (hx : xs.toList.map kindOf = ks) (hy : ys.toList.map kindOf = ks) (w : World) : (Op.equalIn 10000 T (.agg xs) (.agg ys)).run P w = .ok (eqL xs.toList ys.toList) w := by
  have := run_eqFields (P := P) w 9998 xs ys (P.fieldsOf T).toList 0 ks t.f (by simpa using hx) (by simpa using hy)
  rw [run_equalIn_agg (w := w) 9999 T xs ys t.h t.s, this]
  simp
theorem R.eqS {T T' : TypeId} {ks : List Kd} [t : TyEqS P T ks] {x y : Operand} {xs ys : Array Value} {b : Bool} (hx : ev ρ x = some (.agg xs)) (hy : ev ρ y = some (.agg ys)) (h1 : xs.toList.map kindOf = ks) (h2 : ys.toList.map kindOf = ks) (hb : eqL xs.toList ys.toList = b) :
    Runs P n ρ w ⟨some d, .binOp .eql T x y T', ty, pos, af, gd⟩ (.bool b) w := R.bin hx hy (fun w => by
    subst hb
    simp only [Sem.run_bind, run_eqGuard_agg (w := w) .eql T x y _ _ t.g, Result.andThen_ok, run_eql_struct, run_eqS h1 h2])
theorem R.neS {T T' : TypeId} {ks : List Kd} [t : TyEqS P T ks] {x y : Operand} {xs ys : Array Value} {b : Bool} (hx : ev ρ x = some (.agg xs)) (hy : ev ρ y = some (.agg ys)) (h1 : xs.toList.map kindOf = ks) (h2 : ys.toList.map kindOf = ks) (hb : (!eqL xs.toList ys.toList) = b) :
    Runs P n ρ w ⟨some d, .binOp .neq T x y T', ty, pos, af, gd⟩ (.bool b) w := R.bin hx hy (fun w => by
    subst hb
    simp only [Sem.run_bind, run_eqGuard_agg (w := w) .neq T x y _ _ t.g, Result.andThen_ok, run_neq_struct, run_eqS h1 h2])
end
end Brv
