/-
  What a law's arguments read as, for every type of plain data: out of the reading that the row gives.
-/
import Derived.Test.YthpolibakkmmeaaC6
import Derived.ProofKit
import Derived.OpenShut
import Derived.ShutString
import Derived.ChangeOld
import Derived.SizedLaws
set_option linter.unusedVariables false
namespace Brv
open Go

/-- The cells cs read as plain data of type t. -/
def Rd (P : Program) (w : World) : Nat → TypeId → List Value → Prop
  | 0, _, _ => False
  | f + 1, t, cs => match P.underlying t with
    | some .bool => ∃ b, cs = [.bool b]
    | some (.int k) => ∃ n, cs = [.int k n] ∧ (Lit.int k n).wf = true
    | some .string => ∃ l : List UInt8, cs = [.string (str l)] ∧ l.length ≤ 140737488351232
    | some (.slice e) => ∃ a n c, cs = [.slice a n c] ∧ n ≤ c ∧ (a = none → c = 0) ∧ c * P.bytesOf e ≤ 140737488351232 ∧
        ∃ vss : List (List Value), vss.length = n ∧ Cells w a vss.flatten ∧ ∀ vs ∈ vss, vs.length = P.cellsOf e ∧ Rd P w f e vs
    | some (.struct fs) => cs.length = P.cellsOf t ∧ ∀ (i : Nat) (f' : Field), fs[i]? = some f' → Rd P w f f'.type ((cs.drop f'.offset).take (P.cellsOf f'.type))
    | some (.array m e) => cs.length = P.cellsOf t ∧ ∀ i, i < m → Rd P w f e ((cs.drop (i * P.cellsOf e)).take (P.cellsOf e))
    | _ => True

theorem cells?_get {w : World} {base : Nat} {a : Addr} {n : Nat} {vs : List Value} (h : w.cells? base a n = some vs) : vs.length = n ∧ ∀ j v, vs[j]? = some v → w.cell? (a.add j) = some v := by
  unfold World.cells? at h
  split at h
  · have hl : vs.length = n := by simpa using mapM_some_length h
    refine ⟨hl, fun j v hj => ?_⟩
    have hlt : j < n := by have := (List.getElem?_eq_some_iff.1 hj).1; omega
    have := mapM_some_get h j j (by simp [hlt])
    rw [this]; exact hj
  · cases h

theorem mem_weightsAll {H : Type} {P : Program} {e : TypeId} {x : Nat} : ∀ {ds : List (DataW H)} {d : DataW H}, d ∈ ds → x ∈ d.weights P e → x ∈ DataW.weightsAll P e ds
  | y :: r, d, hd, hx => by
    simp only [DataW.weightsAll, List.mem_append]
    rcases List.mem_cons.1 hd with rfl | hd
    · exact .inl hx
    · exact .inr (mem_weightsAll hd hx)

theorem flatten_cells {w : World} {p : Addr} {size : Nat} : ∀ (vss : List (List Value)) (k : Nat), (∀ i vs, vss[i]? = some vs → vs.length = size ∧ ∀ j v, vs[j]? = some v → w.cell? ((p.add ((k + i) * size)).add j) = some v) →
    ∀ j v, vss.flatten[j]? = some v → w.cell? (p.add (k * size + j)) = some v
  | [], k, _, j, v, hj => by simp at hj
  | vs :: r, k, h, j, v, hj => by
    obtain ⟨hl, hc⟩ := h 0 vs rfl
    rw [List.flatten_cons] at hj
    by_cases hlt : j < size
    · rw [List.getElem?_append_left (by omega)] at hj
      have := hc j v hj
      rw [add_add] at this
      simpa using this
    · rw [List.getElem?_append_right (by omega)] at hj
      have := flatten_cells r (k + 1) (fun i us hu => by
        have := h (i + 1) us (by simpa using hu)
        rw [show k + (i + 1) = k + 1 + i by omega] at this
        exact this) (j - vs.length) v hj
      rw [show (k + 1) * size + (j - vs.length) = k * size + j by rw [Nat.add_mul]; omega] at this
      exact this

theorem rd_of_trod {H : Type} {enc : TypeId × Value → H} {P : Program} {w : World} {base : Nat} {sp : Nat → Bool} (hsp : ∀ b, sp b = true) : ∀ (fuel : Nat) (t : TypeId) (cs : List Value) (x : DataW H × List MemPlace), DataW.trod enc P w base sp true fuel t cs = some x →
    (∀ n ∈ x.1.weights P t, n ≤ 140737488351232) → Rd P w fuel t cs
  | 0, t, cs, x, h, _ => by simp [DataW.trod] at h
  | fuel + 1, t, cs, x, h, hw => by
    unfold Rd
    cases hu : P.underlying t with
    | none => trivial
    | some dsc =>
      cases dsc with
      | bool => obtain ⟨b, rfl, _⟩ := DataW.trod_bool hu h; exact ⟨b, rfl⟩
      | int k => obtain ⟨n, rfl, _, hwf⟩ := DataW.trod_int hu h; exact ⟨n, rfl, hwf⟩
      | string =>
        obtain ⟨s, rfl, rfl, _⟩ := DataW.trod_string hu h
        refine ⟨s.data.toList, by rw [str_toList], ?_⟩
        exact hw _ (by simp [DataW.weights])
      | slice e =>
        rcases DataW.trod_slice hu h with ⟨rfl, rfl⟩ | ⟨a, len, cap, elems, rest, n, hf, rfl, rfl, _, hlc, _, hel, hcell, hsr, _⟩
        · exact ⟨none, 0, 0, rfl, Nat.le_refl _, fun _ => rfl, by simp, [], rfl, Cells.nil _ _, by simp⟩
        · cases hf
          have hrest := (hsr (hsp _)).1
          have hget : ∀ i, i < len → ∃ vs y, w.cells? base (a.add (i * P.cellsOf e)) (P.cellsOf e) = some vs ∧ DataW.trod enc P w base sp true fuel e vs = some y ∧ elems[i]? = some y := by
            intro i hi
            have := hcell i hi
            rw [List.getElem?_eq_getElem (by omega)] at this
            obtain ⟨vs, h1, h2⟩ := Option.bind_eq_some_iff.1 this
            exact ⟨vs, _, h1, h2, List.getElem?_eq_getElem (by omega)⟩
          refine ⟨some a, len, cap, rfl, hlc, (fun h => by cases h), ?_, ?_⟩
          · have := hw ((elems.length + rest.length) * P.bytesOf e) (by simp [DataW.weights, hu])
            rw [hel, hrest, show len + (cap - len) = cap by omega] at this
            exact this
          · let vss : List (List Value) := (List.range len).map fun i => (w.cells? base (a.add (i * P.cellsOf e)) (P.cellsOf e)).getD []
            have hvget : ∀ i vs, vss[i]? = some vs → i < len ∧ w.cells? base (a.add (i * P.cellsOf e)) (P.cellsOf e) = some vs := by
              intro i vs hi
              have hlt : i < len := by have := (List.getElem?_eq_some_iff.1 hi).1; simpa [vss] using this
              obtain ⟨vs', _, h1, _⟩ := hget i hlt
              simp [vss, hlt, h1] at hi
              subst hi
              exact ⟨hlt, h1⟩
            refine ⟨vss, by simp [vss], ?_, ?_⟩
            · intro j v hj
              refine ⟨a, rfl, ?_⟩
              have := flatten_cells (w := w) (p := a) (size := P.cellsOf e) vss 0 (fun i vs hi => by
                obtain ⟨_, h1⟩ := hvget i vs hi
                obtain ⟨hl, hc⟩ := cells?_get h1
                refine ⟨hl, fun j v hj => ?_⟩
                rw [Nat.zero_add]; exact hc j v hj) j v hj
              simpa using this
            · intro vs hvs
              obtain ⟨i, hi⟩ := List.getElem?_of_mem hvs
              obtain ⟨hlt, h1⟩ := hvget i vs hi
              obtain ⟨vs', y, h1', h2, h3⟩ := hget i hlt
              rw [h1] at h1'; cases h1'
              refine ⟨(cells?_get h1).1, rd_of_trod hsp fuel e vs y h2 (fun m hm => ?_)⟩
              refine hw m ?_
              simp only [DataW.weights, hu, List.mem_cons, List.mem_append]
              refine .inr (.inl (mem_weightsAll (List.mem_map.2 ⟨y, List.mem_of_getElem? h3, rfl⟩) hm))
      | struct fs =>
        obtain ⟨xs, n, hf, rfl, hl, hxl, hget⟩ := DataW.trod_struct hu h
        cases hf
        refine ⟨hl, fun i f' hf' => ?_⟩
        have := hget i f' hf'
        have hlt : i < xs.length := by have := (Array.getElem?_eq_some_iff.1 hf').1; omega
        rw [List.getElem?_eq_getElem hlt] at this
        refine rd_of_trod hsp fuel f'.type _ _ this (fun m hm => ?_)
        refine hw m ?_
        simp only [DataW.weights, hu]
        exact DataW.weights_mem_each (j := i) (by simp [hf']) (by simp [List.getElem?_eq_getElem hlt]) m hm
      | array m e =>
        obtain ⟨xs, n, hf, rfl, hl, hxl, hget⟩ := DataW.trod_array hu h
        cases hf
        refine ⟨hl, fun i hi => ?_⟩
        have := hget i hi
        rw [List.getElem?_eq_getElem (by omega)] at this
        refine rd_of_trod hsp fuel e _ _ this (fun q hm => ?_)
        refine hw q ?_
        simp only [DataW.weights, hu]
        exact mem_weightsAll (List.mem_map.2 ⟨_, List.getElem_mem (by omega), rfl⟩) hm
      | _ => trivial

theorem okWide_array {P : Program} {w : World} {r : Reach} {base : Nat} {t : TypeId} {v : Value} {m : Nat} {e : TypeId} (ht : P.underlying t = some (.array m e)) (h : Value.okWide P w r base t v) : ∃ cs, v = .agg cs ∧ cs.size = P.cellsOf t := by
  simp only [Value.okWide, ht] at h
  obtain ⟨cs, h1, h2, _⟩ := h
  exact ⟨cs, h1, h2⟩
theorem Rd.arr {P : Program} {w : World} {f : Nat} {T m e s : Nat} (ht : P.underlying T = some (.array m e)) (hs : P.cellsOf e = s) {cs : List Value} (h : Rd P w f T cs) : ∀ i, i < m → ∃ f, Rd P w f e ((cs.drop (i * s)).take s) := by
  cases f with
  | zero => exact h.elim
  | succ f =>
    unfold Rd at h
    rw [ht] at h
    subst hs
    exact fun i hi => ⟨f, h.2 i hi⟩

theorem Rd.of {H : Type} {enc : TypeId × Value → H} {P : Program} {w : World} {t : TypeId} {v : Value} {d : DataW H} {ps : List MemPlace} {ts : List TypeId} {ds : List (DataW H)} {j : Nat}
    (h : DataW.Trod enc P w 0 (fun _ => true) true t v d ps) (hsz : (DataW.weightsEach P ts ds).all (· ≤ reachBytes) = true) (ht : ts[j]? = some t) (hd : ds[j]? = some d) : ∃ f, Rd P w f t v.cells.toList := by
  obtain ⟨fuel, hf⟩ := h
  refine ⟨fuel, rd_of_trod (fun _ => rfl) fuel t _ _ hf (fun n hn => ?_)⟩
  have := List.all_eq_true.1 hsz n (DataW.weights_mem_each ht hd n hn)
  exact of_decide_eq_true this

theorem wf_bounds {k : IntKind} {n : Int} (h : (Lit.int k n).wf = true) : k.min ≤ n ∧ n ≤ k.max := by
  simpa [Lit.wf] using h
theorem wf_i64 {n : Int} (h : (Lit.int .i64 n).wf = true) : -9223372036854775808 ≤ n ∧ n ≤ 9223372036854775807 := by
  have := wf_bounds h
  simpa [IntKind.min, IntKind.max, IntKind.signed, IntKind.bits] using this
theorem wf_u8 {n : Int} (h : (Lit.int .u8 n).wf = true) : 0 ≤ n ∧ n ≤ 255 := by
  have := wf_bounds h
  simpa [IntKind.min, IntKind.max, IntKind.signed, IntKind.bits] using this
theorem wf_u16 {n : Int} (h : (Lit.int .u16 n).wf = true) : 0 ≤ n ∧ n ≤ 65535 := by
  have := wf_bounds h
  simpa [IntKind.min, IntKind.max, IntKind.signed, IntKind.bits] using this
theorem wf_u32 {n : Int} (h : (Lit.int .u32 n).wf = true) : 0 ≤ n ∧ n ≤ 4294967295 := by
  have := wf_bounds h
  simpa [IntKind.min, IntKind.max, IntKind.signed, IntKind.bits] using this

theorem i64_wf {n : Int} (h : -9223372036854775808 ≤ n ∧ n ≤ 9223372036854775807) : (Lit.int .i64 n).wf = true := by
  simp [Lit.wf, IntKind.min, IntKind.max, IntKind.signed, IntKind.bits]; omega
theorem u8_of_wf {n : Int} (h : (Lit.int .u8 n).wf = true) : ∃ y : UInt8, n = (y.toNat : Int) := by
  have := wf_u8 h
  exact ⟨UInt8.ofNat n.toNat, by simp only [UInt8.toNat_ofNat']; omega⟩
theorem u32_of_wf {n : Int} (h : (Lit.int .u32 n).wf = true) : ∃ y : UInt32, n = (y.toNat : Int) := by
  have := wf_u32 h
  exact ⟨UInt32.ofNat n.toNat, by simp only [UInt32.toNat_ofNat']; omega⟩

/-- A slice of bytes. -/
theorem Rd.bytes {P : Program} {w : World} {f : Nat} {T E : TypeId} [t : TyBytes P T E] (hc : P.cellsOf E = 1) (hby : P.bytesOf E = 1) {cs : List Value} (h : Rd P w f T cs) :
    ∃ a n c l, cs = [.slice a n c] ∧ n ≤ c ∧ (a = none → c = 0) ∧ c ≤ 140737488351232 ∧ Bs w a n l := by
  cases f with
  | zero => exact h.elim
  | succ f =>
    unfold Rd at h
    rw [t.h] at h
    obtain ⟨a, n, c, rfl, hnc, ha, hb, vss, hl, hcell, hv⟩ := h
    have hel : ∀ vs ∈ vss, ∃ b : UInt8, vs = [vb b] := by
      intro vs hvs
      obtain ⟨_, hr⟩ := hv vs hvs
      cases f with
      | zero => exact hr.elim
      | succ f =>
        unfold Rd at hr
        rw [t.e] at hr
        obtain ⟨x, rfl, hwf⟩ := hr
        have := wf_u8 hwf
        refine ⟨UInt8.ofNat x.toNat, ?_⟩
        simp only [vb, UInt8.toNat_ofNat', List.cons.injEq, Value.int.injEq, true_and, and_true]
        omega
    have hex : ∃ l : List UInt8, vss = l.map (fun b => [vb b]) := by
      clear hcell hl hv
      induction vss with
      | nil => exact ⟨[], rfl⟩
      | cons vs r ih =>
        obtain ⟨b, rfl⟩ := hel vs (by simp)
        obtain ⟨l, rfl⟩ := ih (fun x hx => hel x (by simp [hx]))
        exact ⟨b :: l, rfl⟩
    obtain ⟨l, rfl⟩ := hex
    refine ⟨a, n, c, l, rfl, hnc, ha, by rw [hby] at hb; omega, ?_, by simpa using hl.symm⟩
    have : (l.map (fun b => [vb b])).flatten = vbs l := by
      clear hcell hl hv hel
      induction l with
      | nil => rfl
      | cons b r ih => simp [vbs, ih]
    rw [this] at hcell; exact hcell
theorem Rd.int {P : Program} {w : World} {f : Nat} {T : TypeId} {k : IntKind} [t : TyInt P T k] {cs : List Value} (h : Rd P w f T cs) : ∃ n, cs = [.int k n] ∧ (Lit.int k n).wf = true := by
  cases f with
  | zero => exact h.elim
  | succ f => unfold Rd at h; rw [t.h] at h; exact h
theorem Rd.bool {P : Program} {w : World} {f : Nat} {T : TypeId} [t : TyBool P T] {cs : List Value} (h : Rd P w f T cs) : ∃ b, cs = [.bool b] := by
  cases f with
  | zero => exact h.elim
  | succ f => unfold Rd at h; rw [t.h] at h; exact h
theorem Rd.str {P : Program} {w : World} {f : Nat} {T : TypeId} [t : TyStr P T] {cs : List Value} (h : Rd P w f T cs) : ∃ l : List UInt8, cs = [.string (str l)] ∧ l.length ≤ 140737488351232 := by
  cases f with
  | zero => exact h.elim
  | succ f => unfold Rd at h; rw [t.h] at h; exact h
end Brv
