/-
  Things that grow: how the blocks of a thing change, and slices that are held.
-/
import Derived.Test.YthpolibakkmmeaaC6
set_option linter.unusedVariables false
namespace Brv
open Go

/-- A thing of the blocks S becomes one of the blocks S'. -/
def Grown (S S' : List Nat) (w w' : World) : Prop := Ext S w w' ∧ ∀ g ∈ S', g ∈ S ∨ w.heap.size ≤ g
theorem Grown.refl (S : List Nat) (w : World) : Grown S S w w := ⟨Ext.refl _ _, fun _ h => .inl h⟩
theorem Grown.trans {S S₁ S₂ : List Nat} {a b c : World} (h : Grown S S₁ a b) (k : Grown S₁ S₂ b c) : Grown S S₂ a c := by
  refine ⟨h.1.transN k.1 h.2, fun g hg => ?_⟩
  rcases k.2 g hg with hg | hg
  · exact h.2 g hg
  · exact .inr (Nat.le_trans h.1.size hg)
theorem Grown.then0 {S S' : List Nat} {a b c : World} (h : Grown S S' a b) (k : Ext [] b c) : Grown S S' a c := ⟨h.1.trans0 k, h.2⟩
theorem Grown.after0 {S S' : List Nat} {a b c : World} (k : Ext [] a b) (h : Grown S S' b c) : Grown S S' a c := ⟨h.1.after k, fun g hg => (h.2 g hg).imp id (Nat.le_trans k.size)⟩
theorem Grown.of0 {a b : World} (S : List Nat) (h : Ext [] a b) : Grown S S a b := ⟨h.mono (by simp), fun _ h => .inl h⟩
/-- What was there and is none of S is as it was. -/
theorem Grown.apart {S S' Z : List Nat} {a b : World} (h : Grown S S' a b) (hz : ∀ z ∈ Z, z ∉ S) (hl : ∀ z ∈ Z, z < a.heap.size) : ∀ z ∈ Z, z ∉ S' := by
  intro z hz' hs
  rcases h.2 z hs with hs | hs
  · exact hz z hz' hs
  · have := hl z hz'; omega

theorem Ext.fresh {S : List Nat} {w a b : World} (E : Ext [] w a) (e : Ext S a b) (h : ∀ g ∈ S, w.heap.size ≤ g) : Ext [] w b := E.trans e (by simp) (fun x hx => .inr (h x hx))
theorem Grown.fresh {S S' : List Nat} {s : Nat} {a b : World} (h : Grown S S' a b) (hs : ∀ g ∈ S, s ≤ g) (ha : s ≤ a.heap.size) : ∀ g ∈ S', s ≤ g := fun g hg => (h.2 g hg).elim (hs g) (Nat.le_trans ha)
/-- A value that is a slice of n elements, which it owns; its blocks are of M, or from s on. -/
def Held (M : List Nat) (s E size n : Nat) (xs : List Value) (v : Value) (w : World) : Prop := ∃ a c M', v = .slice a n c ∧ Own w E size a n c xs M' ∧ ∀ g ∈ M', g ∈ M ∨ s ≤ g
theorem Held.keep (M : List Nat) (s E size n : Nat) (xs : List Value) : ∀ v w w', Ext [] w w' → Held M s E size n xs v w → Held M s E size n xs v w' := fun _ _ _ he ⟨a, c, M', hv, ho, hM⟩ => ⟨a, c, M', hv, ho.ext0 he, hM⟩
theorem Held.app {w₀ w w' : World} {E size m n : Nat} {M : List Nat} {xs ys : List Value} {v : Value} (h : Appended w E size M m xs v w') (hJ : Ext [] w₀ w) (hm : m = n) (hx : xs = ys) :
    Held M w₀.heap.size E size n ys v w' ∧ Ext M w w' ∧ Ext M w₀ w' := by
  subst hm; subst hx
  obtain ⟨a, c, M', rfl, e, hM', o⟩ := h
  exact ⟨⟨a, c, M', rfl, o, fun g hg => (hM' g hg).imp id (Nat.le_trans hJ.size)⟩, e, e.after hJ⟩
theorem NewS.bs {w w' : World} {cs : Array Value} {E n : Nat} {v : Value} {l : List UInt8} (h : NewS w cs E n n v w') (hc : cs.toList = vbs l) (hn : n = l.length) : IsBs n l v w' ∧ Ext [] w w' := by
  obtain ⟨b, rfl, hb, hs, e, B⟩ := h
  exact ⟨⟨_, _, rfl, Nat.le_refl _, Bs.of_blk B l hc n hn⟩, e⟩

theorem zeroCells_bytes (m : Nat) : (Builtin.zeroCells (Value.int .u8 0).cells m).toList = vbs (List.replicate m 0) := by
  refine List.ext_getElem (by simp [Builtin.zeroCells, vbs, Value.cells]) (fun i h1 h2 => ?_)
  simp [Builtin.zeroCells, vbs, Value.cells, vb, Nat.mod_one]
theorem Own.typ {w : World} {E size : Nat} {a : Option Addr} {n cap : Nat} {xs : List Value} {M : List Nat} (h : Own w E size a n cap xs M) : ∀ g ∈ M, ∃ cs, Blk w g cs E (0, 0) := by
  rcases h.2 with ⟨_, _, _, rfl⟩ | ⟨g, cur, _, rfl, hb, _⟩
  · simp
  · intro b hm; rw [List.mem_singleton.1 hm]; exact ⟨cur, hb⟩
theorem Blk.ne {w : World} {b b' : Nat} {cs cs' : Array Value} {T T' : TypeId} {fz fz' : Nat × Nat} (h : Blk w b cs T fz) (h' : Blk w b' cs' T' fz') (ht : T ≠ T') : b ≠ b' := by
  rintro rfl
  have : some (Obj.cells cs T fz) = some (Obj.cells cs' T' fz') := h.symm.trans h'
  cases this; exact ht rfl
/-- A clipped row. -/
theorem Own.clip {w : World} {E size : Nat} {a : Option Addr} {n cap : Nat} {xs : List Value} {M : List Nat} (h : Own w E size a n cap xs M) : Own w E size a n n xs M := by
  refine ⟨h.1, ?_⟩
  rcases h.2 with ⟨h1, h2, h3, h4⟩ | ⟨g, cur, h1, h2, h3, h4, h5, h6, h7⟩
  · exact .inl ⟨h1, h2, h2, h4⟩
  · exact .inr ⟨g, cur, h1, h2, h3, Nat.le_refl _, by omega, Nat.le_trans (Nat.mul_le_mul_right _ h4) h6, h7⟩
/-- A pen at p (a block with one slice), that wrote the bytes l. S: its blocks. -/
def PenAt (T E : Nat) (w : World) (p : Nat) (l : List UInt8) (S : List Nat) : Prop :=
  ∃ a n c M, S = p :: M ∧ p ∉ M ∧ n = l.length ∧ Blk w p #[.slice a n c] T (0, 0) ∧ Own w E 1 a n c (vbs l) M
theorem PenAt.ext {T E : Nat} {w w' : World} {p : Nat} {l : List UInt8} {S M' : List Nat} (h : PenAt T E w p l S) (he : Ext M' w w') (hm : ∀ x ∈ S, x ∉ M') : PenAt T E w' p l S := by
  obtain ⟨a, n, c, M, rfl, h1, h2, h3, h4⟩ := h
  exact ⟨a, n, c, M, rfl, h1, h2, h3.ext he (hm p (by simp)), h4.ext he (fun b hb => hm b (by simp [hb]))⟩
theorem PenAt.ext0 {T E : Nat} {w w' : World} {p : Nat} {l : List UInt8} {S : List Nat} (h : PenAt T E w p l S) (he : Ext [] w w') : PenAt T E w' p l S := h.ext he (by simp)
theorem PenAt.lt {T E : Nat} {w : World} {p : Nat} {l : List UInt8} {S : List Nat} (h : PenAt T E w p l S) : ∀ g ∈ S, g < w.heap.size := by
  obtain ⟨a, n, c, M, rfl, h1, h2, h3, h4⟩ := h
  intro g hg
  rcases List.mem_cons.1 hg with rfl | hg
  · exact h3.lt
  · exact h4.lt g hg
theorem PenAt.mem {T E : Nat} {w : World} {p : Nat} {l : List UInt8} {S : List Nat} (h : PenAt T E w p l S) : p ∈ S := by
  obtain ⟨a, n, c, M, rfl, _⟩ := h; simp
theorem PenAt.new {T E : Nat} {w : World} {p : Nat} (B : Blk w p #[.slice none 0 0] T (0, 0)) : PenAt T E w p [] [p] := ⟨none, 0, 0, [], rfl, by simp, rfl, B, Own.nil _ _ _⟩
/-- A held slice is put into the pen. -/
theorem PenAt.put {T E : Nat} {w₀ w w' : World} {p m : Nat} {k : List UInt8} {M : List Nat} {v : Value} (hs : p < w₀.heap.size) (hpM : p ∉ M) (hk : m = k.length) (h : Held M w₀.heap.size E 1 m (vbs k) v w) (hJ : Ext M w₀ w) (hp : Put w p #[v] T w') :
    ∃ S', PenAt T E w' p k S' ∧ Grown (p :: M) S' w₀ w' := by
  obtain ⟨a, c, M', rfl, ho, hM'⟩ := h
  obtain ⟨e, hsz, B⟩ := hp
  have hpM' : p ∉ M' := fun hm => (hM' p hm).elim hpM (fun h => by omega)
  refine ⟨p :: M', ⟨a, m, c, M', rfl, hpM', hk, B, ho.ext e (fun b hb => by intro h; rw [List.mem_singleton.1 h] at hb; exact hpM' hb)⟩, ?_, ?_⟩
  · exact hJ.trans e (fun x hx => .inl (by simp [hx])) (fun x hx => .inl (by rw [List.mem_singleton.1 hx]; simp))
  · intro g hg
    rcases List.mem_cons.1 hg with rfl | hg
    · exact .inl (by simp)
    · exact (hM' g hg).imp (fun h => by simp [h]) id
/-- A scan at s (a block with a slice and an error): the bytes l are left, in blocks of D. -/
def ScanAt (T : Nat) (w : World) (s : Nat) (D : List Nat) (l : List UInt8) (e : Int) : Prop :=
  ∃ a n c, s ∉ D ∧ n ≤ c ∧ (∀ q, a = some q → q.block ∈ D) ∧ Blk w s #[.slice a n c, .int .i64 e] T (0, 0) ∧ Bs w a n l
theorem ScanAt.ext {T : Nat} {w w' : World} {s : Nat} {D : List Nat} {l : List UInt8} {e : Int} {M : List Nat} (h : ScanAt T w s D l e) (he : Ext M w w') (hs : s ∉ M) (hD : ∀ d ∈ D, d ∉ M) : ScanAt T w' s D l e := by
  obtain ⟨a, n, c, h1, h2, h3, h4, h5⟩ := h
  exact ⟨a, n, c, h1, h2, h3, h4.ext he hs, h5.ext he (fun q hq => hD _ (h3 q hq))⟩
theorem ScanAt.ext0 {T : Nat} {w w' : World} {s : Nat} {D : List Nat} {l : List UInt8} {e : Int} (h : ScanAt T w s D l e) (he : Ext [] w w') : ScanAt T w' s D l e := h.ext he (by simp) (by simp)
theorem ScanAt.lt {T : Nat} {w : World} {s : Nat} {D : List Nat} {l : List UInt8} {e : Int} (h : ScanAt T w s D l e) : s < w.heap.size := by
  obtain ⟨a, n, c, h1, h2, h3, h4, h5⟩ := h; exact h4.lt
/-- A value that is a new scan; a value that is a new block of a string and an error. -/
def IsScan (T E s0 : Nat) (l : List UInt8) (v : Value) (w : World) : Prop := ∃ s D, v = .pointer (some ⟨s, 0, none⟩) ∧ ScanAt T w s D l 0 ∧ s0 ≤ s ∧ (∀ d ∈ D, s0 ≤ d) ∧ (∃ cs, Blk w s cs T (0, 0)) ∧ ∀ d ∈ D, ∃ cs, Blk w d cs E (0, 0)
theorem IsScan.keep (T E s0 : Nat) (l : List UInt8) : ∀ v w w', Ext [] w w' → IsScan T E s0 l v w → IsScan T E s0 l v w' :=
  fun _ _ _ he ⟨s, D, h1, h2, h3, h4, ⟨cs, h5⟩, h6⟩ => ⟨s, D, h1, h2.ext0 he, h3, h4, ⟨cs, h5.ext0 he⟩, fun d hd => (h6 d hd).imp fun _ h => h.ext0 he⟩
def IsBox (T s0 : Nat) (cs : Array Value) (v : Value) (w : World) : Prop := ∃ x, v = .pointer (some ⟨x, 0, none⟩) ∧ Blk w x cs T (0, 0) ∧ s0 ≤ x
theorem IsBox.keep (T s0 : Nat) (cs : Array Value) : ∀ v w w', Ext [] w w' → IsBox T s0 cs v w → IsBox T s0 cs v w' := fun _ _ _ he ⟨x, h1, h2, h3⟩ => ⟨x, h1, h2.ext0 he, h3⟩
theorem New.is {w₀ w w' : World} {cs : Array Value} {T : TypeId} {v : Value} (h : New w cs T v w') (hJ : Ext [] w₀ w) : IsBox T w₀.heap.size cs v w' ∧ Ext [] w w' := by
  obtain ⟨b, rfl, hb, hs, e, B⟩ := h
  exact ⟨⟨b, rfl, B, by rw [← hb]; exact hJ.size⟩, e⟩
/-- Bytes in blocks of D. -/
def BsIn (D : List Nat) (l : List UInt8) (v : Value) (w : World) : Prop := ∃ a c, v = .slice a l.length c ∧ l.length ≤ c ∧ Bs w a l.length l ∧ ∀ q, a = some q → q.block ∈ D
theorem BsIn.keep {D : List Nat} {l : List UInt8} {M : List Nat} (hM : ∀ d ∈ D, d ∉ M) : ∀ v w w', Ext M w w' → BsIn D l v w → BsIn D l v w' :=
  fun _ _ _ he ⟨a, c, h1, h2, h3, h4⟩ => ⟨a, c, h1, h2, h3.ext he (fun q hq => hM _ (h4 q hq)), h4⟩
theorem PenAt.apart {T E F : Nat} {w : World} {p : Nat} {l : List UInt8} {S : List Nat} {size : Nat} {a : Option Addr} {n c : Nat} {xs : List Value} {M : List Nat} (h : PenAt T E w p l S) (ho : Own w F size a n c xs M) (h1 : T ≠ F) (h2 : E ≠ F) : ∀ g ∈ S, g ∉ M := by
  obtain ⟨_, _, _, M', rfl, _, _, hB, hO⟩ := h
  intro g hg hm
  obtain ⟨_, hb⟩ := ho.typ g hm
  rcases List.mem_cons.1 hg with rfl | hg
  · exact hB.ne hb h1 rfl
  · obtain ⟨_, hb'⟩ := hO.typ g hg
    exact hb'.ne hb h2 rfl
theorem Blk.cellsAll {w : World} {b : Nat} {cs : Array Value} {T : TypeId} {fz : Nat × Nat} (h : Blk w b cs T fz) : Cells w (some ⟨b, 0, none⟩) cs.toList := Cells.of_blk h 0 _ (fun j v hj => by simpa using hj)
end Brv
