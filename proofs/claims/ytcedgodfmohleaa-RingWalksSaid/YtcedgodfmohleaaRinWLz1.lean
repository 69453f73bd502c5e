/-
  Texts of this claim, put together.
-/
import Derived.ChangeKeysEq
import Derived.Lib.Overlaps
import Derived.Stop.BytesEq
import Derived.Laws.Cover3
import Derived.MapKept
import Derived.Test.YtcedgodfmohleaaRinWLz0
/-
  Assertions that own blocks, apart from one another, and what they say of a world.
-/
set_option linter.unusedVariables false
set_option linter.unusedSimpArgs false
namespace Brv
open Go

def Apart (X Y : List Nat) : Prop := ∀ b ∈ X, b ∉ Y
theorem Apart.symm {X Y : List Nat} (h : Apart X Y) : Apart Y X := fun b hb hx => h b hx hb
theorem Apart.nilL (Y : List Nat) : Apart [] Y := fun _ h => by cases h
theorem Apart.nilR (X : List Nat) : Apart X [] := fun _ _ h => by cases h
theorem Apart.mono {X Y X' Y' : List Nat} (h : Apart X Y) (hx : X' ⊆ X) (hy : Y' ⊆ Y) : Apart X' Y' := fun b hb hb' => h b (hx hb) (hy hb')
theorem Apart.appL {X Y Z : List Nat} (h : Apart X Z) (k : Apart Y Z) : Apart (X ++ Y) Z := fun b hb => (List.mem_append.1 hb).elim (h b) (k b)
theorem Apart.appR {X Y Z : List Nat} (h : Apart X Y) (k : Apart X Z) : Apart X (Y ++ Z) := (h.symm.appL k.symm).symm

/-- An assertion: what it says, of the blocks that it owns and of those that it shares. -/
structure Asn where
  P : List Nat → List Nat → World → Prop
  ext : ∀ F S M w w', P F S w → Ext M w w' → Apart F M → Apart S M → P F S w'
/-- An assertion that owns nothing. -/
class Pers (A : Asn) : Prop where
  h : ∀ F S w, A.P F S w → A.P [] S w

def Sep : List Asn → List Nat → List Nat → World → Prop
  | [], _, _, _ => True
  | A :: H, F, S, w => ∃ F1 S1 F2 S2, (F1 ⊆ F ∧ F2 ⊆ F ∧ S1 ⊆ S ∧ S2 ⊆ S) ∧ (Apart F1 F2 ∧ Apart F1 S2 ∧ Apart S1 F2) ∧ A.P F1 S1 w ∧ Sep H F2 S2 w

theorem subL {X Y Z : List Nat} (h : X ⊆ Z) (k : Y ⊆ Z) : X ++ Y ⊆ Z := fun b hb => (List.mem_append.1 hb).elim (fun x => h x) (fun x => k x)
theorem inL (X Y : List Nat) : X ⊆ X ++ Y := fun _ h => List.mem_append_left _ h
theorem inR (X Y : List Nat) : Y ⊆ X ++ Y := fun _ h => List.mem_append_right _ h
theorem subT {X Y Z : List Nat} (h : X ⊆ Y) (k : Y ⊆ Z) : X ⊆ Z := fun _ hb => k (h hb)
theorem subR (X : List Nat) : X ⊆ X := fun _ h => h

theorem Sep.mono {H : List Asn} {F S F' S' : List Nat} {w : World} (h : Sep H F S w) (hf : F ⊆ F') (hs : S ⊆ S') : Sep H F' S' w := by
  cases H with
  | nil => trivial
  | cons A H =>
    obtain ⟨F1, S1, F2, S2, ⟨a, b, c, d⟩, hd, hA, hH⟩ := h
    exact ⟨F1, S1, F2, S2, ⟨subT a hf, subT b hf, subT c hs, subT d hs⟩, hd, hA, hH⟩
theorem Sep.ext : ∀ {H : List Asn} {F S M : List Nat} {w w' : World}, Sep H F S w → Ext M w w' → Apart F M → Apart S M → Sep H F S w'
  | [], _, _, _, _, _, _, _, _, _ => trivial
  | A :: H, F, S, M, w, w', ⟨F1, S1, F2, S2, ⟨a, b, c, d⟩, hd, hA, hH⟩, he, hF, hS =>
    ⟨F1, S1, F2, S2, ⟨a, b, c, d⟩, hd, A.ext _ _ _ _ _ hA he (hF.mono a (subR _)) (hS.mono c (subR _)), Sep.ext hH he (hF.mono b (subR _)) (hS.mono d (subR _))⟩
theorem Sep.swap {A B : Asn} {H : List Asn} {F S : List Nat} {w : World} (h : Sep (A :: B :: H) F S w) : Sep (B :: A :: H) F S w := by
  obtain ⟨F1, S1, F2, S2, ⟨a, b, c, d⟩, ⟨p, q, r⟩, hA, F3, S3, F4, S4, ⟨a', b', c', d'⟩, ⟨p', q', r'⟩, hB, hH⟩ := h
  refine ⟨F3, S3, F1 ++ F4, S1 ++ S4, ⟨subT a' b, subL a (subT b' b), subT c' d, subL c (subT d' d)⟩, ⟨?_, ?_, ?_⟩, hB, F1, S1, F4, S4, ⟨inL _ _, inR _ _, inL _ _, inR _ _⟩, ⟨?_, ?_, ?_⟩, hA, hH⟩
  · exact Apart.appR (p.mono (subR _) a').symm p'
  · exact Apart.appR (r.mono (subR _) a').symm q'
  · exact Apart.appR (q.mono (subR _) c').symm r'
  · exact p.mono (subR _) b'
  · exact q.mono (subR _) d'
  · exact r.mono (subR _) b'
theorem Sep.dup {A : Asn} [t : Pers A] {H : List Asn} {F S : List Nat} {w : World} (h : Sep (A :: H) F S w) : Sep (A :: A :: H) F S w := by
  obtain ⟨F1, S1, F2, S2, ⟨a, b, c, d⟩, ⟨p, q, r⟩, hA, hH⟩ := h
  have hA' := t.h _ _ _ hA
  exact ⟨[], S1, F2, S1 ++ S2, ⟨by simp, b, c, subL c d⟩, ⟨Apart.nilL _, Apart.nilL _, r⟩, hA', [], S1, F2, S2, ⟨by simp, subR _, inL _ _, inR _ _⟩, ⟨Apart.nilL _, Apart.nilL _, r⟩, hA', hH⟩

/-- An assertion out of a list, and what is left. One that owns nothing stays. -/
inductive Sel : List Asn → Asn → List Asn → Prop
  | keep {A : Asn} {H : List Asn} [Pers A] : Sel (A :: H) A (A :: H)
  | here {A : Asn} {H : List Asn} : Sel (A :: H) A H
  | there {A B : Asn} {H H' : List Asn} : Sel H A H' → Sel (B :: H) A (B :: H')
inductive Sels : List Asn → List Asn → List Asn → Prop
  | nil {H : List Asn} : Sels H [] H
  | cons {A : Asn} {H H' H0 H1 : List Asn} : Sel H A H' → Sels H' H0 H1 → Sels H (A :: H0) H1
theorem Sel.sep {H : List Asn} {A : Asn} {H' : List Asn} (h : Sel H A H') : ∀ {F S : List Nat} {w : World}, Sep H F S w → Sep (A :: H') F S w := by
  induction h with
  | keep => exact fun h => h.dup
  | here => exact fun h => h
  | there _ ih =>
    rintro F S w ⟨F1, S1, F2, S2, hs, hd, hB, hH⟩
    exact Sep.swap ⟨F1, S1, F2, S2, hs, hd, hB, ih hH⟩
/-- Two lists, apart. -/
def Sep2 (H0 H1 : List Asn) (F S : List Nat) (w : World) : Prop := ∃ F1 S1 F2 S2, (F1 ⊆ F ∧ F2 ⊆ F ∧ S1 ⊆ S ∧ S2 ⊆ S) ∧ (Apart F1 F2 ∧ Apart F1 S2 ∧ Apart S1 F2) ∧ Sep H0 F1 S1 w ∧ Sep H1 F2 S2 w
theorem Sels.split {H H0 H1 : List Asn} (h : Sels H H0 H1) : ∀ {F S : List Nat} {w : World}, Sep H F S w → Sep2 H0 H1 F S w := by
  induction h with
  | nil => exact fun {F S w} h => ⟨[], [], F, S, ⟨by simp, subR _, by simp, subR _⟩, ⟨Apart.nilL _, Apart.nilL _, Apart.nilL _⟩, trivial, h⟩
  | cons h _ ih =>
    intro F S w hs
    obtain ⟨F1, S1, F2, S2, ⟨a, b, c, d⟩, ⟨p, q, r⟩, hA, hH⟩ := h.sep hs
    obtain ⟨F3, S3, F4, S4, ⟨a', b', c', d'⟩, ⟨p', q', r'⟩, h0, h1⟩ := ih hH
    refine ⟨F1 ++ F3, S1 ++ S3, F4, S4, ⟨subL a (subT a' b), subT b' b, subL c (subT c' d), subT d' d⟩, ⟨?_, ?_, ?_⟩, ⟨F1, S1, F3, S3, ⟨inL _ _, inR _ _, inL _ _, inR _ _⟩, ⟨p.mono (subR _) a', q.mono (subR _) c', r.mono (subR _) a'⟩, hA, h0⟩, h1⟩
    · exact Apart.appL (p.mono (subR _) b') p'
    · exact Apart.appL (q.mono (subR _) d') q'
    · exact Apart.appL (r.mono (subR _) b') r'
theorem Sep.join : ∀ {H0 H1 : List Asn} {F S : List Nat} {w : World}, Sep2 H0 H1 F S w → Sep (H0 ++ H1) F S w
  | [], H1, F, S, w, ⟨F1, S1, F2, S2, ⟨_, b, _, d⟩, _, _, h1⟩ => h1.mono b d
  | A :: H0, H1, F, S, w, ⟨F1, S1, F2, S2, ⟨a, b, c, d⟩, ⟨p, q, r⟩, ⟨F3, S3, F4, S4, ⟨a', b', c', d'⟩, ⟨p', q', r'⟩, hA, h0⟩, h1⟩ =>
    ⟨F3, S3, F4 ++ F2, S4 ++ S2, ⟨subT a' a, subL (subT b' a) b, subT c' c, subL (subT d' c) d⟩,
      ⟨Apart.appR p' (p.mono a' (subR _)), Apart.appR q' (q.mono a' (subR _)), Apart.appR r' (r.mono c' (subR _))⟩, hA,
      Sep.join ⟨F4, S4, F2, S2, ⟨inL _ _, inR _ _, inL _ _, inR _ _⟩, ⟨p.mono b' (subR _), q.mono b' (subR _), r.mono d' (subR _)⟩, h0, h1⟩⟩
theorem Sels.all : ∀ (H : List Asn), Sels H H []
  | [] => .nil
  | _ :: H => .cons .here (Sels.all H)

/-- A world, of which a list of assertions holds. -/
structure St (H : List Asn) (F S : List Nat) (w : World) : Prop where
  sep : Sep H F S w
  ltF : ∀ b ∈ F, b < w.heap.size
  ltS : ∀ b ∈ S, b < w.heap.size
/-- Where a piece of code began. -/
structure Org where
  w : World
  F : List Nat
  S : List Nat
structure From (o : Org) (w : World) (F S : List Nat) : Prop where
  ext : Ext o.F o.w w
  fF : ∀ b ∈ F, b ∈ o.F ∨ o.w.heap.size ≤ b
  fS : ∀ b ∈ S, b ∈ o.S ∨ b ∈ o.F ∨ o.w.heap.size ≤ b
theorem From.refl (w : World) (F S : List Nat) : From ⟨w, F, S⟩ w F S := ⟨Ext.refl _ _, fun _ h => .inl h, fun _ h => .inl h⟩
theorem From.trans {o : Org} {w w' : World} {F S F' S' : List Nat} (h : From o w F S) (k : From ⟨w, F, S⟩ w' F' S') : From o w' F' S' :=
  ⟨h.ext.transN k.ext h.fF, fun b hb => (k.fF b hb).elim (h.fF b) (fun q => .inr (Nat.le_trans h.ext.size q)),
   fun b hb => (k.fS b hb).elim (h.fS b) (fun q => q.elim (fun q => .inr (h.fF b q)) (fun q => .inr (.inr (Nat.le_trans h.ext.size q))))⟩
theorem From.sub {o : Org} {w : World} {F S F' S' : List Nat} (h : From o w F S) (hf : F' ⊆ F) (hs : S' ⊆ S) : From o w F' S' := ⟨h.ext, fun b hb => h.fF b (hf hb), fun b hb => h.fS b (hs hb)⟩
def PostS (o : Org) (Φ : Value → List Asn → Prop) (v : Value) (w' : World) : Prop := ∃ H' F' S', Φ v H' ∧ St H' F' S' w' ∧ From o w' F' S'
theorem PostS.mono {o : Org} {Φ Φ' : Value → List Asn → Prop} {v : Value} {w' : World} (h : PostS o Φ v w') (hm : ∀ v H, Φ v H → Φ' v H) : PostS o Φ' v w' := let ⟨H, F, S, a, b, c⟩ := h; ⟨H, F, S, hm _ _ a, b, c⟩

theorem St.take {H H0 H1 : List Asn} {F S : List Nat} {w : World} (s : St H F S w) (h : Sels H H0 H1) :
    ∃ F1 S1, St H0 F1 S1 w ∧ ∀ H' w' F' S', St H' F' S' w' → From ⟨w, F1, S1⟩ w' F' S' → ∃ F'' S'', St (H' ++ H1) F'' S'' w' ∧ From ⟨w, F, S⟩ w' F'' S'' := by
  obtain ⟨F1, S1, F2, S2, ⟨a, b, c, d⟩, ⟨p, q, r⟩, h0, h1⟩ := h.split s.sep
  refine ⟨F1, S1, ⟨h0, fun x hx => s.ltF x (a hx), fun x hx => s.ltS x (c hx)⟩, ?_⟩
  intro H' w' F' S' s' f
  have hsz := f.ext.size
  have h1' := h1.ext f.ext p.symm q.symm
  refine ⟨F' ++ F2, S' ++ S2, ⟨Sep.join ⟨F', S', F2, S2, ⟨inL _ _, inR _ _, inL _ _, inR _ _⟩, ⟨?_, ?_, ?_⟩, s'.sep, h1'⟩, ?_, ?_⟩, ⟨?_, ?_, ?_⟩⟩
  · intro x hx hx2
    exact (f.fF x hx).elim (fun h => p x h hx2) (fun h => by have := s.ltF x (b hx2); simp only at h; omega)
  · intro x hx hx2
    exact (f.fF x hx).elim (fun h => q x h hx2) (fun h => by have := s.ltS x (d hx2); simp only at h; omega)
  · intro x hx hx2
    exact (f.fS x hx).elim (fun h => r x h hx2) (fun h => h.elim (fun h => p x h hx2) (fun h => by have := s.ltF x (b hx2); simp only at h; omega))
  · intro x hx
    exact (List.mem_append.1 hx).elim (s'.ltF x) (fun h => Nat.lt_of_lt_of_le (s.ltF x (b h)) hsz)
  · intro x hx
    exact (List.mem_append.1 hx).elim (s'.ltS x) (fun h => Nat.lt_of_lt_of_le (s.ltS x (d h)) hsz)
  · exact f.ext.mono (fun x hx => .inl (a hx))
  · intro x hx
    exact (List.mem_append.1 hx).elim (fun h => (f.fF x h).elim (fun h => .inl (a h)) .inr) (fun h => .inl (b h))
  · intro x hx
    exact (List.mem_append.1 hx).elim (fun h => (f.fS x h).elim (fun h => .inl (c h)) (fun h => h.elim (fun h => .inr (.inl (a h))) (fun h => .inr (.inr h)))) (fun h => .inl (d h))
theorem St.sels {H H0 H1 : List Asn} {F S : List Nat} {w : World} (s : St H F S w) (h : Sels H H0 H1) : ∃ F1 S1, (F1 ⊆ F ∧ S1 ⊆ S) ∧ St H0 F1 S1 w := by
  obtain ⟨F1, S1, F2, S2, ⟨a, b, c, d⟩, _, h0, _⟩ := h.split s.sep
  exact ⟨F1, S1, ⟨a, c⟩, h0, fun x hx => s.ltF x (a hx), fun x hx => s.ltS x (c hx)⟩
theorem St.sel {H H' : List Asn} {A : Asn} {F S : List Nat} {w : World} (s : St H F S w) (h : Sel H A H') : ∃ F1 S1, (F1 ⊆ F ∧ S1 ⊆ S) ∧ A.P F1 S1 w := by
  obtain ⟨F1, S1, F2, S2, ⟨a, b, c, d⟩, _, hA, _⟩ := h.sep s.sep
  exact ⟨F1, S1, ⟨a, c⟩, hA⟩
/-- A list that follows. -/
def Imp (H H' : List Asn) : Prop := ∀ F S w, St H F S w → ∃ F' S', St H' F' S' w ∧ From ⟨w, F, S⟩ w F' S'
theorem Imp.refl (H : List Asn) : Imp H H := fun F S w h => ⟨F, S, h, From.refl _ _ _⟩
theorem Imp.trans {H H' H'' : List Asn} (h : Imp H H') (k : Imp H' H'') : Imp H H'' := fun F S w s =>
  let ⟨F', S', s', f'⟩ := h F S w s
  let ⟨F'', S'', s'', f''⟩ := k F' S' w s'
  ⟨F'', S'', s'', f'.trans f''⟩
theorem Imp.sels {H H0 H1 : List Asn} (h : Sels H H0 H1) : Imp H H0 := fun F S w s =>
  let ⟨F1, S1, hs, s1⟩ := s.sels h
  ⟨F1, S1, s1, (From.refl w F S).sub hs.1 hs.2⟩
theorem Imp.at {H H' : List Asn} {F S : List Nat} {w : World} {o : Org} (h : Imp H H') (s : St H F S w) (f : From o w F S) : ∃ F' S', St H' F' S' w ∧ From o w F' S' :=
  let ⟨F', S', s', f'⟩ := h F S w s
  ⟨F', S', s', f.trans f'⟩
/-- What holds of any world that keeps the shared blocks. -/
def sh (p : World → Prop) : Asn where
  P := fun _ S w => ∀ M w', Ext M w w' → Apart S M → p w'
  ext := fun F S M w w' h he _ hS M' w'' he' hS' => h (M ++ M') w'' ((he.mono (fun x hx => .inl (List.mem_append_left _ hx))).transN he' (fun x hx => .inl (List.mem_append_right _ hx))) (Apart.appR hS hS')
instance instPersSh (p : World → Prop) : Pers (sh p) := ⟨fun _ _ _ h => h⟩
theorem St.sh {H H' : List Asn} {p : World → Prop} {F S : List Nat} {w : World} (s : St H F S w) (h : Sel H (sh p) H') : p w := by
  obtain ⟨F1, S1, _, hA⟩ := s.sel h
  exact hA [] w (Ext.refl _ _) (Apart.nilR _)
/-- What was true of the old blocks. -/
theorem sh_old {p : World → Prop} {w : World} (h : ∀ w', Ext [] w w' → p w') (F : List Nat) : (sh p).P F (List.range w.heap.size) w := fun M w' he hM =>
  h w' (he.mono (fun x hx => by
    rcases Nat.lt_or_ge x w.heap.size with hlt | hge
    · exact absurd hx (hM x (List.mem_range.2 hlt))
    · exact .inr hge))
/-- A block of its own. -/
def blk (b : Nat) (cs : List Value) (T : TypeId) : Asn where
  P := fun F _ w => F = [b] ∧ Blk w b cs.toArray T (0, 0)
  ext := fun F S M w w' h he hF _ => ⟨h.1, h.2.ext he (hF b (by rw [h.1]; simp))⟩
theorem St.blk {H H' : List Asn} {b : Nat} {cs : List Value} {T : TypeId} {F S : List Nat} {w : World} (s : St H F S w) (h : Sel H (blk b cs T) H') : Blk w b cs.toArray T (0, 0) := (s.sel h).elim fun _ h => h.elim fun _ h => h.2.2
/-- A row that a slice owns. -/
def own (E size : Nat) (a : Option Addr) (n c : Nat) (xs : List Value) : Asn where
  P := fun F _ w => Own w E size a n c xs F
  ext := fun F S M w w' h he hF _ => h.ext he hF
theorem St.own {H H' : List Asn} {E size : Nat} {a : Option Addr} {n c : Nat} {xs : List Value} {F S : List Nat} {w : World} (s : St H F S w) (h : Sel H (own E size a n c xs) H') : ∃ M, Own w E size a n c xs M := (s.sel h).elim fun F1 h => h.elim fun _ h => ⟨F1, h.2⟩
theorem St.ownC {H H' : List Asn} {E size : Nat} {a : Option Addr} {n c : Nat} {xs : List Value} {F S : List Nat} {w : World} (s : St H F S w) (h : Sel H (Brv.own E size a n c xs) H') : Cells w a xs := (s.own h).elim fun _ h => h.cells
/-- One assertion is told otherwise: (it may give up blocks to be shared). -/
theorem Imp.turn {H H' : List Asn} {A B : Asn} (h : Sel H A H') (hp : ∀ F S w, A.P F S w → ∃ F' S', B.P F' S' w ∧ F' ⊆ F ∧ S' ⊆ F ++ S ∧ Apart F' S' ∨ B.P F S w) : Imp H (B :: H') := fun F S w s => by
  obtain ⟨F1, S1, F2, S2, ⟨a, b, c, d⟩, ⟨p, q, r⟩, hA, hH⟩ := h.sep s.sep
  rcases hp _ _ _ hA with ⟨F', S', ⟨hB, hF, hS, _⟩ | hB⟩
  · refine ⟨F' ++ F2, S' ++ S2, ⟨⟨F', S', F2, S2, ⟨inL _ _, inR _ _, inL _ _, inR _ _⟩, ⟨p.mono hF (subR _), q.mono hF (subR _), fun x hx => (List.mem_append.1 (hS hx)).elim (p x) (r x)⟩, hB, hH⟩, ?_, ?_⟩, ⟨Ext.refl _ _, ?_, ?_⟩⟩
    · intro x hx
      exact (List.mem_append.1 hx).elim (fun h => s.ltF x (a (hF h))) (fun h => s.ltF x (b h))
    · intro x hx
      exact (List.mem_append.1 hx).elim (fun h => (List.mem_append.1 (hS h)).elim (fun h => s.ltF x (a h)) (fun h => s.ltS x (c h))) (fun h => s.ltS x (d h))
    · intro x hx
      exact .inl ((List.mem_append.1 hx).elim (fun h => a (hF h)) (fun h => b h))
    · intro x hx
      exact (List.mem_append.1 hx).elim (fun h => (List.mem_append.1 (hS h)).elim (fun h => .inr (.inl (a h))) (fun h => .inl (c h))) (fun h => .inl (d h))
  · exact ⟨F, S, ⟨⟨F1, S1, F2, S2, ⟨a, b, c, d⟩, ⟨p, q, r⟩, hB, hH⟩, s.ltF, s.ltS⟩, From.refl _ _ _⟩
/-- Frozen: it is only read from here on. -/
theorem Imp.freeze {H H' : List Asn} {A : Asn} {p : World → Prop} (h : Sel H A H') (hp : ∀ F S w, A.P F S w → p w) : Imp H (Brv.sh p :: H') :=
  Imp.turn h fun F S w hA => ⟨[], F ++ S, .inl ⟨fun M w' he hS => hp F S w' (A.ext _ _ _ _ _ hA he (hS.mono (inL _ _) (subR _)) (hS.mono (inR _ _) (subR _))), by simp, subR _, Apart.nilL _⟩⟩
theorem Imp.weak {H H' : List Asn} {p q : World → Prop} (h : Sel H (Brv.sh p) H') (hp : ∀ w, p w → q w) : Imp H (Brv.sh q :: H') :=
  Imp.turn h fun F S w hA => ⟨F, S, .inr (fun M w' he hS => hp _ (hA M w' he hS))⟩
theorem Imp.same {H H' : List Asn} {A B : Asn} (h : Sel H A H') (hp : ∀ F S w, A.P F S w → B.P F S w) : Imp H (B :: H') :=
  Imp.turn h fun F S w hA => ⟨F, S, .inr (hp F S w hA)⟩

/-! ## What an operation does -/
section
variable (P : Program) (n : Fm)
/-- The operation runs, or calls a function that returns, and Φ holds of what it gives. -/
def Acts (ρ : Env) (w : World) (o : Oper) (Φ : Value → World → Prop) : Prop :=
  (∃ v w', Runs P n ρ w o v w' ∧ Φ v w') ∨ (o.dst = none ∧ ∃ w', (∀ a, Fr n ρ a → (execOp a.eval o).run P w = .ok .skip w') ∧ Φ undef w') ∨
  (∃ f vs, (∀ a, Fr n ρ a → (execOp a.eval o).run P w = .ok (.enter f vs) w) ∧ Calls P f vs w (Ret Φ)) ∨
  (∃ l fn tmps assign body, (∀ a, Fr n ρ a → (execOp a.eval o).run P w = .ok (.round l fn tmps assign body) w) ∧ RoundIn Fence.wide 0 P l fn tmps assign body w (Ret Φ))
/-- One step of code, from one list of assertions to another one. -/
def CS (o : Org) (ρ : Env) (H : List Asn) (op : Oper) (Ψ : Value → List Asn → Prop) : Prop := ∀ w F S, St H F S w → From o w F S → Acts P n ρ w op (PostS o Ψ)
end
section
variable {P : Program} {n : Fm}
theorem Ret.mono {Φ Φ' : Value → World → Prop} (hm : ∀ v w', Φ v w' → Φ' v w') (e : Ending) (w : World) (h : Ret Φ e w) : Ret Φ' e w := by
  cases e <;> first | exact hm _ _ h | exact h
theorem Acts.mono {ρ : Env} {w : World} {o : Oper} {Φ Φ' : Value → World → Prop} (h : Acts P n ρ w o Φ) (hm : ∀ v w', Φ v w' → Φ' v w') : Acts P n ρ w o Φ' := by
  rcases h with ⟨v, w', h, k⟩ | ⟨hd, w', h, k⟩ | ⟨f, vs, h, k⟩ | ⟨l, fn, tmps, asv, body, h, k⟩
  · exact .inl ⟨v, w', h, hm _ _ k⟩
  · exact .inr (.inl ⟨hd, w', h, hm _ _ k⟩)
  · exact .inr (.inr (.inl ⟨f, vs, h, Calls.mono k (Ret.mono hm)⟩))
  · exact .inr (.inr (.inr ⟨l, fn, tmps, asv, body, h, RoundIn.mono k (Ret.mono hm)⟩))
theorem Acts.wp {ρ : Env} {w : World} {o : Oper} {Φ : Value → World → Prop} {Q : Exit → Act → World → Prop} (h : Acts P n ρ w o Φ) (hdf : isDefer o.op = false) {a a₀ : Act} (ha : Fr n ρ a₀) (he : execOp a.eval o = execOp a₀.eval o) :
    o.wpIn (fen n.ro) 0 P a w (fun a' w' => ∃ v, a' = a.put o.dst v ∧ Φ v w') Q := by
  have hcg : ∀ {r}, (execOp a₀.eval o).run P w = r → (execOp a.eval o).run P w = r := fun h => (congrArg (fun s => s.run P w) he).trans h
  rcases h with ⟨v, w', h, k⟩ | ⟨hd, w', h, k⟩ | ⟨f, vs, h, k⟩ | ⟨l, fn, tmps, asv, body, h, k⟩
  · exact wpIn_run hdf (hcg (h a₀ ha)) ⟨v, rfl, k⟩
  · exact wpIn_run hdf (hcg (h a₀ ha)) ⟨undef, hd ▸ rfl, k⟩
  · refine wpIn_run hdf (hcg (h a₀ ha)) ⟨fun h => (by rw [fen_depth] at h; cases h), fen_calls ?_⟩
    refine Calls.mono k ?_
    intro e w' he
    cases e with
    | returned v => exact ⟨v, rfl, he⟩
    | panicked c => exact he.elim
    | outgrown => exact he.elim
  · refine wpIn_run hdf (hcg (h a₀ ha)) ⟨fun h => (by rw [fen_depth] at h; cases h), ?_⟩
    have hr2 : RoundIn (fen n.ro) 0 P l fn tmps asv body w (Ret Φ) := by
      cases n.ro
      · exact k
      · exact k
    refine RoundIn.mono hr2 ?_
    intro e w' he
    cases e with
    | returned v => exact ⟨v, rfl, he⟩
    | panicked c => exact he.elim
    | outgrown => exact he.elim
theorem CS.of {o : Org} {ρ : Env} {H H0 H1 : List Asn} {op : Oper} {Φ : Value → List Asn → Prop} (sel : Sels H H0 H1) (h : ∀ w F S F1 S1, St H F S w → St H0 F1 S1 w → Acts P n ρ w op (PostS ⟨w, F1, S1⟩ Φ)) :
    CS P n o ρ H op (fun v H' => ∃ H'', Φ v H'' ∧ H' = H'' ++ H1) := by
  intro w F S s f
  obtain ⟨F1, S1, s1, hj⟩ := s.take sel
  refine (h w F S F1 S1 s s1).mono ?_
  rintro v w' ⟨H', F', S', hΦ, s', f'⟩
  obtain ⟨F'', S'', s'', f''⟩ := hj H' w' F' S' s' f'
  exact ⟨H' ++ H1, F'', S'', ⟨H', hΦ, rfl⟩, s'', f.trans f''⟩
theorem CS.mono {o : Org} {ρ : Env} {H : List Asn} {op : Oper} {Ψ Ψ' : Value → List Asn → Prop} (h : CS P n o ρ H op Ψ) (hm : ∀ v H', Ψ v H' → Ψ' v H') : CS P n o ρ H op Ψ' := fun w F S s f => (h w F S s f).mono fun _ _ k => k.mono hm
theorem CS.imp {o : Org} {ρ : Env} {H K : List Asn} {op : Oper} {Ψ : Value → List Asn → Prop} (i : Imp H K) (h : CS P n o ρ K op Ψ) : CS P n o ρ H op Ψ := fun w F S s f =>
  let ⟨F', S', s', f'⟩ := i.at s f
  h w F' S' s' f'
/-- A function's contract. -/
def SpecS (P : Program) (f : FuncId) (vs : List Value) (H : List Asn) (Φ : Value → List Asn → Prop) : Prop := ∀ w F S, St H F S w → Meets P f vs w (PostS ⟨w, F, S⟩ Φ)
theorem SpecS.mono {f : FuncId} {vs : List Value} {H : List Asn} {Φ Φ' : Value → List Asn → Prop} (h : SpecS P f vs H Φ) (hm : ∀ v H', Φ v H' → Φ' v H') : SpecS P f vs H Φ' := fun w F S s => (h w F S s).mono fun _ _ k => k.mono hm
theorem Acts.callV {ρ : Env} {w : World} {d : Option Nat} {x : Operand} {f : FuncId} {first cap : Array Value} {args : Array Operand} {ats : Array TypeId} {ty : TypeId} {pos : String} {af : Array Edge} {gd : Option (Nat × Bool)} {asv vs : List Value} {Φ : Value → World → Prop}
    (hx : ev ρ x = some (.func (.func f) first cap)) (hargs : evs ρ args.toList = some asv) (hvs : first.toList ++ asv ++ cap.toList = vs) (hc : ∀ (vs : Array Value) w, (callFunc f vs).run P w = .ok (.enter f vs) w) (hf : Meets P f vs w Φ) :
    Acts P n ρ w ⟨d, .call ⟨.value x, args, ats⟩, ty, pos, af, gd⟩ Φ :=
  .inr (.inr (.inl ⟨f, vs.toArray, fun a ha => run_callV (ha.eval hx) (ha.evals hargs) hvs (hc _) w, hf⟩))
/-- A call of the function that an iterator was handed. -/
theorem Acts.ycall {ρ : Env} {w : World} {d : Option Nat} {x : Operand} {y : Value} {args : Array Operand} {ats : Array TypeId} {ty : TypeId} {pos : String} {af : Array Edge} {gd : Option (Nat × Bool)} {vs : List Value} {R : Bool → World → Prop}
    (hx : ev ρ x = some y) (hargs : evs ρ args.toList = some vs) (hY : YCall P y vs w R) : Acts P n ρ w ⟨d, .call ⟨.value x, args, ats⟩, ty, pos, af, gd⟩ (fun v w' => ∃ b, v = .bool b ∧ R b w') := by
  rcases hY with ⟨l, rfl, fn, tmps, assign, body, hrun, hround⟩ | ⟨f, first, cap, rfl, hc, hf⟩
  · refine .inr (.inr (.inr ⟨l, fn, tmps, assign, body, fun a ha => run_callY (ha.eval hx) (ha.evals hargs) w hrun, RoundIn.mono hround ?_⟩))
    rintro e w' ⟨b, rfl, hR⟩
    exact ⟨b, rfl, hR⟩
  · exact Acts.callV hx hargs rfl hc hf
/-- What a call of a consumer does. -/
def YSpec (P : Program) (y : Value) (vs : List Value) (H : List Asn) (Ψ : Bool → List Asn → Prop) : Prop := ∀ w F S, St H F S w → YCall P y vs w (fun b w' => PostS ⟨w, F, S⟩ (fun _ H' => Ψ b H') undef w')
section
variable {o : Org} {ρ : Env} {H H0 H1 : List Asn} {d : Option Nat} {ty : TypeId} {pos : String} {af : Array Edge} {gd : Option (Nat × Bool)}
theorem CS.callV {x : Operand} {f : FuncId} {first cap : Array Value} {args : Array Operand} {ats : Array TypeId} {asv vs : List Value} {Φ : Value → List Asn → Prop}
    (hx : ev ρ x = some (.func (.func f) first cap)) (hargs : evs ρ args.toList = some asv) (hvs : first.toList ++ asv ++ cap.toList = vs) (hc : ∀ (vs : Array Value) w, (callFunc f vs).run P w = .ok (.enter f vs) w)
    (hf : SpecS P f vs H0 Φ) (sel : Sels H H0 H1) : CS P n o ρ H ⟨d, .call ⟨.value x, args, ats⟩, ty, pos, af, gd⟩ (fun v H' => ∃ H'', Φ v H'' ∧ H' = H'' ++ H1) :=
  CS.of sel fun w F S F1 S1 _ s1 => Acts.callV hx hargs hvs hc (hf w F1 S1 s1)
theorem CS.call {f : FuncId} {args : Array Operand} {ats : Array TypeId} {vs : List Value} {Φ : Value → List Asn → Prop}
    (hargs : evs ρ args.toList = some vs) (hc : ∀ (vs : Array Value) w, (callFunc f vs).run P w = .ok (.enter f vs) w)
    (hf : SpecS P f vs H0 Φ) (sel : Sels H H0 H1) : CS P n o ρ H ⟨d, .call ⟨.value (.func f), args, ats⟩, ty, pos, af, gd⟩ (fun v H' => ∃ H'', Φ v H'' ∧ H' = H'' ++ H1) :=
  CS.callV (x := .func f) (first := #[]) (cap := #[]) rfl hargs (by simp) hc hf sel
/-- A call that changes nothing, by facts of the whole. -/
theorem CS.callR {f : FuncId} {args : Array Operand} {ats : Array TypeId} {vs : List Value} {φ : Value → Prop}
    (hargs : evs ρ args.toList = some vs) (hc : ∀ (vs : Array Value) w, (callFunc f vs).run P w = .ok (.enter f vs) w)
    (hf : ∀ w F S, St H F S w → Meets P f vs w (fun v w' => φ v ∧ Ext [] w w')) : CS P n o ρ H ⟨d, .call ⟨.value (.func f), args, ats⟩, ty, pos, af, gd⟩ (fun v H' => φ v ∧ H' = H) :=
  fun w F S s fr => Acts.callV (x := .func f) (first := #[]) (cap := #[]) rfl hargs (by simp) hc ((hf w F S s).mono fun v w' hv =>
    ⟨H, F, S, ⟨hv.1, rfl⟩, ⟨s.sep.ext hv.2 (Apart.nilR _) (Apart.nilR _), fun b hb => Nat.lt_of_lt_of_le (s.ltF b hb) hv.2.size, fun b hb => Nat.lt_of_lt_of_le (s.ltS b hb) hv.2.size⟩, ⟨fr.ext.trans0 hv.2, fr.fF, fr.fS⟩⟩)
theorem CS.yield {x : Operand} {y : Value} {args : Array Operand} {ats : Array TypeId} {vs : List Value} {Ψ : Bool → List Asn → Prop} (hx : ev ρ x = some y) (hargs : evs ρ args.toList = some vs) (hY : YSpec P y vs H0 Ψ) (sel : Sels H H0 H1) :
    CS P n o ρ H ⟨d, .call ⟨.value x, args, ats⟩, ty, pos, af, gd⟩ (fun v H' => ∃ H'', (∃ b, v = .bool b ∧ Ψ b H'') ∧ H' = H'' ++ H1) :=
  CS.of sel fun w F S F1 S1 _ s1 => (Acts.ycall hx hargs (hY w F1 S1 s1)).mono (by rintro v w' ⟨b, rfl, H', F', S', h1, h2, h3⟩; exact ⟨H', F', S', ⟨b, rfl, h1⟩, h2, h3⟩)
/-- New blocks. -/
theorem St.grow {F S : List Nat} {w w' : World} {A : Asn} {F' S' : List Nat} (s : St H F S w) (fr : From o w F S) (he : Ext [] w w') (hF : ∀ b ∈ F', w.heap.size ≤ b ∧ b < w'.heap.size) (hS : ∀ b ∈ S', b < w'.heap.size ∧ (w.heap.size ≤ b ∨ b ∈ S)) (hA : A.P F' S' w') (hFS : Apart S' F) :
    ∃ F'' S'', St (A :: H) F'' S'' w' ∧ From o w' F'' S'' := by
  have hsz := he.size
  refine ⟨F' ++ F, S' ++ S, ⟨⟨F', S', F, S, ⟨inL _ _, inR _ _, inL _ _, inR _ _⟩, ⟨fun x hx hy => ?_, fun x hx hy => ?_, hFS⟩, hA, s.sep.ext he (Apart.nilR _) (Apart.nilR _)⟩, ?_, ?_⟩, ⟨fr.ext.trans0 he, ?_, ?_⟩⟩
  · have := (hF x hx).1; have := s.ltF x hy; omega
  · have := (hF x hx).1; have := s.ltS x hy; omega
  · intro x hx; exact (List.mem_append.1 hx).elim (fun h => (hF x h).2) (fun h => Nat.lt_of_lt_of_le (s.ltF x h) hsz)
  · intro x hx; exact (List.mem_append.1 hx).elim (fun h => (hS x h).1) (fun h => Nat.lt_of_lt_of_le (s.ltS x h) hsz)
  · intro x hx; exact (List.mem_append.1 hx).elim (fun h => .inr (Nat.le_trans fr.ext.size (hF x h).1)) (fr.fF x)
  · intro x hx; exact (List.mem_append.1 hx).elim (fun h => (hS x h).2.elim (fun h => .inr (.inr (Nat.le_trans fr.ext.size h))) (fr.fS x)) (fr.fS x)
theorem CS.new {op : Oper} {cs : List Value} {T : TypeId} {φ : Value → Nat → Prop} (h : ∀ w F S, St H F S w → ∃ v w', Runs P n ρ w op v w' ∧ ∃ b, φ v b ∧ w.heap.size = b ∧ w'.heap.size = b + 1 ∧ Ext [] w w' ∧ Blk w' b cs.toArray T (0, 0)) :
    CS P n o ρ H op (fun v H' => ∃ b, φ v b ∧ H' = blk b cs T :: H) := fun w F S s fr => by
  obtain ⟨v, w', hr, b, hφ, hb, hs, he, hB⟩ := h w F S s
  obtain ⟨F', S', s', f'⟩ := s.grow fr he (A := blk b cs T) (F' := [b]) (S' := []) (fun x hx => by rw [List.mem_singleton.1 hx]; omega) (fun x hx => by cases hx) ⟨rfl, hB⟩ (Apart.nilL _)
  exact .inl ⟨v, w', hr, _, F', S', ⟨b, hφ, rfl⟩, s', f'⟩
theorem CS.alloc {T : TypeId} {z : Value} [t : TyZero P T z] {d : Nat} (cs : List Value) (hz : z.cells.toList = cs) : CS P n o ρ H ⟨some d, .alloc T, ty, pos, af, gd⟩ (fun v H' => ∃ b, v = .pointer (some ⟨b, 0, none⟩) ∧ H' = blk b cs T :: H) :=
  CS.new fun w F S s => by
    obtain ⟨v, w', hr, b, h1, h2, h3, h4, h5⟩ := R.alloc (P := P) (n := n) (ρ := ρ) (w := w) (d := d) (ty := ty) (pos := pos) (af := af) (gd := gd) (T := T) (z := z)
    exact ⟨v, w', hr, b, h1, h2, h3, h4, by rw [← hz]; exact h5⟩
theorem CS.box {T : TypeId} {x : Operand} {v : Value} {d : Nat} (hx : ev ρ x = some v) (cs : List Value) (hz : v.cells.toList = cs) : CS P n o ρ H ⟨some d, .box T x, ty, pos, af, gd⟩ (fun v H' => ∃ b, v = .pointer (some ⟨b, 0, none⟩) ∧ H' = blk b cs T :: H) :=
  CS.new fun w F S s => by
    obtain ⟨v, w', hr, b, h1, h2, h3, h4, h5⟩ := R.box (P := P) (n := n) (w := w) (d := d) (ty := ty) (pos := pos) (af := af) (gd := gd) (T := T) hx
    exact ⟨v, w', hr, b, h1, h2, h3, h4, by rw [← hz]; exact h5⟩
/-- A new block, however it is made. -/
theorem CS.mk {op : Oper} {cs : List Value} {E : TypeId} {len cap : Nat} {A : Array Value} (h : ∀ w, Does P n ρ w op (NewS w A E len cap)) (hA : A.toList = cs) : CS P n o ρ H op (fun v H' => ∃ b, v = .slice (some ⟨b, 0, none⟩) len cap ∧ H' = blk b cs E :: H) :=
  CS.new fun w F S s => by
    obtain ⟨v, w', hr, b, h1, h2, h3, h4, h5⟩ := h w
    exact ⟨v, w', hr, b, h1, h2, h3, h4, by rw [← hA]; exact h5⟩
/-- A cell of a block is written. -/
inductive SetAt : List Value → Nat → Value → List Value → Prop
  | here {v x : Value} {l : List Value} : SetAt (x :: l) 0 v (v :: l)
  | there {v x : Value} {l l' : List Value} {k : Nat} : SetAt l k v l' → SetAt (x :: l) (k + 1) v (x :: l')
theorem SetAt.eq {l l' : List Value} {k : Nat} {v : Value} (h : SetAt l k v l') : k < l.length ∧ l' = l.set k v := by
  induction h with
  | here => exact ⟨by simp, rfl⟩
  | there _ ih => exact ⟨by simpa using ih.1, by rw [ih.2]; rfl⟩
/-- One assertion in the place of another one. -/
inductive Upd : List Asn → Asn → Asn → List Asn → Prop
  | here {A B : Asn} {H : List Asn} : Upd (A :: H) A B (B :: H)
  | there {A B C : Asn} {H H' : List Asn} : Upd H A B H' → Upd (C :: H) A B (C :: H')
theorem Upd.sel {H : List Asn} {A B : Asn} {H' : List Asn} (h : Upd H A B H') : ∃ H1, Sel H A H1 ∧ ∀ F S w, Sep (B :: H1) F S w → Sep H' F S w := by
  induction h with
  | here => exact ⟨_, .here, fun _ _ _ h => h⟩
  | there _ ih =>
    obtain ⟨H1, h1, h2⟩ := ih
    refine ⟨_, .there h1, fun F S w h => ?_⟩
    obtain ⟨F1, S1, F2, S2, a, b, hC, hH⟩ := h.swap
    exact ⟨F1, S1, F2, S2, a, b, hC, h2 _ _ _ hH⟩
theorem CS.upd {op : Oper} {A : Asn} {φ : Value → Asn → Prop} {H1 : List Asn} (sel : Sel H A H1) (h : ∀ w F S F1 S1, St H F S w → A.P F1 S1 w → (∀ b ∈ F1, b < w.heap.size) → Acts P n ρ w op (fun v w' => ∃ A' F' S', φ v A' ∧ A'.P F' S' w' ∧ (∀ b ∈ F', b < w'.heap.size) ∧ (∀ b ∈ S', b < w'.heap.size) ∧ From ⟨w, F1, S1⟩ w' F' S')) :
    CS P n o ρ H op (fun v H' => ∃ A', φ v A' ∧ H' = A' :: H1) := by
  refine CS.mono (CS.of (Sels.cons sel .nil) (Φ := fun v H' => ∃ A', φ v A' ∧ H' = [A']) fun w F S F1 S1 s s1 => ?_) ?_
  · obtain ⟨Fa, Sa, Fb, Sb, ⟨a, b, c, d⟩, _, hA, _⟩ := s1.sep
    refine (h w F S Fa Sa s hA (fun x hx => s1.ltF x (a hx))).mono ?_
    rintro v w' ⟨A', F', S', h1, h2, h3, h4, f⟩
    refine ⟨[A'], F', S', ⟨A', h1, rfl⟩, ⟨⟨F', S', [], [], ⟨subR _, by simp, subR _, by simp⟩, ⟨Apart.nilR _, Apart.nilR _, Apart.nilR _⟩, h2, trivial⟩, h3, h4⟩, ⟨f.ext.mono (fun x hx => .inl (a hx)), fun x hx => (f.fF x hx).imp (fun h => a h) id, fun x hx => (f.fS x hx).imp (fun h => c h) (fun h => h.imp (fun h => a h) id)⟩⟩
  · rintro v H' ⟨_, ⟨A', h1, rfl⟩, rfl⟩
    exact ⟨A', h1, rfl⟩
theorem CS.st {T : TypeId} [t : TyOne P T] {x y : Operand} {b k : Nat} {cs cs' : List Value} {U : TypeId} {v : Value} {H1 : List Asn} (hx : ev ρ x = some (.pointer (some ⟨b, k, none⟩))) (hy : ev ρ y = some v) (sel : Sel H (blk b cs U) H1) (hs : SetAt cs k v cs') (h1 : v.oneCell' = true) :
    CS P n o ρ H ⟨none, .store T x y, ty, pos, af, gd⟩ (fun _ H' => H' = blk b cs' U :: H1) := by
  refine CS.mono (CS.upd sel (φ := fun _ A' => A' = blk b cs' U) fun w F S F1 S1 s hA hlt => ?_) (by rintro v H' ⟨_, rfl, rfl⟩; rfl)
  obtain ⟨rfl, hB⟩ := hA
  obtain ⟨w', hr, he, hsz, hB'⟩ := R.st (P := P) (n := n) (T := T) (ty := ty) (pos := pos) (af := af) (gd := gd) hx hy hB (by simpa using hs.eq.1) h1
  refine .inr (.inl ⟨rfl, w', hr, _, [b], [], rfl, ⟨rfl, by rw [hs.eq.2]; simpa using hB'⟩, fun x hx => by have := hlt x hx; omega, by simp, ⟨he, fun x hx => .inl hx, by simp⟩⟩)
end
end
end Brv
/-
  Walks over assertions: the goals carry what is known of the world.
-/
set_option linter.unusedVariables false
set_option linter.unusedSimpArgs false
namespace Brv
open Go
section
variable (P : Program) (B : Exit → Act → World → Prop) (n : Fm) (o : Org)
def SG (ks : List K) (ρ : Env) (H : List Asn) (c : Code) : Prop := ∀ w F S, St H F S w → From o w F S → G P B n ks ρ w c
def SN (ks : List K) (ρ : Env) (H : List Asn) : Prop := ∀ w F S, St H F S w → From o w F S → N P B n ks ρ w
def SL (ops : List Oper) (ks : List K) (ρ : Env) (H : List Asn) (l : List Oper) : Prop := ∀ w F S, St H F S w → From o w F S → L P B n ops ks ρ w l
end
section
variable {P : Program} {B : Exit → Act → World → Prop} {n : Fm} {o : Org} {ks : List K} {ρ : Env} {H : List Asn}
theorem SG.sub {c : Code} (ρ' : Env) (hs : Sub ρ' ρ) (h : SG P B n o ks ρ' H c) : SG P B n o ks ρ H c := fun w F S s f => G.sub ρ' hs (h w F S s f)
theorem SN.sub (ρ' : Env) (hs : Sub ρ' ρ) (h : SN P B n o ks ρ' H) : SN P B n o ks ρ H := fun w F S s f => N.sub ρ' hs (h w F S s f)
theorem SG.imp {c : Code} {H' : List Asn} (i : Imp H H') (h : SG P B n o ks ρ H' c) : SG P B n o ks ρ H c := fun w F S s f => let ⟨F', S', s', f'⟩ := i.at s f; h w F' S' s' f'
theorem SN.imp {H' : List Asn} (i : Imp H H') (h : SN P B n o ks ρ H') : SN P B n o ks ρ H := fun w F S s f => let ⟨F', S', s', f'⟩ := i.at s f; h w F' S' s' f'
theorem SG.seq {x y : Code} (h : SG P B n o (.seq y :: ks) ρ H x) : SG P B n o ks ρ H (.seq x y) := fun w F S s f => G.seq (h w F S s f)
theorem SG.block {id : Nat} {c : Code} (h : SG P B n o (.block id :: ks) ρ H c) : SG P B n o ks ρ H (.block id c) := fun w F S s f => G.block (h w F S s f)
theorem SG.skip (h : SN P B n o ks ρ H) : SG P B n o ks ρ H .skip := fun w F S s f => G.skip (h w F S s f)
theorem SG.region {id : Nat} {l : List Oper} (h : SL P B n o l ks ρ H l) : SG P B n o ks ρ H (.region id l.toArray false) := fun w F S s f => G.region (h w F S s f)
theorem SN.seq {y : Code} (h : SG P B n o ks ρ H y) : SN P B n o (.seq y :: ks) ρ H := fun w F S s f => N.seq (h w F S s f)
theorem SN.block {id : Nat} (h : SN P B n o ks ρ H) : SN P B n o (.block id :: ks) ρ H := fun w F S s f => N.block (h w F S s f)
theorem SG.exit {id : Nat} (ks' : List K) (h : popTo id ks = some ks') (hn : SN P B n o ks' ρ H) : SG P B n o ks ρ H (.exit id) := fun w F S s f => G.exit ks' h (hn w F S s f)
theorem SG.condT {c : Operand} {x y : Code} (hc : ev ρ c = some (.bool true)) (h : SG P B n o ks ρ H x) : SG P B n o ks ρ H (.cond c x y) := fun w F S s f => G.condT hc (h w F S s f)
theorem SG.condF {c : Operand} {x y : Code} (hc : ev ρ c = some (.bool false)) (h : SG P B n o ks ρ H y) : SG P B n o ks ρ H (.cond c x y) := fun w F S s f => G.condF hc (h w F S s f)
theorem SG.condB {c : Operand} {x y : Code} {b : Bool} (hc : ev ρ c = some (.bool b)) (ht : b = true → SG P B n o ks ρ H x) (hf : b = false → SG P B n o ks ρ H y) : SG P B n o ks ρ H (.cond c x y) :=
  fun w F S s f => G.condB hc (fun h => ht h w F S s f) (fun h => hf h w F S s f)
theorem SG.condP {c : Operand} {x y : Code} {p : Prop} {dp : Decidable p} (hc : ev ρ c = some (.bool (@decide p dp))) (ht : p → SG P B n o ks ρ H x) (hf : ¬ p → SG P B n o ks ρ H y) : SG P B n o ks ρ H (.cond c x y) :=
  fun w F S s f => G.condP hc (fun h => ht h w F S s f) (fun h => hf h w F S s f)
theorem SG.be {v v' : Value} {c : Code} (d : Nat) (hv : look ρ d = some v) (e : v = v') (h : SG P B n o ks ((d, v') :: ρ) H c) : SG P B n o ks ρ H c := fun w F S s f => G.be d hv e (h w F S s f)
/-- The ways meet again. -/
theorem SG.cut {X : Type} (ρJ : X → Env) (HJ : X → List Asn) (J : X → Prop) {c : Code}
    (h : SG P B n o (.hand (fun a' w' => ∃ x, Fr n (ρJ x) a' ∧ J x ∧ ∃ F S, St (HJ x) F S w' ∧ From o w' F S) :: ks) ρ H c) (hn : ∀ x, J x → SN P B n o ks (ρJ x) (HJ x)) : SG P B n o ks ρ H c :=
  fun w F S s f => G.cut ρJ (fun x w' => J x ∧ ∃ F S, St (HJ x) F S w' ∧ From o w' F S) (h w F S s f) (fun x w' ⟨hj, F', S', s', f'⟩ => hn x hj w' F' S' s' f')
theorem SN.handX {X : Type} {ρJ : X → Env} {HJ : X → List Asn} {J : X → Prop} (x : X) (hs : Sub (ρJ x) ρ) (i : Imp H (HJ x)) (h : J x) :
    SN P B n o (.hand (fun a' w' => ∃ x, Fr n (ρJ x) a' ∧ J x ∧ ∃ F S, St (HJ x) F S w' ∧ From o w' F S) :: ks) ρ H :=
  fun _ _ _ s f => N.hand fun _ ha => ⟨x, ha.sub hs, h, i.at s f⟩
theorem SG.loop {X : Type} (ρI : X → Env) (HI : X → List Asn) (I : X → Prop) (μ : X → Nat) (x₀ : X) {c : Code} (hs : Sub (ρI x₀) ρ) (i : Imp H (HI x₀)) (h₀ : I x₀)
    (round : ∀ x, I x → SG P B n o (.hand (fun a' w' => ∃ x', μ x' < μ x ∧ Fr n (ρI x') a' ∧ I x' ∧ ∃ F S, St (HI x') F S w' ∧ From o w' F S) :: ks) (ρI x) (HI x) c) : SG P B n o ks ρ H (.loop c) :=
  fun w F S s f => G.loop ρI (fun x w' => I x ∧ ∃ F S, St (HI x) F S w' ∧ From o w' F S) μ x₀ hs ⟨h₀, i.at s f⟩ (fun x w' ⟨hi, F', S', s', f'⟩ => round x hi w' F' S' s' f')
theorem SN.again {X : Type} {ρI : X → Env} {HI : X → List Asn} {I : X → Prop} {μ : X → Nat} {x : X} (x' : X) (hlt : μ x' < μ x) (hs : Sub (ρI x') ρ) (i : Imp H (HI x')) (h : I x') :
    SN P B n o (.hand (fun a' w' => ∃ x', μ x' < μ x ∧ Fr n (ρI x') a' ∧ I x' ∧ ∃ F S, St (HI x') F S w' ∧ From o w' F S) :: ks) ρ H :=
  fun _ _ _ s f => N.hand fun _ ha => ⟨x', hlt, ha.sub hs, h, i.at s f⟩
end
section
variable {P : Program} {n : Nat} {o : Org} {ks : List K} {ρ : Env} {H H' : List Asn} {fn : Func} {Φ : Value → List Asn → Prop}
theorem post_of {w : World} {F S : List Nat} {v : Value} (i : Imp H H') (h : Φ v H') (s : St H F S w) (f : From o w F S) : PostS o Φ v w := let ⟨F', S', s', f'⟩ := i.at s f; ⟨H', F', S', h, s', f'⟩
theorem SG.ret1 {t : Nat} {v : Value} (hr : fn.results = #[.tmp t]) (hv : look ρ t = some v) (i : Imp H H') (h : Φ v H') : SG P (Func.base P fn (PostS o Φ)) ⟨n, [], none⟩ o ks ρ H .ret := fun _ _ _ s f => G.ret1 hr hv (post_of i h s f)
theorem SG.ret2 {t u : Nat} {v x : Value} (hr : fn.results = #[.tmp t, .tmp u]) (hv : look ρ t = some v) (hx : look ρ u = some x) (i : Imp H H') (h : Φ (.tuple #[v, x]) H') : SG P (Func.base P fn (PostS o Φ)) ⟨n, [], none⟩ o ks ρ H .ret := fun _ _ _ s f => G.ret2 hr hv hx (post_of i h s f)
theorem SG.ret3 {t u r : Nat} {v x y : Value} (hr : fn.results = #[.tmp t, .tmp u, .tmp r]) (hv : look ρ t = some v) (hx : look ρ u = some x) (hy : look ρ r = some y) (i : Imp H H') (h : Φ (.tuple #[v, x, y]) H') : SG P (Func.base P fn (PostS o Φ)) ⟨n, [], none⟩ o ks ρ H .ret := fun _ _ _ s f => G.ret3 hr hv hx hy (post_of i h s f)
theorem SG.ret0 (hr : fn.results = #[]) (i : Imp H H') (h : Φ (.tuple #[]) H') : SG P (Func.base P fn (PostS o Φ)) ⟨n, [], none⟩ o ks ρ H .ret := fun _ _ _ s f => G.ret0 hr (post_of i h s f)
theorem SN.end0 (hr : fn.results = #[]) (i : Imp H H') (h : Φ (.tuple #[]) H') : SN P (Func.base P fn (PostS o Φ)) ⟨n, [], none⟩ o [] ρ H := fun _ _ _ s f => N.end0 hr (post_of i h s f)
theorem SpecS.enter {f : FuncId} {c : Code} {args : List Value} (hf : P.funcs[f]? = some fn) (hb : fn.body = some c) (n : Nat) (hn : fn.ntmps = n) (hl : args.length ≤ n)
    (h : ∀ o, SG P (Func.base P fn (PostS o Φ)) ⟨n, [], none⟩ o [] (argEnv 0 args) H c) : SpecS P f args H Φ := fun w F S s => Meets.enter hf hb n hn hl (h ⟨w, F, S⟩ w F S s (From.refl w F S))
end
section
variable {P : Program} {B : Exit → Act → World → Prop} {n : Fm} {o : Org} {ops : List Oper} {ks : List K} {ρ : Env} {H : List Asn} {rest : List Oper}
theorem SL.nil (h : SN P B n o ks ρ H) : SL P B n o ops ks ρ H [] := fun w F S s f => L.nil (h w F S s f)
theorem SL.imp {l : List Oper} {H' : List Asn} (i : Imp H H') (h : SL P B n o ops ks ρ H' l) : SL P B n o ops ks ρ H l := fun w F S s f => let ⟨F', S', s', f'⟩ := i.at s f; h w F' S' s' f'
theorem SL.sub {l : List Oper} (ρ' : Env) (hs : Sub ρ' ρ) (h : SL P B n o ops ks ρ' H l) : SL P B n o ops ks ρ H l := fun w F S s f => L.sub ρ' hs (h w F S s f)
theorem SL.step {d : Nat} {op : Op} {ty : TypeId} {pos : String} {af : Array Edge} {gd : Option (Nat × Bool)} {Ψ : Value → List Asn → Prop} (hg : wants ops ρ gd = some true) (hd : Nat.blt d n = true)
    (h : CS P n o ρ H ⟨some d, op, ty, pos, af, gd⟩ Ψ) (k : ∀ v H', Ψ v H' → SL P B n o ops ks ((d, v) :: ρ) H' rest) (hdf : isDefer op = false := by rfl) : SL P B n o ops ks ρ H (⟨some d, op, ty, pos, af, gd⟩ :: rest) := by
  intro w F S s f a ha
  have hd' : d < n := by simpa [Nat.blt_eq] using hd
  unfold wpListIn
  rw [if_pos (wants_spec ha hg)]
  refine Oper.wpIn_mono ?_ ((h w F S s f).wp hdf ha rfl)
  rintro a' w' ⟨v, rfl, H', F', S', hΨ, s', f'⟩
  exact k v H' hΨ w' F' S' s' f' _ (ha.put hd' v)
theorem SL.step0 {op : Op} {ty : TypeId} {pos : String} {af : Array Edge} {gd : Option (Nat × Bool)} {Ψ : Value → List Asn → Prop} (hg : wants ops ρ gd = some true)
    (h : CS P n o ρ H ⟨none, op, ty, pos, af, gd⟩ Ψ) (k : ∀ v H', Ψ v H' → SL P B n o ops ks ρ H' rest) (hdf : isDefer op = false := by rfl) : SL P B n o ops ks ρ H (⟨none, op, ty, pos, af, gd⟩ :: rest) := by
  intro w F S s f a ha
  unfold wpListIn
  rw [if_pos (wants_spec ha hg)]
  refine Oper.wpIn_mono ?_ ((h w F S s f).wp hdf ha rfl)
  rintro a' w' ⟨v, rfl, H', F', S', hΨ, s', f'⟩
  exact k v H' hΨ w' F' S' s' f' _ ha
theorem SL.val {d : Nat} {op : Op} {ty : TypeId} {pos : String} {af : Array Edge} {gd : Option (Nat × Bool)} {v : Value} (hg : wants ops ρ gd = some true) (hd : Nat.blt d n = true)
    (hrun : ∀ w F S, St H F S w → Runs P n ρ w ⟨some d, op, ty, pos, af, gd⟩ v w) (h : SL P B n o ops ks ((d, v) :: ρ) H rest) (hdf : isDefer op = false := by rfl) : SL P B n o ops ks ρ H (⟨some d, op, ty, pos, af, gd⟩ :: rest) :=
  fun w F S s f => L.val hg hd (hrun w F S s) (h w F S s f) hdf
theorem SL.pass {d : Nat} {op : Op} {ty : TypeId} {pos : String} {af : Array Edge} {gd : Option (Nat × Bool)} (hg : wants ops ρ gd = some false) (hd : Nat.blt d n = true)
    (h : SL P B n o ops ks ((d, undef) :: ρ) H rest) : SL P B n o ops ks ρ H (⟨some d, op, ty, pos, af, gd⟩ :: rest) := fun w F S s f => L.pass hg hd (h w F S s f)
theorem SL.pass0 {op : Op} {ty : TypeId} {pos : String} {af : Array Edge} {gd : Option (Nat × Bool)} (hg : wants ops ρ gd = some false)
    (h : SL P B n o ops ks ρ H rest) : SL P B n o ops ks ρ H (⟨none, op, ty, pos, af, gd⟩ :: rest) := fun w F S s f => L.pass0 hg (h w F S s f)
theorem SL.caseB {b : Bool} (d : Nat) (hv : look ρ d = some (.bool b)) (ht : b = true → SL P B n o ops ks ((d, .bool true) :: ρ) H rest) (hf : b = false → SL P B n o ops ks ((d, .bool false) :: ρ) H rest) : SL P B n o ops ks ρ H rest :=
  fun w F S s f => L.caseB d hv (fun h => ht h w F S s f) (fun h => hf h w F S s f)
theorem SL.caseP {p : Prop} {dp : Decidable p} (d : Nat) (hv : look ρ d = some (.bool (@decide p dp))) (ht : p → SL P B n o ops ks ((d, .bool true) :: ρ) H rest) (hf : ¬ p → SL P B n o ops ks ((d, .bool false) :: ρ) H rest) : SL P B n o ops ks ρ H rest :=
  SL.caseB d hv (fun h => ht (of_decide_eq_true h)) (fun h => hf (of_decide_eq_false h))
theorem SL.isT {b : Bool} (d : Nat) (hv : look ρ d = some (.bool b)) (e : b = true) (h : SL P B n o ops ks ((d, .bool true) :: ρ) H rest) : SL P B n o ops ks ρ H rest := SL.caseB d hv (fun _ => h) (fun h' => by rw [e] at h'; cases h')
theorem SL.isF {b : Bool} (d : Nat) (hv : look ρ d = some (.bool b)) (e : b = false) (h : SL P B n o ops ks ((d, .bool false) :: ρ) H rest) : SL P B n o ops ks ρ H rest := SL.caseB d hv (fun h' => by rw [e] at h'; cases h') (fun _ => h)
theorem SL.be {v v' : Value} (d : Nat) (hv : look ρ d = some v) (e : v = v') (h : SL P B n o ops ks ((d, v') :: ρ) H rest) : SL P B n o ops ks ρ H rest := fun w F S s f => L.be d hv e (h w F S s f)
theorem SL.fact {l : List Oper} {φ : Prop} (hφ : ∀ w F S, St H F S w → φ) (h : φ → SL P B n o ops ks ρ H l) : SL P B n o ops ks ρ H l := fun w F S s f => h (hφ w F S s) w F S s f
theorem SG.fact {c : Code} {φ : Prop} (hφ : ∀ w F S, St H F S w → φ) (h : φ → SG P B n o ks ρ H c) : SG P B n o ks ρ H c := fun w F S s f => h (hφ w F S s) w F S s f
theorem SN.fact {φ : Prop} (hφ : ∀ w F S, St H F S w → φ) (h : φ → SN P B n o ks ρ H) : SN P B n o ks ρ H := fun w F S s f => h (hφ w F S s) w F S s f
end
end Brv
/-
  Regions that draw their order: those operations that turn the world stand in a chain, the others read, and what they read stays while they may run. One walk serves every order.
-/
set_option linter.unusedVariables false
set_option linter.unusedSimpArgs false
namespace Brv
open Go

def extE : Option Nat → Value → Env → Env
  | some d, v, ρ => (d, v) :: ρ
  | none, _, ρ => ρ
abbrev Pend := List (Nat × (List Asn → Prop))
def piOf (ops : List Oper) : List Nat → List (Nat × Oper)
  | [] => []
  | i :: r => match ops[i]? with
    | some o => (i, o) :: piOf ops r
    | none => piOf ops r
def Obl (ops : List Oper) (i : Nat) : Pend → List Asn → Prop
  | [], _ => True
  | (j, g) :: r, H => (reachIn (masks ops ops.length) i j = true ∨ g H) ∧ Obl ops i r H
theorem Obl.all {ops : List Oper} {i : Nat} {H : List Asn} : ∀ {p : Pend}, Obl ops i p H → ∀ j g, (j, g) ∈ p → reachIn (masks ops ops.length) i j = true ∨ g H
  | [], _, j, g, h => by cases h
  | (j', g') :: r, ⟨h1, h2⟩, j, g, h => by
    rcases List.mem_cons.1 h with h | h
    · cases h; exact h1
    · exact Obl.all h2 j g h

section
variable (P : Program) (n : Fm) (ops : List Oper) (Q : Exit → Act → World → Prop) (o : Org) (σ : List Nat)
/-- An operation that only reads. -/
def Fl (ρ : Env) (w : World) (op : Oper) (v : Value) : Prop := (wants ops ρ op.guard = some true ∧ Runs P n ρ w op v w) ∨ (wants ops ρ op.guard = some false ∧ v = undef)
def SW : List (Nat × Oper) → Pend → Env → List Asn → Prop
  | [], _, ρ, H => ∀ w F S, St H F S w → From o w F S → ∀ a, Fr n ρ a → Q .normal a w
  | (i, op) :: π, pend, ρ, H => (∃ w F S, St H F S w ∧ From o w F S) → isSelect op.op = false ∧ (∀ d, op.dst = some d → d < n.n) ∧
    ((σ.any (Nat.beq i) = true ∧ ∃ Ψ : Value → List Asn → Prop, ((wants ops ρ op.guard = some true ∧ CS P n o ρ H op Ψ) ∨ (wants ops ρ op.guard = some false ∧ Ψ = fun v H' => v = undef ∧ H' = H)) ∧
        ∀ v H', Ψ v H' → Obl ops i pend H' ∧ SW π pend (extE op.dst v ρ) H') ∨
     (σ.any (Nat.beq i) = false ∧ ∃ v, op.dst ≠ none ∧ ((∀ w, Fl P n ops ρ w op v) ∧ SW π pend (extE op.dst v ρ) H ∨
        ∃ g : List Asn → Prop, g H ∧ (∀ H w F S, g H → St H F S w → From o w F S → Fl P n ops ρ w op v) ∧ SW π ((i, g) :: pend) (extE op.dst v ρ) H)))
end

/-- Is the order told one in which the others run as early as they may? -/
def chkOrd (ops : List Oper) (σ : List Nat) : List Nat → List Nat → List Nat → Bool
  | _, _, [] => true
  | done, ch, i :: r => Nat.blt i ops.length && !done.any (Nat.beq i) && (afters ops i).all (fun k => done.any (Nat.beq k)) && ch.all (fun c => reachIn (masks ops ops.length) i c) && chkOrd ops σ (i :: done) (if σ.any (Nat.beq i) then i :: ch else ch) r
def chkPi (ops : List Oper) (σ π : List Nat) : Bool := chk ops [] && (List.range ops.length).all (fun i => π.any (Nat.beq i)) && chkOrd ops σ [] [] π

section
variable {P : Program} {n : Fm} {ops : List Oper} {Q : Exit → Act → World → Prop} {o : Org} {σ : List Nat}

def envOf (ops : List Oper) (val : Nat → Value) (ρ₀ : Env) : List Nat → Env
  | [] => ρ₀
  | i :: d => extE ((ops[i]?).bind (·.dst)) (val i) (envOf ops val ρ₀ d)
/-- The environment that operation i was walked in. -/
def envB (ops : List Oper) (val : Nat → Value) (ρ₀ : Env) (i : Nat) : List Nat → Env
  | [] => ρ₀
  | j :: d => if j = i then envOf ops val ρ₀ d else envB ops val ρ₀ i d
def DoneOk (ops : List Oper) : List Nat → Prop
  | [] => True
  | i :: d => i ∉ d ∧ i < ops.length ∧ (∀ k ∈ afters ops i, k ∈ d) ∧ DoneOk ops d
theorem look_envOf {val : Nat → Value} {ρ₀ : Env} {t : Nat} {u : Value} : ∀ {d : List Nat}, look (envOf ops val ρ₀ d) t = some u → (∃ j op, j ∈ d ∧ ops[j]? = some op ∧ op.dst = some t ∧ u = val j) ∨ (look ρ₀ t = some u ∧ ∀ j op, j ∈ d → ops[j]? = some op → op.dst ≠ some t)
  | [], h => .inr ⟨h, fun j op hj => by cases hj⟩
  | i :: d, h => by
    simp only [envOf] at h
    cases ho : ops[i]? with
    | none =>
      rw [ho] at h
      rcases look_envOf h with ⟨j, op, h1, h2⟩ | ⟨h1, h2⟩
      · exact .inl ⟨j, op, by simp [h1], h2⟩
      · refine .inr ⟨h1, fun j op hj hop => ?_⟩
        rcases List.mem_cons.1 hj with rfl | hj
        · rw [ho] at hop; cases hop
        · exact h2 j op hj hop
    | some op =>
      rw [ho] at h
      simp only [Option.bind_some] at h
      cases hd : op.dst with
      | none =>
        rw [hd] at h
        rcases look_envOf h with ⟨j, op, h1, h2⟩ | ⟨h1, h2⟩
        · exact .inl ⟨j, op, by simp [h1], h2⟩
        · refine .inr ⟨h1, fun j op' hj hop => ?_⟩
          rcases List.mem_cons.1 hj with rfl | hj
          · rw [ho] at hop; cases hop; rw [hd]; simp
          · exact h2 j op' hj hop
      | some s =>
        rw [hd] at h
        simp only [extE] at h
        rw [look_cons] at h
        split at h
        · rename_i e; subst e; cases h
          exact .inl ⟨i, op, by simp, ho, hd, rfl⟩
        · rename_i e
          rcases look_envOf h with ⟨j, op, h1, h2⟩ | ⟨h1, h2⟩
          · exact .inl ⟨j, op, by simp [h1], h2⟩
          · refine .inr ⟨h1, fun j op' hj hop => ?_⟩
            rcases List.mem_cons.1 hj with rfl | hj
            · rw [ho] at hop; cases hop; rw [hd]; simpa using e
            · exact h2 j op' hj hop
theorem envB_of {val : Nat → Value} {ρ₀ : Env} {i : Nat} : ∀ {d : List Nat}, DoneOk ops d → i ∈ d → ∃ d', envB ops val ρ₀ i d = envOf ops val ρ₀ d' ∧ (∀ k ∈ afters ops i, k ∈ d') ∧ i ∉ d' ∧ DoneOk ops d' ∧ ∀ x ∈ d', x ∈ d
  | j :: d, ⟨h1, h2, h3, h4⟩, hi => by
    simp only [envB]
    split
    · rename_i e; subst e; exact ⟨d, rfl, h3, h1, h4, fun x hx => List.mem_cons_of_mem _ hx⟩
    · rename_i e
      obtain ⟨d', q1, q2, q3, q4, q5⟩ := envB_of h4 ((List.mem_cons.1 hi).resolve_left (fun q => e q.symm))
      exact ⟨d', q1, q2, q3, q4, fun x hx => List.mem_cons_of_mem _ (q5 x hx)⟩
theorem envOf_congr {val val' : Nat → Value} {ρ₀ : Env} : ∀ {d : List Nat}, (∀ j ∈ d, val j = val' j) → envOf ops val ρ₀ d = envOf ops val' ρ₀ d
  | [], _ => rfl
  | i :: d, h => by simp only [envOf]; rw [h i (by simp), envOf_congr (fun j hj => h j (by simp [hj]))]
theorem envB_congr {val val' : Nat → Value} {ρ₀ : Env} {i : Nat} : ∀ {d : List Nat}, (∀ j ∈ d, val j = val' j) → envB ops val ρ₀ i d = envB ops val' ρ₀ i d
  | [], _ => rfl
  | j :: d, h => by
    simp only [envB]
    rw [envOf_congr (fun k hk => h k (by simp [hk])), envB_congr (fun k hk => h k (by simp [hk]))]
theorem DoneOk.back : ∀ {d : List Nat} {j k : Nat}, DoneOk ops d → j ∈ d → k ∈ afters ops j → k ∈ d
  | i :: d, j, k, ⟨_, _, h3, h4⟩, hj, hk => by
    rcases List.mem_cons.1 hj with rfl | hj
    · exact List.mem_cons_of_mem _ (h3 k hk)
    · exact List.mem_cons_of_mem _ (DoneOk.back h4 hj hk)

/-- What is so while the region runs. -/
structure SInv (P : Program) (n : Fm) (ops : List Oper) (Q : Exit → Act → World → Prop) (o : Org) (σ : List Nat) (ρ₀ : Env) (listed : Array Bool) (a : Act) (w : World) (done rest ch : List Nat) (pend : Pend) (H : List Asn) (F S : List Nat) (val : Nat → Value) : Prop where
  lsz : listed.size = ops.length
  tsz : a.tmps.size = n.n
  tdf : a.defers = n.df
  closed : Closed ops (fun i => listed[i]? = some true)
  ok : DoneOk ops done
  ord : chkOrd ops σ done ch rest = true
  chs : ∀ c ∈ ch, c ∈ done
  cover : ∀ i, i < ops.length → i ∈ done ∨ i ∈ rest
  sw : SW P n ops Q o σ (piOf ops rest) pend (envOf ops val ρ₀ done) H
  st : St H F S w
  fr : From o w F S
  ldone : ∀ i, listed[i]? = some true → i ∈ done
  cdone : ∀ i ∈ done, σ.any (Nat.beq i) = true → listed[i]? = some true
  pok : ∀ (i : Nat) (op : Oper), i ∈ done → listed[i]? ≠ some true → ops[i]? = some op → isSelect op.op = false ∧ (∀ d, op.dst = some d → d < n.n) ∧ op.dst ≠ none ∧ ((∀ w, Fl P n ops (envB ops val ρ₀ i done) w op (val i)) ∨ ∃ g : List Asn → Prop, (i, g) ∈ pend ∧ g H ∧ ∀ H w F S, g H → St H F S w → From o w F S → Fl P n ops (envB ops val ρ₀ i done) w op (val i))
  d1 : ∀ (i : Nat) (op : Oper) (d : Nat), listed[i]? = some true → ops[i]? = some op → op.dst = some d → a.tmps[d]? = some (val i)
  d2 : ∀ t v, look ρ₀ t = some v → (∀ (i : Nat) (op : Oper), listed[i]? = some true → ops[i]? = some op → op.dst ≠ some t) → a.tmps[t]? = some v
  lt0 : ∀ t v, look ρ₀ t = some v → t < n.n
  ltd : ∀ (i : Nat) (op : Oper) (d : Nat), i ∈ done → ops[i]? = some op → op.dst = some d → d < n.n

/-- The slots that an operation looks at are as its environment has them. -/
theorem SInv.slots {ρ₀ : Env} {listed : Array Bool} {a : Act} {w : World} {done rest ch : List Nat} {pend : Pend} {H : List Asn} {F S : List Nat} {val : Nat → Value} (C : Chk ops []) (I : SInv P n ops Q o σ ρ₀ listed a w done rest ch pend H F S val)
    {i : Nat} {op : Oper} (hi : ops[i]? = some op) (hnl : listed[i]? ≠ some true) (haft : ∀ k ∈ afters ops i, listed[k]? = some true) {d : List Nat} (hd : DoneOk ops d) (hda : ∀ k ∈ afters ops i, k ∈ d) (hid : i ∉ d) :
    ∀ t ∈ slots ops op, ∀ u, look (envOf ops val ρ₀ d) t = some u → a.tmps[t]? = some u := by
  intro t ht u hu
  rcases look_envOf hu with ⟨j, oj, hj, hoj, hdj, rfl⟩ | ⟨h0, hno⟩
  · rcases C.share i op hi t ht j oj hoj hdj with e | e | e
    · exact absurd (e ▸ hj) hid
    · exact I.d1 j oj t (haft j e) hoj hdj
    · exact absurd (hd.back hj e) hid
  · refine I.d2 t u h0 (fun j oj hlj hoj hdj => ?_)
    rcases C.share i op hi t ht j oj hoj hdj with e | e | e
    · exact hnl (e ▸ hlj)
    · exact hno j oj (hda j e) hoj hdj
    · exact hnl (I.closed j hlj i e)
/-- A frame that has all of an environment, and the slots that an operation looks at as they are. -/
theorem frame_for {ρ : Env} {a : Act} (hsz : a.tmps.size = n.n) (hlt : ∀ t v, look ρ t = some v → t < n.n) (op : Oper) (hs : ∀ t ∈ slots ops op, ∀ u, look ρ t = some u → a.tmps[t]? = some u) :
    ∃ a₀, Fr n ρ a₀ ∧ ∀ t ∈ slots ops op, a.tmps.getD t undef = a₀.tmps.getD t undef ∧ a.tmps[t]? = a₀.tmps[t]? := by
  refine ⟨{ tmps := Array.ofFn (n := n.n) fun t => match look ρ t.1 with | some v => v | none => a.tmps.getD t.1 undef, defers := n.df }, ⟨by simp, rfl, ?_⟩, ?_⟩
  · intro t v hv
    have := hlt t v hv
    simp [this, hv]
  · intro t ht
    have key : a.tmps[t]? = (Array.ofFn (n := n.n) fun t => match look ρ t.1 with | some v => v | none => a.tmps.getD t.1 undef)[t]? := by
      rcases Nat.lt_or_ge t n.n with hlt' | hge
      · rw [Array.getElem?_ofFn, dif_pos hlt']
        cases hv : look ρ t with
        | some v => rw [hs t ht v hv]
        | none =>
          simp only []
          have : t < a.tmps.size := by omega
          rw [Array.getElem?_eq_getElem this, Array.getD_eq_getD_getElem?, Array.getElem?_eq_getElem this]
          rfl
      · rw [Array.getElem?_eq_none (by omega), Array.getElem?_eq_none (by simp; omega)]
    exact ⟨by rw [Array.getD_eq_getD_getElem?, Array.getD_eq_getD_getElem?, key], key⟩
theorem wanted_for {ρ : Env} {a a₀ : Act} {op : Oper} {b : Bool} (hg : wants ops ρ op.guard = some b) (ha : Fr n ρ a₀) (hag : ∀ t ∈ slots ops op, a.tmps.getD t undef = a₀.tmps.getD t undef ∧ a.tmps[t]? = a₀.tmps[t]?) : Region.wanted op (yielded ops.toArray a.tmps) = b :=
  wanted_virtual (ρ := ρ) hg ha hag (fun _ _ _ h => h)
theorem piOf_cons {i : Nat} {r : List Nat} {op : Oper} (h : ops[i]? = some op) : piOf ops (i :: r) = (i, op) :: piOf ops r := by simp [piOf, h]
theorem lt_env {val : Nat → Value} {ρ₀ : Env} {d : List Nat} (h0 : ∀ t v, look ρ₀ t = some v → t < n.n) (hd : ∀ i op t, i ∈ d → ops[i]? = some op → op.dst = some t → t < n.n) : ∀ t v, look (envOf ops val ρ₀ d) t = some v → t < n.n := by
  intro t v h
  rcases look_envOf h with ⟨j, op, h1, h2, h3, _⟩ | ⟨h1, _⟩
  · exact hd j op t h1 h2 h3
  · exact h0 t v h1

/-- The walk goes on over all that only read. -/
theorem SInv.adv {ρ₀ : Env} {listed : Array Bool} {a : Act} {w : World} : ∀ {rest done ch : List Nat} {pend : Pend} {H : List Asn} {F S : List Nat} {val : Nat → Value}, SInv P n ops Q o σ ρ₀ listed a w done rest ch pend H F S val →
    ∃ done' rest' ch' pend' val', SInv P n ops Q o σ ρ₀ listed a w done' rest' ch' pend' H F S val' ∧ (rest' = [] ∨ ∃ c r, rest' = c :: r ∧ σ.any (Nat.beq c) = true)
  | [], done, ch, pend, H, F, S, val, I => ⟨done, [], ch, pend, val, I, .inl rfl⟩
  | i :: r, done, ch, pend, H, F, S, val, I => by
    cases hc : σ.any (Nat.beq i) with
    | true => exact ⟨done, i :: r, ch, pend, val, I, .inr ⟨i, r, rfl, hc⟩⟩
    | false =>
      have ho := I.ord
      simp only [chkOrd, Bool.and_eq_true, hc, Bool.not_eq_true', Nat.blt_eq] at ho
      obtain ⟨⟨⟨⟨h1, h2⟩, h3⟩, h4⟩, h5⟩ := ho
      have hid : i ∉ done := fun h => by have := any_beq.2 h; rw [h2] at this; cases this
      have hia : ∀ k ∈ afters ops i, k ∈ done := fun k hk => any_beq.1 (List.all_eq_true.1 h3 k hk)
      have hop : ops[i]? = some ops[i] := List.getElem?_eq_getElem h1
      have hsw := I.sw
      rw [piOf_cons hop] at hsw
      obtain ⟨q1, q2, q⟩ := hsw ⟨w, F, S, I.st, I.fr⟩
      rcases q with ⟨q, _⟩ | ⟨_, v, q3, q⟩
      · rw [hc] at q; cases q
      have hnl : listed[i]? ≠ some true := fun h => hid (I.ldone i h)
      obtain ⟨val', hv'⟩ : ∃ val' : Nat → Value, val' = fun j => if j = i then v else val j := ⟨_, rfl⟩
      have hvi : val' i = v := by rw [hv']; simp
      have hvd : ∀ j ∈ done, val j = val' j := fun j hj => by rw [hv']; simp only [if_neg (fun e : j = i => hid (e ▸ hj))]
      have hE : envOf ops val' ρ₀ (i :: done) = extE ops[i].dst v (envOf ops val ρ₀ done) := by
        simp only [envOf, hop, Option.bind_some, hvi]
        rw [envOf_congr (fun j hj => (hvd j hj).symm)]
      have hB : envB ops val' ρ₀ i (i :: done) = envOf ops val ρ₀ done := by simp only [envB, if_true]; exact envOf_congr (fun j hj => (hvd j hj).symm)
      have hB2 : ∀ j, j ∈ done → envB ops val' ρ₀ j (i :: done) = envB ops val ρ₀ j done := fun j hj => by
        simp only [envB]
        rw [if_neg (fun e : i = j => hid (e ▸ hj))]
        exact envB_congr (fun j hj => (hvd j hj).symm)
      have hcover : ∀ j, j < ops.length → j ∈ i :: done ∨ j ∈ r := fun j hj => (I.cover j hj).elim (fun h => .inl (by simp [h])) (fun h => (List.mem_cons.1 h).elim (fun e => .inl (by simp [e])) .inr)
      have hd1 : ∀ j op d, listed[j]? = some true → ops[j]? = some op → op.dst = some d → a.tmps[d]? = some (val' j) := fun j op d h1 h2 h3 => by rw [← hvd j (I.ldone j h1)]; exact I.d1 j op d h1 h2 h3
      have hltd : ∀ j op d, j ∈ i :: done → ops[j]? = some op → op.dst = some d → d < n.n := fun j op d hj hoj hdj => by
        rcases List.mem_cons.1 hj with rfl | hj
        · rw [hop] at hoj; cases hoj; exact q2 d hdj
        · exact I.ltd j op d hj hoj hdj
      have hcd : ∀ j ∈ i :: done, σ.any (Nat.beq j) = true → listed[j]? = some true := fun j hj hs => by
        rcases List.mem_cons.1 hj with rfl | hj
        · rw [hc] at hs; cases hs
        · exact I.cdone j hj hs
      rcases q with ⟨q4, q5⟩ | ⟨g, q4, q5, q6⟩
      · exact SInv.adv (rest := r) (done := i :: done) (ch := ch) (pend := pend) (H := H) (F := F) (S := S) (val := val') ⟨I.lsz, I.tsz, I.tdf, I.closed, ⟨hid, h1, hia, I.ok⟩, by simpa [hc] using h5, fun c hc => by simp [I.chs c hc], hcover, by rw [hE]; exact q5, I.st, I.fr, fun j hj => by simp [I.ldone j hj], hcd,
          fun j op hj hnj hoj => by
            rcases List.mem_cons.1 hj with rfl | hj
            · rw [hop] at hoj; cases hoj
              exact ⟨q1, q2, q3, .inl (by rw [hB, hvi]; exact q4)⟩
            · rw [hB2 j hj, ← hvd j hj]
              exact I.pok j op hj hnj hoj, hd1, I.d2, I.lt0, hltd⟩
      · exact SInv.adv (rest := r) (done := i :: done) (ch := ch) (pend := (i, g) :: pend) (H := H) (F := F) (S := S) (val := val') ⟨I.lsz, I.tsz, I.tdf, I.closed, ⟨hid, h1, hia, I.ok⟩, by simpa [hc] using h5, fun c hc => by simp [I.chs c hc], hcover, by rw [hE]; exact q6, I.st, I.fr, fun j hj => by simp [I.ldone j hj], hcd,
          fun j op hj hnj hoj => by
            rcases List.mem_cons.1 hj with rfl | hj
            · rw [hop] at hoj; cases hoj
              exact ⟨q1, q2, q3, .inr ⟨g, by simp, q4, by rw [hB, hvi]; exact q5⟩⟩
            · rw [hB2 j hj, ← hvd j hj]
              obtain ⟨k1, k2, k3, k4⟩ := I.pok j op hj hnj hoj
              exact ⟨k1, k2, k3, k4.imp id (fun ⟨g', m1, m2⟩ => ⟨g', by simp [m1], m2⟩)⟩, hd1, I.d2, I.lt0, hltd⟩

theorem listed_set {listed : Array Bool} {i j : Nat} (hi : i < listed.size) : (listed.setIfInBounds i true)[j]? = some true ↔ j = i ∨ listed[j]? = some true := by
  rw [Array.getElem?_setIfInBounds]
  by_cases e : i = j
  · subst e; simp [hi]
  · simp only [if_neg e]
    exact ⟨.inr, fun h => h.resolve_left (fun q => e q.symm)⟩
/-- One operation is done, which was walked over. -/
theorem SInv.float {ρ₀ : Env} {listed : Array Bool} {a : Act} {w : World} {done rest ch : List Nat} {pend : Pend} {H : List Asn} {F S : List Nat} {val : Nat → Value} (C : Chk ops []) (I : SInv P n ops Q o σ ρ₀ listed a w done rest ch pend H F S val)
    {i : Nat} {op : Oper} (hi : ops[i]? = some op) (hid : i ∈ done) (hnl : listed[i]? ≠ some true) (haft : ∀ k ∈ afters ops i, listed[k]? = some true) (hcs : σ.any (Nat.beq i) = false) :
    SInv P n ops Q o σ ρ₀ (listed.setIfInBounds i true) (a.put op.dst (val i)) w done rest ch pend H F S val := by
  have hlt : i < listed.size := by rw [I.lsz]; exact (List.getElem?_eq_some_iff.1 hi).1
  obtain ⟨d, hd⟩ : ∃ d, op.dst = some d := by
    have := (I.pok i op hid hnl hi).2.2.1
    cases h : op.dst with
    | none => exact absurd h this
    | some d => exact ⟨d, rfl⟩
  have hdn : d < a.tmps.size := by rw [I.tsz]; exact (I.pok i op hid hnl hi).2.1 d hd
  refine ⟨by simpa using I.lsz, by rw [hd]; simpa [Act.put] using I.tsz, by rw [hd]; simpa [Act.put] using I.tdf, ?_, I.ok, I.ord, I.chs, I.cover, I.sw, I.st, I.fr, ?_, ?_, ?_, ?_, ?_, I.lt0, I.ltd⟩
  · intro x hx y hy
    rw [listed_set hlt] at hx ⊢
    rcases hx with rfl | hx
    · exact .inr (haft y hy)
    · exact .inr (I.closed x hx y hy)
  · intro x hx
    rcases (listed_set hlt).1 hx with rfl | hx
    · exact hid
    · exact I.ldone x hx
  · intro x hx hs
    exact (listed_set hlt).2 (.inr (I.cdone x hx hs))
  · intro x ox hx hnx hox
    exact I.pok x ox hx (fun h => hnx ((listed_set hlt).2 (.inr h))) hox
  · intro x ox dx hx hox hdx
    rw [hd]
    simp only [Act.put]
    rcases (listed_set hlt).1 hx with rfl | hx
    · rw [hi] at hox; cases hox
      rw [hd] at hdx; cases hdx
      rw [Array.getElem?_setIfInBounds]; simp [hdn]
    · have hne : d ≠ dx := by
        intro e; subst e
        have := C.apart x ox d hox hdx i op hi hd
        exact hnl (this ▸ hx)
      rw [Array.getElem?_setIfInBounds_ne hne]
      exact I.d1 x ox dx hx hox hdx
  · intro t v hv hno
    have hne : d ≠ t := fun e => hno i op ((listed_set hlt).2 (.inl rfl)) hi (by rw [hd, e])
    rw [hd]
    simp only [Act.put]
    rw [Array.getElem?_setIfInBounds_ne hne]
    exact I.d2 t v hv (fun j oj hj => hno j oj ((listed_set hlt).2 (.inr hj)))

/-- The next one of the chain is done. -/
theorem SInv.chain {ρ₀ : Env} {listed : Array Bool} {a : Act} {w : World} {done r ch : List Nat} {pend : Pend} {H : List Asn} {F S : List Nat} {val : Nat → Value} (C : Chk ops []) {i : Nat} {op : Oper} (I : SInv P n ops Q o σ ρ₀ listed a w done (i :: r) ch pend H F S val)
    (hi : ops[i]? = some op) (hnl : listed[i]? ≠ some true) (haft : ∀ k ∈ afters ops i, listed[k]? = some true) (hid : i ∉ done) (hia : ∀ k ∈ afters ops i, k ∈ done) (hcs : σ.any (Nat.beq i) = true) (hdn : ∀ d, op.dst = some d → d < n.n) (hord : chkOrd ops σ (i :: done) (i :: ch) r = true)
    {v : Value} {H' : List Asn} {F' S' : List Nat} {w' : World} (hob : Obl ops i pend H') (hsw : SW P n ops Q o σ (piOf ops r) pend (extE op.dst v (envOf ops val ρ₀ done)) H') (s' : St H' F' S' w') (f' : From o w' F' S') :
    SInv P n ops Q o σ ρ₀ (listed.setIfInBounds i true) (a.put op.dst v) w' (i :: done) r (i :: ch) pend H' F' S' (fun j => if j = i then v else val j) := by
  have hll := (List.getElem?_eq_some_iff.1 hi).1
  have hlt : i < listed.size := by rw [I.lsz]; exact hll
  obtain ⟨val', hv'⟩ : ∃ val' : Nat → Value, val' = fun j => if j = i then v else val j := ⟨_, rfl⟩
  rw [← hv']
  have hvi : val' i = v := by rw [hv']; simp
  have hvd : ∀ j ∈ done, val j = val' j := fun j hj => by rw [hv']; simp only [if_neg (fun e : j = i => hid (e ▸ hj))]
  have hE : envOf ops val' ρ₀ (i :: done) = extE op.dst v (envOf ops val ρ₀ done) := by
    simp only [envOf, hi, Option.bind_some, hvi]
    rw [envOf_congr (fun j hj => (hvd j hj).symm)]
  have hB2 : ∀ j, j ∈ done → envB ops val' ρ₀ j (i :: done) = envB ops val ρ₀ j done := fun j hj => by
    simp only [envB]
    rw [if_neg (fun e : i = j => hid (e ▸ hj))]
    exact envB_congr (fun j hj => (hvd j hj).symm)
  refine ⟨by simpa using I.lsz, ?_, ?_, ?_, ⟨hid, hll, hia, I.ok⟩, hord, ?_, ?_, by rw [hE]; exact hsw, s', f', ?_, ?_, ?_, ?_, ?_, I.lt0, ?_⟩
  · cases hd : op.dst <;> simp [Act.put, I.tsz]
  · cases hd : op.dst <;> simp [Act.put, I.tdf]
  · intro x hx y hy
    rw [listed_set hlt] at hx ⊢
    rcases hx with rfl | hx
    · exact .inr (haft y hy)
    · exact .inr (I.closed x hx y hy)
  · intro c hc
    rcases List.mem_cons.1 hc with rfl | hc
    · simp
    · simp [I.chs c hc]
  · intro j hj
    rcases I.cover j hj with h | h
    · exact .inl (by simp [h])
    · rcases List.mem_cons.1 h with rfl | h
      · exact .inl (by simp)
      · exact .inr h
  · intro x hx
    rcases (listed_set hlt).1 hx with rfl | hx
    · simp
    · simp [I.ldone x hx]
  · intro x hx hs
    rcases List.mem_cons.1 hx with rfl | hx
    · exact (listed_set hlt).2 (.inl rfl)
    · exact (listed_set hlt).2 (.inr (I.cdone x hx hs))
  · intro x ox hx hnx hox
    have hxi : x ≠ i := fun e => hnx ((listed_set hlt).2 (.inl e))
    have hxd := (List.mem_cons.1 hx).resolve_left hxi
    have hnx' : listed[x]? ≠ some true := fun h => hnx ((listed_set hlt).2 (.inr h))
    obtain ⟨k1, k2, k3, k4⟩ := I.pok x ox hxd hnx' hox
    rw [hB2 x hxd, ← hvd x hxd]
    refine ⟨k1, k2, k3, k4.imp id (fun ⟨g, m1, m2, m3⟩ => ⟨g, m1, ?_, m3⟩)⟩
    rcases hob.all x g m1 with hr | hg
    · exact absurd (masks_spec _ _ _ hr (fun y => listed[y]? = some true) I.closed haft) hnx'
    · exact hg
  · intro x ox dx hx hox hdx
    rcases (listed_set hlt).1 hx with rfl | hx
    · rw [hi] at hox; cases hox
      rw [hdx, hvi]
      simp only [Act.put]
      rw [Array.getElem?_setIfInBounds]; simp [I.tsz, hdn dx hdx]
    · rw [← hvd x (I.ldone x hx)]
      have := I.d1 x ox dx hx hox hdx
      cases hd : op.dst with
      | none => exact this
      | some d =>
        simp only [Act.put]
        have hne : d ≠ dx := by
          intro e; subst e
          have := C.apart x ox d hox hdx i op hi hd
          exact hnl (this ▸ hx)
        rw [Array.getElem?_setIfInBounds_ne hne]
        exact this
  · intro t u hu hno
    have h2 := I.d2 t u hu (fun j oj hj => hno j oj ((listed_set hlt).2 (.inr hj)))
    cases hd : op.dst with
    | none => exact h2
    | some d =>
      have hne : d ≠ t := fun e => hno i op ((listed_set hlt).2 (.inl rfl)) hi (by rw [hd, e])
      simp only [Act.put]
      rw [Array.getElem?_setIfInBounds_ne hne]
      exact h2
  · intro j oj dj hj hoj hdj
    rcases List.mem_cons.1 hj with rfl | hj
    · rw [hi] at hoj; cases hoj; exact hdn dj hdj
    · exact I.ltd j oj dj hj hoj hdj
theorem chkOrd_reach : ∀ {r done ch : List Nat}, chkOrd ops σ done ch r = true → ∀ i ∈ r, ∀ c ∈ ch, reachIn (masks ops ops.length) i c = true
  | j :: r, done, ch, h, i, hi, c, hc => by
    simp only [chkOrd, Bool.and_eq_true] at h
    obtain ⟨⟨_, h4⟩, h5⟩ := h
    rcases List.mem_cons.1 hi with rfl | hi
    · exact List.all_eq_true.1 h4 c hc
    · refine chkOrd_reach h5 i hi c ?_
      split
      · simp [hc]
      · exact hc

theorem SW.sound {ρ₀ : Env} {π : List Nat} {H : List Asn} {F S : List Nat} (hchk : chkPi ops σ π = true) (hn : ∀ t v, look ρ₀ t = some v → t < n.n) (h : SW P n ops Q o σ (piOf ops π) [] ρ₀ H)
    {a : Act} {w : World} (s : St H F S w) (fr : From o w F S) (ha : Fr n ρ₀ a) : wpAnyIn (fen n.ro) 0 P .any ops.toArray Q ops.length (Array.replicate ops.length false) a w := by
  simp only [chkPi, Bool.and_eq_true] at hchk
  obtain ⟨⟨hc1, hc2⟩, hc3⟩ := hchk
  have C := chk_spec hc1
  have hready : ∀ (listed : Array Bool) (i : Nat), i ∈ Region.ready .any ops.toArray listed → i < ops.length ∧ listed[i]? ≠ some true ∧ ∀ k ∈ afters ops i, listed[k]? = some true := by
    intro listed i hi
    simp only [Region.ready, List.mem_filter, List.mem_range, Bool.and_eq_true] at hi
    obtain ⟨h1, h2, h3⟩ := hi
    have h1' : i < ops.length := by simpa using h1
    refine ⟨h1', ?_, ?_⟩
    · intro e
      simp [Array.getD_eq_getD_getElem?, e] at h2
    · intro k hk
      rw [List.getElem?_toArray, List.getElem?_eq_getElem h1'] at h3
      simp only [Option.map_some, Option.getD_some] at h3
      simp only [afters, List.getElem?_eq_getElem h1'] at hk
      simp only [List.mem_map, List.mem_filter] at hk
      obtain ⟨e, ⟨he, hb⟩, rfl⟩ := hk
      have := (Array.all_eq_true_iff_forall_mem.1 h3) e (by simpa using he)
      simp only [bindsAny] at hb
      simp only [hb, Bool.not_true, Bool.false_or] at this
      simp only [Array.getD_eq_getD_getElem?] at this
      cases hq : listed[e.on]? with
      | none => simp [hq] at this
      | some b => simp [hq] at this; subst this; rfl
  have allReady : ∀ (listed : Array Bool), listed.size = ops.length → Closed ops (fun i => listed[i]? = some true) → (∀ m, m < ops.length → listed[m]? ≠ some true → ∃ i, i ∈ Region.ready .any ops.toArray listed) := by
    intro listed hsz hcl m
    induction m using Nat.strongRecOn with
    | _ m ih =>
      intro hm hne
      by_cases hall : ∀ k ∈ afters ops m, listed[k]? = some true
      · refine ⟨m, ?_⟩
        simp only [Region.ready, List.mem_filter, List.mem_range, Bool.and_eq_true]
        refine ⟨by simpa using hm, ?_, ?_⟩
        · have hlt : m < listed.size := by omega
          rw [Array.getD_eq_getD_getElem?, Array.getElem?_eq_getElem hlt]
          rw [Array.getElem?_eq_getElem hlt] at hne
          cases hv : listed[m] with
          | true => rw [hv] at hne; exact absurd rfl hne
          | false => rfl
        · rw [List.getElem?_toArray, List.getElem?_eq_getElem hm]
          simp only [Option.map_some, Option.getD_some]
          rw [Array.all_eq_true_iff_forall_mem]
          intro e he
          cases hb : Region.binds .any e with
          | false => rfl
          | true =>
            have := hall e.on (by
              simp only [afters, List.getElem?_eq_getElem hm, List.mem_map, List.mem_filter]
              exact ⟨e, ⟨by simpa using he, hb⟩, rfl⟩)
            simp [Array.getD_eq_getD_getElem?, this]
      · have hex : ∃ k, k ∈ afters ops m ∧ ¬ listed[k]? = some true := Classical.byContradiction fun hno => hall fun k hk => Classical.byContradiction fun hk' => hno ⟨k, hk, hk'⟩
        obtain ⟨k, hk, hk'⟩ := hex
        have hlt := C.back m _ (List.getElem?_eq_getElem hm) k hk
        exact ih k hlt (by omega) hk'
  have key : ∀ (fuel : Nat) (listed : Array Bool) (a : Act) (w : World) (done rest ch : List Nat) (pend : Pend) (H : List Asn) (F S : List Nat) (val : Nat → Value), ((List.range ops.length).filter (fun i => listed[i]? ≠ some true)).length ≤ fuel →
      SInv P n ops Q o σ ρ₀ listed a w done rest ch pend H F S val → wpAnyIn (fen n.ro) 0 P .any ops.toArray Q fuel listed a w := by
    intro fuel
    have finish : ∀ (listed : Array Bool) (a : Act) (w : World) (done rest ch : List Nat) (pend : Pend) (H : List Asn) (F S : List Nat) (val : Nat → Value), SInv P n ops Q o σ ρ₀ listed a w done rest ch pend H F S val → (∀ i, i < ops.length → listed[i]? = some true) → Q .normal a w := by
      intro listed a w done rest ch pend H F S val I hall
      obtain ⟨done, rest, ch, pend, val, I, hr⟩ := I.adv
      rcases hr with rfl | ⟨c, r, rfl, hcs⟩
      · refine I.sw w F S I.st I.fr a ⟨I.tsz, I.tdf, fun t v hv => ?_⟩
        rcases look_envOf hv with ⟨j, op, h1, h2, h3, rfl⟩ | ⟨h1, h2⟩
        · exact I.d1 j op t (hall j (List.getElem?_eq_some_iff.1 h2).1) h2 h3
        · exact I.d2 t v h1 (fun j op hj hop => h2 j op (I.ldone j hj) hop)
      · exfalso
        have ho := I.ord
        simp only [chkOrd, Bool.and_eq_true, Bool.not_eq_true', Nat.blt_eq] at ho
        have := any_beq.2 (I.ldone c (hall c ho.1.1.1.1))
        rw [ho.1.1.1.2] at this; cases this
    induction fuel with
    | zero =>
      intro listed a w done rest ch pend H F S val hcnt I
      have hall : ∀ i, i < ops.length → listed[i]? = some true := by
        intro i hi
        refine Classical.byContradiction fun hne => ?_
        have hmem : i ∈ (List.range ops.length).filter (fun i => listed[i]? ≠ some true) := by
          rw [List.mem_filter]; exact ⟨List.mem_range.2 hi, by simpa using hne⟩
        have : (List.range ops.length).filter (fun i => listed[i]? ≠ some true) = [] := List.eq_nil_of_length_eq_zero (by omega)
        rw [this] at hmem; cases hmem
      refine ⟨?_, finish listed a w done rest ch pend H F S val I hall⟩
      apply List.eq_nil_iff_forall_not_mem.2
      intro i hi
      have := hready listed i hi
      exact this.2.1 (hall i this.1)
    | succ fuel ih =>
      intro listed a w done rest ch pend H F S val hcnt I
      refine ⟨fun hnil => ?_, fun i hi => ?_⟩
      · refine finish listed a w done rest ch pend H F S val I (fun i hi => Classical.byContradiction fun hne => ?_)
        obtain ⟨x, hx⟩ := allReady listed I.lsz I.closed i hi hne
        rw [hnil] at hx; cases hx
      · obtain ⟨hlt, hnl, haft⟩ := hready listed i hi
        obtain ⟨done, rest, ch, pend, val, I, hr⟩ := I.adv
        have hoi : ops[i]? = some ops[i] := List.getElem?_eq_getElem hlt
        have hlz : i < listed.size := by rw [I.lsz]; exact hlt
        have hless : ((List.range ops.length).filter (fun j => (listed.setIfInBounds i true)[j]? ≠ some true)).length ≤ fuel := by
          have gen : ∀ (l : List Nat), l.Nodup → ((i ∈ l → (l.filter (fun j => (listed.setIfInBounds i true)[j]? ≠ some true)).length + 1 ≤ (l.filter (fun j => listed[j]? ≠ some true)).length) ∧ (l.filter (fun j => (listed.setIfInBounds i true)[j]? ≠ some true)).length ≤ (l.filter (fun j => listed[j]? ≠ some true)).length) := by
            intro l
            induction l with
            | nil => exact fun _ => ⟨fun h => (by cases h), Nat.le_refl _⟩
            | cons x r ihl =>
              intro hnd
              have hnd' := List.nodup_cons.1 hnd
              obtain ⟨k1, k2⟩ := ihl hnd'.2
              by_cases hxi : x = i
              · subst hxi
                have e1 : (decide ((listed.setIfInBounds x true)[x]? ≠ some true)) = false := by simp [listed_set hlz]
                have e2 : (decide (listed[x]? ≠ some true)) = true := by simpa using hnl
                simp only [List.filter_cons, e1, e2, if_true, List.length_cons]
                simp only [Bool.false_eq_true, if_false]
                exact ⟨fun _ => Nat.succ_le_succ k2, Nat.le_succ_of_le k2⟩
              · have e1 : (decide ((listed.setIfInBounds i true)[x]? ≠ some true)) = (decide (listed[x]? ≠ some true)) := by
                  rw [decide_eq_decide]; simp [listed_set hlz, hxi]
                simp only [List.filter_cons, e1]
                split
                · simp only [List.length_cons]
                  exact ⟨fun h => Nat.succ_le_succ (k1 ((List.mem_cons.1 h).resolve_left (fun e => hxi e.symm))), Nat.succ_le_succ k2⟩
                · exact ⟨fun h => k1 ((List.mem_cons.1 h).resolve_left (fun e => hxi e.symm)), k2⟩
          have := (gen _ List.nodup_range).1 (List.mem_range.2 hlt)
          omega
        by_cases hid : i ∈ done
        · have hcs : σ.any (Nat.beq i) = false := by
            cases h : σ.any (Nat.beq i) with
            | false => rfl
            | true => exact absurd (I.cdone i hid h) hnl
          obtain ⟨p1, p2, p3, p4⟩ := I.pok i _ hid hnl hoi
          have hfl : Fl P n ops (envB ops val ρ₀ i done) w ops[i] (val i) := p4.elim (fun h => h w) (fun ⟨g, _, h1, h2⟩ => h2 H w F S h1 I.st I.fr)
          obtain ⟨d', hd1, hd2, hd3, hd4, hd5⟩ := envB_of (val := val) (ρ₀ := ρ₀) I.ok hid
          rw [hd1] at hfl
          have hsl := I.slots C hoi hnl haft hd4 hd2 hd3
          have hltE := lt_env (ops := ops) (n := n) (val := val) I.lt0 (fun j op t hj => I.ltd j op t (hd5 j hj))
          obtain ⟨a₀, hfr, hag⟩ := frame_for I.tsz hltE ops[i] hsl
          have hwp : wpo P n ops Q ops[i] (fun a' w' => a' = a.put ops[i].dst (val i) ∧ w' = w) a w := by
            unfold wpo
            rcases hfl with ⟨hg, hrun⟩ | ⟨hg, hv⟩
            · rw [wanted_for hg hfr hag]
              simp only [if_true]
              refine wpIn_run (nodef p1) ((congrArg (fun s => s.run P w) (eval_virtual hag (nosel p1))).trans (hrun a₀ hfr)) ?_
              exact ⟨rfl, rfl⟩
            · rw [wanted_for hg hfr hag]
              simp only [Bool.false_eq_true, if_false]
              rw [hv]; exact ⟨rfl, trivial⟩
          refine wpo_wpOp hoi hwp ?_
          rintro a' w' ⟨rfl, rfl⟩
          exact ih _ _ _ done rest ch pend H F S val hless (I.float C hoi hid hnl haft hcs)
        · have hir := (I.cover i hlt).resolve_left hid
          rcases hr with rfl | ⟨c, r, rfl, hcs⟩
          · cases hir
          · have ho := I.ord
            simp only [chkOrd, Bool.and_eq_true, Bool.not_eq_true', Nat.blt_eq, hcs, if_true] at ho
            obtain ⟨⟨⟨⟨h1, h2⟩, h3⟩, h4⟩, h5⟩ := ho
            by_cases hic : i = c
            · subst hic
              have hia : ∀ k ∈ afters ops i, k ∈ done := fun k hk => any_beq.1 (List.all_eq_true.1 h3 k hk)
              have hsw := I.sw
              rw [piOf_cons hoi] at hsw
              obtain ⟨q1, q2, q⟩ := hsw ⟨w, F, S, I.st, I.fr⟩
              rcases q with ⟨_, Ψ, hΨ, hk⟩ | ⟨q, _⟩
              · have hsl := I.slots C hoi hnl haft I.ok hia hid
                have hltE := lt_env (ops := ops) (n := n) (val := val) I.lt0 (fun j op t hj => I.ltd j op t hj)
                obtain ⟨a₀, hfr, hag⟩ := frame_for I.tsz hltE ops[i] hsl
                have hwp : wpo P n ops Q ops[i] (fun a' w' => ∃ v, a' = a.put ops[i].dst v ∧ PostS o Ψ v w') a w := by
                  unfold wpo
                  rcases hΨ with ⟨hg, hrun⟩ | ⟨hg, hv⟩
                  · rw [wanted_for hg hfr hag]
                    simp only [if_true]
                    exact (hrun w F S I.st I.fr).wp (nodef q1) hfr (eval_virtual hag (nosel q1))
                  · rw [wanted_for hg hfr hag]
                    simp only [Bool.false_eq_true, if_false]
                    exact ⟨undef, rfl, H, F, S, by rw [hv]; exact ⟨rfl, rfl⟩, I.st, I.fr⟩
                refine wpo_wpOp hoi hwp ?_
                rintro a' w' ⟨v, rfl, H', F', S', hv, s', f'⟩
                obtain ⟨k1, k2⟩ := hk v H' hv
                exact ih _ _ _ (i :: done) r (i :: ch) pend H' F' S' _ hless (I.chain C hoi hnl haft hid hia hcs q2 h5 k1 k2 s' f')
              · rw [hcs] at q; cases q
            · exfalso
              have hir' := (List.mem_cons.1 hir).resolve_left hic
              have hb := masks_spec _ _ _ (chkOrd_reach h5 i hir' c (by simp)) (fun x => listed[x]? = some true) I.closed haft
              have := any_beq.2 (I.ldone c hb)
              rw [h2] at this; cases this
  refine key _ _ a w [] π [] [] H F S (fun _ => undef) (Nat.le_trans (List.length_filter_le _ _) (by simp)) ⟨by simp, ha.size, ha.defers, ?_, trivial, hc3, by simp, ?_, h, s, fr, ?_, by simp, by simp, ?_, fun t v hv _ => ha.vals t v hv, hn, by simp⟩
  · intro x hx
    simp [Array.getElem?_replicate] at hx
  · intro i hi
    exact .inr (any_beq.1 (List.all_eq_true.1 hc2 i (List.mem_range.2 hi)))
  · intro i hi
    simp [Array.getElem?_replicate] at hi
  · intro j o d hj
    simp [Array.getElem?_replicate] at hj

/-! ### the rules -/
def Rd1 (P : Program) (n : Fm) (o : Org) (ρ : Env) (op : Oper) (v : Value) (H : List Asn) : Prop := ∀ w F S, St H F S w → Runs P n ρ w op v w
theorem SG.draw [hm : Mixed P] {B : Exit → Act → World → Prop} {ks : List K} {ρ : Env} {H : List Asn} {id : Nat} (σ π : List Nat) (hchk : chkPi ops σ π = true) (hlt : ρ.all (fun p => Nat.blt p.1 n) = true) (h : SW P n ops (sem P n.ro B ks) o σ (piOf ops π) [] ρ H) :
    SG P B n o ks ρ H (.region id ops.toArray true) := by
  intro w F S s f a ha
  refine wpIn_region_any hm.h ?_
  have hd := Ext.drawn w
  have := SW.sound (P := P) (n := n) (a := a) (w := { w with drawn := w.drawn + 1 }) hchk (fun t v hv => by
      have hmem : ∀ (r : Env) t v, look r t = some v → (t, v) ∈ r := by
        intro r
        induction r with
        | nil => intro t v h; cases h
        | cons p r ih =>
          obtain ⟨s, u⟩ := p
          intro t v h
          rw [look_cons] at h
          split at h
          · rename_i e; subst e; cases h; simp
          · exact List.mem_cons_of_mem _ (ih t v h)
      have := List.all_eq_true.1 hlt (t, v) (hmem ρ t v hv)
      simpa [Nat.blt_eq] using this) h ⟨s.sep.ext hd (Apart.nilR _) (Apart.nilR _), fun b hb => Nat.lt_of_lt_of_le (s.ltF b hb) hd.size, fun b hb => Nat.lt_of_lt_of_le (s.ltS b hb) hd.size⟩ ⟨f.ext.trans0 hd, f.fF, f.fS⟩ ha
  simpa using this
section
variable {π : List (Nat × Oper)} {pend : Pend} {ρ : Env} {H : List Asn} {i d : Nat} {op : Op} {ty : TypeId} {pos : String} {af : Array Edge} {gd : Option (Nat × Bool)}
theorem SW.pure {v : Value} (hc : σ.any (Nat.beq i) = false) (hg : wants ops ρ gd = some true) (hd : Nat.blt d n = true) (hs : isSelect op = false) (hrun : ∀ w, Runs P n ρ w ⟨some d, op, ty, pos, af, gd⟩ v w) (h : SW P n ops Q o σ π pend ((d, v) :: ρ) H) :
    SW P n ops Q o σ ((i, ⟨some d, op, ty, pos, af, gd⟩) :: π) pend ρ H :=
  fun _ => ⟨hs, fun d' e => by cases e; simpa [Nat.blt_eq] using hd, .inr ⟨hc, v, by simp, .inl ⟨fun w => .inl ⟨hg, hrun w⟩, h⟩⟩⟩
theorem SW.pass {hd : Nat.blt d n = true} (hc : σ.any (Nat.beq i) = false) (hg : wants ops ρ gd = some false) (hs : isSelect op = false) (h : SW P n ops Q o σ π pend ((d, undef) :: ρ) H) :
    SW P n ops Q o σ ((i, ⟨some d, op, ty, pos, af, gd⟩) :: π) pend ρ H :=
  fun _ => ⟨hs, fun d' e => by cases e; simpa [Nat.blt_eq] using hd, .inr ⟨hc, undef, by simp, .inl ⟨fun w => .inr ⟨hg, rfl⟩, h⟩⟩⟩
theorem SW.read {v : Value} (hc : σ.any (Nat.beq i) = false) (hg : wants ops ρ gd = some true) (hd : Nat.blt d n = true) (hs : isSelect op = false) (hrun : Rd1 P n o ρ ⟨some d, op, ty, pos, af, gd⟩ v H) (h : SW P n ops Q o σ π ((i, Rd1 P n o ρ ⟨some d, op, ty, pos, af, gd⟩ v) :: pend) ((d, v) :: ρ) H) :
    SW P n ops Q o σ ((i, ⟨some d, op, ty, pos, af, gd⟩) :: π) pend ρ H :=
  fun _ => ⟨hs, fun d' e => by cases e; simpa [Nat.blt_eq] using hd, .inr ⟨hc, v, by simp, .inr ⟨_, hrun, fun H w F S h s f => .inl ⟨hg, h w F S s⟩, h⟩⟩⟩
theorem SW.step {Ψ : Value → List Asn → Prop} (hc : σ.any (Nat.beq i) = true) (hg : wants ops ρ gd = some true) (hd : Nat.blt d n = true) (hs : isSelect op = false) (h : CS P n o ρ H ⟨some d, op, ty, pos, af, gd⟩ Ψ)
    (k : ∀ v H', Ψ v H' → Obl ops i pend H' ∧ SW P n ops Q o σ π pend ((d, v) :: ρ) H') : SW P n ops Q o σ ((i, ⟨some d, op, ty, pos, af, gd⟩) :: π) pend ρ H :=
  fun _ => ⟨hs, fun d' e => by cases e; simpa [Nat.blt_eq] using hd, .inl ⟨hc, Ψ, .inl ⟨hg, h⟩, k⟩⟩
theorem SW.step0 {Ψ : Value → List Asn → Prop} (hc : σ.any (Nat.beq i) = true) (hg : wants ops ρ gd = some true) (hs : isSelect op = false) (h : CS P n o ρ H ⟨none, op, ty, pos, af, gd⟩ Ψ)
    (k : ∀ v H', Ψ v H' → Obl ops i pend H' ∧ SW P n ops Q o σ π pend ρ H') : SW P n ops Q o σ ((i, ⟨none, op, ty, pos, af, gd⟩) :: π) pend ρ H :=
  fun _ => ⟨hs, fun d' e => (by cases e), .inl ⟨hc, Ψ, .inl ⟨hg, h⟩, k⟩⟩
theorem SW.passS (hc : σ.any (Nat.beq i) = true) (hg : wants ops ρ gd = some false) (hd : Nat.blt d n = true) (hs : isSelect op = false) (k : Obl ops i pend H ∧ SW P n ops Q o σ π pend ((d, undef) :: ρ) H) :
    SW P n ops Q o σ ((i, ⟨some d, op, ty, pos, af, gd⟩) :: π) pend ρ H :=
  fun _ => ⟨hs, fun d' e => by cases e; simpa [Nat.blt_eq] using hd, .inl ⟨hc, _, .inr ⟨hg, rfl⟩, by rintro v H' ⟨rfl, rfl⟩; exact k⟩⟩
theorem SW.fact {φ : Prop} (hφ : ∀ w F S, St H F S w → φ) (h : φ → SW P n ops Q o σ π pend ρ H) : SW P n ops Q o σ π pend ρ H := by
  cases π with
  | nil => exact fun w F S s f => h (hφ w F S s) w F S s f
  | cons p π => exact fun ⟨w, F, S, s, f⟩ => h (hφ w F S s) ⟨w, F, S, s, f⟩
theorem wants_congr {ρ ρ' : Env} (hl : ∀ t, look ρ t = look ρ' t) (g : Option (Nat × Bool)) : wants ops ρ g = wants ops ρ' g := by
  unfold wants
  split
  · rfl
  · split
    · rw [hl]
    · rfl
theorem Fr.congr {ρ ρ' : Env} {a : Act} (hl : ∀ t, look ρ t = look ρ' t) (h : Fr n ρ' a) : Fr n ρ a := ⟨h.size, h.defers, fun t v hv => h.vals t v (by rw [← hl]; exact hv)⟩
theorem Acts.congr {ρ ρ' : Env} {w : World} {op : Oper} {Φ : Value → World → Prop} (hl : ∀ t, look ρ t = look ρ' t) (h : Acts P n ρ w op Φ) : Acts P n ρ' w op Φ := by
  rcases h with ⟨v, w', h, k⟩ | ⟨hd, w', h, k⟩ | ⟨f, vs, h, k⟩ | ⟨l, fn, tmps, asv, body, h, k⟩
  · exact .inl ⟨v, w', fun a ha => h a (ha.congr hl), k⟩
  · exact .inr (.inl ⟨hd, w', fun a ha => h a (ha.congr hl), k⟩)
  · exact .inr (.inr (.inl ⟨f, vs, fun a ha => h a (ha.congr hl), k⟩))
  · exact .inr (.inr (.inr ⟨l, fn, tmps, asv, body, fun a ha => h a (ha.congr hl), k⟩))
theorem Fl.congr {ρ ρ' : Env} {w : World} {op : Oper} {v : Value} (hl : ∀ t, look ρ t = look ρ' t) (h : Fl P n ops ρ w op v) : Fl P n ops ρ' w op v := by
  unfold Fl at h ⊢
  rw [← wants_congr hl]
  exact h.imp (fun ⟨a, b⟩ => ⟨a, fun x hx => b x (hx.congr hl)⟩) id
theorem extE_congr {ρ ρ' : Env} (hl : ∀ t, look ρ t = look ρ' t) (d : Option Nat) (v : Value) (t : Nat) : look (extE d v ρ) t = look (extE d v ρ') t := by
  cases d with
  | none => exact hl t
  | some d => simp only [extE]; rw [look_cons, look_cons, hl]
theorem SW.congr : ∀ {π : List (Nat × Oper)} {pend : Pend} {ρ ρ' : Env} {H : List Asn}, (∀ t, look ρ t = look ρ' t) → SW P n ops Q o σ π pend ρ H → SW P n ops Q o σ π pend ρ' H
  | [], _, _, _, _, hl, h => fun w F S s f a ha => h w F S s f a (ha.congr hl)
  | (i, op) :: π, pend, ρ, ρ', H, hl, h => fun he => by
    obtain ⟨q1, q2, q⟩ := h he
    refine ⟨q1, q2, ?_⟩
    rcases q with ⟨c, Ψ, hΨ, hk⟩ | ⟨c, v, hn, q⟩
    · refine .inl ⟨c, Ψ, ?_, fun v H' hv => ⟨(hk v H' hv).1, SW.congr (extE_congr hl _ _) (hk v H' hv).2⟩⟩
      rw [← wants_congr hl]
      exact hΨ.imp (fun ⟨a, b⟩ => ⟨a, fun w F S s f => (b w F S s f).congr hl⟩) id
    · refine .inr ⟨c, v, hn, ?_⟩
      rcases q with ⟨h1, h2⟩ | ⟨g, h1, h2, h3⟩
      · exact .inl ⟨fun w => (h1 w).congr hl, SW.congr (extE_congr hl _ _) h2⟩
      · exact .inr ⟨g, h1, fun H w F S a b c => (h2 H w F S a b c).congr hl, SW.congr (extE_congr hl _ _) h3⟩
theorem SW.be {v v' : Value} (d : Nat) (hv : look ρ d = some v) (e : v = v') (h : SW P n ops Q o σ π pend ((d, v') :: ρ) H) : SW P n ops Q o σ π pend ρ H := by
  subst e
  refine h.congr (fun t => ?_)
  rw [look_cons]
  split
  · rename_i e; subst e; exact hv.symm
  · rfl
theorem SW.caseB {b : Bool} (d : Nat) (hv : look ρ d = some (.bool b)) (ht : b = true → SW P n ops Q o σ π pend ((d, .bool true) :: ρ) H) (hf : b = false → SW P n ops Q o σ π pend ((d, .bool false) :: ρ) H) : SW P n ops Q o σ π pend ρ H := by
  cases b
  · exact SW.be d hv rfl (hf rfl)
  · exact SW.be d hv rfl (ht rfl)
theorem SW.caseP {p : Prop} {dp : Decidable p} (d : Nat) (hv : look ρ d = some (.bool (@decide p dp))) (ht : p → SW P n ops Q o σ π pend ((d, .bool true) :: ρ) H) (hf : ¬ p → SW P n ops Q o σ π pend ((d, .bool false) :: ρ) H) : SW P n ops Q o σ π pend ρ H :=
  SW.caseB d hv (fun h => ht (of_decide_eq_true h)) (fun h => hf (of_decide_eq_false h))
theorem SW.isT {b : Bool} (d : Nat) (hv : look ρ d = some (.bool b)) (e : b = true) (h : SW P n ops Q o σ π pend ((d, .bool true) :: ρ) H) : SW P n ops Q o σ π pend ρ H := SW.be d hv (congrArg Value.bool e) h
theorem SW.isF {b : Bool} (d : Nat) (hv : look ρ d = some (.bool b)) (e : b = false) (h : SW P n ops Q o σ π pend ((d, .bool false) :: ρ) H) : SW P n ops Q o σ π pend ρ H := SW.be d hv (congrArg Value.bool e) h
theorem SW.nil {B : Exit → Act → World → Prop} {ks : List K} (h : SN P B n o ks ρ H) : SW P n ops (sem P n.ro B ks) o σ [] pend ρ H := fun w F S s f a ha => h w F S s f a ha
end
end
end Brv
/-
  A return of a struct that lives in a block.
-/
set_option linter.unusedVariables false
namespace Brv
open Go
section
variable {P : Program} {n : Nat} {ks : List K} {ρ : Env} {w : World} {fn : Func} {Φ : Value → World → Prop}
theorem G.retC {t : Nat} {T : TypeId} {s b : Nat} [ta : TyAgg P T s] {cs : Array Value} {U : TypeId} {fz : Nat × Nat} (hr : fn.results = #[.cell t T]) (hv : look ρ t = some (.pointer (some ⟨b, 0, none⟩)))
    (hb : Blk w b cs U fz) (hs : cs.size = s) (h : Φ (.agg cs) w) : G P (Func.base P fn Φ) ⟨n, [], none⟩ ks ρ w .ret := by
  refine G.retM (n := ⟨n, [], none⟩) rfl (fun a ha => ?_) h
  have h1 := ha.vals t _ hv
  have hl := run_loadN (P := P) (T := T) (s := s) (w := w) (p := ⟨b, 0, none⟩) (vs := cs.toList) hb.cellsAll (by simpa using hs)
  simp only [Instr.loadAt, Instr.sureAddr] at hl
  simp [results, hr, h1, asAddr] at hl ⊢
  simp [hl]
end
end Brv
/-
  Operations on rows that are owned.
-/
set_option linter.unusedVariables false
set_option linter.unusedSimpArgs false
namespace Brv
open Go
/-- Bytes that stay. -/
def bs (a : Option Addr) (n : Nat) (l : List UInt8) : Asn := sh (fun w => Bs w a n l)
instance (a : Option Addr) (n : Nat) (l : List UInt8) : Pers (bs a n l) := ⟨fun _ _ _ h => h⟩
theorem St.bs {H H' : List Asn} {a : Option Addr} {n : Nat} {l : List UInt8} {F S : List Nat} {w : World} (s : St H F S w) (h : Sel H (Brv.bs a n l) H') : Bs w a n l := s.sh h
theorem Imp.add {H : List Asn} {A : Asn} (h : ∀ w, A.P [] [] w) : Imp H (A :: H) := fun F S w s =>
  ⟨F, S, ⟨⟨[], [], F, S, ⟨by simp, subR _, by simp, subR _⟩, ⟨Apart.nilL _, Apart.nilL _, Apart.nilL _⟩, h w, s.sep⟩, s.ltF, s.ltS⟩, From.refl _ _ _⟩
theorem Imp.ownNil {H : List Asn} (E size : Nat) : Imp H (own E size none 0 0 [] :: H) := Imp.add fun w => Own.nil w E size
theorem Imp.ownBlk {H H' : List Asn} {E size b k : Nat} {cs : List Value} (h : Sel H (blk b cs E) H') (hk : cs.length = k * size) (hm : k ≤ maxLen) : Imp H (own E size (some ⟨b, 0, none⟩) k k cs :: H') :=
  Imp.same h fun F S w hA => by
    obtain ⟨rfl, hB⟩ := hA
    have := Own.blk (size := size) hB (by simpa using hk) hm
    rw [List.toList_toArray] at this
    exact this
theorem Imp.ownBs {H H' : List Asn} {E k c : Nat} {a : Option Addr} {l : List UInt8} (h : Sel H (own E 1 a k c (vbs l)) H') : Imp H (bs a k l :: H') :=
  Imp.freeze h fun F S w hA => by
    have hA : Own w E 1 a k c (vbs l) F := hA
    have hl := hA.len
    rw [vbs_length] at hl
    obtain rfl : k = l.length := by omega
    exact Bs.of_own hA
theorem Imp.ownSh {H H' : List Asn} {E size k c : Nat} {a : Option Addr} {xs : List Value} {p : World → Prop} (h : Sel H (own E size a k c xs) H') (hp : ∀ w, Cells w a xs → p w) : Imp H (sh p :: H') := Imp.freeze h fun F S w hA => hp w hA.cells
theorem Imp.blkSh {H H' : List Asn} {b : Nat} {cs : List Value} {T : TypeId} {p : World → Prop} (h : Sel H (blk b cs T) H') (hp : ∀ w, Blk w b cs.toArray T (0, 0) → p w) : Imp H (sh p :: H') := Imp.freeze h fun F S w hA => hp w hA.2
/-- Two facts that stay are one. -/
theorem Imp.both {H H' H'' : List Asn} {p q : World → Prop} (h : Sel H (sh p) H') (k : Sel H' (sh q) H'') : Imp H (sh (fun w => p w ∧ q w) :: H'') := fun F S w s => by
  obtain ⟨F1, S1, F2, S2, ⟨a, b, c, d⟩, ⟨e, f, g⟩, hA, hH⟩ := h.sep s.sep
  obtain ⟨F3, S3, F4, S4, ⟨a', b', c', d'⟩, ⟨e', f', g'⟩, hB, hH'⟩ := k.sep hH
  exact ⟨F, S, ⟨⟨[], S1 ++ S3, F4, S4, ⟨by simp, subT b' b, subL c (subT c' d), subT d' d⟩, ⟨Apart.nilL _, Apart.nilL _, Apart.appL (g.mono (subR _) b') g'⟩,
    fun M w' he hM => ⟨hA M w' he (hM.mono (inL _ _) (subR _)), hB M w' he (hM.mono (inR _ _) (subR _))⟩, hH'⟩, s.ltF, s.ltS⟩, From.refl _ _ _⟩
theorem Imp.pure {H : List Asn} {p : World → Prop} (h : ∀ w, p w) : Imp H (sh p :: H) := Imp.add fun w M w' _ _ => h w'
theorem Imp.under {H H' : List Asn} {A : Asn} (h : Imp H H') : Imp (A :: H) (A :: H') := fun F S w s => by
  obtain ⟨F1, S1, F2, S2, ⟨a, b, c, d⟩, ⟨e, f, g⟩, hA, hH⟩ := s.sep
  obtain ⟨F', S', s', f'⟩ := h F2 S2 w ⟨hH, fun x hx => s.ltF x (b hx), fun x hx => s.ltS x (d hx)⟩
  have hF : ∀ x ∈ F', x ∈ F2 := fun x hx => (f'.fF x hx).elim id (fun h => absurd (s'.ltF x hx) (by simp only at h; omega))
  have hS : ∀ x ∈ S', x ∈ S2 ∨ x ∈ F2 := fun x hx => (f'.fS x hx).elim .inl (fun h => h.elim .inr (fun h => absurd (s'.ltS x hx) (by simp only at h; omega)))
  refine ⟨F1 ++ F', S1 ++ S', ⟨⟨F1, S1, F', S', ⟨inL _ _, inR _ _, inL _ _, inR _ _⟩, ⟨fun x hx hy => e x hx (hF x hy), fun x hx hy => (hS x hy).elim (f x hx) (e x hx), fun x hx hy => g x hx (hF x hy)⟩, hA, s'.sep⟩, ?_, ?_⟩, ⟨Ext.refl _ _, ?_, ?_⟩⟩
  · intro x hx; exact (List.mem_append.1 hx).elim (fun h => s.ltF x (a h)) (fun h => s'.ltF x h)
  · intro x hx; exact (List.mem_append.1 hx).elim (fun h => s.ltS x (c h)) (fun h => s'.ltS x h)
  · intro x hx; exact (List.mem_append.1 hx).elim (fun h => .inl (a h)) (fun h => .inl (b (hF x h)))
  · intro x hx; exact (List.mem_append.1 hx).elim (fun h => .inl (c h)) (fun h => (hS x h).elim (fun h => .inl (d h)) (fun h => .inr (.inl (b h))))
/-- A list in a new order, some left out. -/
theorem Imp.pick {H H0 H1 : List Asn} (h : Sels H H0 H1) : Imp H H0 := Imp.sels h
theorem St.ownG {H H' : List Asn} {E size : Nat} {a : Option Addr} {n c : Nat} {xs : List Value} {F S : List Nat} {w : World} (s : St H F S w) (h : Sel H (Brv.own E size a n c xs) H') (hn : 0 < n) : ∃ g, a = some ⟨g, 0, none⟩ := by
  obtain ⟨M, hM⟩ := s.own h
  rcases hM.2 with ⟨_, rfl, _⟩ | ⟨g, cur, rfl, _⟩
  · omega
  · exact ⟨g, rfl⟩
theorem St.ownL {H H' : List Asn} {E size : Nat} {a : Option Addr} {n c : Nat} {xs : List Value} {F S : List Nat} {w : World} (s : St H F S w) (h : Sel H (Brv.own E size a n c xs) H') : xs.length = n * size ∧ n ≤ c := by
  obtain ⟨M, hM⟩ := s.own h
  exact ⟨hM.len, hM.le⟩
section
variable {P : Program} {n : Fm} {o : Org} {ρ : Env} {H H0 H1 : List Asn} {d : Option Nat} {ty : TypeId} {pos : String} {af : Array Edge} {gd : Option (Nat × Bool)}
theorem CS.app {T E size bytes : Nat} {z : Value} [t : TySlice P T E size bytes z] {d : Nat} {s x : Operand} {a : Option Addr} {m0 cap : Nat} {xs : List Value} {b : Option Addr} {m c : Nat} {news : List Value}
    (hs : ev ρ s = some (.slice a m0 cap)) (hx : ev ρ x = some (.slice b m c)) (sel : Sel H (own E size a m0 cap xs) H1) (hnews : ∀ w F S, St H F S w → Cells w b news) (hl : news.length = m * size) (h1 : ∀ u ∈ news, u.oneCell' = true) (h63 : m0 + m ≤ maxLen) (hby : (m0 + m) * bytes ≤ 140737488355328) :
    CS P n o ρ H ⟨some d, .call ⟨.builtin .append, #[s, x], #[T, T]⟩, ty, pos, af, gd⟩ (fun v H' => ∃ a' c', v = .slice a' (m0 + m) c' ∧ H' = own E size a' (m0 + m) c' (xs ++ news) :: H1) := by
  refine CS.mono (CS.upd sel (φ := fun v A' => ∃ a' c', v = .slice a' (m0 + m) c' ∧ A' = own E size a' (m0 + m) c' (xs ++ news)) fun w F S F1 S1 st hA hlt => ?_) (by rintro v H' ⟨_, ⟨a', c', rfl, rfl⟩, rfl⟩; exact ⟨a', c', rfl, rfl⟩)
  obtain ⟨v, w', hr, a', c', M', rfl, he, hM, ho⟩ := R.app (P := P) (n := n) (d := d) (ty := ty) (pos := pos) (af := af) (gd := gd) (T := T) hs hx hA (hnews w F S st) hl h1 h63 hby
  exact .inl ⟨_, w', hr, _, M', [], ⟨a', c', rfl, rfl⟩, ho, ho.lt, by simp, ⟨he, hM, by simp⟩⟩
theorem CS.strBytes {S T E : TypeId} [s : TyStr P S] [t : TyBytes P T E] {d : Nat} {x : Operand} {l : List UInt8} (hx : ev ρ x = some (.string (str l))) :
    CS P n o ρ H ⟨some d, .convert S T x, ty, pos, af, gd⟩ (fun v H' => ∃ a c, v = .slice a l.length c ∧ l.length ≤ c ∧ H' = bs a l.length l :: H) := fun w F Sh st fr => by
  obtain ⟨v, w', hr, b, cap, rfl, hb, hlt, hc, he, hcl⟩ := R.strBytes (P := P) (n := n) (d := d) (ty := ty) (pos := pos) (af := af) (gd := gd) (S := S) (T := T) (E := E) (w := w) hx
  obtain ⟨F', S', s', f'⟩ := st.grow fr he (A := bs (some ⟨b, 0, none⟩) l.length l) (F' := []) (S' := [b]) (by simp) (fun x hx => by rw [List.mem_singleton.1 hx]; exact ⟨hlt, .inl (by omega)⟩)
    (fun M w'' he' hM => ⟨hcl.ext he' (fun p hp => by cases hp; exact hM b (by simp)), rfl⟩) (fun x hx hy => by rw [List.mem_singleton.1 hx] at hy; have := st.ltF b hy; omega)
  exact .inl ⟨_, w', hr, _, F', S', ⟨_, cap, rfl, hc, rfl⟩, s', f'⟩
theorem CS.make {T E size bytes : Nat} {z : Value} [t : TySlice P T E size bytes z] {d : Nat} {x y : Operand} {k k' : IntKind} {l c : Int} (hx : ev ρ x = some (.int k l)) (hy : ev ρ y = some (.int k' c)) (h0 : 0 ≤ l) (h1 : l ≤ c) (h2 : (bytes : Int) * c ≤ 281474976710656) (h3 : c ≤ 9223372036854775807) (cs : List Value) (hcs : (madeCells z.cells (c.toNat * size)).toList = cs) :
    CS P n o ρ H ⟨some d, .makeSlice T x y, ty, pos, af, gd⟩ (fun v H' => ∃ b, v = .slice (some ⟨b, 0, none⟩) l.toNat c.toNat ∧ H' = blk b cs E :: H) :=
  CS.mk (fun w => R.make hx hy h0 h1 h2 h3) hcs
theorem CS.buildS {T E size bytes : Nat} {z : Value} [t : TySlice P T E size bytes z] {d len : Nat} {parts : Array (Nat × Operand)} {vs : List (Nat × Value)} {A : Array Value} (hp : evps ρ parts.toList = some vs) (hl : len * size ≤ 16777216)
    (hf : Instr.fill (fun i => some (i * size, size)) ((Array.range (len * size)).map (fun i => z.cells[i % z.cells.size]!)) vs = some A) (cs : List Value) (hcs : A.toList = cs) :
    CS P n o ρ H ⟨some d, .buildSlice T len parts, ty, pos, af, gd⟩ (fun v H' => ∃ b, v = .slice (some ⟨b, 0, none⟩) len len ∧ H' = blk b cs E :: H) :=
  CS.mk (fun w => R.buildS hp hl hf) hcs
/-- A struct is stored over a part of a block. -/
theorem CS.stN {T : TypeId} {s : Nat} [t : TyAgg P T s] {x y : Operand} {b k : Nat} {cs cs' vs : List Value} {U : TypeId} (hx : ev ρ x = some (.pointer (some ⟨b, k, none⟩))) (hy : ev ρ y = some (.agg vs.toArray)) (sel : Sel H (blk b cs U) H1) (hs : vs.length = s) (ho : k + vs.length ≤ cs.length) (h1 : ∀ u ∈ vs, u.oneCell' = true) (hcs : cs.take k ++ vs ++ cs.drop (k + vs.length) = cs') :
    CS P n o ρ H ⟨none, .store T x y, ty, pos, af, gd⟩ (fun _ H' => H' = blk b cs' U :: H1) := by
  refine CS.mono (CS.upd sel (φ := fun _ A' => A' = blk b cs' U) fun w F S F1 S1 st hA hlt => ?_) (by rintro v H' ⟨_, rfl, rfl⟩; rfl)
  obtain ⟨rfl, hB⟩ := hA
  obtain ⟨w', hr, he, hsz, hB'⟩ := R.stN (P := P) (n := n) (T := T) (ty := ty) (pos := pos) (af := af) (gd := gd) hx hy hB (by simpa using hs) (by simpa using ho) (by simpa using h1)
  refine .inr (.inl ⟨rfl, w', hr, _, [b], [], rfl, ⟨rfl, by rw [← hcs]; simpa using hB'⟩, fun x hx => by have := hlt x hx; omega, by simp, ⟨he, fun x hx => .inl hx, by simp⟩⟩)
/-- A struct is stored over a whole block. -/
theorem CS.stA {T : TypeId} {s : Nat} [t : TyAgg P T s] {x y : Operand} {b : Nat} {cs vs : List Value} {U : TypeId} (hx : ev ρ x = some (.pointer (some ⟨b, 0, none⟩))) (hy : ev ρ y = some (.agg vs.toArray)) (sel : Sel H (blk b cs U) H1) (hs : vs.length = s) (ho : cs.length = s) (h1 : ∀ u ∈ vs, u.oneCell' = true) :
    CS P n o ρ H ⟨none, .store T x y, ty, pos, af, gd⟩ (fun _ H' => H' = blk b vs U :: H1) :=
  CS.stN hx hy sel hs (by omega) h1 (by rw [List.take_zero, List.nil_append, Nat.zero_add, List.drop_eq_nil_of_le (by omega), List.append_nil])
/-- A cell of a row that is owned is written. -/
theorem CS.stO {T : TypeId} [t : TyOne P T] {x y : Operand} {E size g j k c : Nat} {xs : List Value} {v : Value} (hx : ev ρ x = some (.pointer (some ⟨g, j, none⟩))) (hy : ev ρ y = some v) (sel : Sel H (own E size (some ⟨g, 0, none⟩) k c xs) H1) (hj : j < k * size) (h1 : v.oneCell' = true) :
    CS P n o ρ H ⟨none, .store T x y, ty, pos, af, gd⟩ (fun _ H' => H' = own E size (some ⟨g, 0, none⟩) k c (xs.set j v) :: H1) := by
  refine CS.mono (CS.upd sel (φ := fun _ A' => A' = own E size (some ⟨g, 0, none⟩) k c (xs.set j v)) fun w F S F1 S1 st hA hlt => ?_) (by rintro v H' ⟨_, rfl, rfl⟩; rfl)
  rcases hA with ⟨hlen, ⟨h, _⟩ | ⟨g', cur, hg, hF, hB, hkc, hcm, hcs, ht⟩⟩
  · cases h
  · cases hg
    subst hF
    have hsz : j < cur.size := by have := Nat.mul_le_mul_right size hkc; omega
    obtain ⟨w', hr, he, hsz', hB'⟩ := R.st (P := P) (n := n) (T := T) (ty := ty) (pos := pos) (af := af) (gd := gd) hx hy hB hsz h1
    refine .inr (.inl ⟨rfl, w', hr, _, [g], [], rfl, ⟨by simpa using hlen, .inr ⟨g, _, rfl, rfl, hB', hkc, hcm, by simpa using hcs, ?_⟩⟩, fun x hx => by have := hlt x hx; omega, by simp, ⟨he, fun x hx => .inl hx, by simp⟩⟩)
    rw [Array.toList_setIfInBounds, List.take_set, ht]
end
section
variable {P : Program} {n : Nat} {o : Org} {ks : List K} {ρ : Env} {H H' : List Asn} {fn : Func} {Φ : Value → List Asn → Prop}
theorem SG.retC {t : Nat} {T : TypeId} {s b : Nat} [ta : TyAgg P T s] {cs : List Value} {U : TypeId} {H1 : List Asn} (hr : fn.results = #[.cell t T]) (hv : look ρ t = some (.pointer (some ⟨b, 0, none⟩))) (hb : Sel H (blk b cs U) H1) (hl : cs.length = s) (i : Imp H H') (h : Φ (.agg cs.toArray) H') :
    SG P (Func.base P fn (PostS o Φ)) ⟨n, [], none⟩ o ks ρ H .ret := fun w F S st f => G.retC hr hv (st.blk hb) (by simpa using hl) (post_of i h st f)
theorem SG.retCT {t u : Nat} {T : TypeId} {s b : Nat} [ta : TyAgg P T s] {cs : List Value} {U : TypeId} {H1 : List Asn} {x : Value} (hr : fn.results = #[.cell t T, .tmp u]) (hv : look ρ t = some (.pointer (some ⟨b, 0, none⟩))) (hx : look ρ u = some x) (hb : Sel H (blk b cs U) H1) (hl : cs.length = s) (i : Imp H H') (h : Φ (.tuple #[.agg cs.toArray, x]) H') :
    SG P (Func.base P fn (PostS o Φ)) ⟨n, [], none⟩ o ks ρ H .ret := fun w F S st f => G.retCT hr hv hx (st.blk hb) (by simpa using hl) (post_of i h st f)
end
end Brv
/-
  Iterators, and loops over them, by assertions.
-/
set_option linter.unusedVariables false
set_option linter.unusedSimpArgs false
namespace Brv
open Go
theorem Sels.appL : ∀ (H0 H1 : List Asn), Sels (H0 ++ H1) H0 H1
  | [], _ => .nil
  | _ :: H0, H1 => .cons .here (Sels.appL H0 H1)
theorem Sep.split {H0 H1 : List Asn} {F S : List Nat} {w : World} (h : Sep (H0 ++ H1) F S w) : Sep2 H0 H1 F S w := (Sels.appL H0 H1).split h
/-- What a function (with what it has captured, lb) promises when it is ranged over: it yields N times, the k-th time what E k tells. -/
def IterS (P : Program) (gf : FuncId) (lb : List Value) (HI : List Asn) (N : Nat) (E : Nat → List Value → (World → Prop) → Prop) : Prop :=
  ∀ (y : Value) (J Jx : Nat → Asn), (∀ k vs p, k < N → E k vs p → YSpec P y vs [sh p, J k] (fun b H' => H' = [if b then J (k + 1) else Jx (k + 1)])) →
    SpecS P gf (y :: lb) (J 0 :: HI) (fun _ H' => H' = J N :: HI ∨ ∃ k, k ≤ N ∧ H' = Jx k :: HI)

/-- The list of a frame's marks, that is to be taken at its end. -/
def dfr (d : Nat) : Asn where
  P := fun F _ w => F = [d] ∧ w.heap[d]? = some (.deferred (some []))
  ext := fun F S M w w' h he hF _ => ⟨h.1, (he.keep d (Array.getElem?_eq_some_iff.1 h.2).1 (hF d (by rw [h.1]; simp))).trans h.2⟩
inductive Dfrs : List Deferred → List Asn → List Asn → Prop
  | nil {H : List Asn} : Dfrs [] H H
  | cons {d : Nat} {ds : List Deferred} {H H' H'' : List Asn} : Sel H (dfr d) H' → Dfrs ds H' H'' → Dfrs (⟨.collected d, #[]⟩ :: ds) H H''
theorem Dfrs.leave {P : Program} {ds : List Deferred} {H H' : List Asn} (h : Dfrs ds H H') : ∀ {o : Org} {F S : List Nat} {w : World}, St H F S w → From o w F S → ∃ w' F' S', Leave P ds w w' ∧ St H' F' S' w' ∧ From o w' F' S' := by
  induction h with
  | nil => exact fun {o F S w} s f => ⟨w, F, S, rfl, s, f⟩
  | cons hs _ ih =>
    rename_i d ds H H' H'' _
    intro o F S w s f
    obtain ⟨F1, S1, F2, S2, ⟨a, b, c, e⟩, ⟨p, q, r⟩, ⟨hF, hd⟩, hH⟩ := hs.sep s.sep
    subst hF
    have he := Ext.putObj w d (.deferred none)
    obtain ⟨w', F', S', hl, s', f'⟩ := ih (o := o) (F := F2) (S := S2) (w := w.putObj d (.deferred none)) ⟨hH.ext he p.symm q.symm, fun x hx => Nat.lt_of_lt_of_le (s.ltF x (b hx)) he.size, fun x hx => Nat.lt_of_lt_of_le (s.ltS x (e hx)) he.size⟩
      ⟨f.ext.transN he (fun x hx => f.fF x (a hx)), fun x hx => f.fF x (b hx), fun x hx => f.fS x (e hx)⟩
    exact ⟨w', F', S', ⟨d, _, rfl, run_takeDeferred hd, hl⟩, s', f'⟩

def roundS {X Y : Type} (HJ : Nat → X → List Asn) (I : Nat → X → Prop) (HX : Code → Nat → Y → List Asn) (IX : Code → Nat → Y → Prop) (k : Nat) (o : Org) : Exit → Act → World → Prop
  | .normal, _, w' => ∃ x F S, I (k + 1) x ∧ St (HJ (k + 1) x) F S w' ∧ From o w' F S
  | .ret, _, w' => ∃ y F S, IX .ret (k + 1) y ∧ St (HX .ret (k + 1) y) F S w' ∧ From o w' F S
  | .exit id, _, w' => ∃ y F S, IX (.exit id) (k + 1) y ∧ St (HX (.exit id) (k + 1) y) F S w' ∧ From o w' F S
  | .goto t, _, w' => ∃ y F S, IX (.goto t) (k + 1) y ∧ St (HX (.goto t) (k + 1) y) F S w' ∧ From o w' F S
  | _, _, _ => False
def assignS (P : Program) (l : Nat) (RB : Org → Exit → Act → World → Prop) (body : Code) (o : Org) : Exit → Act → World → Prop
  | .normal, a, w₂ => ∃ Hb F₂ S₂, St Hb F₂ S₂ w₂ ∧ From o w₂ F₂ S₂ ∧ ∀ wb F S, St Hb F S wb → body.wpIn (fen (some l)) 0 P (RB ⟨wb, F, S⟩) a wb
  | _, _, _ => False

section
variable {P : Program} {B : Exit → Act → World → Prop} {n : Nat} {df : List Deferred} {ks : List K} {ρ : Env} {o : Org} {H : List Asn}
theorem SN.roundA {l : Nat} {RB : Org → Exit → Act → World → Prop} {body : Code} (h : ∀ o', SG P (RB o') ⟨n, [], some l⟩ o' [] ρ H body) : SN P (assignS P l RB body o) ⟨n, [], some l⟩ o [] ρ H :=
  fun _ _ _ s f => N.done fun a ha => ⟨H, _, _, s, f, fun wb F S s => h ⟨wb, F, S⟩ wb F S s (From.refl _ _ _) a ha⟩
section
variable {X Y : Type} {HJ : Nat → X → List Asn} {I : Nat → X → Prop} {HX : Code → Nat → Y → List Asn} {IX : Code → Nat → Y → Prop} {k l : Nat}
theorem SN.next (x : X) (i : Imp H (HJ (k + 1) x)) (h : I (k + 1) x) : SN P (roundS HJ I HX IX k o) ⟨n, [], some l⟩ o [] ρ H := fun _ _ _ s f => N.done fun _ _ => let ⟨F', S', s', f'⟩ := i.at s f; ⟨x, F', S', h, s', f'⟩
theorem SG.retR (y : Y) (i : Imp H (HX .ret (k + 1) y)) (h : IX .ret (k + 1) y) : SG P (roundS HJ I HX IX k o) ⟨n, [], some l⟩ o ks ρ H .ret := fun _ _ _ s f => G.ret fun _ _ => let ⟨F', S', s', f'⟩ := i.at s f; ⟨y, F', S', h, s', f'⟩
end

/-- for .. := range g { body } -/
theorem SG.range {g : Operand} {ps : Array Tmp} {assign body : Code} {gf : FuncId} {lb : List Value} {Nn : Nat} {E : Nat → List Value → (World → Prop) → Prop} {HI : List Asn}
    (hps : ps.toList.all (fun p => Nat.blt p n) = true) (hg : ev ρ g = some (.func (.func gf) #[] lb.toArray)) (eg : ∀ (vs : Array Value) w, (callFunc gf vs).run P w = .ok (.enter gf vs) w)
    (hit : IterS P gf lb HI Nn E) {X Y : Type} (HJ : Nat → X → List Asn) (I : Nat → X → Prop) (HX : Code → Nat → Y → List Asn) (IX : Code → Nat → Y → Prop) (x₀ : X) (i : Imp H (HJ 0 x₀ ++ HI)) (h0 : I 0 x₀)
    (hround : ∀ l k x vs p, k < Nn → I k x → E k vs p → vs.length = ps.size ∧ ∀ o', SG P (assignS P l (roundS HJ I HX IX k) body o') ⟨n, [], some l⟩ o' [] (bindEnv ps.toList vs ρ) (sh p :: HJ k x) assign)
    (hdone : ∀ d x, I Nn x → SN P B ⟨n, ⟨.collected d, #[]⟩ :: df, none⟩ o ks ρ (dfr d :: HJ Nn x ++ HI))
    (hstop : ∀ d k c y, k ≤ Nn → IX c k y → SG P B ⟨n, ⟨.collected d, #[]⟩ :: df, none⟩ o ks ρ (dfr d :: HX c k y ++ HI) c) :
    SG P B ⟨n, df, none⟩ o ks ρ H (.rangeFunc g ps assign body) := by
  intro w F₀ S₀ s₀ f₀ a ha
  obtain ⟨Fw, Sw, s, f⟩ := i.at s₀ f₀
  obtain ⟨Fj, Sj, Fi, Si, ⟨a1, a2, a3, a4⟩, ⟨b1, b2, b3⟩, hsj, hsi⟩ := s.sep.split
  refine wpIn_rangeFunc (F := Fence.wide) ?_
  intro fn hfn
  obtain ⟨rec, hrec⟩ : ∃ rec : LoopState → Option Code → Loop, rec = fun st pe => { state := st, pending := pe, fn, tmps := a.tmps, params := ps, assign, body, defers := w.heap.size } := ⟨_, rfl⟩
  obtain ⟨W1, hW1⟩ : ∃ W1, (w.alloc (.deferred (some []))).alloc (.loop (rec .ready none)) = W1 := ⟨_, rfl⟩
  have hL1 : W1.heap[w.heap.size + 1]? = some (.loop (rec .ready none)) := by
    rw [← hW1]; have := World.alloc_heap_new (w.alloc (.deferred (some []))) (.loop (rec .ready none)); rwa [World.size_alloc] at this
  have hK1 : W1.heap[w.heap.size]? = some (.deferred (some [])) := by
    rw [← hW1]; exact ((Ext.alloc (w.alloc (.deferred (some []))) _).keep _ (by simp) (by simp)).trans (World.alloc_heap_new w _)
  have hE1 : Ext [] w W1 := by rw [← hW1]; exact (Ext.alloc w _).trans0 (Ext.alloc _ _)
  have hs1 : W1.heap.size = w.heap.size + 2 := by rw [← hW1]; simp
  obtain ⟨d, hd⟩ : ∃ d, d = w.heap.size := ⟨_, rfl⟩
  obtain ⟨l, hl⟩ : ∃ l, l = w.heap.size + 1 := ⟨_, rfl⟩
  rw [← hl] at hL1
  rw [← hd] at hK1
  -- the consumer's assertions
  let J : Nat → Asn := fun k => ⟨fun F S W => ∃ x F' S', I k x ∧ Sep (HJ k x) F' S' W ∧ (F = l :: d :: F' ∧ S = S') ∧ (l ∉ F' ∧ l ∉ S') ∧ (d ∉ F' ∧ d ∉ S') ∧ W.heap[l]? = some (.loop (rec .ready none)) ∧ W.heap[d]? = some (.deferred (some [])),
    by
      rintro F S M W W' ⟨x, F', S', h1, h2, ⟨rfl, rfl⟩, h3, h4, h5, h6⟩ he hF hS
      refine ⟨x, F', S, h1, h2.ext he (hF.mono (fun z hz => by simp [hz]) (subR _)) hS, ⟨rfl, rfl⟩, h3, h4, ?_, ?_⟩
      · exact (he.keep l (Array.getElem?_eq_some_iff.1 h5).1 (hF l (by simp))).trans h5
      · exact (he.keep d (Array.getElem?_eq_some_iff.1 h6).1 (hF d (by simp))).trans h6⟩
  let Jx : Nat → Asn := fun k => ⟨fun F S W => ∃ c y F' S', IX c k y ∧ Sep (HX c k y) F' S' W ∧ (F = l :: d :: F' ∧ S = S') ∧ (l ∉ F' ∧ l ∉ S') ∧ (d ∉ F' ∧ d ∉ S') ∧ W.heap[l]? = some (.loop (rec .done (some c))) ∧ W.heap[d]? = some (.deferred (some [])),
    by
      rintro F S M W W' ⟨c, y, F', S', h1, h2, ⟨rfl, rfl⟩, h3, h4, h5, h6⟩ he hF hS
      refine ⟨c, y, F', S, h1, h2.ext he (hF.mono (fun z hz => by simp [hz]) (subR _)) hS, ⟨rfl, rfl⟩, h3, h4, ?_, ?_⟩
      · exact (he.keep l (Array.getElem?_eq_some_iff.1 h5).1 (hF l (by simp))).trans h5
      · exact (he.keep d (Array.getElem?_eq_some_iff.1 h6).1 (hF d (by simp))).trans h6⟩
  refine ⟨w.heap.size + 1, [{ target := .collected w.heap.size, args := #[] }], W1, { target := .fn (.func gf) lb.toArray, args := #[.func (.yield (w.heap.size + 1)) #[] #[]] }, W1, gf,
    #[.func (.yield (w.heap.size + 1)) #[] #[]] ++ lb.toArray, W1, ?_, ?_, fun _ _ => trivial, ?_, fun h => (by cases h), ?_⟩
  · rw [← hW1, hrec]; exact run_enterLoop_outer _ _ _ _ _
  · simp only [resolve, ha.eval hg]
    simp [go_sem]
  · simp [invoke, go_sem, eg]
  · have hdl : d ≠ l := by omega
    have newF : ∀ {T : List Nat}, (∀ b ∈ T, b < w.heap.size) → l ∉ T ∧ d ∉ T := fun h => ⟨fun q => by have := h _ q; omega, fun q => by have := h _ q; omega⟩
    have ltj : ∀ b ∈ Fj, b < w.heap.size := fun b hb => s.ltF b (a1 hb)
    have ltsj : ∀ b ∈ Sj, b < w.heap.size := fun b hb => s.ltS b (a3 hb)
    have lti : ∀ b ∈ Fi, b < w.heap.size := fun b hb => s.ltF b (a2 hb)
    have ltsi : ∀ b ∈ Si, b < w.heap.size := fun b hb => s.ltS b (a4 hb)
    have hJ0 : (J 0).P (l :: d :: Fj) Sj W1 := ⟨x₀, Fj, Sj, h0, hsj.ext hE1 (Apart.nilR _) (Apart.nilR _), ⟨rfl, rfl⟩, ⟨(newF ltj).1, (newF ltsj).1⟩, ⟨(newF ltj).2, (newF ltsj).2⟩, hL1, hK1⟩
    have hst : St (J 0 :: HI) (l :: d :: Fj ++ Fi) (Sj ++ Si) W1 := by
      refine ⟨⟨l :: d :: Fj, Sj, Fi, Si, ⟨inL _ _, inR _ _, inL _ _, inR _ _⟩, ⟨?_, ?_, b3⟩, hJ0, hsi.ext hE1 (Apart.nilR _) (Apart.nilR _)⟩, ?_, ?_⟩
      · intro x hx hy
        simp only [List.mem_cons] at hx
        rcases hx with rfl | rfl | hx
        · exact (newF lti).1 hy
        · exact (newF lti).2 hy
        · exact b1 x hx hy
      · intro x hx hy
        simp only [List.mem_cons] at hx
        rcases hx with rfl | rfl | hx
        · exact (newF ltsi).1 hy
        · exact (newF ltsi).2 hy
        · exact b2 x hx hy
      · intro x hx
        simp only [List.cons_append, List.mem_cons, List.mem_append] at hx
        rcases hx with rfl | rfl | hx | hx
        · omega
        · omega
        · have := ltj x hx; omega
        · have := lti x hx; omega
      · intro x hx
        rcases List.mem_append.1 hx with hx | hx
        · have := ltsj x hx; omega
        · have := ltsi x hx; omega
    have hfr : From o W1 (l :: d :: Fj ++ Fi) (Sj ++ Si) := by
      refine ⟨f.ext.trans0 hE1, ?_, ?_⟩
      · intro x hx
        have hz := f.ext.size
        simp only [List.cons_append, List.mem_cons, List.mem_append] at hx
        rcases hx with rfl | rfl | hx | hx
        · exact .inr (by omega)
        · exact .inr (by omega)
        · exact f.fF x (a1 hx)
        · exact f.fF x (a2 hx)
      · intro x hx
        exact (List.mem_append.1 hx).elim (fun h => f.fS x (a3 h)) (fun h => f.fS x (a4 h))
    have hy : ∀ k vs p, k < Nn → E k vs p → YSpec P (.func (.yield l) #[] #[]) vs [Brv.sh p, J k] (fun b H' => H' = [if b then J (k + 1) else Jx (k + 1)]) := by
      intro k vs p hk hE A F S s
      obtain ⟨F1, S1, F2, S2, ⟨c1, c2, c3, c4⟩, ⟨e1, e2, e3⟩, hp, F3, S3, F4, S4, ⟨c1', c2', c3', c4'⟩, _, hJ, _⟩ := s.sep
      obtain ⟨x, F', S', hi, hsep, ⟨rfl, rfl⟩, ⟨l1, l2⟩, ⟨d1, d2⟩, hl', hd'⟩ := hJ
      refine .inl ⟨_, rfl, ?_⟩
      have hlt : l < A.heap.size := (Array.getElem?_eq_some_iff.1 hl').1
      have hltd : d < A.heap.size := (Array.getElem?_eq_some_iff.1 hd').1
      obtain ⟨hlen, hG⟩ := hround l k x vs p hk hi hE
      have hy := run_yield (P := P) (args := vs.toArray) hl' (by rw [hrec]; simpa using hlen)
      rw [hrec] at hy
      refine ⟨fn, _, assign, body, hy, roundIn_of_wpIn hfn ?_⟩
      have hfr : Fr ⟨n, [], some l⟩ (bindEnv ps.toList vs ρ) { tmps := (ps.toList.zip vs).foldl (fun t (p, v) => t.setIfInBounds p v) a.tmps, defers := [] } :=
        bind_fr (n := ⟨n, [], some l⟩) ps.toList vs (a := { tmps := a.tmps, defers := [] }) ⟨ha.size, rfl, ha.vals⟩ (fun p hp => by simpa [Nat.blt_eq] using List.all_eq_true.1 hps p hp)
      have hz : (ps.zip vs.toArray).foldl (fun t (p, v) => t.setIfInBounds p v) a.tmps = (ps.toList.zip vs).foldl (fun t (p, v) => t.setIfInBounds p v) a.tmps := by
        rw [← Array.foldl_toList, Array.toList_zip]
      rw [hz]
      have hsA : St (Brv.sh p :: HJ k x) F' (S1 ++ S3) A := by
        refine ⟨⟨[], S1, F', S3, ⟨by simp, subR _, inL _ _, inR _ _⟩, ⟨Apart.nilL _, Apart.nilL _, e3.mono (subR _) (fun z hz => c1' (by simp [hz]))⟩, (instPersSh p).h _ _ _ hp, hsep⟩, fun z hz => s.ltF z (c2 (c1' (by simp [hz]))), ?_⟩
        intro z hz
        exact (List.mem_append.1 hz).elim (fun hz => s.ltS z (c3 hz)) (fun hz => s.ltS z (c4 (c3' hz)))
      have hw := hG ⟨A, F', S1 ++ S3⟩ A F' (S1 ++ S3) hsA (From.refl _ _ _) _ hfr
      refine wpIn_mono (F := Fence.wide.inRound l) (fen_wp (r := some l) hw) ?_
      intro e a₁ w₂ hq
      cases e with
      | normal =>
        obtain ⟨Hb, F2, S2, s2, f2, hq⟩ := hq
        have hd1 : d ∉ S1 := fun h => e3 d h (c1' (by simp))
        have hl1 : l ∉ S1 := fun h => e3 l h (c1' (by simp))
        have hFl : l ∈ F := c2 (c1' (by simp))
        have hFd : d ∈ F := c2 (c1' (by simp))
        have hFF : ∀ z ∈ F', z ∈ F := fun z hz => c2 (c1' (by simp [hz]))
        have hszA2 : A.heap.size ≤ w₂.heap.size := f2.ext.size
        have nF2 : l ∉ F2 ∧ d ∉ F2 := ⟨fun h => (f2.fF _ h).elim l1 (fun h => by simp only at h; omega), fun h => (f2.fF _ h).elim d1 (fun h => by simp only at h; omega)⟩
        have nS2 : l ∉ S2 ∧ d ∉ S2 := ⟨fun h => (f2.fS _ h).elim (fun h => (List.mem_append.1 h).elim hl1 l2) (fun h => h.elim l1 (fun h => by simp only at h; omega)), fun h => (f2.fS _ h).elim (fun h => (List.mem_append.1 h).elim hd1 d2) (fun h => h.elim d1 (fun h => by simp only at h; omega))⟩
        replace hl' : w₂.heap[l]? = some (.loop (rec .ready none)) := (f2.ext.keep l hlt l1).trans hl'
        replace hd' : w₂.heap[d]? = some (.deferred (some [])) := (f2.ext.keep d hltd d1).trans hd'
        have hlt9 : l < w₂.heap.size := (Array.getElem?_eq_some_iff.1 hl').1
        have hltd9 : d < w₂.heap.size := (Array.getElem?_eq_some_iff.1 hd').1
        have hbr := run_beginRound (P := P) hl' (by rw [hrec])
        refine ⟨_, hbr, ?_⟩
        have hl3 : (w₂.putObj l (.loop { rec .ready none with state := .busy })).heap[l]? = some (.loop { rec .ready none with state := .busy }) := World.putObj_heap_same hlt9
        have hd3 : (w₂.putObj l (.loop { rec .ready none with state := .busy })).heap[d]? = some (.deferred (some [])) := (World.putObj_heap_other hdl).trans hd'
        have hE3 := Ext.putObj w₂ l (.loop { rec .ready none with state := .busy })
        have apl : ∀ {T : List Nat}, l ∉ T → Apart T [l] := fun h z hz hz2 => h (by rw [← List.mem_singleton.1 hz2]; exact hz)
        have hsb : St Hb F2 S2 (w₂.putObj l (.loop { rec .ready none with state := .busy })) :=
          ⟨s2.sep.ext hE3 (apl nF2.1) (apl nS2.1), fun z hz => by simpa using s2.ltF z hz, fun z hz => by simpa using s2.ltS z hz⟩
        refine wpIn_mono (F := Fence.wide.inRound l) (fen_wp (r := some l) (hq _ F2 S2 hsb)) ?_
        have fin : ∀ (jump : Option Code) (W3 : World) (F5 S5 : List Nat), From ⟨w₂.putObj l (.loop { rec .ready none with state := .busy }), F2, S2⟩ W3 F5 S5 → (∀ b ∈ F5, b < W3.heap.size) → (∀ b ∈ S5, b < W3.heap.size) →
            (Instr.endRound l jump).run P W3 = .ok (.bool jump.isNone) (W3.putObj l (.loop (rec (if jump.isNone then .ready else .done) jump))) ∧
            (W3.putObj l (.loop (rec (if jump.isNone then .ready else .done) jump))).heap[l]? = some (.loop (rec (if jump.isNone then .ready else .done) jump)) ∧
            (W3.putObj l (.loop (rec (if jump.isNone then .ready else .done) jump))).heap[d]? = some (.deferred (some [])) ∧ (l ∉ F5 ∧ l ∉ S5) ∧ (d ∉ F5 ∧ d ∉ S5) ∧ Ext [l] W3 (W3.putObj l (.loop (rec (if jump.isNone then .ready else .done) jump))) ∧
            From ⟨A, F, S⟩ (W3.putObj l (.loop (rec (if jump.isNone then .ready else .done) jump))) (l :: d :: F5) S5 ∧ (∀ b ∈ l :: d :: F5, b < (W3.putObj l (.loop (rec (if jump.isNone then .ready else .done) jump))).heap.size) ∧ (∀ b ∈ S5, b < (W3.putObj l (.loop (rec (if jump.isNone then .ready else .done) jump))).heap.size) := by
          intro jump W3 F5 S5 fr h5 h6
          have hlt2 : l < (w₂.putObj l (.loop { rec .ready none with state := .busy })).heap.size := by simpa using hlt9
          have hltd2 : d < (w₂.putObj l (.loop { rec .ready none with state := .busy })).heap.size := by simpa using hltd9
          have hl4 : W3.heap[l]? = some (.loop { rec .ready none with state := .busy }) := (fr.ext.keep _ hlt2 nF2.1).trans hl3
          have hd4 : W3.heap[d]? = some (.deferred (some [])) := (fr.ext.keep _ hltd2 nF2.2).trans hd3
          have hlt4 : l < W3.heap.size := (Array.getElem?_eq_some_iff.1 hl4).1
          have hltd4 : d < W3.heap.size := (Array.getElem?_eq_some_iff.1 hd4).1
          have her := run_endRound (P := P) jump hl4
          rw [hrec] at her ⊢
          have hszA : w₂.heap.size ≤ W3.heap.size := by have := fr.ext.size; simpa using this
          have nF : l ∉ F5 ∧ d ∉ F5 := ⟨fun h => (fr.fF _ h).elim nF2.1 (fun h => by simp only [World.putObj, Array.size_setIfInBounds] at h; omega), fun h => (fr.fF _ h).elim nF2.2 (fun h => by simp only [World.putObj, Array.size_setIfInBounds] at h; omega)⟩
          have nS : l ∉ S5 ∧ d ∉ S5 := ⟨fun h => (fr.fS _ h).elim nS2.1 (fun h => h.elim nF2.1 (fun h => by simp only [World.putObj, Array.size_setIfInBounds] at h; omega)), fun h => (fr.fS _ h).elim nS2.2 (fun h => h.elim nF2.2 (fun h => by simp only [World.putObj, Array.size_setIfInBounds] at h; omega))⟩
          have hx2 := Ext.putObj W3 l (.loop { state := if jump.isNone = true then LoopState.ready else LoopState.done, pending := jump, fn := fn, tmps := a.tmps, params := ps, assign := assign, body := body, defers := w.heap.size })
          have hF2 : ∀ z ∈ F2, z ∈ F ∨ A.heap.size ≤ z := fun z hz => (f2.fF z hz).imp (hFF z) id
          have hE4 : Ext F A W3 := ((f2.ext.mono (M' := F) (fun z hz => .inl (hFF z hz))).transN hE3 (fun z hz => .inl (by rw [List.mem_singleton.1 hz]; exact hFl))).transN fr.ext (fun z hz => hF2 z hz)
          refine ⟨her, World.putObj_heap_same hlt4, (World.putObj_heap_other hdl).trans hd4, ⟨nF.1, nS.1⟩, ⟨nF.2, nS.2⟩, hx2, ⟨hE4.transN hx2 (fun z hz => .inl (by rw [List.mem_singleton.1 hz]; exact hFl)), ?_, ?_⟩, ?_, ?_⟩
          · intro z hz
            simp only [List.mem_cons] at hz
            rcases hz with rfl | rfl | hz
            · exact .inl hFl
            · exact .inl hFd
            · exact (fr.fF z hz).elim (hF2 z) (fun h => .inr (Nat.le_trans hszA2 (by simpa [World.putObj, Array.size_setIfInBounds] using h)))
          · intro z hz
            exact (fr.fS z hz).elim (fun h => (f2.fS z h).elim (fun h => .inl ((List.mem_append.1 h).elim (fun h => c3 h) (fun h => c4 (c3' h)))) (fun h => .inr (h.imp (hFF z) id))) (fun h => .inr (h.elim (hF2 z) (fun h => .inr (Nat.le_trans hszA2 (by simpa [World.putObj, Array.size_setIfInBounds] using h)))))
          · intro z hz
            simp only [List.mem_cons] at hz
            rcases hz with rfl | rfl | hz
            · simpa using hlt4
            · simpa using hltd4
            · simpa using h5 z hz
          · intro z hz; simpa using h6 z hz
        rintro e a3 W3 hp3
        cases e with
        | normal =>
          obtain ⟨x', F5, S5, hi', s5, fr⟩ := hp3
          obtain ⟨f1, f2, f3, n1, n2, f4, f5, f6, f7⟩ := fin none W3 F5 S5 fr s5.ltF s5.ltS
          refine ⟨_, _, f1, true, rfl, [J (k + 1)], l :: d :: F5, S5, by simp, ⟨⟨l :: d :: F5, S5, [], [], ⟨subR _, by simp, subR _, by simp⟩, ⟨Apart.nilR _, Apart.nilR _, Apart.nilR _⟩, ⟨x', F5, S5, hi', s5.sep.ext f4 (apl n1.1) (apl n1.2), ⟨rfl, rfl⟩, n1, n2, f2, f3⟩, trivial⟩, f6, f7⟩, f5⟩
        | ret =>
          obtain ⟨y', F5, S5, hi', s5, fr⟩ := hp3
          obtain ⟨f1, f2, f3, n1, n2, f4, f5, f6, f7⟩ := fin (some .ret) W3 F5 S5 fr s5.ltF s5.ltS
          refine ⟨_, _, f1, false, rfl, [Jx (k + 1)], l :: d :: F5, S5, by simp, ⟨⟨l :: d :: F5, S5, [], [], ⟨subR _, by simp, subR _, by simp⟩, ⟨Apart.nilR _, Apart.nilR _, Apart.nilR _⟩, ⟨_, y', F5, S5, hi', s5.sep.ext f4 (apl n1.1) (apl n1.2), ⟨rfl, rfl⟩, n1, n2, f2, f3⟩, trivial⟩, f6, f7⟩, f5⟩
        | exit id =>
          obtain ⟨y', F5, S5, hi', s5, fr⟩ := hp3
          obtain ⟨f1, f2, f3, n1, n2, f4, f5, f6, f7⟩ := fin (some (.exit id)) W3 F5 S5 fr s5.ltF s5.ltS
          refine ⟨_, _, f1, false, rfl, [Jx (k + 1)], l :: d :: F5, S5, by simp, ⟨⟨l :: d :: F5, S5, [], [], ⟨subR _, by simp, subR _, by simp⟩, ⟨Apart.nilR _, Apart.nilR _, Apart.nilR _⟩, ⟨_, y', F5, S5, hi', s5.sep.ext f4 (apl n1.1) (apl n1.2), ⟨rfl, rfl⟩, n1, n2, f2, f3⟩, trivial⟩, f6, f7⟩, f5⟩
        | goto t =>
          obtain ⟨y', F5, S5, hi', s5, fr⟩ := hp3
          obtain ⟨f1, f2, f3, n1, n2, f4, f5, f6, f7⟩ := fin (some (.goto t)) W3 F5 S5 fr s5.ltF s5.ltS
          refine ⟨_, _, f1, false, rfl, [Jx (k + 1)], l :: d :: F5, S5, by simp, ⟨⟨l :: d :: F5, S5, [], [], ⟨subR _, by simp, subR _, by simp⟩, ⟨Apart.nilR _, Apart.nilR _, Apart.nilR _⟩, ⟨_, y', F5, S5, hi', s5.sep.ext f4 (apl n1.1) (apl n1.2), ⟨rfl, rfl⟩, n1, n2, f2, f3⟩, trivial⟩, f6, f7⟩, f5⟩
        | panic ch => exact hp3.elim
        | outgrown => exact hp3.elim
      | _ => exact hq.elim
    have hm := hit (.func (.yield l) #[] #[]) J Jx hy W1 _ _ hst
    have e : (Value.func (.yield l) #[] #[] :: lb).toArray = #[.func (.yield l) #[] #[]] ++ lb.toArray := by simp
    unfold Meets at hm
    rw [e] at hm
    rw [← hl]
    refine CallsIn.mono (callsIn_wide.2 hm) ?_
    intro e W2 he
    cases e with
    | returned v =>
      obtain ⟨H', F5, S5, hH, s5, fr⟩ := he
      have fr' := hfr.trans fr
      have apl : ∀ {T : List Nat}, l ∉ T → Apart T [l] := fun h z hz hz2 => h (by rw [← List.mem_singleton.1 hz2]; exact hz)
      have leave : ∀ {HL : List Asn} {F' S' F2 S2 : List Nat} (ob : Obj), (l :: d :: F' ⊆ F5 ∧ F2 ⊆ F5 ∧ S' ⊆ S5 ∧ S2 ⊆ S5) → (Apart (l :: d :: F') F2 ∧ Apart (l :: d :: F') S2 ∧ Apart S' F2) → Sep HL F' S' W2 → Sep HI F2 S2 W2 → (l ∉ F' ∧ l ∉ S') → (d ∉ F' ∧ d ∉ S') → W2.heap[d]? = some (.deferred (some [])) →
          ∃ F6 S6, St (dfr d :: HL ++ HI) F6 S6 (W2.putObj l ob) ∧ From o (W2.putObj l ob) F6 S6 := by
        intro HL F' S' F2 S2 ob ⟨g1, g2, g3, g4⟩ ⟨k1, k2, k3⟩ hh hhi n1 n2 hdd
        have hx := Ext.putObj W2 l ob
        refine ⟨d :: F' ++ F2, S' ++ S2, ⟨⟨[d], [], F' ++ F2, S' ++ S2, ⟨by simp, fun z hz => by simp at hz ⊢; exact .inr hz, by simp, subR _⟩, ⟨?_, ?_, Apart.nilL _⟩, ⟨rfl, (World.putObj_heap_other hdl).trans hdd⟩, ?_⟩, ?_, ?_⟩, ⟨fr'.ext.transN hx (fun z hz => by rw [List.mem_singleton.1 hz]; exact fr'.fF l (g1 (by simp))), ?_, ?_⟩⟩
        · intro z hz hz2
          rw [List.mem_singleton.1 hz] at hz2
          exact (List.mem_append.1 hz2).elim n2.1 (fun h => k1 d (by simp) h)
        · intro z hz hz2
          rw [List.mem_singleton.1 hz] at hz2
          exact (List.mem_append.1 hz2).elim n2.2 (fun h => k2 d (by simp) h)
        · refine Sep.join ⟨F', S', F2, S2, ⟨inL _ _, inR _ _, inL _ _, inR _ _⟩, ⟨k1.mono (fun z hz => by simp [hz]) (subR _), k2.mono (fun z hz => by simp [hz]) (subR _), k3⟩, hh.ext hx (apl n1.1) (apl n1.2), hhi.ext hx (apl (fun h => k1 l (by simp) h)) (apl (fun h => k2 l (by simp) h))⟩
        · intro z hz
          simp only [List.cons_append, List.mem_cons, List.mem_append] at hz
          have : z ∈ F5 := by
            rcases hz with rfl | hz | hz
            · exact g1 (by simp)
            · exact g1 (by simp [hz])
            · exact g2 hz
          simpa using s5.ltF z this
        · intro z hz
          have : z ∈ S5 := (List.mem_append.1 hz).elim (fun h => g3 h) (fun h => g4 h)
          simpa using s5.ltS z this
        · intro z hz
          simp only [List.cons_append, List.mem_cons, List.mem_append] at hz
          refine fr'.fF z ?_
          rcases hz with rfl | hz | hz
          · exact g1 (by simp)
          · exact g1 (by simp [hz])
          · exact g2 hz
        · intro z hz
          exact fr'.fS z ((List.mem_append.1 hz).elim (fun h => g3 h) (fun h => g4 h))
      rcases hH with rfl | ⟨k, hk, rfl⟩
      · obtain ⟨F1, S1, F2, S2, hsub, hap, ⟨x, F', S', hi, hsep, ⟨rfl, rfl⟩, n1, n2, hl', hd'⟩, hHI⟩ := s5.sep
        refine ⟨none, _, by have := run_endLoop (P := P) hl' (by rw [hrec]; simp); rw [hrec] at this; exact this, ?_⟩
        obtain ⟨F6, S6, s6, fr6⟩ := leave _ hsub hap hsep hHI n1 n2 hd'
        exact hdone d x hi _ F6 S6 s6 fr6 _ ⟨ha.size, by simp [ha.defers, hd], ha.vals⟩
      · obtain ⟨F1, S1, F2, S2, hsub, hap, ⟨c, y, F', S', hi, hsep, ⟨rfl, rfl⟩, n1, n2, hl', hd'⟩, hHI⟩ := s5.sep
        refine ⟨some c, _, by have := run_endLoop (P := P) hl' (by rw [hrec]; simp); rw [hrec] at this; exact this, ?_⟩
        obtain ⟨F6, S6, s6, fr6⟩ := leave _ hsub hap hsep hHI n1 n2 hd'
        exact fen_wp (r := none) (hstop d k c y hk hi _ F6 S6 s6 fr6 _ ⟨ha.size, by simp [ha.defers, hd], ha.vals⟩)
    | panicked ch => exact he.elim
    | outgrown => exact he.elim
end
section
variable {P : Program} {n : Fm} {o : Org} {ks : List K} {ρ : Env} {H H1 H' : List Asn} {fn : Func} {Φ : Value → List Asn → Prop}
theorem SG.retM {v : Value} (hl : Dfrs n.df H H1) (hv : ∀ a, Fr n ρ a → ∀ w, (results fn a.tmps).run P w = .ok v w) (i : Imp H1 H') (h : Φ v H') : SG P (Func.base P fn (PostS o Φ)) n o ks ρ H .ret := fun w F S s f => by
  obtain ⟨w', F1, S1, hlv, s1, f1⟩ := hl.leave s f
  exact G.retM hlv (fun a ha => hv a ha w') (post_of i h s1 f1)
theorem SN.endM {v : Value} (hl : Dfrs n.df H H1) (hv : ∀ a, Fr n ρ a → ∀ w, (results fn a.tmps).run P w = .ok v w) (i : Imp H1 H') (h : Φ v H') : SN P (Func.base P fn (PostS o Φ)) n o [] ρ H := fun w F S s f => by
  obtain ⟨w', F1, S1, hlv, s1, f1⟩ := hl.leave s f
  exact N.endM hlv (fun a ha => hv a ha w') (post_of i h s1 f1)
theorem SG.ret1M {t : Nat} {v : Value} (hr : fn.results = #[.tmp t]) (hv : look ρ t = some v) (hl : Dfrs n.df H H1) (i : Imp H1 H') (h : Φ v H') : SG P (Func.base P fn (PostS o Φ)) n o ks ρ H .ret := SG.retM hl (fun _ ha _ => res1 hr hv ha) i h
theorem SG.ret2M {t u : Nat} {v x : Value} (hr : fn.results = #[.tmp t, .tmp u]) (hv : look ρ t = some v) (hx : look ρ u = some x) (hl : Dfrs n.df H H1) (i : Imp H1 H') (h : Φ (.tuple #[v, x]) H') : SG P (Func.base P fn (PostS o Φ)) n o ks ρ H .ret := SG.retM hl (fun _ ha _ => res2 hr hv hx ha) i h
theorem SG.ret3M {t u r : Nat} {v x y : Value} (hr : fn.results = #[.tmp t, .tmp u, .tmp r]) (hv : look ρ t = some v) (hx : look ρ u = some x) (hy : look ρ r = some y) (hl : Dfrs n.df H H1) (i : Imp H1 H') (h : Φ (.tuple #[v, x, y]) H') : SG P (Func.base P fn (PostS o Φ)) n o ks ρ H .ret := SG.retM hl (fun _ ha _ => res3 hr hv hx hy ha) i h
theorem SG.ret0M (hr : fn.results = #[]) (hl : Dfrs n.df H H1) (i : Imp H1 H') (h : Φ (.tuple #[]) H') : SG P (Func.base P fn (PostS o Φ)) n o ks ρ H .ret := SG.retM hl (fun _ _ _ => by rw [results_none hr]) i h
theorem SN.end0M (hr : fn.results = #[]) (hl : Dfrs n.df H H1) (i : Imp H1 H') (h : Φ (.tuple #[]) H') : SN P (Func.base P fn (PostS o Φ)) n o [] ρ H := SN.endM hl (fun _ _ _ => by rw [results_none hr]) i h
end
end Brv
/-
  More on walks over assertions: lists in plain form; iterators that only read.
-/
set_option linter.unusedVariables false
set_option linter.unusedSimpArgs false
namespace Brv
open Go
section
variable {P : Program} {B : Exit → Act → World → Prop} {n : Fm} {o : Org} {ops : List Oper} {ks : List K} {ρ : Env} {H : List Asn} {l : List Oper} {Q : Exit → Act → World → Prop} {σ : List Nat} {π : List (Nat × Oper)} {pend : Pend} {c : Code}
theorem SL.n0 (h : SL P B n o ops ks ρ (H) l) : SL P B n o ops ks ρ ([] ++ H) l := h
theorem SW.n0 (h : SW P n ops Q o σ π pend ρ (H)) : SW P n ops Q o σ π pend ρ ([] ++ H) := h
theorem SN.n0 (h : SN P B n o ks ρ (H)) : SN P B n o ks ρ ([] ++ H) := h
theorem SG.n0 (h : SG P B n o ks ρ (H) c) : SG P B n o ks ρ ([] ++ H) c := h
theorem SL.n1 {A1 : Asn} (h : SL P B n o ops ks ρ (A1 :: H) l) : SL P B n o ops ks ρ ([A1] ++ H) l := h
theorem SW.n1 {A1 : Asn} (h : SW P n ops Q o σ π pend ρ (A1 :: H)) : SW P n ops Q o σ π pend ρ ([A1] ++ H) := h
theorem SN.n1 {A1 : Asn} (h : SN P B n o ks ρ (A1 :: H)) : SN P B n o ks ρ ([A1] ++ H) := h
theorem SG.n1 {A1 : Asn} (h : SG P B n o ks ρ (A1 :: H) c) : SG P B n o ks ρ ([A1] ++ H) c := h
theorem SL.n2 {A1 A2 : Asn} (h : SL P B n o ops ks ρ (A1 :: A2 :: H) l) : SL P B n o ops ks ρ ([A1, A2] ++ H) l := h
theorem SW.n2 {A1 A2 : Asn} (h : SW P n ops Q o σ π pend ρ (A1 :: A2 :: H)) : SW P n ops Q o σ π pend ρ ([A1, A2] ++ H) := h
theorem SN.n2 {A1 A2 : Asn} (h : SN P B n o ks ρ (A1 :: A2 :: H)) : SN P B n o ks ρ ([A1, A2] ++ H) := h
theorem SG.n2 {A1 A2 : Asn} (h : SG P B n o ks ρ (A1 :: A2 :: H) c) : SG P B n o ks ρ ([A1, A2] ++ H) c := h
theorem SL.n3 {A1 A2 A3 : Asn} (h : SL P B n o ops ks ρ (A1 :: A2 :: A3 :: H) l) : SL P B n o ops ks ρ ([A1, A2, A3] ++ H) l := h
theorem SW.n3 {A1 A2 A3 : Asn} (h : SW P n ops Q o σ π pend ρ (A1 :: A2 :: A3 :: H)) : SW P n ops Q o σ π pend ρ ([A1, A2, A3] ++ H) := h
theorem SN.n3 {A1 A2 A3 : Asn} (h : SN P B n o ks ρ (A1 :: A2 :: A3 :: H)) : SN P B n o ks ρ ([A1, A2, A3] ++ H) := h
theorem SG.n3 {A1 A2 A3 : Asn} (h : SG P B n o ks ρ (A1 :: A2 :: A3 :: H) c) : SG P B n o ks ρ ([A1, A2, A3] ++ H) c := h
theorem SL.n4 {A1 A2 A3 A4 : Asn} (h : SL P B n o ops ks ρ (A1 :: A2 :: A3 :: A4 :: H) l) : SL P B n o ops ks ρ ([A1, A2, A3, A4] ++ H) l := h
theorem SW.n4 {A1 A2 A3 A4 : Asn} (h : SW P n ops Q o σ π pend ρ (A1 :: A2 :: A3 :: A4 :: H)) : SW P n ops Q o σ π pend ρ ([A1, A2, A3, A4] ++ H) := h
theorem SN.n4 {A1 A2 A3 A4 : Asn} (h : SN P B n o ks ρ (A1 :: A2 :: A3 :: A4 :: H)) : SN P B n o ks ρ ([A1, A2, A3, A4] ++ H) := h
theorem SG.n4 {A1 A2 A3 A4 : Asn} (h : SG P B n o ks ρ (A1 :: A2 :: A3 :: A4 :: H) c) : SG P B n o ks ρ ([A1, A2, A3, A4] ++ H) c := h
theorem SL.n5 {A1 A2 A3 A4 A5 : Asn} (h : SL P B n o ops ks ρ (A1 :: A2 :: A3 :: A4 :: A5 :: H) l) : SL P B n o ops ks ρ ([A1, A2, A3, A4, A5] ++ H) l := h
theorem SW.n5 {A1 A2 A3 A4 A5 : Asn} (h : SW P n ops Q o σ π pend ρ (A1 :: A2 :: A3 :: A4 :: A5 :: H)) : SW P n ops Q o σ π pend ρ ([A1, A2, A3, A4, A5] ++ H) := h
theorem SN.n5 {A1 A2 A3 A4 A5 : Asn} (h : SN P B n o ks ρ (A1 :: A2 :: A3 :: A4 :: A5 :: H)) : SN P B n o ks ρ ([A1, A2, A3, A4, A5] ++ H) := h
theorem SG.n5 {A1 A2 A3 A4 A5 : Asn} (h : SG P B n o ks ρ (A1 :: A2 :: A3 :: A4 :: A5 :: H) c) : SG P B n o ks ρ ([A1, A2, A3, A4, A5] ++ H) c := h
theorem SN.be {v v' : Value} (d : Nat) (hv : look ρ d = some v) (e : v = v') (h : SN P B n o ks ((d, v') :: ρ) H) : SN P B n o ks ρ H := by
  subst e
  exact fun w F S s f a ha => h w F S s f a (ha.sub (Sub.cons hv (Sub.refl _)))
end
/-- An iterator that reads what is there and stays. -/
def itA (P : Program) (gf : FuncId) (lb : List Value) (N : Nat) (E : Nat → List Value → World → Prop) : Asn where
  P := fun _ S w => ∀ M W, Ext M w W → Apart S M → ∃ Sx, Iter P gf lb W N E Sx S []
  ext := fun F S M w w' h he _ hS M' W he' hS' => h (M ++ M') W ((he.mono (fun x hx => .inl (List.mem_append_left _ hx))).transN he' (fun x hx => .inl (List.mem_append_right _ hx))) (Apart.appR hS hS')
instance (P : Program) (gf : FuncId) (lb : List Value) (N : Nat) (E : Nat → List Value → World → Prop) : Pers (itA P gf lb N E) := ⟨fun _ _ _ h => h⟩
theorem IterS.read {P : Program} {gf : FuncId} {lb : List Value} {N : Nat} {E : Nat → List Value → World → Prop} {E' : Nat → List Value → Prop} (hE : ∀ k vs W, E k vs W → E' k vs) :
    IterS P gf lb [itA P gf lb N E] N (fun k vs p => E' k vs ∧ p = fun _ => True) := by
  intro y J Jx hy w F S s
  obtain ⟨Fj, Sj, Fi, Si, ⟨a1, a2, a3, a4⟩, ⟨b1, b2, b3⟩, hJ, Fi', Si', F3, S3, ⟨c1, c2, c3, c4⟩, _, hit, _⟩ := s.sep
  obtain ⟨Sx, hit'⟩ := hit [] w (Ext.refl _ _) (Apart.nilR _)
  have ltj : ∀ b ∈ Fj, b < w.heap.size := fun b hb => s.ltF b (a1 hb)
  have ltsj : ∀ b ∈ Sj, b < w.heap.size := fun b hb => s.ltS b (a3 hb)
  have ltsi : ∀ b ∈ Si', b < w.heap.size := fun b hb => s.ltS b (a4 (c3 hb))
  have hap : ∀ b ∈ Fj, b ∉ Si' := fun b hb h => b2 b hb (c3 h)
  -- what the consumer keeps
  let KJ : (Nat → Asn) → Nat → List Nat → World → Prop := fun A k D W => ∃ F' S', (A k).P F' S' W ∧ (∀ b ∈ F', b ∈ D) ∧ (∀ b ∈ S', b < W.heap.size ∧ (b ∈ D ∨ b ∈ Sj)) ∧ (∀ b ∈ D, b < W.heap.size ∧ (b ∈ Fj ∨ w.heap.size ≤ b)) ∧ Ext Fj w W
  have hst : ∀ (A : Nat → Asn) k D W₁ W₂ M', KJ A k D W₁ → Ext M' W₁ W₂ → (∀ g ∈ M', g ∉ D ∧ (g ∈ ([] : List Nat) ∨ w.heap.size ≤ g)) → KJ A k D W₂ := by
    rintro A k D W₁ W₂ M' ⟨F', S', h1, h2, h3, h4, h5⟩ he hM
    refine ⟨F', S', (A k).ext _ _ _ _ _ h1 he (fun b hb h => (hM b h).1 (h2 b hb)) (fun b hb h => (h3 b hb).2.elim (hM b h).1 (fun q => by have := (hM b h).2; simp at this; have := ltsj b q; omega)), h2, fun b hb => ⟨Nat.lt_of_lt_of_le (h3 b hb).1 he.size, (h3 b hb).2⟩, fun b hb => ⟨Nat.lt_of_lt_of_le (h4 b hb).1 he.size, (h4 b hb).2⟩, h5.transN he (fun x hx => .inr (by have := (hM x hx).2; simpa using this))⟩
  have hm := hit' y Fj (KJ J) (KJ Jx) w (Ext.refl _ _) (fun g hg => ⟨ltj g hg, hap g hg, by simp⟩) (fun k D W₁ W₂ M' => hst J k D W₁ W₂ M') (fun k D W₁ W₂ M' => hst Jx k D W₁ W₂ M') (by
      rintro k D vs W₁ hk ⟨F', S', h1, h2, h3, h4, h5⟩ hEk hD
      have hys := hy k vs _ hk ⟨hE k vs W₁ hEk, rfl⟩ W₁ F' S' ⟨⟨[], [], F', S', ⟨by simp, subR _, by simp, subR _⟩, ⟨Apart.nilL _, Apart.nilL _, Apart.nilL _⟩, fun _ _ _ _ => trivial, F', S', [], [], ⟨subR _, by simp, subR _, by simp⟩, ⟨Apart.nilR _, Apart.nilR _, Apart.nilR _⟩, h1, trivial⟩, fun b hb => (h4 b (h2 b hb)).1, fun b hb => (h3 b hb).1⟩
      have fin : ∀ b W₂, PostS ⟨W₁, F', S'⟩ (fun _ H' => H' = [if b then J (k + 1) else Jx (k + 1)]) undef W₂ → ∃ D', Ext D W₁ W₂ ∧ (∀ g ∈ D', g < W₂.heap.size ∧ (g ∈ D ∨ W₁.heap.size ≤ g)) ∧ (b = true → KJ J (k + 1) D' W₂) ∧ (b = false → KJ Jx (k + 1) D' W₂) := by
        rintro b W₂ ⟨H', F5, S5, rfl, s5, f5⟩
        have hsz := f5.ext.size
        have hsw := h5.size
        simp only at hsz
        obtain ⟨Fa, Sa, Fb, Sb, ⟨q1, _, q3, _⟩, _, hA, _⟩ := s5.sep
        have hD2 : ∀ g ∈ D ++ (F5 ++ S5).filter (fun g => decide (W₁.heap.size ≤ g)), g < W₂.heap.size ∧ (g ∈ D ∨ W₁.heap.size ≤ g) := by
          intro g hg
          rcases List.mem_append.1 hg with h | h
          · exact ⟨Nat.lt_of_lt_of_le (h4 g h).1 hsz, .inl h⟩
          · obtain ⟨h, hd⟩ := List.mem_filter.1 h
            exact ⟨(List.mem_append.1 h).elim (s5.ltF g) (s5.ltS g), .inr (of_decide_eq_true hd)⟩
        have hE2 : Ext D W₁ W₂ := f5.ext.mono (fun x hx => .inl (h2 x hx))
        have base : ∀ A : Nat → Asn, (A (k + 1)).P Fa Sa W₂ → KJ A (k + 1) (D ++ (F5 ++ S5).filter (fun g => decide (W₁.heap.size ≤ g))) W₂ := fun A hA => by
          refine ⟨Fa, Sa, hA, fun g hg => ?_, fun g hg => ⟨s5.ltS g (q3 hg), ?_⟩, fun g hg => ⟨(hD2 g hg).1, (hD2 g hg).2.elim (fun h => (h4 g h).2) (fun h => .inr (Nat.le_trans hsw h))⟩, h5.transN hE2 (fun x hx => (h4 x hx).2)⟩
          · exact (f5.fF g (q1 hg)).elim (fun h => List.mem_append_left _ (h2 g h)) (fun h => List.mem_append_right _ (List.mem_filter.2 ⟨List.mem_append_left _ (q1 hg), decide_eq_true h⟩))
          · rcases f5.fS g (q3 hg) with h | h | h
            · exact (h3 g h).2.imp (fun h => List.mem_append_left _ h) id
            · exact .inl (List.mem_append_left _ (h2 g h))
            · exact .inl (List.mem_append_right _ (List.mem_filter.2 ⟨List.mem_append_right _ (q3 hg), decide_eq_true h⟩))
        refine ⟨_, hE2, hD2, fun hb => ?_, fun hb => ?_⟩
        · subst hb; exact base J hA
        · subst hb; exact base Jx hA
      rcases hys with ⟨l, rfl, fn, tmps, asv, body, hr, hrd⟩ | ⟨f, first, cap, rfl, hc, hf⟩
      · refine .inl ⟨l, rfl, fn, tmps, asv, body, hr, RoundIn.mono hrd ?_⟩
        rintro e w' ⟨b, rfl, h⟩
        exact ⟨b, rfl, fin b w' h⟩
      · refine .inr ⟨f, first, cap, rfl, hc, hf.mono ?_⟩
        rintro v w' ⟨b, rfl, h⟩
        exact ⟨b, rfl, fin b w' h⟩) ⟨Fj, Sj, hJ, fun b hb => hb, fun b hb => ⟨ltsj b hb, .inr hb⟩, fun b hb => ⟨ltj b hb, .inl hb⟩, Ext.refl _ _⟩
  refine hm.mono ?_
  have out : ∀ (A : Nat → Asn) k D W, KJ A k D W → ∃ F' S', St (A k :: [itA P gf lb N E]) F' S' W ∧ From ⟨w, F, S⟩ W F' S' := by
    rintro A k D W ⟨F', S', h1, h2, h3, h4, h5⟩
    have hsw := h5.size
    refine ⟨F', S' ++ Si', ⟨⟨F', S', [], Si', ⟨subR _, by simp, inL _ _, inR _ _⟩, ⟨Apart.nilR _, fun b hb h => ?_, Apart.nilR _⟩, h1, [], Si', [], [], ⟨by simp, by simp, subR _, by simp⟩, ⟨Apart.nilL _, Apart.nilL _, Apart.nilR _⟩, (itA P gf lb N E).ext _ _ _ _ _ hit h5 (fun b hb h => ?_) (fun b hb h => hap b h hb), trivial⟩, fun b hb => (h4 b (h2 b hb)).1, ?_⟩, ⟨h5.mono (fun x hx => .inl (a1 hx)), fun b hb => (h4 b (h2 b hb)).2.imp (fun h => a1 h) id, ?_⟩⟩
    · exact (h4 b (h2 b hb)).2.elim (fun q => hap b q h) (fun q => by have := ltsi b h; omega)
    · cases hb
    · intro b hb
      exact (List.mem_append.1 hb).elim (fun h => (h3 b h).1) (fun h => Nat.lt_of_lt_of_le (ltsi b h) hsw)
    · intro b hb
      rcases List.mem_append.1 hb with h | h
      · exact (h3 b h).2.elim (fun q => (h4 b q).2.elim (fun q => .inr (.inl (a1 q))) (fun q => .inr (.inr q))) (fun q => .inl (a3 q))
      · exact .inl (a4 (c3 h))
  rintro v W₂ (⟨D, hJN, _⟩ | ⟨k, D, hk, hJx, _⟩)
  · obtain ⟨F', S', s', f'⟩ := out J N D W₂ hJN
    exact ⟨_, F', S', .inl rfl, s', f'⟩
  · obtain ⟨F', S', s', f'⟩ := out Jx k D W₂ hJx
    exact ⟨_, F', S', .inr ⟨k, hk, rfl⟩, s', f'⟩
end Brv
/-
  Loops over iterators in the bodies of loops over iterators.
-/
set_option linter.unusedVariables false
set_option linter.unusedSimpArgs false
namespace Brv
open Go
section
variable {P : Program} {B : Exit → Act → World → Prop} {n : Nat} {df : List Deferred} {ks : List K} {ρ : Env} {o : Org} {H : List Asn}
end
end Brv
/-
  Structures among a row's arguments.
-/
set_option linter.unusedVariables false
namespace Brv
open Go
end Brv
/-
  Arrays of bytes among a row's arguments.
-/
set_option linter.unusedVariables false
namespace Brv
open Go
end Brv
/-
  Structs of plain fields, compared.
-/
set_option linter.unusedVariables false
namespace Brv
open Go
inductive Kd where
  | i (k : IntKind)
  | s
  | b
  | no
  | other
def Kd.eq : Kd → Kd → Bool
  | .i x, .i y => decide (x = y)
  | .s, .s => true
  | .b, .b => true
  | _, _ => false
def kindD : Option TypeDesc → Kd
  | some (.int k) => .i k
  | some .string => .s
  | some .bool => .b
  | _ => .other
def kindT (P : Program) (T : TypeId) : Kd := kindD (P.underlying T)
/-- The fields lie one behind the other, each a cell, of these kinds. -/
def okFs (P : Program) : List Field → Nat → List Kd → Bool
  | [], _, [] => true
  | f :: fs, i, k :: ks => decide (f.name ≠ "_") && P.plainKey f.type && Nat.beq f.offset i && Kd.eq (kindT P f.type) k && okFs P fs (i + 1) ks
  | _, _, _ => false
class TyEqS (P : Program) (T : TypeId) (ks : outParam (List Kd)) : Prop where
  h : P.underlying T = some (.struct (P.fieldsOf T))
  s : P.stoodInHeld T = false
  g : P.eqGuardType P.depth T = false
  f : okFs P (P.fieldsOf T).toList 0 ks = true
section
variable {P : Program} {n : Fm} {ρ : Env} {w : World} {d : Nat} {ty : TypeId} {pos : String} {af : Array Edge} {gd : Option (Nat × Bool)}
end
end Brv
/-
  Regions that draw their order, but end with one operation that comes behind all others: that one is walked last. Operations that make something new, at whatever stage.
-/
set_option linter.unusedVariables false
namespace Brv
open Go
section
variable {P : Program} {F : Fence} {m : Nat}
end
section
variable {P : Program} {B : Exit → Act → World → Prop} {n : Fm} {ks : List K} {ρ : Env} {w : World} {σ : List Nat} {Ms : List Foot} {Js : List (World → Prop)} {X : List (Nat × Nat)}
/-- What is left to do behind all but the last operation of a region. -/
def lastK (P : Program) (n : Fm) (B : Exit → Act → World → Prop) (ks : List K) (full : List Oper) (o : Oper) : K := .hand fun a w => wpListIn (fen n.ro) 0 P full.toArray (sem P n.ro B ks) [o] a w
theorem N.last {full : List Oper} {o : Oper} (h : L P B n full ks ρ w [o]) : N P B n (lastK P n B ks full o :: ks) ρ w := N.hand fun a ha => h a ha
end
section
variable {P : Program} {n : Fm} {ops : List Oper} {Q : Exit → Act → World → Prop} {Js : List (World → Prop)} {σ : List Nat} {Ms : List Foot} {X : List (Nat × Nat)}
variable {ρ : Env} {τ : RelEnv} {i : Nat} {rest : List Oper} {d : Nat} {op : Op} {ty : TypeId} {pos : String} {af : Array Edge} {gd : Option (Nat × Bool)}
end
end Brv
namespace Brv
open Go
section
variable {P : Program} {n : Fm} {ρ : Env} {w : World} {d : Nat} {ty : TypeId} {pos : String} {af : Array Edge} {gd : Option (Nat × Bool)}
end
end Brv
namespace Brv
open Go
section
variable {P : Program} {n : Fm} {ρ : Env} {w : World} {d : Nat} {ty : TypeId} {pos : String} {af : Array Edge} {gd : Option (Nat × Bool)}
end
end Brv
/-
  Rows of structs: appends that tell whether they grow, copies, clears, the entry slices.overlaps.
-/
set_option linter.unusedVariables false
namespace Brv
open Go
section
variable {P : Program} {w : World}
end
/-- The first elements of an owned row. -/
theorem Own.pre {w : World} {E size : Nat} {a : Option Addr} {n cap : Nat} {xs : List Value} {M : List Nat} (h : Own w E size a n cap xs M) {i : Nat} (hi : i ≤ n) : Own w E size a i cap (xs.take (i * size)) M := by
  have hl := h.1
  have hm : i * size ≤ n * size := Nat.mul_le_mul_right _ hi
  refine ⟨by rw [List.length_take, hl]; omega, ?_⟩
  rcases h.2 with ⟨h1, h2, h3, h4⟩ | ⟨g, cur, h1, h2, h3, h4, h5, h6, h7⟩
  · exact .inl ⟨h1, by omega, h3, h4⟩
  · exact .inr ⟨g, cur, h1, h2, h3, by omega, h5, h6, by rw [← h7, List.take_take, Nat.min_eq_left hm]⟩
section
variable {P : Program} {n : Fm} {ρ : Env} {w : World} {ty : TypeId} {pos : String} {af : Array Edge} {gd : Option (Nat × Bool)}
/-- slices.overlaps, of two blocks. -/
theorem R.overlaps {tS tR E size bytes : Nat} {z : Value} [t : TySlice P tS E size bytes z] {d : Nat} {f : FuncId} {fn : Func} {x y : Operand} {ats : Array TypeId} {a b : Addr} {la ca lb cb : Nat} {A B : Array Value} {tA tB : Nat}
    (hf : P.funcs[f]? = some fn) (hname : (fn.name == "runtime.NumGoroutine") = false) (hbd : fn.body.isNone = true) (hn : Extern.findNext fn = none) (he : Extern.find fn = some (Extern.SlicesOverlaps.overlaps #[tS, tS] #[tR]))
    (hx : ev ρ x = some (.slice (some a) la ca)) (hy : ev ρ y = some (.slice (some b) lb cb)) (hA : Blk w a.block A tA (0, 0)) (hB : Blk w b.block B tB (0, 0)) (hne : a.block ≠ b.block) (hB0 : 0 < B.size) :
    Runs P n ρ w ⟨some d, .call ⟨.value (.func f), #[x, y], ats⟩, ty, pos, af, gd⟩ (.bool false) w := by
  obtain ⟨i, hi, hs, _, _⟩ := t.i
  refine R.callX (vs := [.slice (some a) la ca, .slice (some b) lb cb]) (by simp [evs, hx, hy]) ?_
  have hz : ∀ w, (Go.sizeOf E).run P w = .ok size w := fun w => by simp [Go.sizeOf, typeInfo, hi, hs]
  have hfr : ∀ o, w.frozen? { block := a.block, off := o } = false := by
    intro o
    simp only [World.frozen?]
    rw [show w.heap[a.block]? = some (.cells A tA (0, 0)) from hA]
    simp
  have hfa : w.frozen? a = false := by
    simp only [World.frozen?]
    rw [show w.heap[a.block]? = some (.cells A tA (0, 0)) from hA]
    simp
  rw [run_callFunc_extern hf hname hbd hn he]
  have := Lib.run_overlaps_apart (P := P) w tS tR E t.h size hz a b la ca lb cb hne tA tB A.size B.size (by unfold World.shape?; rw [show w.heap[a.block]? = some (.cells A tA (0, 0)) from hA]) (by unfold World.shape?; rw [show w.heap[b.block]? = some (.cells B tB (0, 0)) from hB]) (by omega) hfa (hfr _)
  exact (congrArg (fun r => r.andThen fun v w' => Result.ok (Next.value v) w') this)
end
end Brv
/-
  Orders: keys, rows of pairs, what is found, put and deleted.
-/
set_option linter.unusedVariables false
namespace Brv
open Go
/-- What keys are: values that are compared. -/
class Key (κ : Type) where
  val : κ → Value
  lt : κ → κ → Bool
  one : ∀ k, (val k).oneCell' = true
  cell : ∀ k, (val k).cells = #[val k]
  irr : ∀ k, lt k k = false
  trans : ∀ a b c, lt a b = true → lt b c = true → lt a c = true
  tri : ∀ a b, lt a b = false → lt b a = false → a = b
theorem bl_irr : ∀ a : List UInt8, Op.bytesLess a a = false
  | [] => rfl
  | x :: r => by simp [Op.bytesLess, bl_irr r]
theorem bl_trans : ∀ a b c : List UInt8, Op.bytesLess a b = true → Op.bytesLess b c = true → Op.bytesLess a c = true
  | _, _, [], _, h => by simp [Op.bytesLess] at h
  | _, [], _ :: _, h, _ => by simp [Op.bytesLess] at h
  | [], _ :: _, _ :: _, _, _ => rfl
  | x :: a, y :: b, z :: c, h, k => by
    simp only [Op.bytesLess, Bool.or_eq_true, decide_eq_true_eq, Bool.and_eq_true, beq_iff_eq] at h k ⊢
    rcases h with h | ⟨rfl, h⟩
    · rcases k with k | ⟨rfl, k⟩
      · exact .inl (UInt8.lt_trans h k)
      · exact .inl h
    · rcases k with k | ⟨rfl, k⟩
      · exact .inl k
      · exact .inr ⟨rfl, bl_trans a b c h k⟩
theorem bl_tri : ∀ a b : List UInt8, Op.bytesLess a b = false → Op.bytesLess b a = false → a = b
  | [], [], _, _ => rfl
  | [], y :: b, h, _ => by simp [Op.bytesLess] at h
  | x :: a, [], _, h => by simp [Op.bytesLess] at h
  | x :: a, y :: b, h, k => by
    simp only [Op.bytesLess, Bool.or_eq_false_iff, decide_eq_false_iff_not] at h k
    have e : x = y := by
      have h1 := h.1; have k1 := k.1
      rw [UInt8.not_lt] at h1 k1
      exact UInt8.le_antisymm k1 h1
    subst e
    have h2 := h.2; have k2 := k.2
    simp at h2 k2
    rw [bl_tri a b h2 k2]
instance : Key Int := ⟨.int .i64, fun a b => decide (a < b), fun _ => rfl, fun _ => rfl, fun k => by simp, fun a b c h k => by simp at h k ⊢; omega, fun a b h k => by simp at h k; omega⟩
instance : Key (List UInt8) := ⟨fun k => .string (str k), Op.bytesLess, fun _ => rfl, fun _ => rfl, bl_irr, bl_trans, bl_tri⟩
section
variable {κ : Type} [Key κ]
/-- A key and a value's cells. -/
abbrev Pr (κ : Type) := κ × List Value
def pcell (p : Pr κ) : List Value := Key.val p.1 :: p.2
def pcells (ps : List (Pr κ)) : List Value := (ps.map pcell).flatten
def Sorted (ps : List (Pr κ)) : Prop := ps.Pairwise fun a b => Key.lt a.1 b.1 = true
/-- How many keys are below k. -/
def low (ps : List (Pr κ)) (k : κ) : Nat := (ps.takeWhile fun p => Key.lt p.1 k).length
def hasK (ps : List (Pr κ)) (k : κ) : Bool := match ps[low ps k]? with
  | some p => !Key.lt k p.1
  | none => false
def putK (ps : List (Pr κ)) (k : κ) (v : List Value) : List (Pr κ) := if hasK ps k then ps.set (low ps k) (k, v) else ps.take (low ps k) ++ (k, v) :: ps.drop (low ps k)
/-- Values of so many cells, each a cell. -/
def OkP (sv : Nat) (ps : List (Pr κ)) : Prop := ∀ p ∈ ps, p.2.length = sv ∧ ∀ u ∈ p.2, u.oneCell' = true
omit [Key κ] in
theorem OkP.len {sv : Nat} {ps : List (Pr κ)} (h : OkP sv ps) : ∀ p ∈ ps, p.2.length = sv := fun p hp => (h p hp).1
theorem OkP.put {sv : Nat} {ps : List (Pr κ)} (h : OkP sv ps) {k : κ} {v : List Value} (hv : v.length = sv ∧ ∀ u ∈ v, u.oneCell' = true) : OkP sv (putK ps k v) := by
  unfold putK
  split
  · intro p hp
    rcases List.mem_or_eq_of_mem_set hp with hp | rfl
    · exact h p hp
    · exact hv
  · intro p hp
    rcases List.mem_append.1 hp with hp | hp
    · exact h p (List.mem_of_mem_take hp)
    · rcases List.mem_cons.1 hp with rfl | hp
      · exact hv
      · exact h p (List.mem_of_mem_drop hp)
/-- An order at m (TM: the type of orders, TP: of pairs). S: its blocks. -/
def MapAt (TM TP sv : Nat) (w : World) (m : Nat) (ps : List (Pr κ)) (S : List Nat) : Prop :=
  ∃ a c M, S = m :: M ∧ m ∉ M ∧ Blk w m #[.slice a ps.length c] TM (0, 0) ∧ Own w TP (1 + sv) a ps.length c (pcells ps) M ∧ OkP sv ps ∧ Sorted ps
theorem MapAt.ext {TM TP sv : Nat} {w w' : World} {m : Nat} {ps : List (Pr κ)} {S M' : List Nat} (h : MapAt TM TP sv w m ps S) (he : Ext M' w w') (hm : ∀ y ∈ S, y ∉ M') : MapAt TM TP sv w' m ps S := by
  obtain ⟨a, c, M, rfl, h0, h1, h2, h3, h4⟩ := h
  exact ⟨a, c, M, rfl, h0, h1.ext he (hm m (by simp)), h2.ext he (fun g hg => hm g (by simp [hg])), h3, h4⟩
theorem MapAt.ext0 {TM TP sv : Nat} {w w' : World} {m : Nat} {ps : List (Pr κ)} {S : List Nat} (h : MapAt TM TP sv w m ps S) (he : Ext [] w w') : MapAt TM TP sv w' m ps S := h.ext he (by simp)
theorem MapAt.lt {TM TP sv : Nat} {w : World} {m : Nat} {ps : List (Pr κ)} {S : List Nat} (h : MapAt TM TP sv w m ps S) : ∀ y ∈ S, y < w.heap.size := by
  obtain ⟨a, c, M, rfl, h0, h1, h2, h3, h4⟩ := h
  intro y hy
  rcases List.mem_cons.1 hy with rfl | hy
  · exact h1.lt
  · exact h2.lt y hy
theorem MapAt.still {TM TP sv : Nat} {w w' : World} {m : Nat} {ps : List (Pr κ)} {S : List Nat} (h : MapAt TM TP sv w m ps S) (hs : Still w w') : MapAt TM TP sv w' m ps S := by
  obtain ⟨a, c, M, rfl, h0, h1, h2, h3, h4⟩ := h
  exact ⟨a, c, M, rfl, h0, h1.still hs, h2.still hs, h3, h4⟩
theorem MapAt.ok {TM TP sv : Nat} {w : World} {m : Nat} {ps : List (Pr κ)} {S : List Nat} (h : MapAt TM TP sv w m ps S) : OkP sv ps := by
  obtain ⟨a, c, M, rfl, g0, g1, g2, g3, g4⟩ := h
  exact g3
end
section
variable {P : Program} {n : Fm} {ρ : Env} {w : World} {d : Nat} {ty : TypeId} {pos : String} {af : Array Edge} {gd : Option (Nat × Bool)}
end
section
variable {κ : Type} [Key κ]
theorem Tab.pairs {w : World} {a : Option Addr} {n sv : Nat} {ps : List (Pr κ)} (h : Cells w a (pcells ps)) (hn : n = ps.length) (hok : OkP sv ps) : Tab w a n (1 + sv) (ps.map pcell) :=
  ⟨h, by rw [List.length_map]; exact hn, fun vs hv => by obtain ⟨p, hp, rfl⟩ := List.mem_map.1 hv; show p.2.length + 1 = _; rw [(hok p hp).1]; omega⟩
theorem Own.some {w : World} {E size : Nat} {a : Option Addr} {n cap : Nat} {xs : List Value} {M : List Nat} (h : Own w E size a n cap xs M) (hn : 0 < n) :
    ∃ g cur, a = Option.some ⟨g, 0, none⟩ ∧ M = [g] ∧ Blk w g cur E (0, 0) ∧ n ≤ cap ∧ cap ≤ maxLen ∧ cap * size ≤ cur.size ∧ cur.toList.take (n * size) = xs := by
  rcases h.2 with ⟨_, h2, _⟩ | h
  · omega
  · exact h
end
theorem Over.one {cur : Array Value} {o : Nat} {v : Value} (h : o < cur.size) : cur.setIfInBounds o v = Over cur o [v] := by
  apply Array.toList_inj.1
  rw [Array.toList_setIfInBounds, List.set_eq_take_append_cons_drop, if_pos (by simpa using h)]
  simp [Over]
end Brv
/-
  Orders: what is got, put in place, deleted.
-/
set_option linter.unusedVariables false
namespace Brv
open Go
section
variable {κ : Type} [Key κ]
theorem MapAt.mk {TM TP sv : Nat} {w : World} {m n c : Nat} {a : Option Addr} {ps : List (Pr κ)} {M : List Nat} (hm : m ∉ M) (hb : Blk w m #[.slice a n c] TM (0, 0)) (hn : n = ps.length) (ho : Own w TP (1 + sv) a n c (pcells ps) M) (hok : OkP sv ps) (hs : Sorted ps) : MapAt TM TP sv w m ps (m :: M) := by
  subst hn; exact ⟨a, c, M, rfl, hm, hb, ho, hok, hs⟩
end
section
variable {κ : Type} [Key κ]
end
section
variable {κ : Type} [Key κ]
end
end Brv
/-
  Orders: what is known of keys that are there; strings compared; slices of strings among the arguments.
-/
set_option linter.unusedVariables false
namespace Brv
open Go
section
variable {κ : Type} [Key κ]
end
section
variable {P : Program} {n : Fm} {ρ : Env} {w : World} {d : Nat} {ty : TypeId} {pos : String} {af : Array Edge} {gd : Option (Nat × Bool)}
end
end Brv
/-
  Orders, by definition: what the document's Put, Get, Delete and Floor come to, step by step.
-/
set_option linter.unusedVariables false
namespace Brv
open Go
section
variable {κ : Type} [Key κ]
end
end Brv
/-
  Arrays of bytes as values: from slices, compared.
-/
set_option linter.unusedVariables false
namespace Brv
open Go
section
variable {P : Program} {n : Fm} {ρ : Env} {w : World} {d : Nat} {ty : TypeId} {pos : String} {af : Array Edge} {gd : Option (Nat × Bool)}
/-- (*[m]E)(xs). -/
theorem R.s2ap {T m E size : Nat} [t : TyArr P T m E size] {x : Operand} {a : Option Addr} {k c : Nat} (hx : ev ρ x = some (.slice a k c)) (hk : m ≤ k) :
    Runs P n ρ w ⟨some d, .sliceToArrayPointer T x, ty, pos, af, gd⟩ (.pointer a) w := (fun f hf => by
    simp [execOp, hf.eval hx, run_arrayAt w T E m a k c t.h hk])
/-- An array type of bytes, that may be compared. -/
class TyBArr (P : Program) (T : TypeId) (m : outParam Nat) : Prop where
  h : ∃ E, P.underlying T = some (.array m E) ∧ P.underlying E = some (.int .u8) ∧ (P.info? E).map (·.size) = some 1
  g : P.eqGuardType P.depth T = false
end
theorem Cells.none {w : World} {vs : List Value} (h : Cells w none vs) : vs = [] := by
  cases vs with
  | nil => rfl
  | cons v vs => obtain ⟨p, hp, _⟩ := h 0 v rfl; cases hp
end Brv
namespace Brv
open Go
def ptr (b : Nat) : Value := .pointer (some ⟨b, 0, none⟩)
end Brv
/-
  Slices of three bounds; a struct of two parts.
-/
set_option linter.unusedVariables false
namespace Brv
open Go
section
variable {P : Program} {n : Fm} {ρ : Env} {w : World} {d : Nat} {ty : TypeId} {pos : String} {af : Array Edge} {gd : Option (Nat × Bool)}
theorem R.slLHM {T E size bytes : Nat} {z : Value} [t : TySlice P T E size bytes z] {x lo hi mx : Operand} {k k' k'' : IntKind} {a : Option Addr} {m c : Nat} {i j e : Int} (hx : ev ρ x = some (.slice a m c)) (hlo : ev ρ lo = some (.int k i)) (hhi : ev ρ hi = some (.int k' j)) (hmx : ev ρ mx = some (.int k'' e)) (h0 : 0 ≤ i) (h1 : i ≤ j) (h2 : j ≤ e) (h3 : e ≤ c) :
    Runs P n ρ w ⟨some d, .slice T x (some lo) (some hi) (some mx), ty, pos, af, gd⟩ (.slice (subA a i.toNat e.toNat size) (j.toNat - i.toNat) (e.toNat - i.toNat)) w := (fun f hf => by
    have hb : (Instr.sliceBounds true m c (some (.int k i)) (some (.int k' j)) (some (.int k'' e))).run P w = .ok (i.toNat, j.toNat, e.toNat) w := by
      simp [Instr.sliceBounds, sliceBound_ok (P := P) (k := k'') (i := e) (y := c) (code := .slice3Acap) (by omega) h3 w, sliceBound_ok (P := P) (k := k') (i := j) (y := e.toNat) (code := .slice3B) (by omega) (by omega) w, sliceBound_ok (P := P) (k := k) (i := i) (y := j.toNat) (code := .slice3C) h0 (by omega) w]
    have := run_subS (P := P) (T := T) (a := a) w hb
    simp only [execOp, hf.eval hx, hf.eval hlo, hf.eval hhi, hf.eval hmx, Sem.run_bind, Option.map_some, this]
    rfl)
end
/-- Where the elements of a slice lie; nowhere, if there are none. -/
def effA {α : Type} (a : Option Addr) : List α → Option Addr
  | [] => none
  | _ :: _ => a
theorem effA.of {α : Type} {a : Option Addr} {l : List α} {p : Addr} (h : effA a l = some p) : a = some p := by
  cases l with
  | nil => cases h
  | cons x r => exact h
theorem Cells.extE {α : Type} {f : α → Value} {w w' : World} {M : List Nat} {a : Option Addr} {l : List α} (h : Cells w a (l.map f)) (he : Ext M w w') (hm : ∀ p, effA a l = some p → p.block ∉ M) : Cells w' a (l.map f) := by
  cases l with
  | nil => exact Cells.nil _ _
  | cons x r => exact h.ext he hm
theorem Bs.extE {w w' : World} {M : List Nat} {a : Option Addr} {n : Nat} {l : List UInt8} (h : Bs w a n l) (he : Ext M w w') (hm : ∀ p, effA a l = some p → p.block ∉ M) : Bs w' a n l := ⟨Cells.extE (f := vb) h.cells he hm, h.len⟩
theorem Cells.effLt {α : Type} {f : α → Value} {w : World} {a : Option Addr} {l : List α} (h : Cells w a (l.map f)) : ∀ p, effA a l = some p → p.block < w.heap.size := by
  intro p hp
  cases l with
  | nil => cases hp
  | cons x r =>
    obtain ⟨q, hq, hc⟩ := h 0 (f x) rfl
    have : a = some p := hp
    rw [this] at hq; cases hq
    obtain ⟨o, ho, _⟩ : ∃ o : Obj, w.heap[(p.add 0).block]? = some o ∧ True := by
      unfold World.cell? at hc
      cases ho : w.heap[(p.add 0).block]? with
      | none => simp [ho] at hc
      | some o => exact ⟨o, rfl, trivial⟩
    exact (Array.getElem?_eq_some_iff.1 ho).1
theorem Bs.effLt {w : World} {a : Option Addr} {n : Nat} {l : List UInt8} (h : Bs w a n l) : ∀ p, effA a l = some p → p.block < w.heap.size := Cells.effLt (f := vb) h.cells
end Brv
/-
  Contracts over assertions, from contracts over worlds.
-/
set_option linter.unusedVariables false
set_option linter.unusedSimpArgs false
namespace Brv
open Go
theorem St.blkC {H H' : List Asn} {b : Nat} {cs : List Value} {T : TypeId} {F S : List Nat} {w : World} (s : St H F S w) (h : Sel H (Brv.blk b cs T) H') : Cells w (some ⟨b, 0, none⟩) cs :=
  Cells.of_blk (s.blk h) 0 _ (fun j v hj => by simpa using hj)
/-- A list of one assertion. -/
theorem st_one {A : Asn} {F S : List Nat} {w : World} (h : A.P F S w) (hF : ∀ b ∈ F, b < w.heap.size) (hS : ∀ b ∈ S, b < w.heap.size) : St [A] F S w :=
  ⟨⟨F, S, [], [], ⟨subR _, by simp, subR _, by simp⟩, ⟨Apart.nilR _, Apart.nilR _, Apart.nilR _⟩, h, trivial⟩, hF, hS⟩
theorem st_nil (w : World) : St [] [] [] w := ⟨trivial, by simp, by simp⟩
section
variable {P : Program} {f : FuncId} {vs : List Value}
section
variable {n : Fm} {o : Org} {ρ : Env} {H H0 H1 : List Asn} {d : Option Nat} {ty : TypeId} {pos : String} {af : Array Edge} {gd : Option (Nat × Bool)} {args : Array Operand} {ats : Array TypeId}
theorem CS.buildA {T E size bytes : Nat} {z : Value} [t : TySlice P T E size bytes z] {d len : Nat} {parts : Array (Nat × Operand)} {vs : List (Nat × Value)} (hp : evps ρ parts.toList = some vs) (hl : Nat.ble (len * size) 16777216 = true) (hlen : Nat.beq vs.length len = true) (ho : inOrder 0 vs = true) (hs : vs.all (fun p => Nat.beq p.2.cells.size size) = true)
    (cs : List Value) (hcs : cellsOf vs = cs) : CS P n o ρ H ⟨some d, .buildSlice T len parts, ty, pos, af, gd⟩ (fun v H' => ∃ b, v = .slice (some ⟨b, 0, none⟩) len len ∧ H' = blk b cs E :: H) :=
  CS.mk (fun w => R.buildA hp hl hlen ho hs) (by simpa using hcs)
/-- A block is made of a struct. -/
theorem CS.boxA {T : TypeId} {x : Operand} {cs : List Value} {d : Nat} (hx : ev ρ x = some (.agg cs.toArray)) : CS P n o ρ H ⟨some d, .box T x, ty, pos, af, gd⟩ (fun v H' => ∃ b, v = .pointer (some ⟨b, 0, none⟩) ∧ H' = blk b cs T :: H) :=
  CS.box hx cs (by simp [Value.cells])
theorem CS.box1 {T : TypeId} {x : Operand} {v : Value} {d : Nat} (hx : ev ρ x = some v) (h1 : v.oneCell' = true) : CS P n o ρ H ⟨some d, .box T x, ty, pos, af, gd⟩ (fun v' H' => ∃ b, v' = .pointer (some ⟨b, 0, none⟩) ∧ H' = blk b [v] T :: H) :=
  CS.box hx [v] (by cases v <;> simp_all [Value.cells, Value.oneCell'])
end
end
/-- A block that stays as it is. -/
def fz (b : Nat) (cs : List Value) (T : TypeId) : Asn := sh (fun w => Blk w b cs.toArray T (0, 0))
instance (b : Nat) (cs : List Value) (T : TypeId) : Pers (fz b cs T) := ⟨fun _ _ _ h => h⟩
theorem St.fz {H H' : List Asn} {b : Nat} {cs : List Value} {T : TypeId} {F S : List Nat} {w : World} (s : St H F S w) (h : Sel H (Brv.fz b cs T) H') : Blk w b cs.toArray T (0, 0) := s.sh h
theorem Imp.fz {H H' : List Asn} {b : Nat} {cs : List Value} {T : TypeId} (h : Sel H (blk b cs T) H') : Imp H (Brv.fz b cs T :: H') := Imp.blkSh h fun _ h => h
/-- A block among the assertions, owned or frozen. -/
inductive SelB : List Asn → Nat → List Value → TypeId → Prop
  | blk {b : Nat} {cs : List Value} {T : TypeId} {H : List Asn} : SelB (Brv.blk b cs T :: H) b cs T
  | fz {b : Nat} {cs : List Value} {T : TypeId} {H : List Asn} : SelB (Brv.fz b cs T :: H) b cs T
  | there {A : Asn} {b : Nat} {cs : List Value} {T : TypeId} {H : List Asn} : SelB H b cs T → SelB (A :: H) b cs T
theorem SelB.get {H : List Asn} {b : Nat} {cs : List Value} {T : TypeId} (h : SelB H b cs T) : ∀ {F S : List Nat} {w : World}, Sep H F S w → Blk w b cs.toArray T (0, 0) := by
  induction h with
  | blk => exact fun {F S w} ⟨_, _, _, _, _, _, hA, _⟩ => hA.2
  | fz => exact fun {F S w} ⟨_, _, _, _, _, _, hA, _⟩ => hA [] w (Ext.refl _ _) (Apart.nilR _)
  | there _ ih => exact fun {F S w} ⟨_, _, _, _, _, _, _, hH⟩ => ih hH
theorem St.cel {H : List Asn} {b : Nat} {cs : List Value} {T : TypeId} {F S : List Nat} {w : World} (s : St H F S w) (h : SelB H b cs T) : Blk w b cs.toArray T (0, 0) := h.get s.sep
/-- An order of keys and values (its blocks are its own). -/
def mp {κ : Type} [Key κ] (TM TP sv : Nat) (m : Nat) (ps : List (Pr κ)) : Asn where
  P := fun F _ w => MapAt TM TP sv w m ps F
  ext := fun F S M w w' h he hF _ => h.ext he hF
theorem St.mp {κ : Type} [Key κ] {TM TP sv m : Nat} {ps : List (Pr κ)} {H H' : List Asn} {F S : List Nat} {w : World} (s : St H F S w) (h : Sel H (Brv.mp TM TP sv m ps) H') : ∃ S', MapAt TM TP sv w m ps S' := (s.sel h).elim fun F1 h => h.elim fun _ h => ⟨F1, h.2⟩
/-- The usual searches, in short (minify.py: sE0 sE1 sE2). -/
theorem sE0 {H H' : List Asn} {A : Asn} (h : Sel H A H' := by repeat (first | exact Sel.keep | exact Sel.here | apply Sel.there)) : Sel H A H' := h
theorem sE1 {H H0 H1 : List Asn} (h : Sels H H0 H1 := by repeat (first | exact Sels.nil | apply Sels.cons | exact Sel.keep | exact Sel.here | apply Sel.there)) : Sels H H0 H1 := h
theorem sE2 {H : List Asn} {b : Nat} {cs : List Value} {T : TypeId} (h : SelB H b cs T := by repeat (first | exact SelB.blk | exact SelB.fz | apply SelB.there)) : SelB H b cs T := h
end Brv
/-
  Laws over assertions: all that is there at the beginning is shared.
-/
set_option linter.unusedVariables false
set_option linter.unusedSimpArgs false
namespace Brv
open Go
class PersL (H : List Asn) : Prop where
  h : ∀ F S w, Sep H F S w → Sep H [] S w
instance : PersL [] := ⟨fun _ _ _ _ => trivial⟩
instance (A : Asn) (H : List Asn) [a : Pers A] [t : PersL H] : PersL (A :: H) := ⟨fun F S w ⟨F1, S1, F2, S2, ⟨p, q, r, s⟩, _, hA, hH⟩ =>
  ⟨[], S1, [], S2, ⟨by simp, by simp, r, s⟩, ⟨Apart.nilL _, Apart.nilL _, Apart.nilR _⟩, a.h _ _ _ hA, t.h _ _ _ hH⟩⟩
def lawO (w : World) : Org := ⟨w, [], List.range w.heap.size⟩
/-- What is true of the old blocks, at a law's beginning. -/
theorem law_nil (w : World) : St [] [] (List.range w.heap.size) w := ⟨trivial, by simp, fun b h => List.mem_range.1 h⟩
theorem law_cons {H : List Asn} {w : World} {p : World → Prop} (hp : ∀ w', Ext [] w w' → p w') (h : St H [] (List.range w.heap.size) w) : St (sh p :: H) [] (List.range w.heap.size) w :=
  ⟨⟨[], List.range w.heap.size, [], List.range w.heap.size, ⟨by simp, by simp, subR _, subR _⟩, ⟨Apart.nilL _, Apart.nilL _, Apart.nilR _⟩, sh_old hp [], h.sep⟩, by simp, fun b h => List.mem_range.1 h⟩
theorem law_bs {H : List Asn} {w : World} {a : Option Addr} {n : Nat} {l : List UInt8} (hb : Bs w a n l) (h : St H [] (List.range w.heap.size) w) : St (bs a n l :: H) [] (List.range w.heap.size) w := law_cons (fun w' he => hb.ext0 he) h
theorem Meets.law {P : Program} {f : FuncId} {fn : Func} {c : Code} {args : List Value} {w : World} {H : List Asn} {x : Value} (hf : P.funcs[f]? = some fn) (hb : fn.body = some c) (n : Nat) (hn : fn.ntmps = n) (hl : args.length ≤ n) (hs : St H [] (List.range w.heap.size) w)
    (h : SG P (Func.base P fn (PostS (lawO w) (fun v _ => v = x))) ⟨n, [], none⟩ (lawO w) [] (argEnv 0 args) H c) : Meets P f args w (fun v w' => v = x ∧ Ext [] w w') :=
  (Meets.enter hf hb n hn hl (h w [] _ hs (From.refl w [] _))).mono fun v w' ⟨_, _, _, hv, _, fr⟩ => ⟨hv, fr.ext⟩
section
variable {P : Program} {n : Fm} {w₀ : World} {ρ : Env} {H H0 H1 : List Asn} {d : Option Nat} {ty : TypeId} {pos : String} {af : Array Edge} {gd : Option (Nat × Bool)} {args : Array Operand} {ats : Array TypeId} {f : FuncId} {vs : List Value}
end
section
variable {P : Program} {n : Fm} {o : Org} {ρ : Env} {H H1 : List Asn} {ty : TypeId} {pos : String} {af : Array Edge} {gd : Option (Nat × Bool)}
end
end Brv
/-
  A return of a struct that lives in a block, and of two plain results.
-/
set_option linter.unusedVariables false
namespace Brv
open Go
section
variable {P : Program} {n : Nat} {ks : List K} {ρ : Env} {w : World} {fn : Func} {Φ : Value → World → Prop}
theorem G.retCTT {t u y : Nat} {T : TypeId} {s b : Nat} [ta : TyAgg P T s] {cs : Array Value} {U : TypeId} {fz : Nat × Nat} {x z : Value} (hr : fn.results = #[.cell t T, .tmp u, .tmp y]) (hv : look ρ t = some (.pointer (some ⟨b, 0, none⟩))) (hx : look ρ u = some x) (hy : look ρ y = some z)
    (hb : Blk w b cs U fz) (hs : cs.size = s) (h : Φ (.tuple #[.agg cs, x, z]) w) : G P (Func.base P fn Φ) ⟨n, [], none⟩ ks ρ w .ret := by
  refine G.retM (n := ⟨n, [], none⟩) rfl (fun a ha => ?_) h
  have e1 := ha.getD hv
  have e2 := ha.getD hx
  have e3 := ha.getD hy
  have hl0 := run_loadN (P := P) (T := T) (s := s) (w := w) (p := ⟨b, 0, none⟩) (vs := cs.toList) hb.cellsAll (by simpa using hs)
  have hl : (loadVar T ⟨b, 0, none⟩).run P w = .ok (.agg cs) w := by simpa [Instr.loadAt, Instr.sureAddr] using hl0
  rw [Array.getD_eq_getD_getElem?] at e1 e2 e3
  simp [results, hr, e1, e2, e3, asAddr, hl]
end
end Brv
/-
  Assertions with something hidden.
-/
set_option linter.unusedVariables false
set_option linter.unusedSimpArgs false
namespace Brv
open Go
/-- A list of assertions, whose parts aren't told. -/
def pk {ι : Type} (A : ι → List Asn) : Asn where
  P := fun F S w => ∃ i, Sep (A i) F S w
  ext := fun _ _ _ _ _ ⟨i, h⟩ he hF hS => ⟨i, h.ext he hF hS⟩
theorem pk_one {ι : Type} {A : ι → List Asn} {F S : List Nat} {w : World} (i : ι) (h : St (A i) F S w) : St [pk A] F S w := st_one ⟨i, h.sep⟩ h.ltF h.ltS
theorem pk_open {ι : Type} {A : ι → List Asn} {F S : List Nat} {w : World} (h : St [pk A] F S w) : ∃ i F1 S1, St (A i) F1 S1 w ∧ F1 ⊆ F ∧ S1 ⊆ S := by
  obtain ⟨F1, S1, _, _, ⟨a, _, c, _⟩, _, ⟨i, hA⟩, _⟩ := h.sep
  exact ⟨i, F1, S1, ⟨hA, fun x hx => h.ltF x (a hx), fun x hx => h.ltS x (c hx)⟩, a, c⟩
theorem From.lift {w w' : World} {F S F1 S1 F' S' : List Nat} (h : From ⟨w, F1, S1⟩ w' F' S') (hF : F1 ⊆ F) (hS : S1 ⊆ S) : From ⟨w, F, S⟩ w' F' S' :=
  ⟨h.ext.mono (fun x hx => .inl (hF hx)), fun b hb => (h.fF b hb).imp (fun q => hF q) id, fun b hb => (h.fS b hb).imp (fun q => hS q) (fun q => q.imp (fun q => hF q) id)⟩
section
variable {P : Program} {f : FuncId} {vs : List Value} {ι κ : Type}
/-- A function on what is hidden. -/
theorem SpecS.pack {A : ι → List Asn} {B : κ → List Asn} {φ : Value → Prop} (h : ∀ i, SpecS P f vs (A i) (fun v H' => φ v ∧ ∃ j, H' = B j)) : SpecS P f vs [pk A] (fun v H' => φ v ∧ H' = [pk B]) := fun w F S st => by
  obtain ⟨i, F1, S1, st1, a, c⟩ := pk_open st
  refine (h i w F1 S1 st1).mono ?_
  rintro v w' ⟨_, F', S', ⟨hφ, j, rfl⟩, st', fr⟩
  exact ⟨_, F', S', ⟨hφ, rfl⟩, pk_one j st', fr.lift a c⟩
end
end Brv
namespace Brv
open Go
section
variable {P : Program} {f : FuncId} {vs : List Value} {ι : Type}
theorem Sels.app : ∀ (H0 H1 : List Asn), Sels (H0 ++ H1) H0 H1
  | [], _ => .nil
  | _ :: H0, H1 => .cons .here (Sels.app H0 H1)
theorem SpecS.opened {A : ι → List Asn} {K : List Asn} {Φ : Value → List Asn → Prop} (h : ∀ i, SpecS P f vs (A i ++ K) Φ) : SpecS P f vs (pk A :: K) Φ := fun w F S st => by
  obtain ⟨F1, S1, F2, S2, hs, hd, ⟨i, hA⟩, hK⟩ := st.sep
  exact h i w F S ⟨Sep.join ⟨F1, S1, F2, S2, hs, hd, hA, hK⟩, st.ltF, st.ltS⟩
theorem SpecS.closed {H : List Asn} {Φ Φ' : Value → List Asn → Prop} (h : SpecS P f vs H Φ) (hm : ∀ v H', Φ v H' → ∃ H'', Imp H' H'' ∧ Φ' v H'') : SpecS P f vs H Φ' := fun w F S st => (h w F S st).mono fun v w' ⟨H', F', S', h1, st', fr⟩ => by
  obtain ⟨H'', hi, h2⟩ := hm v H' h1
  obtain ⟨F2, S2, s2, f2⟩ := hi.at st' fr
  exact ⟨H'', F2, S2, h2, s2, f2⟩
end
section
variable {P : Program} {n : Nat} {o : Org} {ks : List K} {ρ : Env} {H H' : List Asn} {fn : Func} {Φ : Value → List Asn → Prop}
theorem SG.retCTT {t u y : Nat} {T : TypeId} {s b : Nat} [ta : TyAgg P T s] {cs : List Value} {U : TypeId} {H1 : List Asn} {x z : Value} (hr : fn.results = #[.cell t T, .tmp u, .tmp y]) (hv : look ρ t = some (.pointer (some ⟨b, 0, none⟩))) (hx : look ρ u = some x) (hy : look ρ y = some z) (hb : Sel H (blk b cs U) H1) (hl : cs.length = s) (i : Imp H H') (h : Φ (.tuple #[.agg cs.toArray, x, z]) H') :
    SG P (Func.base P fn (PostS o Φ)) ⟨n, [], none⟩ o ks ρ H .ret := fun w F S st f => G.retCTT hr hv hx hy (st.blk hb) (by simpa using hl) (post_of i h st f)
end
end Brv
/-
  Regions that draw their order, where those that turn the world stand in no chain: a walk for every order of these.
-/
set_option linter.unusedVariables false
set_option linter.unusedSimpArgs false
namespace Brv
open Go
/-- Which operation comes next: one that only reads, or any of those that turn the world. -/
inductive Tr where
  | nil
  | flo (i : Nat) (t : Tr)
  | alt (i : Nat) (t r : Tr)
  | stop
def Tr.choices : Tr → List Nat
  | .alt i _ r => i :: r.choices
  | _ => []
section
variable (P : Program) (n : Fm) (ops : List Oper) (Q : Exit → Act → World → Prop) (o : Org)
def TW : Tr → Pend → Env → List Asn → Prop
  | .nil, _, ρ, H => ∀ w F S, St H F S w → From o w F S → ∀ a, Fr n ρ a → Q .normal a w
  | .flo i t, pend, ρ, H => (∃ w F S, St H F S w ∧ From o w F S) → ∃ op, ops[i]? = some op ∧ isSelect op.op = false ∧ (∀ d, op.dst = some d → d < n.n) ∧ ∃ v, op.dst ≠ none ∧ ((∀ w, Fl P n ops ρ w op v) ∧ TW t pend (extE op.dst v ρ) H ∨
        ∃ g : List Asn → Prop, g H ∧ (∀ H w F S, g H → St H F S w → From o w F S → Fl P n ops ρ w op v) ∧ TW t ((i, g) :: pend) (extE op.dst v ρ) H)
  | .alt i t r, pend, ρ, H => ((∃ w F S, St H F S w ∧ From o w F S) → ∃ op, ops[i]? = some op ∧ isSelect op.op = false ∧ (∀ d, op.dst = some d → d < n.n) ∧ ∃ Ψ : Value → List Asn → Prop, ((wants ops ρ op.guard = some true ∧ CS P n o ρ H op Ψ) ∨ (wants ops ρ op.guard = some false ∧ Ψ = fun v H' => v = undef ∧ H' = H)) ∧
        ∀ v H', Ψ v H' → Obl ops i pend H' ∧ TW t pend (extE op.dst v ρ) H') ∧ TW r pend ρ H
  | .stop, _, _, _ => True
end
/-- Are all the others held back? -/
def chkC (ops : List Oper) (done : List Nat) : Tr → Bool
  | .nil => true
  | .flo _ _ => true
  | .stop => false
  | t => (List.range ops.length).all fun x => done.any (Nat.beq x) || t.choices.any (Nat.beq x) || t.choices.any (fun c => reachIn (masks ops ops.length) x c)
def chkT (ops : List Oper) : List Nat → Tr → Bool
  | done, .nil => (List.range ops.length).all fun i => done.any (Nat.beq i)
  | done, .flo i t => Nat.blt i ops.length && !done.any (Nat.beq i) && (afters ops i).all (fun k => done.any (Nat.beq k)) && chkC ops (i :: done) t && chkT ops (i :: done) t
  | done, .alt i t r => Nat.blt i ops.length && !done.any (Nat.beq i) && (afters ops i).all (fun k => done.any (Nat.beq k)) && chkC ops (i :: done) t && chkT ops (i :: done) t && chkT ops done r
  | _, .stop => true
section
variable {P : Program} {n : Fm} {ops : List Oper} {Q : Exit → Act → World → Prop} {o : Org}
theorem chkT_choice : ∀ {t : Tr} {done : List Nat}, chkT ops done t = true → ∀ c ∈ t.choices, c < ops.length ∧ c ∉ done ∧ ∀ k ∈ afters ops c, k ∈ done
  | .nil, _, _, c, hc => by cases hc
  | .flo _ _, _, _, c, hc => by cases hc
  | .stop, _, _, c, hc => by cases hc
  | .alt i t r, done, h, c, hc => by
    simp only [chkT, Bool.and_eq_true, Bool.not_eq_true', Nat.blt_eq] at h
    obtain ⟨⟨⟨⟨⟨h1, h2⟩, h3⟩, h4⟩, h5⟩, h6⟩ := h
    rcases List.mem_cons.1 hc with rfl | hc
    · exact ⟨h1, (fun hm => by have := any_beq.2 hm; rw [h2] at this; cases this), fun k hk => any_beq.1 (List.all_eq_true.1 h3 k hk)⟩
    · exact chkT_choice h6 c hc
theorem TW.pick : ∀ {t : Tr} {pend : Pend} {ρ : Env} {H : List Asn} {done : List Nat} {i : Nat}, TW P n ops Q o t pend ρ H → chkT ops done t = true → i ∈ t.choices → ∃ u, ((∀ k ∈ afters ops i, k ∈ done) ∧ chkC ops (i :: done) u = true ∧ chkT ops (i :: done) u = true) ∧
      ((∃ w F S, St H F S w ∧ From o w F S) → ∃ op, ops[i]? = some op ∧ isSelect op.op = false ∧ (∀ d, op.dst = some d → d < n.n) ∧ ∃ Ψ : Value → List Asn → Prop, ((wants ops ρ op.guard = some true ∧ CS P n o ρ H op Ψ) ∨ (wants ops ρ op.guard = some false ∧ Ψ = fun v H' => v = undef ∧ H' = H)) ∧
        ∀ v H', Ψ v H' → Obl ops i pend H' ∧ TW P n ops Q o u pend (extE op.dst v ρ) H')
  | .nil, _, _, _, _, _, _, _, hi => by cases hi
  | .flo _ _, _, _, _, _, _, _, _, hi => by cases hi
  | .stop, _, _, _, _, _, _, _, hi => by cases hi
  | .alt j t r, pend, ρ, H, done, i, hsw, h, hi => by
    have h0 := h
    simp only [chkT, Bool.and_eq_true, Bool.not_eq_true', Nat.blt_eq] at h
    obtain ⟨⟨⟨⟨⟨h1, h2⟩, h3⟩, h4⟩, h5⟩, h6⟩ := h
    simp only [TW] at hsw
    by_cases hij : i = j
    · subst hij
      exact ⟨t, ⟨fun k hk => any_beq.1 (List.all_eq_true.1 h3 k hk), h4, h5⟩, hsw.1⟩
    · exact TW.pick hsw.2 h6 ((List.mem_cons.1 hi).resolve_left hij)
/-- What is so while the region runs. -/
structure TInv (P : Program) (n : Fm) (ops : List Oper) (Q : Exit → Act → World → Prop) (o : Org) (ρ₀ : Env) (listed : Array Bool) (a : Act) (w : World) (done : List Nat) (t₀ : Tr) (pend : Pend) (H : List Asn) (F S : List Nat) (val : Nat → Value) : Prop where
  lsz : listed.size = ops.length
  tsz : a.tmps.size = n.n
  tdf : a.defers = n.df
  closed : Closed ops (fun i => listed[i]? = some true)
  ok : DoneOk ops done
  ordC : chkC ops done t₀ = true
  ordT : chkT ops done t₀ = true
  sw : TW P n ops Q o t₀ pend (envOf ops val ρ₀ done) H
  st : St H F S w
  fr : From o w F S
  ldone : ∀ i, listed[i]? = some true → i ∈ done
  pok : ∀ (i : Nat) (op : Oper), i ∈ done → listed[i]? ≠ some true → ops[i]? = some op → isSelect op.op = false ∧ (∀ d, op.dst = some d → d < n.n) ∧ op.dst ≠ none ∧ ((∀ w, Fl P n ops (envB ops val ρ₀ i done) w op (val i)) ∨ ∃ g : List Asn → Prop, (i, g) ∈ pend ∧ g H ∧ ∀ H w F S, g H → St H F S w → From o w F S → Fl P n ops (envB ops val ρ₀ i done) w op (val i))
  d1 : ∀ (i : Nat) (op : Oper) (d : Nat), listed[i]? = some true → ops[i]? = some op → op.dst = some d → a.tmps[d]? = some (val i)
  d2 : ∀ t v, look ρ₀ t = some v → (∀ (i : Nat) (op : Oper), listed[i]? = some true → ops[i]? = some op → op.dst ≠ some t) → a.tmps[t]? = some v
  lt0 : ∀ t v, look ρ₀ t = some v → t < n.n
  ltd : ∀ (i : Nat) (op : Oper) (d : Nat), i ∈ done → ops[i]? = some op → op.dst = some d → d < n.n

/-- The slots that an operation looks at are as its environment has them. -/
theorem TInv.slots {ρ₀ : Env} {listed : Array Bool} {a : Act} {w : World} {done : List Nat} {t₀ : Tr} {pend : Pend} {H : List Asn} {F S : List Nat} {val : Nat → Value} (C : Chk ops []) (I : TInv P n ops Q o ρ₀ listed a w done t₀ pend H F S val)
    {i : Nat} {op : Oper} (hi : ops[i]? = some op) (hnl : listed[i]? ≠ some true) (haft : ∀ k ∈ afters ops i, listed[k]? = some true) {d : List Nat} (hd : DoneOk ops d) (hda : ∀ k ∈ afters ops i, k ∈ d) (hid : i ∉ d) :
    ∀ t ∈ slots ops op, ∀ u, look (envOf ops val ρ₀ d) t = some u → a.tmps[t]? = some u := by
  intro t ht u hu
  rcases look_envOf hu with ⟨j, oj, hj, hoj, hdj, rfl⟩ | ⟨h0, hno⟩
  · rcases C.share i op hi t ht j oj hoj hdj with e | e | e
    · exact absurd (e ▸ hj) hid
    · exact I.d1 j oj t (haft j e) hoj hdj
    · exact absurd (hd.back hj e) hid
  · refine I.d2 t u h0 (fun j oj hlj hoj hdj => ?_)
    rcases C.share i op hi t ht j oj hoj hdj with e | e | e
    · exact hnl (e ▸ hlj)
    · exact hno j oj (hda j e) hoj hdj
    · exact hnl (I.closed j hlj i e)
/-- The walk goes on over all that only read. -/
theorem TInv.adv {ρ₀ : Env} {listed : Array Bool} {a : Act} {w : World} : ∀ {t₀ : Tr} {done : List Nat} {pend : Pend} {H : List Asn} {F S : List Nat} {val : Nat → Value}, TInv P n ops Q o ρ₀ listed a w done t₀ pend H F S val →
    ∃ done' t' pend' val', TInv P n ops Q o ρ₀ listed a w done' t' pend' H F S val' ∧ (t' = .nil ∨ ∃ c u r, t' = .alt c u r)
  | .nil, done, pend, H, F, S, val, I => ⟨done, .nil, pend, val, I, .inl rfl⟩
  | .alt c u r, done, pend, H, F, S, val, I => ⟨done, .alt c u r, pend, val, I, .inr ⟨c, u, r, rfl⟩⟩
  | .stop, done, pend, H, F, S, val, I => by have := I.ordC; simp [chkC] at this
  | .flo i t, done, pend, H, F, S, val, I => by
      have ho := I.ordT
      simp only [chkT, Bool.and_eq_true, Bool.not_eq_true', Nat.blt_eq] at ho
      obtain ⟨⟨⟨⟨h1, h2⟩, h3⟩, h4⟩, h5⟩ := ho
      have hid : i ∉ done := fun h => by have := any_beq.2 h; rw [h2] at this; cases this
      have hia : ∀ k ∈ afters ops i, k ∈ done := fun k hk => any_beq.1 (List.all_eq_true.1 h3 k hk)
      have hop : ops[i]? = some ops[i] := List.getElem?_eq_getElem h1
      have hsw := I.sw
      simp only [TW] at hsw
      obtain ⟨op, ho, q1, q2, v, q3, q⟩ := hsw ⟨w, F, S, I.st, I.fr⟩
      rw [hop] at ho; cases ho
      have hnl : listed[i]? ≠ some true := fun h => hid (I.ldone i h)
      obtain ⟨val', hv'⟩ : ∃ val' : Nat → Value, val' = fun j => if j = i then v else val j := ⟨_, rfl⟩
      have hvi : val' i = v := by rw [hv']; simp
      have hvd : ∀ j ∈ done, val j = val' j := fun j hj => by rw [hv']; simp only [if_neg (fun e : j = i => hid (e ▸ hj))]
      have hE : envOf ops val' ρ₀ (i :: done) = extE ops[i].dst v (envOf ops val ρ₀ done) := by
        simp only [envOf, hop, Option.bind_some, hvi]
        rw [envOf_congr (fun j hj => (hvd j hj).symm)]
      have hB : envB ops val' ρ₀ i (i :: done) = envOf ops val ρ₀ done := by simp only [envB, if_true]; exact envOf_congr (fun j hj => (hvd j hj).symm)
      have hB2 : ∀ j, j ∈ done → envB ops val' ρ₀ j (i :: done) = envB ops val ρ₀ j done := fun j hj => by
        simp only [envB]
        rw [if_neg (fun e : i = j => hid (e ▸ hj))]
        exact envB_congr (fun j hj => (hvd j hj).symm)
      have hd1 : ∀ j op d, listed[j]? = some true → ops[j]? = some op → op.dst = some d → a.tmps[d]? = some (val' j) := fun j op d h1 h2 h3 => by rw [← hvd j (I.ldone j h1)]; exact I.d1 j op d h1 h2 h3
      have hltd : ∀ j op d, j ∈ i :: done → ops[j]? = some op → op.dst = some d → d < n.n := fun j op d hj hoj hdj => by
        rcases List.mem_cons.1 hj with rfl | hj
        · rw [hop] at hoj; cases hoj; exact q2 d hdj
        · exact I.ltd j op d hj hoj hdj
      rcases q with ⟨q4, q5⟩ | ⟨g, q4, q5, q6⟩
      · exact TInv.adv (t₀ := t) (done := i :: done) (pend := pend) (H := H) (F := F) (S := S) (val := val') ⟨I.lsz, I.tsz, I.tdf, I.closed, ⟨hid, h1, hia, I.ok⟩, h4, h5, by rw [hE]; exact q5, I.st, I.fr, fun j hj => by simp [I.ldone j hj],
          fun j op hj hnj hoj => by
            rcases List.mem_cons.1 hj with rfl | hj
            · rw [hop] at hoj; cases hoj
              exact ⟨q1, q2, q3, .inl (by rw [hB, hvi]; exact q4)⟩
            · rw [hB2 j hj, ← hvd j hj]
              exact I.pok j op hj hnj hoj, hd1, I.d2, I.lt0, hltd⟩
      · exact TInv.adv (t₀ := t) (done := i :: done) (pend := (i, g) :: pend) (H := H) (F := F) (S := S) (val := val') ⟨I.lsz, I.tsz, I.tdf, I.closed, ⟨hid, h1, hia, I.ok⟩, h4, h5, by rw [hE]; exact q6, I.st, I.fr, fun j hj => by simp [I.ldone j hj],
          fun j op hj hnj hoj => by
            rcases List.mem_cons.1 hj with rfl | hj
            · rw [hop] at hoj; cases hoj
              exact ⟨q1, q2, q3, .inr ⟨g, by simp, q4, by rw [hB, hvi]; exact q5⟩⟩
            · rw [hB2 j hj, ← hvd j hj]
              obtain ⟨k1, k2, k3, k4⟩ := I.pok j op hj hnj hoj
              exact ⟨k1, k2, k3, k4.imp id (fun ⟨g', m1, m2⟩ => ⟨g', by simp [m1], m2⟩)⟩, hd1, I.d2, I.lt0, hltd⟩
/-- One operation is done, which was walked over. -/
theorem TInv.float {ρ₀ : Env} {listed : Array Bool} {a : Act} {w : World} {done : List Nat} {t₀ : Tr} {pend : Pend} {H : List Asn} {F S : List Nat} {val : Nat → Value} (C : Chk ops []) (I : TInv P n ops Q o ρ₀ listed a w done t₀ pend H F S val)
    {i : Nat} {op : Oper} (hi : ops[i]? = some op) (hid : i ∈ done) (hnl : listed[i]? ≠ some true) (haft : ∀ k ∈ afters ops i, listed[k]? = some true) :
    TInv P n ops Q o ρ₀ (listed.setIfInBounds i true) (a.put op.dst (val i)) w done t₀ pend H F S val := by
  have hlt : i < listed.size := by rw [I.lsz]; exact (List.getElem?_eq_some_iff.1 hi).1
  obtain ⟨d, hd⟩ : ∃ d, op.dst = some d := by
    have := (I.pok i op hid hnl hi).2.2.1
    cases h : op.dst with
    | none => exact absurd h this
    | some d => exact ⟨d, rfl⟩
  have hdn : d < a.tmps.size := by rw [I.tsz]; exact (I.pok i op hid hnl hi).2.1 d hd
  refine ⟨by simpa using I.lsz, by rw [hd]; simpa [Act.put] using I.tsz, by rw [hd]; simpa [Act.put] using I.tdf, ?_, I.ok, I.ordC, I.ordT, I.sw, I.st, I.fr, ?_, ?_, ?_, ?_, I.lt0, I.ltd⟩
  · intro x hx y hy
    rw [listed_set hlt] at hx ⊢
    rcases hx with rfl | hx
    · exact .inr (haft y hy)
    · exact .inr (I.closed x hx y hy)
  · intro x hx
    rcases (listed_set hlt).1 hx with rfl | hx
    · exact hid
    · exact I.ldone x hx
  · intro x ox hx hnx hox
    exact I.pok x ox hx (fun h => hnx ((listed_set hlt).2 (.inr h))) hox
  · intro x ox dx hx hox hdx
    rw [hd]
    simp only [Act.put]
    rcases (listed_set hlt).1 hx with rfl | hx
    · rw [hi] at hox; cases hox
      rw [hd] at hdx; cases hdx
      rw [Array.getElem?_setIfInBounds]; simp [hdn]
    · have hne : d ≠ dx := by
        intro e; subst e
        have := C.apart x ox d hox hdx i op hi hd
        exact hnl (this ▸ hx)
      rw [Array.getElem?_setIfInBounds_ne hne]
      exact I.d1 x ox dx hx hox hdx
  · intro t v hv hno
    have hne : d ≠ t := fun e => hno i op ((listed_set hlt).2 (.inl rfl)) hi (by rw [hd, e])
    rw [hd]
    simp only [Act.put]
    rw [Array.getElem?_setIfInBounds_ne hne]
    exact I.d2 t v hv (fun j oj hj => hno j oj ((listed_set hlt).2 (.inr hj)))

/-- The next one of the chain is done. -/
theorem TInv.chain {ρ₀ : Env} {listed : Array Bool} {a : Act} {w : World} {done : List Nat} {t₀ u : Tr} {pend : Pend} {H : List Asn} {F S : List Nat} {val : Nat → Value} (C : Chk ops []) {i : Nat} {op : Oper} (I : TInv P n ops Q o ρ₀ listed a w done t₀ pend H F S val)
    (hi : ops[i]? = some op) (hnl : listed[i]? ≠ some true) (haft : ∀ k ∈ afters ops i, listed[k]? = some true) (hid : i ∉ done) (hia : ∀ k ∈ afters ops i, k ∈ done) (hdn : ∀ d, op.dst = some d → d < n.n) (hordC : chkC ops (i :: done) u = true) (hordT : chkT ops (i :: done) u = true)
    {v : Value} {H' : List Asn} {F' S' : List Nat} {w' : World} (hob : Obl ops i pend H') (hsw : TW P n ops Q o u pend (extE op.dst v (envOf ops val ρ₀ done)) H') (s' : St H' F' S' w') (f' : From o w' F' S') :
    TInv P n ops Q o ρ₀ (listed.setIfInBounds i true) (a.put op.dst v) w' (i :: done) u pend H' F' S' (fun j => if j = i then v else val j) := by
  have hll := (List.getElem?_eq_some_iff.1 hi).1
  have hlt : i < listed.size := by rw [I.lsz]; exact hll
  obtain ⟨val', hv'⟩ : ∃ val' : Nat → Value, val' = fun j => if j = i then v else val j := ⟨_, rfl⟩
  rw [← hv']
  have hvi : val' i = v := by rw [hv']; simp
  have hvd : ∀ j ∈ done, val j = val' j := fun j hj => by rw [hv']; simp only [if_neg (fun e : j = i => hid (e ▸ hj))]
  have hE : envOf ops val' ρ₀ (i :: done) = extE op.dst v (envOf ops val ρ₀ done) := by
    simp only [envOf, hi, Option.bind_some, hvi]
    rw [envOf_congr (fun j hj => (hvd j hj).symm)]
  have hB2 : ∀ j, j ∈ done → envB ops val' ρ₀ j (i :: done) = envB ops val ρ₀ j done := fun j hj => by
    simp only [envB]
    rw [if_neg (fun e : i = j => hid (e ▸ hj))]
    exact envB_congr (fun j hj => (hvd j hj).symm)
  refine ⟨by simpa using I.lsz, ?_, ?_, ?_, ⟨hid, hll, hia, I.ok⟩, hordC, hordT, by rw [hE]; exact hsw, s', f', ?_, ?_, ?_, ?_, I.lt0, ?_⟩
  · cases hd : op.dst <;> simp [Act.put, I.tsz]
  · cases hd : op.dst <;> simp [Act.put, I.tdf]
  · intro x hx y hy
    rw [listed_set hlt] at hx ⊢
    rcases hx with rfl | hx
    · exact .inr (haft y hy)
    · exact .inr (I.closed x hx y hy)
  · intro x hx
    rcases (listed_set hlt).1 hx with rfl | hx
    · simp
    · simp [I.ldone x hx]
  · intro x ox hx hnx hox
    have hxi : x ≠ i := fun e => hnx ((listed_set hlt).2 (.inl e))
    have hxd := (List.mem_cons.1 hx).resolve_left hxi
    have hnx' : listed[x]? ≠ some true := fun h => hnx ((listed_set hlt).2 (.inr h))
    obtain ⟨k1, k2, k3, k4⟩ := I.pok x ox hxd hnx' hox
    rw [hB2 x hxd, ← hvd x hxd]
    refine ⟨k1, k2, k3, k4.imp id (fun ⟨g, m1, m2, m3⟩ => ⟨g, m1, ?_, m3⟩)⟩
    rcases hob.all x g m1 with hr | hg
    · exact absurd (masks_spec _ _ _ hr (fun y => listed[y]? = some true) I.closed haft) hnx'
    · exact hg
  · intro x ox dx hx hox hdx
    rcases (listed_set hlt).1 hx with rfl | hx
    · rw [hi] at hox; cases hox
      rw [hdx, hvi]
      simp only [Act.put]
      rw [Array.getElem?_setIfInBounds]; simp [I.tsz, hdn dx hdx]
    · rw [← hvd x (I.ldone x hx)]
      have := I.d1 x ox dx hx hox hdx
      cases hd : op.dst with
      | none => exact this
      | some d =>
        simp only [Act.put]
        have hne : d ≠ dx := by
          intro e; subst e
          have := C.apart x ox d hox hdx i op hi hd
          exact hnl (this ▸ hx)
        rw [Array.getElem?_setIfInBounds_ne hne]
        exact this
  · intro t u hu hno
    have h2 := I.d2 t u hu (fun j oj hj => hno j oj ((listed_set hlt).2 (.inr hj)))
    cases hd : op.dst with
    | none => exact h2
    | some d =>
      have hne : d ≠ t := fun e => hno i op ((listed_set hlt).2 (.inl rfl)) hi (by rw [hd, e])
      simp only [Act.put]
      rw [Array.getElem?_setIfInBounds_ne hne]
      exact h2
  · intro j oj dj hj hoj hdj
    rcases List.mem_cons.1 hj with rfl | hj
    · rw [hi] at hoj; cases hoj; exact hdn dj hdj
    · exact I.ltd j oj dj hj hoj hdj
theorem TW.sound {ρ₀ : Env} {t₀ : Tr} {H : List Asn} {F S : List Nat} (hc1 : chk ops [] = true) (hc2 : chkC ops [] t₀ = true) (hc3 : chkT ops [] t₀ = true) (hn : ∀ t v, look ρ₀ t = some v → t < n.n) (h : TW P n ops Q o t₀ [] ρ₀ H)
    {a : Act} {w : World} (s : St H F S w) (fr : From o w F S) (ha : Fr n ρ₀ a) : wpAnyIn (fen n.ro) 0 P .any ops.toArray Q ops.length (Array.replicate ops.length false) a w := by
  have C := chk_spec hc1
  have hready : ∀ (listed : Array Bool) (i : Nat), i ∈ Region.ready .any ops.toArray listed → i < ops.length ∧ listed[i]? ≠ some true ∧ ∀ k ∈ afters ops i, listed[k]? = some true := by
    intro listed i hi
    simp only [Region.ready, List.mem_filter, List.mem_range, Bool.and_eq_true] at hi
    obtain ⟨h1, h2, h3⟩ := hi
    have h1' : i < ops.length := by simpa using h1
    refine ⟨h1', ?_, ?_⟩
    · intro e
      simp [Array.getD_eq_getD_getElem?, e] at h2
    · intro k hk
      rw [List.getElem?_toArray, List.getElem?_eq_getElem h1'] at h3
      simp only [Option.map_some, Option.getD_some] at h3
      simp only [afters, List.getElem?_eq_getElem h1'] at hk
      simp only [List.mem_map, List.mem_filter] at hk
      obtain ⟨e, ⟨he, hb⟩, rfl⟩ := hk
      have := (Array.all_eq_true_iff_forall_mem.1 h3) e (by simpa using he)
      simp only [bindsAny] at hb
      simp only [hb, Bool.not_true, Bool.false_or] at this
      simp only [Array.getD_eq_getD_getElem?] at this
      cases hq : listed[e.on]? with
      | none => simp [hq] at this
      | some b => simp [hq] at this; subst this; rfl
  have allReady : ∀ (listed : Array Bool), listed.size = ops.length → Closed ops (fun i => listed[i]? = some true) → (∀ m, m < ops.length → listed[m]? ≠ some true → ∃ i, i ∈ Region.ready .any ops.toArray listed) := by
    intro listed hsz hcl m
    induction m using Nat.strongRecOn with
    | _ m ih =>
      intro hm hne
      by_cases hall : ∀ k ∈ afters ops m, listed[k]? = some true
      · refine ⟨m, ?_⟩
        simp only [Region.ready, List.mem_filter, List.mem_range, Bool.and_eq_true]
        refine ⟨by simpa using hm, ?_, ?_⟩
        · have hlt : m < listed.size := by omega
          rw [Array.getD_eq_getD_getElem?, Array.getElem?_eq_getElem hlt]
          rw [Array.getElem?_eq_getElem hlt] at hne
          cases hv : listed[m] with
          | true => rw [hv] at hne; exact absurd rfl hne
          | false => rfl
        · rw [List.getElem?_toArray, List.getElem?_eq_getElem hm]
          simp only [Option.map_some, Option.getD_some]
          rw [Array.all_eq_true_iff_forall_mem]
          intro e he
          cases hb : Region.binds .any e with
          | false => rfl
          | true =>
            have := hall e.on (by
              simp only [afters, List.getElem?_eq_getElem hm, List.mem_map, List.mem_filter]
              exact ⟨e, ⟨by simpa using he, hb⟩, rfl⟩)
            simp [Array.getD_eq_getD_getElem?, this]
      · have hex : ∃ k, k ∈ afters ops m ∧ ¬ listed[k]? = some true := Classical.byContradiction fun hno => hall fun k hk => Classical.byContradiction fun hk' => hno ⟨k, hk, hk'⟩
        obtain ⟨k, hk, hk'⟩ := hex
        have hlt := C.back m _ (List.getElem?_eq_getElem hm) k hk
        exact ih k hlt (by omega) hk'
  have key : ∀ (fuel : Nat) (listed : Array Bool) (a : Act) (w : World) (done : List Nat) (t₀ : Tr) (pend : Pend) (H : List Asn) (F S : List Nat) (val : Nat → Value), ((List.range ops.length).filter (fun i => listed[i]? ≠ some true)).length ≤ fuel →
      TInv P n ops Q o ρ₀ listed a w done t₀ pend H F S val → wpAnyIn (fen n.ro) 0 P .any ops.toArray Q fuel listed a w := by
    intro fuel
    have finish : ∀ (listed : Array Bool) (a : Act) (w : World) (done : List Nat) (t₀ : Tr) (pend : Pend) (H : List Asn) (F S : List Nat) (val : Nat → Value), TInv P n ops Q o ρ₀ listed a w done t₀ pend H F S val → (∀ i, i < ops.length → listed[i]? = some true) → Q .normal a w := by
      intro listed a w done t₀ pend H F S val I hall
      obtain ⟨done, t₀, pend, val, I, hr⟩ := I.adv
      rcases hr with rfl | ⟨c, u, r, rfl⟩
      · refine I.sw w F S I.st I.fr a ⟨I.tsz, I.tdf, fun t v hv => ?_⟩
        rcases look_envOf hv with ⟨j, op, h1, h2, h3, rfl⟩ | ⟨h1, h2⟩
        · exact I.d1 j op t (hall j (List.getElem?_eq_some_iff.1 h2).1) h2 h3
        · exact I.d2 t v h1 (fun j op hj hop => h2 j op (I.ldone j hj) hop)
      · exfalso
        obtain ⟨h1, h2, _⟩ := chkT_choice I.ordT c (by simp [Tr.choices])
        exact h2 (I.ldone c (hall c h1))
    induction fuel with
    | zero =>
      intro listed a w done t₀ pend H F S val hcnt I
      have hall : ∀ i, i < ops.length → listed[i]? = some true := by
        intro i hi
        refine Classical.byContradiction fun hne => ?_
        have hmem : i ∈ (List.range ops.length).filter (fun i => listed[i]? ≠ some true) := by
          rw [List.mem_filter]; exact ⟨List.mem_range.2 hi, by simpa using hne⟩
        have : (List.range ops.length).filter (fun i => listed[i]? ≠ some true) = [] := List.eq_nil_of_length_eq_zero (by omega)
        rw [this] at hmem; cases hmem
      refine ⟨?_, finish listed a w done t₀ pend H F S val I hall⟩
      apply List.eq_nil_iff_forall_not_mem.2
      intro i hi
      have := hready listed i hi
      exact this.2.1 (hall i this.1)
    | succ fuel ih =>
      intro listed a w done t₀ pend H F S val hcnt I
      refine ⟨fun hnil => ?_, fun i hi => ?_⟩
      · refine finish listed a w done t₀ pend H F S val I (fun i hi => Classical.byContradiction fun hne => ?_)
        obtain ⟨x, hx⟩ := allReady listed I.lsz I.closed i hi hne
        rw [hnil] at hx; cases hx
      · obtain ⟨hlt, hnl, haft⟩ := hready listed i hi
        obtain ⟨done, t₀, pend, val, I, hr⟩ := I.adv
        have hoi : ops[i]? = some ops[i] := List.getElem?_eq_getElem hlt
        have hlz : i < listed.size := by rw [I.lsz]; exact hlt
        have hless : ((List.range ops.length).filter (fun j => (listed.setIfInBounds i true)[j]? ≠ some true)).length ≤ fuel := by
          have gen : ∀ (l : List Nat), l.Nodup → ((i ∈ l → (l.filter (fun j => (listed.setIfInBounds i true)[j]? ≠ some true)).length + 1 ≤ (l.filter (fun j => listed[j]? ≠ some true)).length) ∧ (l.filter (fun j => (listed.setIfInBounds i true)[j]? ≠ some true)).length ≤ (l.filter (fun j => listed[j]? ≠ some true)).length) := by
            intro l
            induction l with
            | nil => exact fun _ => ⟨fun h => (by cases h), Nat.le_refl _⟩
            | cons x r ihl =>
              intro hnd
              have hnd' := List.nodup_cons.1 hnd
              obtain ⟨k1, k2⟩ := ihl hnd'.2
              by_cases hxi : x = i
              · subst hxi
                have e1 : (decide ((listed.setIfInBounds x true)[x]? ≠ some true)) = false := by simp [listed_set hlz]
                have e2 : (decide (listed[x]? ≠ some true)) = true := by simpa using hnl
                simp only [List.filter_cons, e1, e2, if_true, List.length_cons]
                simp only [Bool.false_eq_true, if_false]
                exact ⟨fun _ => Nat.succ_le_succ k2, Nat.le_succ_of_le k2⟩
              · have e1 : (decide ((listed.setIfInBounds i true)[x]? ≠ some true)) = (decide (listed[x]? ≠ some true)) := by
                  rw [decide_eq_decide]; simp [listed_set hlz, hxi]
                simp only [List.filter_cons, e1]
                split
                · simp only [List.length_cons]
                  exact ⟨fun h => Nat.succ_le_succ (k1 ((List.mem_cons.1 h).resolve_left (fun e => hxi e.symm))), Nat.succ_le_succ k2⟩
                · exact ⟨fun h => k1 ((List.mem_cons.1 h).resolve_left (fun e => hxi e.symm)), k2⟩
          have := (gen _ List.nodup_range).1 (List.mem_range.2 hlt)
          omega
        by_cases hid : i ∈ done
        · obtain ⟨p1, p2, p3, p4⟩ := I.pok i _ hid hnl hoi
          have hfl : Fl P n ops (envB ops val ρ₀ i done) w ops[i] (val i) := p4.elim (fun h => h w) (fun ⟨g, _, h1, h2⟩ => h2 H w F S h1 I.st I.fr)
          obtain ⟨d', hd1, hd2, hd3, hd4, hd5⟩ := envB_of (val := val) (ρ₀ := ρ₀) I.ok hid
          rw [hd1] at hfl
          have hsl := I.slots C hoi hnl haft hd4 hd2 hd3
          have hltE := lt_env (ops := ops) (n := n) (val := val) I.lt0 (fun j op t hj => I.ltd j op t (hd5 j hj))
          obtain ⟨a₀, hfr, hag⟩ := frame_for I.tsz hltE ops[i] hsl
          have hwp : wpo P n ops Q ops[i] (fun a' w' => a' = a.put ops[i].dst (val i) ∧ w' = w) a w := by
            unfold wpo
            rcases hfl with ⟨hg, hrun⟩ | ⟨hg, hv⟩
            · rw [wanted_for hg hfr hag]
              simp only [if_true]
              refine wpIn_run (nodef p1) ((congrArg (fun s => s.run P w) (eval_virtual hag (nosel p1))).trans (hrun a₀ hfr)) ?_
              exact ⟨rfl, rfl⟩
            · rw [wanted_for hg hfr hag]
              simp only [Bool.false_eq_true, if_false]
              rw [hv]; exact ⟨rfl, trivial⟩
          refine wpo_wpOp hoi hwp ?_
          rintro a' w' ⟨rfl, rfl⟩
          exact ih _ _ _ done t₀ pend H F S val hless (I.float C hoi hid hnl haft)
        · have hch : i ∈ t₀.choices := by
            rcases hr with rfl | ⟨c, u, r, rfl⟩
            · have := I.ordT
              simp only [chkT] at this
              exact absurd (any_beq.1 (List.all_eq_true.1 this i (List.mem_range.2 hlt))) hid
            · have := List.all_eq_true.1 I.ordC i (List.mem_range.2 hlt)
              simp only [Bool.or_eq_true] at this
              rcases this with (h | h) | h
              · exact absurd (any_beq.1 h) hid
              · exact any_beq.1 h
              · exfalso
                obtain ⟨c', hc', hrc⟩ := List.any_eq_true.1 h
                obtain ⟨_, h2, _⟩ := chkT_choice I.ordT c' hc'
                exact h2 (I.ldone c' (masks_spec _ _ _ hrc (fun x => listed[x]? = some true) I.closed haft))
          obtain ⟨u, ⟨hia, hC, hT⟩, hsw⟩ := TW.pick I.sw I.ordT hch
          obtain ⟨op, ho, q1, q2, Ψ, hΨ, hk⟩ := hsw ⟨w, F, S, I.st, I.fr⟩
          rw [hoi] at ho; cases ho
          have hsl := I.slots C hoi hnl haft I.ok hia hid
          have hltE := lt_env (ops := ops) (n := n) (val := val) I.lt0 (fun j op t hj => I.ltd j op t hj)
          obtain ⟨a₀, hfr, hag⟩ := frame_for I.tsz hltE ops[i] hsl
          have hwp : wpo P n ops Q ops[i] (fun a' w' => ∃ v, a' = a.put ops[i].dst v ∧ PostS o Ψ v w') a w := by
            unfold wpo
            rcases hΨ with ⟨hg, hrun⟩ | ⟨hg, hv⟩
            · rw [wanted_for hg hfr hag]
              simp only [if_true]
              exact (hrun w F S I.st I.fr).wp (nodef q1) hfr (eval_virtual hag (nosel q1))
            · rw [wanted_for hg hfr hag]
              simp only [Bool.false_eq_true, if_false]
              exact ⟨undef, rfl, H, F, S, by rw [hv]; exact ⟨rfl, rfl⟩, I.st, I.fr⟩
          refine wpo_wpOp hoi hwp ?_
          rintro a' w' ⟨v, rfl, H', F', S', hv, s', f'⟩
          obtain ⟨k1, k2⟩ := hk v H' hv
          exact ih _ _ _ (i :: done) u pend H' F' S' _ hless (I.chain C hoi hnl haft hid hia q2 hC hT k1 k2 s' f')
  refine key _ _ a w [] t₀ [] H F S (fun _ => undef) (Nat.le_trans (List.length_filter_le _ _) (by simp)) ⟨by simp, ha.size, ha.defers, ?_, trivial, hc2, hc3, h, s, fr, ?_, by simp, ?_, fun t v hv _ => ha.vals t v hv, hn, by simp⟩
  · intro x hx
    simp [Array.getElem?_replicate] at hx
  · intro i hi
    simp [Array.getElem?_replicate] at hi
  · intro j o d hj
    simp [Array.getElem?_replicate] at hj

/-! ### the rules -/
theorem SG.drawT [hm : Mixed P] {B : Exit → Act → World → Prop} {ks : List K} {ρ : Env} {H : List Asn} {id : Nat} (t₀ : Tr) (hchk : (chk ops [] && chkC ops [] t₀ && chkT ops [] t₀) = true) (hlt : ρ.all (fun p => Nat.blt p.1 n) = true) (h : TW P n ops (sem P n.ro B ks) o t₀ [] ρ H) :
    SG P B n o ks ρ H (.region id ops.toArray true) := by
  intro w F S s f a ha
  refine wpIn_region_any hm.h ?_
  have hd := Ext.drawn w
  simp only [Bool.and_eq_true] at hchk
  have := TW.sound (P := P) (n := n) (a := a) (w := { w with drawn := w.drawn + 1 }) hchk.1.1 hchk.1.2 hchk.2 (fun t v hv => by
      have hmem : ∀ (r : Env) t v, look r t = some v → (t, v) ∈ r := by
        intro r
        induction r with
        | nil => intro t v h; cases h
        | cons p r ih =>
          obtain ⟨s, u⟩ := p
          intro t v h
          rw [look_cons] at h
          split at h
          · rename_i e; subst e; cases h; simp
          · exact List.mem_cons_of_mem _ (ih t v h)
      have := List.all_eq_true.1 hlt (t, v) (hmem ρ t v hv)
      simpa [Nat.blt_eq] using this) h ⟨s.sep.ext hd (Apart.nilR _) (Apart.nilR _), fun b hb => Nat.lt_of_lt_of_le (s.ltF b hb) hd.size, fun b hb => Nat.lt_of_lt_of_le (s.ltS b hb) hd.size⟩ ⟨f.ext.trans0 hd, f.fF, f.fS⟩ ha
  simpa using this
section
variable {t : Tr} {pend : Pend} {ρ : Env} {H : List Asn} {i d : Nat} {op : Op} {ty : TypeId} {pos : String} {af : Array Edge} {gd : Option (Nat × Bool)}
theorem TW.pure {v : Value} (ho : ops[i]? = some ⟨some d, op, ty, pos, af, gd⟩) (hg : wants ops ρ gd = some true) (hd : Nat.blt d n = true) (hs : isSelect op = false) (hrun : ∀ w, Runs P n ρ w ⟨some d, op, ty, pos, af, gd⟩ v w) (h : TW P n ops Q o t pend ((d, v) :: ρ) H) :
    TW P n ops Q o (.flo i t) pend ρ H :=
  fun _ => ⟨_, ho, hs, fun d' e => by cases e; simpa [Nat.blt_eq] using hd, v, by simp, .inl ⟨fun w => .inl ⟨hg, hrun w⟩, h⟩⟩
theorem TW.pass {hd : Nat.blt d n = true} (ho : ops[i]? = some ⟨some d, op, ty, pos, af, gd⟩) (hg : wants ops ρ gd = some false) (hs : isSelect op = false) (h : TW P n ops Q o t pend ((d, undef) :: ρ) H) :
    TW P n ops Q o (.flo i t) pend ρ H :=
  fun _ => ⟨_, ho, hs, fun d' e => by cases e; simpa [Nat.blt_eq] using hd, undef, by simp, .inl ⟨fun w => .inr ⟨hg, rfl⟩, h⟩⟩
theorem TW.read {v : Value} (ho : ops[i]? = some ⟨some d, op, ty, pos, af, gd⟩) (hg : wants ops ρ gd = some true) (hd : Nat.blt d n = true) (hs : isSelect op = false) (hrun : Rd1 P n o ρ ⟨some d, op, ty, pos, af, gd⟩ v H) (h : TW P n ops Q o t ((i, Rd1 P n o ρ ⟨some d, op, ty, pos, af, gd⟩ v) :: pend) ((d, v) :: ρ) H) :
    TW P n ops Q o (.flo i t) pend ρ H :=
  fun _ => ⟨_, ho, hs, fun d' e => by cases e; simpa [Nat.blt_eq] using hd, v, by simp, .inr ⟨_, hrun, fun H w F S h s f => .inl ⟨hg, h w F S s⟩, h⟩⟩
theorem TW.step {Ψ : Value → List Asn → Prop} (ho : ops[i]? = some ⟨some d, op, ty, pos, af, gd⟩) (hg : wants ops ρ gd = some true) (hd : Nat.blt d n = true) (hs : isSelect op = false) (h : CS P n o ρ H ⟨some d, op, ty, pos, af, gd⟩ Ψ)
    (k : ∀ v H', Ψ v H' → Obl ops i pend H' ∧ TW P n ops Q o t pend ((d, v) :: ρ) H') : TW P n ops Q o (.alt i t .stop) pend ρ H :=
  ⟨fun _ => ⟨_, ho, hs, fun d' e => by cases e; simpa [Nat.blt_eq] using hd, Ψ, .inl ⟨hg, h⟩, k⟩, trivial⟩
theorem TW.step0 {Ψ : Value → List Asn → Prop} (ho : ops[i]? = some ⟨none, op, ty, pos, af, gd⟩) (hg : wants ops ρ gd = some true) (hs : isSelect op = false) (h : CS P n o ρ H ⟨none, op, ty, pos, af, gd⟩ Ψ)
    (k : ∀ v H', Ψ v H' → Obl ops i pend H' ∧ TW P n ops Q o t pend ρ H') : TW P n ops Q o (.alt i t .stop) pend ρ H :=
  ⟨fun _ => ⟨_, ho, hs, fun d' e => (by cases e), Ψ, .inl ⟨hg, h⟩, k⟩, trivial⟩
theorem TW.passS (ho : ops[i]? = some ⟨some d, op, ty, pos, af, gd⟩) (hg : wants ops ρ gd = some false) (hd : Nat.blt d n = true) (hs : isSelect op = false) (k : Obl ops i pend H ∧ TW P n ops Q o t pend ((d, undef) :: ρ) H) :
    TW P n ops Q o (.alt i t .stop) pend ρ H :=
  ⟨fun _ => ⟨_, ho, hs, fun d' e => by cases e; simpa [Nat.blt_eq] using hd, _, .inr ⟨hg, rfl⟩, by rintro v H' ⟨rfl, rfl⟩; exact k⟩, trivial⟩
theorem TW.fact {φ : Prop} (hφ : ∀ w F S, St H F S w → φ) (h : φ → TW P n ops Q o t pend ρ H) : TW P n ops Q o t pend ρ H := by
  induction t with
  | nil => exact fun w F S s f => h (hφ w F S s) w F S s f
  | flo i t _ => exact fun ⟨w, F, S, s, f⟩ => h (hφ w F S s) ⟨w, F, S, s, f⟩
  | alt i t r _ ih => exact ⟨fun ⟨w, F, S, s, f⟩ => (h (hφ w F S s)).1 ⟨w, F, S, s, f⟩, ih (fun q => (h q).2)⟩
  | stop => trivial
theorem TW.congr : ∀ {t : Tr} {pend : Pend} {ρ ρ' : Env} {H : List Asn}, (∀ t, look ρ t = look ρ' t) → TW P n ops Q o t pend ρ H → TW P n ops Q o t pend ρ' H
  | .nil, _, _, _, _, hl, h => fun w F S s f a ha => h w F S s f a (ha.congr hl)
  | .stop, _, _, _, _, hl, h => trivial
  | .flo i t, pend, ρ, ρ', H, hl, h => fun he => by
    obtain ⟨op, ho, q1, q2, v, hn, q⟩ := h he
    refine ⟨op, ho, q1, q2, v, hn, ?_⟩
    rcases q with ⟨h1, h2⟩ | ⟨g, h1, h2, h3⟩
    · exact .inl ⟨fun w => (h1 w).congr hl, TW.congr (extE_congr hl _ _) h2⟩
    · exact .inr ⟨g, h1, fun H w F S a b c => (h2 H w F S a b c).congr hl, TW.congr (extE_congr hl _ _) h3⟩
  | .alt i t r, pend, ρ, ρ', H, hl, h => ⟨fun he => by
    obtain ⟨op, ho, q1, q2, Ψ, hΨ, hk⟩ := h.1 he
    refine ⟨op, ho, q1, q2, Ψ, ?_, fun v H' hv => ⟨(hk v H' hv).1, TW.congr (extE_congr hl _ _) (hk v H' hv).2⟩⟩
    rw [← wants_congr hl]
    exact hΨ.imp (fun ⟨a, b⟩ => ⟨a, fun w F S s f => (b w F S s f).congr hl⟩) id, TW.congr hl h.2⟩
/-- One of the orders, and the others. -/
theorem TW.or {t r : Tr} (h : TW P n ops Q o (.alt i t .stop) pend ρ H) (k : TW P n ops Q o r pend ρ H) : TW P n ops Q o (.alt i t r) pend ρ H := ⟨h.1, k⟩
theorem TW.be {v v' : Value} (d : Nat) (hv : look ρ d = some v) (e : v = v') (h : TW P n ops Q o t pend ((d, v') :: ρ) H) : TW P n ops Q o t pend ρ H := by
  subst e
  refine h.congr (fun t => ?_)
  rw [look_cons]
  split
  · rename_i e; subst e; exact hv.symm
  · rfl
theorem TW.caseB {b : Bool} (d : Nat) (hv : look ρ d = some (.bool b)) (ht : b = true → TW P n ops Q o t pend ((d, .bool true) :: ρ) H) (hf : b = false → TW P n ops Q o t pend ((d, .bool false) :: ρ) H) : TW P n ops Q o t pend ρ H := by
  cases b
  · exact TW.be d hv rfl (hf rfl)
  · exact TW.be d hv rfl (ht rfl)
theorem TW.caseP {p : Prop} {dp : Decidable p} (d : Nat) (hv : look ρ d = some (.bool (@decide p dp))) (ht : p → TW P n ops Q o t pend ((d, .bool true) :: ρ) H) (hf : ¬ p → TW P n ops Q o t pend ((d, .bool false) :: ρ) H) : TW P n ops Q o t pend ρ H :=
  TW.caseB d hv (fun h => ht (of_decide_eq_true h)) (fun h => hf (of_decide_eq_false h))
theorem TW.isT {b : Bool} (d : Nat) (hv : look ρ d = some (.bool b)) (e : b = true) (h : TW P n ops Q o t pend ((d, .bool true) :: ρ) H) : TW P n ops Q o t pend ρ H := TW.be d hv (congrArg Value.bool e) h
theorem TW.isF {b : Bool} (d : Nat) (hv : look ρ d = some (.bool b)) (e : b = false) (h : TW P n ops Q o t pend ((d, .bool false) :: ρ) H) : TW P n ops Q o t pend ρ H := TW.be d hv (congrArg Value.bool e) h
theorem TW.nil {B : Exit → Act → World → Prop} {ks : List K} (h : SN P B n o ks ρ H) : TW P n ops (sem P n.ro B ks) o .nil pend ρ H := fun w F S s f a ha => h w F S s f a ha
end
end
section
variable {P : Program} {n : Fm} {ops : List Oper} {Q : Exit → Act → World → Prop} {o : Org} {t : Tr} {pend : Pend} {ρ : Env} {H : List Asn}
theorem TW.n0 (h : TW P n ops Q o t pend ρ (H)) : TW P n ops Q o t pend ρ ([] ++ H) := h
theorem TW.n1 {A1 : Asn} (h : TW P n ops Q o t pend ρ (A1 :: H)) : TW P n ops Q o t pend ρ ([A1] ++ H) := h
theorem TW.n2 {A1 A2 : Asn} (h : TW P n ops Q o t pend ρ (A1 :: A2 :: H)) : TW P n ops Q o t pend ρ ([A1, A2] ++ H) := h
theorem TW.n3 {A1 A2 A3 : Asn} (h : TW P n ops Q o t pend ρ (A1 :: A2 :: A3 :: H)) : TW P n ops Q o t pend ρ ([A1, A2, A3] ++ H) := h
theorem TW.n4 {A1 A2 A3 A4 : Asn} (h : TW P n ops Q o t pend ρ (A1 :: A2 :: A3 :: A4 :: H)) : TW P n ops Q o t pend ρ ([A1, A2, A3, A4] ++ H) := h
theorem TW.n5 {A1 A2 A3 A4 A5 : Asn} (h : TW P n ops Q o t pend ρ (A1 :: A2 :: A3 :: A4 :: A5 :: H)) : TW P n ops Q o t pend ρ ([A1, A2, A3, A4, A5] ++ H) := h
end
end Brv
/-
  Many assertions as one.
-/
set_option linter.unusedVariables false
set_option linter.unusedSimpArgs false
namespace Brv
open Go
def sp (l : List Asn) : Asn := ⟨fun F S w => Sep l F S w, fun _ _ _ _ _ h he hF hS => h.ext he hF hS⟩
section
variable {H H1 H2 l l' : List Asn} {A : Asn}
theorem Sep.mem {F S : List Nat} {w : World} (h : Sep l F S w) (hA : A ∈ l) : ∃ F' S', A.P F' S' w := by
  induction l generalizing F S with
  | nil => cases hA
  | cons B l ih =>
    obtain ⟨F1, S1, F2, S2, _, _, hB, hl⟩ := h
    rcases List.mem_cons.1 hA with rfl | hA
    · exact ⟨F1, S1, hB⟩
    · exact ih hl hA
end
/-- A function's value as a consumer. -/
theorem YSpec.ofFn {P : Program} {f : FuncId} {cap vs vs' : List Value} {H : List Asn} {Ψ : Bool → List Asn → Prop} (hc : ∀ (vs : Array Value) w, (callFunc f vs).run P w = .ok (.enter f vs) w) (hvs : vs ++ cap = vs') (h : SpecS P f vs' H (fun v H' => ∃ b, v = .bool b ∧ Ψ b H')) :
    YSpec P (.func (.func f) #[] cap.toArray) vs H Ψ := fun w F S s =>
  .inr ⟨f, #[], cap.toArray, rfl, hc, by
    subst hvs
    have := h w F S s
    simp only [List.nil_append]
    exact this.mono fun v w' ⟨H', F', S', ⟨b, hv, hΨ⟩, s', f'⟩ => ⟨b, hv, H', F', S', hΨ, s', f'⟩⟩
section
variable {P : Program} {n : Fm} {ρ : Env} {w : World} {d : Nat} {ty : TypeId} {pos : String} {af : Array Edge} {gd : Option (Nat × Bool)}
end
section
variable {P : Program} {B : Exit → Act → World → Prop} {n : Fm} {o : Org} {ops : List Oper} {ks : List K} {ρ : Env} {H : List Asn} {l : List Oper} {Q : Exit → Act → World → Prop} {σ : List Nat} {π : List (Nat × Oper)} {pend : Pend} {c : Code} {t : Tr}
theorem SL.n6 {A1 A2 A3 A4 A5 A6 : Asn} (h : SL P B n o ops ks ρ (A1 :: A2 :: A3 :: A4 :: A5 :: A6 :: H) l) : SL P B n o ops ks ρ ([A1, A2, A3, A4, A5, A6] ++ H) l := h
theorem SW.n6 {A1 A2 A3 A4 A5 A6 : Asn} (h : SW P n ops Q o σ π pend ρ (A1 :: A2 :: A3 :: A4 :: A5 :: A6 :: H)) : SW P n ops Q o σ π pend ρ ([A1, A2, A3, A4, A5, A6] ++ H) := h
theorem SN.n6 {A1 A2 A3 A4 A5 A6 : Asn} (h : SN P B n o ks ρ (A1 :: A2 :: A3 :: A4 :: A5 :: A6 :: H)) : SN P B n o ks ρ ([A1, A2, A3, A4, A5, A6] ++ H) := h
theorem SG.n6 {A1 A2 A3 A4 A5 A6 : Asn} (h : SG P B n o ks ρ (A1 :: A2 :: A3 :: A4 :: A5 :: A6 :: H) c) : SG P B n o ks ρ ([A1, A2, A3, A4, A5, A6] ++ H) c := h
theorem TW.n6 {A1 A2 A3 A4 A5 A6 : Asn} (h : TW P n ops Q o t pend ρ (A1 :: A2 :: A3 :: A4 :: A5 :: A6 :: H)) : TW P n ops Q o t pend ρ ([A1, A2, A3, A4, A5, A6] ++ H) := h
theorem SL.n7 {A1 A2 A3 A4 A5 A6 A7 : Asn} (h : SL P B n o ops ks ρ (A1 :: A2 :: A3 :: A4 :: A5 :: A6 :: A7 :: H) l) : SL P B n o ops ks ρ ([A1, A2, A3, A4, A5, A6, A7] ++ H) l := h
theorem SW.n7 {A1 A2 A3 A4 A5 A6 A7 : Asn} (h : SW P n ops Q o σ π pend ρ (A1 :: A2 :: A3 :: A4 :: A5 :: A6 :: A7 :: H)) : SW P n ops Q o σ π pend ρ ([A1, A2, A3, A4, A5, A6, A7] ++ H) := h
theorem SN.n7 {A1 A2 A3 A4 A5 A6 A7 : Asn} (h : SN P B n o ks ρ (A1 :: A2 :: A3 :: A4 :: A5 :: A6 :: A7 :: H)) : SN P B n o ks ρ ([A1, A2, A3, A4, A5, A6, A7] ++ H) := h
theorem SG.n7 {A1 A2 A3 A4 A5 A6 A7 : Asn} (h : SG P B n o ks ρ (A1 :: A2 :: A3 :: A4 :: A5 :: A6 :: A7 :: H) c) : SG P B n o ks ρ ([A1, A2, A3, A4, A5, A6, A7] ++ H) c := h
theorem TW.n7 {A1 A2 A3 A4 A5 A6 A7 : Asn} (h : TW P n ops Q o t pend ρ (A1 :: A2 :: A3 :: A4 :: A5 :: A6 :: A7 :: H)) : TW P n ops Q o t pend ρ ([A1, A2, A3, A4, A5, A6, A7] ++ H) := h
theorem SL.n8 {A1 A2 A3 A4 A5 A6 A7 A8 : Asn} (h : SL P B n o ops ks ρ (A1 :: A2 :: A3 :: A4 :: A5 :: A6 :: A7 :: A8 :: H) l) : SL P B n o ops ks ρ ([A1, A2, A3, A4, A5, A6, A7, A8] ++ H) l := h
theorem SW.n8 {A1 A2 A3 A4 A5 A6 A7 A8 : Asn} (h : SW P n ops Q o σ π pend ρ (A1 :: A2 :: A3 :: A4 :: A5 :: A6 :: A7 :: A8 :: H)) : SW P n ops Q o σ π pend ρ ([A1, A2, A3, A4, A5, A6, A7, A8] ++ H) := h
theorem SN.n8 {A1 A2 A3 A4 A5 A6 A7 A8 : Asn} (h : SN P B n o ks ρ (A1 :: A2 :: A3 :: A4 :: A5 :: A6 :: A7 :: A8 :: H)) : SN P B n o ks ρ ([A1, A2, A3, A4, A5, A6, A7, A8] ++ H) := h
theorem SG.n8 {A1 A2 A3 A4 A5 A6 A7 A8 : Asn} (h : SG P B n o ks ρ (A1 :: A2 :: A3 :: A4 :: A5 :: A6 :: A7 :: A8 :: H) c) : SG P B n o ks ρ ([A1, A2, A3, A4, A5, A6, A7, A8] ++ H) c := h
theorem TW.n8 {A1 A2 A3 A4 A5 A6 A7 A8 : Asn} (h : TW P n ops Q o t pend ρ (A1 :: A2 :: A3 :: A4 :: A5 :: A6 :: A7 :: A8 :: H)) : TW P n ops Q o t pend ρ ([A1, A2, A3, A4, A5, A6, A7, A8] ++ H) := h
end
end Brv
/-
  Functions of four results.
-/
set_option linter.unusedVariables false
set_option linter.unusedSimpArgs false
namespace Brv
open Go
section
variable {P : Program} {n : Fm} {o : Org} {ks : List K} {ρ : Env} {H H1 H' : List Asn} {fn : Func} {Φ : Value → List Asn → Prop}
theorem results_tmp4 {t u s r : Nat} (hr : fn.results = #[.tmp t, .tmp u, .tmp s, .tmp r]) (tm : Array Value) {w : World} : (results fn tm).run P w = .ok (.tuple #[tm.getD t undef, tm.getD u undef, tm.getD s undef, tm.getD r undef]) w := by
  unfold results
  rw [hr]
  simp
theorem SG.ret4M {t u r q : Nat} {v x y z : Value} (hr : fn.results = #[.tmp t, .tmp u, .tmp r, .tmp q]) (hv : look ρ t = some v) (hx : look ρ u = some x) (hy : look ρ r = some y) (hz : look ρ q = some z) (hl : Dfrs n.df H H1) (i : Imp H1 H') (h : Φ (.tuple #[v, x, y, z]) H') : SG P (Func.base P fn (PostS o Φ)) n o ks ρ H .ret :=
  SG.retM hl (fun _ ha _ => by rw [results_tmp4 hr, ha.getD hv, ha.getD hx, ha.getD hy, ha.getD hz]) i h
theorem SG.ret4 {m : Nat} {t u r q : Nat} {v x y z : Value} (hr : fn.results = #[.tmp t, .tmp u, .tmp r, .tmp q]) (hv : look ρ t = some v) (hx : look ρ u = some x) (hy : look ρ r = some y) (hz : look ρ q = some z) (i : Imp H H') (h : Φ (.tuple #[v, x, y, z]) H') : SG P (Func.base P fn (PostS o Φ)) ⟨m, [], none⟩ o ks ρ H .ret :=
  SG.ret4M hr hv hx hy hz .nil i h
end
end Brv
/-
  The language's own maps.
-/
set_option linter.unusedVariables false
set_option linter.unusedSimpArgs false
namespace Brv
open Go
section
variable {κ : Type} [DecidableEq κ]
/-- A map's entries, in the order in which they came. -/
def mput : List (κ × Value) → κ → Value → List (κ × Value)
  | [], k, v => [(k, v)]
  | p :: r, k, v => if p.1 = k then (k, v) :: r else p :: mput r k v
def mget : List (κ × Value) → κ → Option Value
  | [], _ => none
  | p :: r, k => if p.1 = k then some p.2 else mget r k
end
section
variable {κ : Type} [Key κ]
/-- A map's type. -/
class MapT (P : Program) (T : TypeId) (κ : Type) [Key κ] (K E : outParam TypeId) (d : outParam TypeDesc) : Prop where
  h : P.underlying T = some (.map K E)
  hk : P.underlying K = some d
  key : ∀ k : κ, MapKept.IsKey d (Key.val k)
  inj : ∀ a b : κ, Key.val a = Key.val b → a = b
def ents (l : List MapEntry) (ps : List (κ × Value)) : Prop := l.map (fun e => (e.key, e.val)) = ps.map (fun p => (Key.val p.1, p.2))
def GM (w : World) (b : Nat) (ps : List (κ × Value)) : Prop := ∃ es clock, w.heap[b]? = some (.map es clock) ∧ ents es.toList ps
theorem GM.lt {w : World} {b : Nat} {ps : List (κ × Value)} (h : GM w b ps) : b < w.heap.size := let ⟨_, _, h, _⟩ := h; (Array.getElem?_eq_some_iff.1 h).1
theorem GM.ext {M : List Nat} {w w' : World} {b : Nat} {ps : List (κ × Value)} (h : GM w b ps) (he : Ext M w w') (hb : b ∉ M) : GM w' b ps :=
  let ⟨es, c, h1, h2⟩ := h; ⟨es, c, (he.keep b (Array.getElem?_eq_some_iff.1 h1).1 hb).trans h1, h2⟩
/-- A map of one's own. -/
def gm (b : Nat) (ps : List (κ × Value)) : Asn where
  P := fun F _ w => F = [b] ∧ GM w b ps
  ext := fun F S M w w' h he hF _ => ⟨h.1, h.2.ext he (hF b (by rw [h.1]; simp))⟩
theorem St.gm {b : Nat} {ps : List (κ × Value)} {H H' : List Asn} {F S : List Nat} {w : World} (s : St H F S w) (h : Sel H (Brv.gm b ps) H') : GM w b ps := (s.sel h).elim fun _ h => h.elim fun _ h => h.2.2
variable [DecidableEq κ]
theorem find_ents {d : TypeDesc} (hkey : ∀ k : κ, MapKept.IsKey d (Key.val k)) (inj : ∀ a b : κ, Key.val a = Key.val b → a = b) (k : κ) : ∀ (l : List MapEntry) (ps : List (κ × Value)) (n : Nat), ents l ps →
    (mget ps k = none ∧ Instr.findNow d (Key.val k) l n = some none ∧ ∀ v, mput ps k v = ps ++ [(k, v)]) ∨
    (∃ j e, l[j]? = some e ∧ e.key = Key.val k ∧ mget ps k = some e.val ∧ Instr.findNow d (Key.val k) l n = some (some (n + j, e.val)) ∧ ∀ v, mput ps k v = ps.set j (k, v))
  | [], [], n, _ => .inl ⟨rfl, rfl, fun _ => rfl⟩
  | [], p :: ps, n, h => by simp [ents] at h
  | e :: l, [], n, h => by simp [ents] at h
  | e :: l, p :: ps, n, h => by
    simp only [ents, List.map_cons, List.cons.injEq, Prod.mk.injEq] at h
    obtain ⟨⟨h1, h2⟩, h3⟩ := h
    obtain ⟨r, hr, hi⟩ := MapKept.sameNow_of_keys (b := e.key) (hkey k) (by rw [h1]; exact hkey p.1)
    by_cases hp : p.1 = k
    · refine .inr ⟨0, e, rfl, by rw [h1, hp], ?_, ?_, ?_⟩
      · simp only [mget]; rw [if_pos hp, h2]
      · have : r = true := hi.2 (by rw [h1, hp])
        simp only [Instr.findNow, hr, this]; rfl
      · intro v; simp only [mput]; rw [if_pos hp]; rfl
    · have hrf : r = false := by
        cases hq : r with
        | false => rfl
        | true => exact (hp (inj _ _ (by rw [← h1]; exact (hi.1 hq).symm))).elim
      rcases find_ents hkey inj k l ps (n + 1) h3 with ⟨q1, q2, q3⟩ | ⟨j, e', q1, q2, q3, q4, q5⟩
      · refine .inl ⟨?_, ?_, ?_⟩
        · simp only [mget]; rw [if_neg hp, q1]
        · simp only [Instr.findNow, hr, hrf]; exact q2
        · intro v; simp only [mput]; rw [if_neg hp, q3]; rfl
      · refine .inr ⟨j + 1, e', by simpa using q1, q2, ?_, ?_, ?_⟩
        · simp only [mget]; rw [if_neg hp, q3]
        · simp only [Instr.findNow, hr, hrf]; rw [q4, show n + 1 + j = n + (j + 1) by omega]
        · intro v; simp only [mput]; rw [if_neg hp, q5]; rfl
section
variable {P : Program} {n : Fm} {o : Org} {ρ : Env} {H H1 : List Asn} {d : Nat} {ty : TypeId} {pos : String} {af : Array Edge} {gd : Option (Nat × Bool)} {T K E : TypeId} {dd : TypeDesc} {w : World}
theorem R.look [t : MapT P T κ K E dd] {z : Value} [tz : TyZero P E z] {x y : Operand} {b : Nat} {ps : List (κ × Value)} {k : κ} (hx : ev ρ x = some (.map (some b))) (hy : ev ρ y = some (Key.val k)) (hb : GM w b ps) :
    Runs P n ρ w ⟨some d, .lookup T x y false, ty, pos, af, gd⟩ ((mget ps k).getD z) w := fun f hf => by
  obtain ⟨es, c, h1, h2⟩ := hb
  have hz : (zeroValue E).run P w = .ok z w := by
    have hz := tz.h
    cases hq : P.info? E with
    | none => simp [hq] at hz
    | some i => have hz' : i.zero = some z := by simpa [hq] using hz
                simp [zeroValue, typeInfo, hq, hz']
  rcases find_ents t.key t.inj k es.toList ps 0 h2 with ⟨q1, q2, _⟩ | ⟨j, e, q1, q2, q3, q4, _⟩
  · simp [execOp, Instr.lookup, hf.eval hx, hf.eval hy, run_underlying t.h, MapKept.run_getObj_map h1, MapKept.run_checkKey t.hk (t.key k), MapKept.run_findKey t.hk q2, hz, Result.andThen, q1]
  · simp [execOp, Instr.lookup, hf.eval hx, hf.eval hy, run_underlying t.h, MapKept.run_getObj_map h1, MapKept.run_checkKey t.hk (t.key k), MapKept.run_findKey t.hk q4, Result.andThen, q3]
end
end
end Brv
/-
  Loops in which a frame's marks grow (a range over a function inside).
-/
set_option linter.unusedVariables false
set_option linter.unusedSimpArgs false
namespace Brv
open Go
section
variable {P : Program} {B : Exit → Act → World → Prop} {n : Fm} {ks : List K} {ρ : Env} {w : World} {o : Org} {H : List Asn}
theorem G.loopN {X : Type} (nI : X → Fm) (ρI : X → Env) (I : X → World → Prop) (μ : X → Nat) (x₀ : X) {c : Code} (hro : ∀ x, (nI x).ro = n.ro) (hn : nI x₀ = n) (hs : Sub (ρI x₀) ρ) (h₀ : I x₀ w)
    (round : ∀ x w, I x w → G P B (nI x) (.hand (fun a' w' => ∃ x', μ x' < μ x ∧ Fr (nI x') (ρI x') a' ∧ I x' w') :: ks) (ρI x) w c) : G P B n ks ρ w (.loop c) := by
  intro a ha
  refine wpIn_loop_ghost (fun k a w => ∃ x, μ x = k ∧ Fr (nI x) (ρI x) a ∧ I x w) (μ x₀) ⟨x₀, rfl, hn ▸ ha.sub hs, h₀⟩ ?_
  rintro k a w ⟨x, rfl, hf, hI⟩
  have hr := round x w hI a hf
  rw [hro x] at hr
  refine wpIn_mono hr ?_
  intro e a' w' hq
  cases e with
  | normal => obtain ⟨x', hlt, hf', hI'⟩ := hq; exact ⟨μ x', hlt, x', rfl, hf', hI'⟩
  | exit id => exact hq
  | goto l => exact hq
  | ret => exact hq
  | panic ch => exact hq
  | outgrown => exact hq
theorem SG.loopN {X : Type} (nI : X → Fm) (ρI : X → Env) (HI : X → List Asn) (I : X → Prop) (μ : X → Nat) (x₀ : X) {c : Code} (hro : ∀ x, (nI x).ro = n.ro) (hn : nI x₀ = n) (hs : Sub (ρI x₀) ρ) (i : Imp H (HI x₀)) (h₀ : I x₀)
    (round : ∀ x, I x → SG P B (nI x) o (.hand (fun a' w' => ∃ x', μ x' < μ x ∧ Fr (nI x') (ρI x') a' ∧ I x' ∧ ∃ F S, St (HI x') F S w' ∧ From o w' F S) :: ks) (ρI x) (HI x) c) : SG P B n o ks ρ H (.loop c) :=
  fun w F S s f => G.loopN nI ρI (fun x w' => I x ∧ ∃ F S, St (HI x) F S w' ∧ From o w' F S) μ x₀ hro hn hs ⟨h₀, i.at s f⟩ (fun x w' ⟨hi, F', S', s', f'⟩ => round x hi w' F' S' s' f')
end
/-- The marks of a frame, that are to be taken at its end. -/
def mark (d : Nat) : Deferred := ⟨.collected d, #[]⟩
def dfrs : List Nat → List Asn → List Asn
  | [], H => H
  | d :: ds, H => dfr d :: dfrs ds H
theorem Dfrs.many {H H' : List Asn} {ds : List Nat} {df : List Deferred} (h : Dfrs df H H') : Dfrs (ds.map mark ++ df) (dfrs ds H) H' := by
  induction ds with
  | nil => exact h
  | cons d ds ih => exact .cons .here ih
theorem dfrs_app (ds : List Nat) (H : List Asn) : dfrs ds [] ++ H = dfrs ds H := by
  induction ds with
  | nil => rfl
  | cons d ds ih => simp only [dfrs, List.cons_append, ih]
/-- All the marks so far. -/
def dfP (ds : List Nat) : Asn where
  P := fun F S w => Sep (dfrs ds []) F S w
  ext := fun _ _ _ _ _ h he hF hS => h.ext he hF hS
theorem Imp.markNone {H : List Asn} : Imp H (dfP [] :: H) := Imp.add fun w => trivial
theorem Imp.markOut {H H1 : List Asn} {ds : List Nat} (h : Sel H (dfP ds) H1) : Imp H (dfrs ds H1) := fun F S w s => by
  obtain ⟨F1, S1, F2, S2, hs, hd, hA, hH⟩ := h.sep s.sep
  have := Sep.join (H0 := dfrs ds []) (H1 := H1) ⟨F1, S1, F2, S2, hs, hd, hA, hH⟩
  rw [dfrs_app] at this
  exact ⟨F, S, ⟨this, s.ltF, s.ltS⟩, From.refl _ _ _⟩
theorem Imp.markIn {H H1 H2 : List Asn} {d : Nat} {ds : List Nat} (h : Sel H (dfr d) H1) (k : Sel H1 (dfP ds) H2) : Imp H (dfP (d :: ds) :: H2) := fun F S w s => by
  obtain ⟨F1, S1, F2, S2, ⟨a, b, c, e⟩, ⟨p, q, r⟩, hA, hH⟩ := h.sep s.sep
  obtain ⟨F3, S3, F4, S4, ⟨a', b', c', e'⟩, ⟨p', q', r'⟩, hB, hC⟩ := k.sep hH
  refine ⟨F, S, ⟨⟨F1 ++ F3, S1 ++ S3, F4, S4, ⟨subL a (subT a' b), subT b' b, subL c (subT c' e), subT e' e⟩, ⟨?_, ?_, ?_⟩, ?_, hC⟩, s.ltF, s.ltS⟩, From.refl _ _ _⟩
  · exact Apart.appL (p.mono (subR _) b') p'
  · exact Apart.appL (q.mono (subR _) e') q'
  · exact Apart.appL (r.mono (subR _) b') r'
  · exact ⟨F1, S1, F3, S3, ⟨inL _ _, inR _ _, inL _ _, inR _ _⟩, ⟨p.mono (subR _) a', q.mono (subR _) c', r.mono (subR _) a'⟩, hA, hB⟩
end Brv
/-
  Slices of numbers among a law's arguments.
-/
set_option linter.unusedVariables false
set_option linter.unusedSimpArgs false
namespace Brv
open Go
/-- A slice of numbers. -/
theorem Rd.ints {P : Program} {w : World} {f : Nat} {T E s : Nat} {k : IntKind} (hT : P.underlying T = some (.slice E)) [t : TyInt P E k] (hby : P.bytesOf E = s) {cs : List Value} (h : Rd P w f T cs) :
    ∃ a n c, ∃ l : List Int, cs = [.slice a n c] ∧ n ≤ c ∧ c * s ≤ 140737488351232 ∧ Cells w a (l.map (Value.int k)) ∧ n = l.length ∧ ∀ x ∈ l, (Lit.int k x).wf = true := by
  cases f with
  | zero => exact h.elim
  | succ f =>
    unfold Rd at h
    rw [hT] at h
    obtain ⟨a, n, c, rfl, hnc, ha, hb, vss, hl, hcell, hv⟩ := h
    have hex : ∃ l : List Int, vss = l.map (fun b => [Value.int k b]) ∧ ∀ x ∈ l, (Lit.int k x).wf = true := by
      clear hcell hl
      induction vss with
      | nil => exact ⟨[], rfl, by simp⟩
      | cons vs r ih =>
        obtain ⟨b, rfl, hb⟩ := (hv vs (by simp)).2.int
        obtain ⟨l, rfl, hw⟩ := ih (fun x hx => hv x (by simp [hx]))
        exact ⟨b :: l, rfl, fun x hx => (List.mem_cons.1 hx).elim (fun e => e ▸ hb) (hw x)⟩
    obtain ⟨l, rfl, hw⟩ := hex
    refine ⟨a, n, c, l, rfl, hnc, by rw [hby] at hb; exact hb, ?_, by simpa using hl.symm, hw⟩
    have : (l.map (fun b => [Value.int k b])).flatten = l.map (Value.int k) := by
      clear hcell hl hv hw
      induction l with
      | nil => rfl
      | cons b r ih => simp [ih]
    rw [this] at hcell; exact hcell
end Brv
namespace Brv
open Go
/-- A row of bytes, where it lies. -/
structure BRow where
  a : Option Addr
  n : Nat
  c : Nat
  l : List UInt8
def BRow.val (r : BRow) : Value := .slice r.a r.n r.c
def BRow.ok (w : World) (r : BRow) : Prop := (r.n ≤ r.c ∧ r.c ≤ 140737488351232) ∧ Bs w r.a r.n r.l
theorem BRow.ok.ext0 {w w' : World} {r : BRow} (h : r.ok w) (he : Ext [] w w') : r.ok w' := ⟨h.1, h.2.ext0 he⟩
end Brv
/-
  Pens and scans as assertions; functions that turn nothing old, over assertions.
-/
set_option linter.unusedVariables false
set_option linter.unusedSimpArgs false
namespace Brv
open Go
/-- A pen that wrote l. -/
def pen (TP TE p : Nat) (l : List UInt8) : Asn where
  P := fun F _ w => PenAt TP TE w p l F
  ext := fun F S M w w' h he hF _ => h.ext he hF
/-- A scan, of which l is left. -/
def scn (TS s : Nat) (l : List UInt8) (e : Int) : Asn where
  P := fun F S w => F = [s] ∧ ScanAt TS w s S l e
  ext := fun F S M w w' h he hF hS => ⟨h.1, h.2.ext he (hF s (by rw [h.1]; simp)) hS⟩
theorem Imp.pen {H H' : List Asn} {TP TE p : Nat} (h : Sel H (blk p [.slice none 0 0] TP) H') : Imp H (Brv.pen TP TE p [] :: H') := Imp.same h fun F S w hA => by
  obtain ⟨rfl, hB⟩ := hA
  exact PenAt.new hB
theorem St.scn {H H' : List Asn} {TS s : Nat} {l : List UInt8} {e : Int} {F S : List Nat} {w : World} (st : St H F S w) (h : Sel H (Brv.scn TS s l e) H') : ∃ D, ScanAt TS w s D l e := (st.sel h).elim fun _ h => h.elim fun S1 h => ⟨S1, h.2.2⟩
theorem St.pen {H H' : List Asn} {TP TE p : Nat} {l : List UInt8} {F S : List Nat} {w : World} (st : St H F S w) (h : Sel H (Brv.pen TP TE p l) H') : ∃ S', PenAt TP TE w p l S' := (st.sel h).elim fun F1 h => h.elim fun _ h => ⟨F1, h.2⟩
section
variable {P : Program} {f : FuncId} {vs : List Value}
end
end Brv
/-
  A slice that is made to grow from nothing; what is known of bytes beside blocks that are turned.
-/
set_option linter.unusedVariables false
set_option linter.unusedSimpArgs false
namespace Brv
open Go
section
variable {P : Program} {n : Fm} {o : Org} {ρ : Env} {H H' : List Asn} {ty : TypeId} {pos : String} {af : Array Edge} {gd : Option (Nat × Bool)}
end
/-! ## Structs that are built of parts of many cells -/
def putN : List Value → Nat → List Value → List Value
  | cs, _, [] => cs
  | cs, off, x :: l => putN (cs.set off x) (off + 1) l
theorem putN_spec (off : Nat) : ∀ (l : List Value) (k : Nat) (cells : Array Value), ((l.zipIdx k).foldl (fun cs p => cs.setIfInBounds (off + p.2) p.1) cells).toList = putN cells.toList (off + k) l := by
  intro l
  induction l with
  | nil => intro k cells; rfl
  | cons x l ih =>
    intro k cells
    rw [List.zipIdx_cons, List.foldl_cons, ih (k + 1), putN]
    simp [Nat.add_assoc]
def fillN (pl : Nat → Option (Nat × Nat)) : List Value → List (Nat × Value) → Option (List Value)
  | cs, [] => some cs
  | cs, (i, v) :: rest => match pl i with
    | some (off, sz) => match Nat.beq v.cells.toList.length sz && Nat.ble (off + sz) cs.length with
      | true => fillN pl (putN cs off v.cells.toList) rest
      | false => none
    | none => none
theorem fillN_spec {pl : Nat → Option (Nat × Nat)} : ∀ {vs : List (Nat × Value)} {cs : Array Value} {l : List Value}, fillN pl cs.toList vs = some l → Instr.fill pl cs vs = some l.toArray
  | [], cs, l, h => by
    simp only [fillN, Option.some.injEq] at h
    subst h
    simp [Instr.fill]
  | (i, v) :: rest, cs, l, h => by
    simp only [fillN] at h
    split at h
    · rename_i off sz hp
      split at h
      · rename_i hb
        rw [Bool.and_eq_true] at hb
        have hsz := Nat.eq_of_beq_eq_true hb.1
        have hlt := Nat.le_of_ble_eq_true hb.2
        have e := putN_spec off v.cells.toList 0 cs
        rw [Nat.add_zero] at e
        have e2 : (v.cells.zipIdx.foldl (fun cs (p : Value × Nat) => cs.setIfInBounds (off + p.2) p.1) cs).toList = putN cs.toList off v.cells.toList := by
          rw [← e, ← Array.foldl_toList, Array.toList_zipIdx]
        rw [← e2] at h
        have ih := fillN_spec h
        simp only [Instr.fill, hp]
        rw [if_neg (by simp at hsz hlt ⊢; omega)]
        exact ih
      · cases h
    · cases h
section
variable {P : Program} {n : Fm} {ρ : Env} {w : World} {d : Nat} {ty : TypeId} {pos : String} {af : Array Edge} {gd : Option (Nat × Bool)}
theorem R.buildN {T : TypeId} {pl : Nat → Option (Nat × Nat)} {z : Value} [t : TyBuilt P T pl z] {parts : Array (Nat × Operand)} {vs : List (Nat × Value)} {l : List Value} (hp : evps ρ parts.toList = some vs) (hb : fillN pl z.cells.toList vs = some l) :
    Runs P n ρ w ⟨some d, .build T parts, ty, pos, af, gd⟩ (.agg l.toArray) w := R.build hp (fillN_spec hb)
end
end Brv
/-
  Walks by reckoning: what runs without touching the world is run by a function; the goals are told by the place where that stops.
-/
set_option linter.unusedVariables false
set_option linter.unusedSimpArgs false
namespace Brv
open Go

/-! ## What runs by itself -/
/-- What of a program's types the reckoning looks up: fields' places, pointers, slices, ints. -/
structure TabD where
  off : List (Nat × List Nat)
  ptr : List Nat
  sl : List Nat
  ik : List (Nat × IntKind)
  bo : List Nat
def memN : List Nat → Nat → Bool
  | [], _ => false
  | x :: l, t => match Nat.beq x t with
    | true => true
    | false => memN l t
def atN {α : Type} : List (Nat × α) → Nat → Option α
  | [], _ => none
  | (x, v) :: l, t => match Nat.beq x t with
    | true => some v
    | false => atN l t
def nthN : List Nat → Nat → Option Nat
  | [], _ => none
  | x :: _, 0 => some x
  | _ :: l, k + 1 => nthN l k
theorem memN_mem : ∀ {l : List Nat} {t : Nat}, memN l t = true → t ∈ l
  | [], _, h => by cases h
  | x :: l, t, h => by
    simp only [memN] at h
    cases hb : Nat.beq x t with
    | true => rw [Nat.eq_of_beq_eq_true hb]; simp
    | false => rw [hb] at h; exact List.mem_cons_of_mem _ (memN_mem h)
theorem atN_mem {α : Type} : ∀ {l : List (Nat × α)} {t : Nat} {v : α}, atN l t = some v → (t, v) ∈ l
  | [], _, _, h => by cases h
  | (x, u) :: l, t, v, h => by
    simp only [atN] at h
    cases hb : Nat.beq x t with
    | true => rw [hb] at h; cases h; rw [Nat.eq_of_beq_eq_true hb]; simp
    | false => rw [hb] at h; exact List.mem_cons_of_mem _ (atN_mem h)
theorem nthN_get : ∀ {l : List Nat} {k v : Nat}, nthN l k = some v → l[k]? = some v
  | [], _, _, h => by cases h
  | x :: l, 0, v, h => by cases h; rfl
  | x :: l, k + 1, v, h => by simpa using nthN_get (l := l) h
class TyTab (P : Program) where
  d : TabD
  off : ∀ T os, (T, os) ∈ d.off → ∀ i o, os[i]? = some o → TyField P T i o
  ptr : ∀ T ∈ d.ptr, TyPtr P T
  sl : ∀ T ∈ d.sl, ∃ E size bytes z, TySlice P T E size bytes z
  ik : ∀ T k, (T, k) ∈ d.ik → TyInt P T k
  bo : ∀ T ∈ d.bo, TyBool P T
def sizedB (P : Program) (T i o : Nat) : Bool := match P.underlying T with
  | some (.struct fs) => match fs[i]? with
    | some f => Nat.beq f.offset o && (P.info? f.type).any (fun i => decide (i.size ≠ 0))
    | none => false
  | _ => false
def TabD.okB (P : Program) (t : TabD) : Bool :=
  t.off.all (fun p => p.2.zipIdx.all (fun q => sizedB P p.1 q.2 q.1)) && t.ptr.all (fun T => match P.underlying T with | some (.pointer _) => true | _ => false) &&
  t.sl.all (fun T => match P.underlying T with | some (.slice E) => (match P.info? E with | some i => (match i.zero with | some z => Nat.blt 0 i.size && Nat.beq z.cells.size i.size | none => false) | none => false) | _ => false) &&
  t.ik.all (fun p => match P.underlying p.1 with | some (.int k) => decide (k = p.2) | _ => false) && t.bo.all (fun T => match P.underlying T with | some .bool => true | _ => false)
@[instance_reducible] def TyTab.of {P : Program} (t : TabD) (h : t.okB P = true) : TyTab P where
  d := t
  off := fun T os hm i o ho => by
    simp only [TabD.okB, Bool.and_eq_true, List.all_eq_true] at h
    have := h.1.1.1.1 _ hm (o, i) (by rw [List.mk_mem_zipIdx_iff_getElem?]; simpa using ho)
    simp only [sizedB] at this
    split at this
    · rename_i fs hu
      split at this
      · rename_i f hf
        simp only [Bool.and_eq_true] at this
        exact ⟨fs, f, hu, hf, Nat.eq_of_beq_eq_true this.1, this.2⟩
      · cases this
    · cases this
  ptr := fun T hm => by
    simp only [TabD.okB, Bool.and_eq_true, List.all_eq_true] at h
    have := h.1.1.1.2 _ hm
    split at this
    · rename_i E hu; exact ⟨E, hu⟩
    · cases this
  sl := fun T hm => by
    simp only [TabD.okB, Bool.and_eq_true, List.all_eq_true] at h
    have := h.1.1.2 _ hm
    split at this
    · rename_i E hu
      split at this
      · rename_i i hi
        split at this
        · rename_i z hz
          simp only [Bool.and_eq_true] at this
          exact ⟨E, i.size, i.bytes, z, ⟨hu, ⟨i, hi, rfl, rfl, hz⟩, Nat.eq_of_beq_eq_true this.2, by simpa [Nat.blt_eq] using this.1⟩⟩
        · cases this
      · cases this
    · cases this
  ik := fun T k hm => by
    simp only [TabD.okB, Bool.and_eq_true, List.all_eq_true] at h
    have := h.1.2 _ hm
    split at this
    · rename_i k' hu; exact ⟨hu.trans (by rw [of_decide_eq_true this])⟩
    · cases this
  bo := fun T hm => by
    simp only [TabD.okB, Bool.and_eq_true, List.all_eq_true] at h
    have := h.2 _ hm
    split at this
    · rename_i hu; exact ⟨hu⟩
    · cases this
/-- Functions that only reckon. -/
class PTab (P : Program) where
  pf : Nat → List Value → Option (Value × List Prop)
  ok : ∀ {f vs v ps}, pf f vs = some (v, ps) → (∀ p ∈ ps, p) → (∀ (vs : Array Value) w, (callFunc f vs).run P w = .ok (.enter f vs) w) ∧ ∀ w, Meets P f vs w (fun v' w' => v' = v ∧ Ext [] w w')
@[instance_reducible] def PTab.none (P : Program) : PTab P := ⟨fun _ _ => Option.none, fun h => by cases h⟩

/-- What is known of slots that guard: a truth, or that nothing was put there. -/
abbrev Kn := List (Nat × Option (Option Bool))
def lookK : Kn → Nat → Option (Option Bool)
  | [], _ => none
  | (s, v) :: r, t => match Nat.beq s t with
    | true => v
    | false => lookK r t
def known (kn : Kn) : Operand → Option Bool
  | .tmp t => match lookK kn t with
    | some (some b) => some b
    | _ => none
  | .const (.bool b) => some b
  | _ => none
def kadd (kn : Kn) (d : Nat) : Option Bool → Kn
  | some b => (d, some (some b)) :: kn
  | none => match lookK kn d with
    | none => kn
    | some _ => (d, none) :: kn
def kprop (kn : Kn) : Op → Option Bool
  | .move x => known kn x
  | .assign x => known kn x
  | .unOp .not _ x => match known kn x with
    | some true => some false
    | some false => some true
    | none => none
  | .pick c x y => match known kn c with
    | some true => known kn x
    | some false => known kn y
    | none => none
  | _ => none
def wantsK (ops : List Oper) (kn : Kn) : Option (Nat × Bool) → Option Bool
  | none => some true
  | some (j, want) => match (ops[j]?).bind (·.dst) with
    | some d => match lookK kn d with
      | some (some true) => some want
      | some (some false) => some (!want)
      | some none => some false
      | none => none
    | none => none

def KnOk (ρ : Env) (kn : Kn) : Prop := ∀ t b, lookK kn t = some b → look ρ t = some (match b with | some b => .bool b | none => undef)
theorem KnOk.nil (ρ : Env) : KnOk ρ [] := fun _ _ h => by cases h
theorem KnOk.wants {ops : List Oper} {ρ : Env} {kn : Kn} (h : KnOk ρ kn) {gd : Option (Nat × Bool)} {r : Bool} (hg : wantsK ops kn gd = some r) : wants ops ρ gd = some r := by
  cases gd with
  | none => simpa [wantsK, Brv.wants] using hg
  | some q =>
    obtain ⟨j, want⟩ := q
    simp only [wantsK] at hg
    simp only [Brv.wants]
    cases hd : (ops[j]?).bind (·.dst) with
    | none => rw [hd] at hg; cases hg
    | some d =>
      rw [hd] at hg
      simp only at hg ⊢
      cases hk : lookK kn d with
      | none => rw [hk] at hg; cases hg
      | some b =>
        rw [hk] at hg
        rw [h d b hk]
        cases b with
        | none => simpa [undef] using hg
        | some b => cases b <;> cases want <;> simpa using hg
theorem KnOk.known {ρ : Env} {kn : Kn} (h : KnOk ρ kn) {x : Operand} {b : Bool} (hx : known kn x = some b) : ev ρ x = some (.bool b) := by
  unfold Brv.known at hx
  split at hx
  · split at hx
    · rename_i hq; cases hx; exact h _ _ hq
    · cases hx
  · cases hx; rfl
  · cases hx
theorem lookK_cons (s : Nat) (v : Option (Option Bool)) (r : Kn) (t : Nat) : lookK ((s, v) :: r) t = if s = t then v else lookK r t := by
  simp only [lookK]
  by_cases h : s = t
  · have hb : Nat.beq s t = true := by subst h; exact Nat.beq_refl s
    rw [hb]; simp [h]
  · have hb : Nat.beq s t = false := by
      cases hq : Nat.beq s t with
      | false => rfl
      | true => exact absurd (Nat.eq_of_beq_eq_true hq) h
    rw [hb]; simp [h]
theorem KnOk.add {ρ : Env} {kn : Kn} (h : KnOk ρ kn) {d : Nat} {v : Value} {b : Option Bool} (hv : ∀ c, b = some c → v = .bool c) : KnOk ((d, v) :: ρ) (kadd kn d b) := by
  intro t c ht
  rw [look_cons]
  cases b with
  | some q =>
    simp only [kadd] at ht
    rw [lookK_cons] at ht
    split at ht
    · rename_i e; cases ht; rw [if_pos e, hv _ rfl]
    · rename_i e; rw [if_neg e]; exact h _ _ ht
  | none =>
    simp only [kadd] at ht
    cases hk : lookK kn d with
    | none =>
      rw [hk] at ht
      split
      · rename_i e; subst e; rw [hk] at ht; cases ht
      · exact h _ _ ht
    | some q =>
      rw [hk] at ht
      simp only at ht
      rw [lookK_cons] at ht
      split at ht
      · cases ht
      · rename_i e; rw [if_neg e]; exact h _ _ ht
theorem KnOk.gone {ρ : Env} {kn : Kn} (h : KnOk ρ kn) {d : Nat} : KnOk ((d, undef) :: ρ) ((d, some none) :: kn) := by
  intro t c ht
  rw [lookK_cons] at ht
  rw [look_cons]
  split at ht
  · rename_i e; cases ht; rw [if_pos e]
  · rename_i e; rw [if_neg e]; exact h _ _ ht

/-- Two numbers, or two truths. -/
def b2 (T : TabD) (S : TypeId) : BinOp → Value → Value → Option (Value × List Prop)
  | .add, .int .i64 a, .int .i64 b => some (.int .i64 (a + b), [-9223372036854775808 ≤ a + b ∧ a + b ≤ 9223372036854775807])
  | .sub, .int .i64 a, .int .i64 b => some (.int .i64 (a - b), [-9223372036854775808 ≤ a - b ∧ a - b ≤ 9223372036854775807])
  | .mul, .int .i64 a, .int .i64 b => some (.int .i64 (a * b), [-9223372036854775808 ≤ a * b ∧ a * b ≤ 9223372036854775807])
  | .quo, .int .i64 a, .int .i64 b => some (.int .i64 (a / b), [(0 ≤ a ∧ a ≤ 9223372036854775807) ∧ 0 < b])
  | .rem, .int .i64 a, .int .i64 b => some (.int .i64 (a % b), [0 ≤ a ∧ 0 < b])
  | .lss, .int .i64 a, .int .i64 b => some (.bool (decide (a < b)), [])
  | .leq, .int .i64 a, .int .i64 b => some (.bool (decide (a ≤ b)), [])
  | .gtr, .int .i64 a, .int .i64 b => some (.bool (decide (b < a)), [])
  | .geq, .int .i64 a, .int .i64 b => some (.bool (decide (b ≤ a)), [])
  | .eql, .int .i64 a, .int .i64 b => some (.bool (decide (a = b)), [])
  | .neq, .int .i64 a, .int .i64 b => some (.bool (decide (a ≠ b)), [])
  | _, _, _ => none
/-- Against nil; truths. -/
def b3 (T : TabD) (S : TypeId) : BinOp → Value → Value → Option Value
  | .eql, .pointer (some _), .pointer none => match memN T.ptr S with
    | true => some (.bool false)
    | false => none
  | .neq, .pointer (some _), .pointer none => match memN T.ptr S with
    | true => some (.bool true)
    | false => none
  | .eql, .pointer none, .pointer none => match memN T.ptr S with
    | true => some (.bool true)
    | false => none
  | .neq, .pointer none, .pointer none => match memN T.ptr S with
    | true => some (.bool false)
    | false => none
  | .eql, .bool a, .bool b => match memN T.bo S with
    | true => some (.bool (a == b))
    | false => none
  | .neq, .bool a, .bool b => match memN T.bo S with
    | true => some (.bool (a != b))
    | false => none
  | _, _, _ => none
def x1 (T : TabD) (ρ : Env) (kn : Kn) : Op → Option (Value × List Prop)
  | .move x => match ev ρ x with
    | some v => some (v, [])
    | none => none
  | .assign x => match ev ρ x with
    | some v => some (v, [])
    | none => none
  | .unOp .not _ x => match ev ρ x with
    | some (.bool b) => some (.bool (!b), [])
    | _ => none
  | .pick c x y => match known kn c with
    | some true => (match ev ρ x with
      | some v => some (v, [])
      | none => none)
    | some false => (match ev ρ y with
      | some v => some (v, [])
      | none => none)
    | none => none
  | .binOp op S x y _ => match memN T.bo S || memN T.ptr S with
    | true => (match ev ρ x, ev ρ y with
      | some u, some v => (match b3 T S op u v with
        | some z => some (z, [])
        | none => none)
      | _, _ => none)
    | false => (match ev ρ x, ev ρ y with
      | some u, some v => b2 T S op u v
      | _, _ => none)
  | .extract x i => match ev ρ x with
    | some (.tuple vs) => (match vs[i]? with
      | some v => some (v, [])
      | none => none)
    | _ => none
  | .nilCheck x => match ev ρ x with
    | some (.pointer (some p)) => some (.pointer (some p), [])
    | _ => none
  | .fieldAddr S x i => match ev ρ x with
    | some (.pointer (some ⟨b, o, none⟩)) => (match atN T.off S with
      | some os => (match nthN os i with
        | some k => some (.pointer (some ⟨b, o + k, none⟩), [])
        | none => none)
      | none => none)
    | _ => none
  | .convert S U x => match atN T.ik S, atN T.ik U with
    | some .i64, some .i64 => (match ev ρ x with
      | some (.int .i64 a) => some (.int .i64 a, [-9223372036854775808 ≤ a ∧ a ≤ 9223372036854775807])
      | _ => none)
    | some .u8, some .i64 => (match ev ρ x with
      | some (.int .u8 a) => some (.int .i64 a, [-9223372036854775808 ≤ a ∧ a ≤ 9223372036854775807])
      | _ => none)
    | _, _ => none
  | .makeFunc fn first cap => match evs ρ first.toList, evs ρ cap.toList with
    | some us, some vs => some (.func fn us.toArray vs.toArray, [])
    | _, _ => none
  | .call ⟨.builtin .len, ⟨[x]⟩, ⟨[S]⟩⟩ => match memN T.sl S with
    | true => (match ev ρ x with
      | some (.slice _ m _) => some (.int .i64 (m : Int), [])
      | _ => none)
    | false => none
  | _ => none
section
variable {P : Program} {n : Fm} {ρ : Env} {kn : Kn} {w : World} {d : Nat} {ty : TypeId} {pos : String} {af : Array Edge} {gd : Option (Nat × Bool)}
theorem b2_ok [t : TyTab P] {S S' : TypeId} {op : BinOp} {x y : Operand} {u v z : Value} {ps : List Prop} (h : b2 t.d S op u v = some (z, ps)) (hp : ∀ p ∈ ps, p) (hx : ev ρ x = some u) (hy : ev ρ y = some v) :
    Runs P n ρ w ⟨some d, .binOp op S x y S', ty, pos, af, gd⟩ z w := by
  unfold b2 at h
  split at h
  · cases h; exact R.add hx hy (hp _ (by simp))
  · cases h; exact R.sub' hx hy (hp _ (by simp))
  · cases h; exact R.mul hx hy (hp _ (by simp))
  · cases h; have := hp _ (List.mem_singleton.2 rfl); exact R.quo hx hy this.1 this.2
  · cases h; have := hp _ (List.mem_singleton.2 rfl); exact R.rem hx hy this.1 this.2
  · cases h; exact R.lss hx hy
  · cases h; exact R.leq hx hy
  · cases h; exact R.gtr hx hy
  · cases h; exact R.geq hx hy
  · cases h; exact R.eqI hx hy
  · cases h; exact R.neI hx hy
  · cases h
theorem b3_ok [t : TyTab P] {S S' : TypeId} {op : BinOp} {x y : Operand} {u v z : Value} (h : b3 t.d S op u v = some z) (hx : ev ρ x = some u) (hy : ev ρ y = some v) :
    Runs P n ρ w ⟨some d, .binOp op S x y S', ty, pos, af, gd⟩ z w := by
  unfold b3 at h
  split at h
  · split at h
    · rename_i hm; cases h; have := t.ptr _ (memN_mem hm); exact R.eqNilP hx hy
    · cases h
  · split at h
    · rename_i hm; cases h; have := t.ptr _ (memN_mem hm); exact R.neNilP hx hy
    · cases h
  · split at h
    · rename_i hm; cases h; have := t.ptr _ (memN_mem hm); exact R.eqNilP hx hy
    · cases h
  · split at h
    · rename_i hm; cases h; have := t.ptr _ (memN_mem hm); exact R.neNilP hx hy
    · cases h
  · split at h
    · rename_i hm; cases h; have := t.bo _ (memN_mem hm); exact R.eqB hx hy
    · cases h
  · split at h
    · rename_i hm; cases h; have := t.bo _ (memN_mem hm); exact R.neB hx hy
    · cases h
  · cases h
theorem x1_ok [t : TyTab P] {op : Op} {v : Value} {ps : List Prop} (h : x1 t.d ρ kn op = some (v, ps)) (hp : ∀ p ∈ ps, p) (hk : KnOk ρ kn) : Runs P n ρ w ⟨some d, op, ty, pos, af, gd⟩ v w := by
  unfold x1 at h
  split at h
  · split at h
    · rename_i hx; cases h; exact R.mv hx
    · cases h
  · split at h
    · rename_i hx; cases h; exact R.as hx
    · cases h
  · split at h
    · rename_i hx; cases h; exact R.not hx
    · cases h
  · split at h
    · rename_i hc
      split at h
      · rename_i hx; cases h; exact R.pickT (hk.known hc) hx
      · cases h
    · rename_i hc
      split at h
      · rename_i hx; cases h; exact R.pickF (hk.known hc) hx
      · cases h
    · cases h
  · split at h
    · split at h
      · rename_i hx hy
        split at h
        · rename_i hz; cases h; exact b3_ok hz hx hy
        · cases h
      · cases h
    · split at h
      · rename_i hx hy; exact b2_ok h hp hx hy
      · cases h
  · split at h
    · rename_i hx
      split at h
      · rename_i hv; cases h; exact R.ext hx hv
      · cases h
    · cases h
  · split at h
    · rename_i hx; cases h; exact R.nilChk hx
    · cases h
  · split at h
    · rename_i hx
      split at h
      · rename_i hos
        split at h
        · rename_i hk
          cases h
          have := t.off _ _ (atN_mem hos) _ _ (nthN_get hk)
          exact R.fld hx
        · cases h
      · cases h
    · cases h
  · split at h
    · rename_i hS hU
      split at h
      · rename_i hx
        cases h
        have := t.ik _ _ (atN_mem hS); have := t.ik _ _ (atN_mem hU)
        exact R.conv hx _ (wrap_i64 (hp _ (List.mem_singleton.2 rfl)))
      · cases h
    · rename_i hS hU
      split at h
      · rename_i hx
        cases h
        have := t.ik _ _ (atN_mem hS); have := t.ik _ _ (atN_mem hU)
        exact R.conv hx _ (wrap_i64 (hp _ (List.mem_singleton.2 rfl)))
      · cases h
    · cases h
  · split at h
    · rename_i h1 h2; cases h; exact R.mkFunc h1 h2
    · cases h
  · split at h
    · rename_i hm
      obtain ⟨E, size, bytes, z, ts⟩ := t.sl _ (memN_mem hm)
      split at h
      · rename_i hx; cases h; exact R.lenS hx
      · cases h
    · cases h
  · cases h
end

/-! ## Where a walk stands -/
inductive Fo where
  | g (c : Code)
  | l (ops rest : List Oper)
  | n
  | w (ops : List Oper) (σ : List Nat) (π : List (Nat × Oper)) (pend : Pend)
  | t (ops : List Oper) (t : Tr) (pend : Pend)
def SX (P : Program) (B : Exit → Act → World → Prop) (n : Fm) (o : Org) (H : List Asn) (ks : List K) (ρ : Env) (kn : Kn) (f : Fo) : Prop := KnOk ρ kn → match f with
  | .g c => SG P B n o ks ρ H c
  | .l ops r => SL P B n o ops ks ρ H r
  | .n => SN P B n o ks ρ H
  | .w ops σ π pend => SW P n ops (sem P n.ro B ks) o σ π pend ρ H
  | .t ops t pend => TW P n ops (sem P n.ro B ks) o t pend ρ H
abbrev Rs := List K × Env × Kn × Fo × List Prop
def xl (T : TabD) (pf : Nat → List Value → Option (Value × List Prop)) (ρ : Env) (kn : Kn) : Op → Option (Value × List Prop)
  | .call ⟨.value (.func f), args, _⟩ => match evs ρ args.toList with
    | some vs => pf f vs
    | none => none
  | op => x1 T ρ kn op
def run (T : TabD) (pf : Nat → List Value → Option (Value × List Prop)) (m : Nat) : Nat → List K → Env → Kn → Fo → List Prop → Rs
  | 0, ks, ρ, kn, f, φ => (ks, ρ, kn, f, φ)
  | k + 1, ks, ρ, kn, .g c, φ => (match c with
    | .skip => run T pf m k ks ρ kn .n φ
    | .seq a b => run T pf m k (.seq b :: ks) ρ kn (.g a) φ
    | .block id c => run T pf m k (.block id :: ks) ρ kn (.g c) φ
    | .region id ⟨ops⟩ false => run T pf m k ks ρ kn (.l ops ops) φ
    | .cond c x y => (match known kn c with
      | some true => run T pf m k ks ρ kn (.g x) φ
      | some false => run T pf m k ks ρ kn (.g y) φ
      | none => (ks, ρ, kn, .g (.cond c x y), φ))
    | .exit id => (match popTo id ks with
      | some ks' => run T pf m k ks' ρ kn .n φ
      | none => (ks, ρ, kn, .g (.exit id), φ))
    | c => (ks, ρ, kn, .g c, φ))
  | k + 1, ks, ρ, kn, .n, φ => (match ks with
    | .seq y :: ks => run T pf m k ks ρ kn (.g y) φ
    | .block _ :: ks => run T pf m k ks ρ kn .n φ
    | ks => (ks, ρ, kn, .n, φ))
  | k + 1, ks, ρ, kn, .l ops [], φ => run T pf m k ks ρ kn .n φ
  | k + 1, ks, ρ, kn, .l ops (⟨some d, op, ty, pos, af, gd⟩ :: r), φ => (match wantsK ops kn gd, Nat.blt d m, isDefer op with
    | some true, true, false => (match xl T pf ρ kn op with
      | some (v, ps) => (match kadd kn d (kprop kn op) with
        | [] => run T pf m k ks ((d, v) :: ρ) [] (.l ops r) (ps ++ φ)
        | q :: kn => run T pf m k ks ((d, v) :: ρ) (q :: kn) (.l ops r) (ps ++ φ))
      | none => (ks, ρ, kn, .l ops (⟨some d, op, ty, pos, af, gd⟩ :: r), φ))
    | some false, true, _ => run T pf m k ks ((d, undef) :: ρ) ((d, some none) :: kn) (.l ops r) φ
    | _, _, _ => (ks, ρ, kn, .l ops (⟨some d, op, ty, pos, af, gd⟩ :: r), φ))
  | k + 1, ks, ρ, kn, .l ops (⟨none, op, ty, pos, af, gd⟩ :: r), φ => (match wantsK ops kn gd with
    | some false => run T pf m k ks ρ kn (.l ops r) φ
    | _ => (ks, ρ, kn, .l ops (⟨none, op, ty, pos, af, gd⟩ :: r), φ))
  | k + 1, ks, ρ, kn, .w ops σ [] pend, φ => run T pf m k ks ρ kn .n φ
  | k + 1, ks, ρ, kn, .w ops σ ((i, ⟨some d, op, ty, pos, af, gd⟩) :: π) pend, φ => (match σ.any (Nat.beq i), wantsK ops kn gd, Nat.blt d m, isSelect op with
    | false, some true, true, false => (match x1 T ρ kn op with
      | some (v, ps) => (match kadd kn d (kprop kn op) with
        | [] => run T pf m k ks ((d, v) :: ρ) [] (.w ops σ π pend) (ps ++ φ)
        | q :: kn => run T pf m k ks ((d, v) :: ρ) (q :: kn) (.w ops σ π pend) (ps ++ φ))
      | none => (ks, ρ, kn, .w ops σ ((i, ⟨some d, op, ty, pos, af, gd⟩) :: π) pend, φ))
    | false, some false, true, false => run T pf m k ks ((d, undef) :: ρ) ((d, some none) :: kn) (.w ops σ π pend) φ
    | _, _, _, _ => (ks, ρ, kn, .w ops σ ((i, ⟨some d, op, ty, pos, af, gd⟩) :: π) pend, φ))
  | k + 1, ks, ρ, kn, .t ops .nil pend, φ => run T pf m k ks ρ kn .n φ
  | k + 1, ks, ρ, kn, .t ops (.flo i t) pend, φ => (match ops[i]? with
    | some ⟨some d, op, ty, pos, af, gd⟩ => (match wantsK ops kn gd, Nat.blt d m, isSelect op with
      | some true, true, false => (match x1 T ρ kn op with
        | some (v, ps) => (match kadd kn d (kprop kn op) with
          | [] => run T pf m k ks ((d, v) :: ρ) [] (.t ops t pend) (ps ++ φ)
          | q :: kn => run T pf m k ks ((d, v) :: ρ) (q :: kn) (.t ops t pend) (ps ++ φ))
        | none => (ks, ρ, kn, .t ops (.flo i t) pend, φ))
      | some false, true, false => run T pf m k ks ((d, undef) :: ρ) ((d, some none) :: kn) (.t ops t pend) φ
      | _, _, _ => (ks, ρ, kn, .t ops (.flo i t) pend, φ))
    | _ => (ks, ρ, kn, .t ops (.flo i t) pend, φ))
  | _ + 1, ks, ρ, kn, f, φ => (ks, ρ, kn, f, φ)
theorem run_sub {T : TabD} {pf : Nat → List Value → Option (Value × List Prop)} {m : Nat} (k : Nat) (ks : List K) (ρ : Env) (kn : Kn) (f : Fo) (φ : List Prop) : ∀ p ∈ φ, p ∈ (run T pf m k ks ρ kn f φ).2.2.2.2 := by
  fun_induction run T pf m k ks ρ kn f φ <;> intro p hp <;> first | exact hp | (rename_i ih; exact ih p hp) | (rename_i ih; exact ih p (List.mem_append_right _ hp))

section
variable {P : Program} {B : Exit → Act → World → Prop} {n : Fm} {o : Org} {H : List Asn}
section
variable {ks : List K} {ρ : Env} {kn : Kn} {d : Nat} {op : Op} {ty : TypeId} {pos : String} {af : Array Edge} {gd : Option (Nat × Bool)} {ops r : List Oper} {v : Value} {ps : List Prop}
theorem xl_ok [t : TyTab P] [q : PTab P] (hx : xl t.d q.pf ρ kn op = some (v, ps)) (hp : ∀ p ∈ ps, p) (hk : KnOk ρ kn) (hg : wantsK ops kn gd = some true) (hd : Nat.blt d n.n = true) (hf : isDefer op = false)
    (h : SL P B n o ops ks ((d, v) :: ρ) H r) : SL P B n o ops ks ρ H (⟨some d, op, ty, pos, af, gd⟩ :: r) := by
  unfold xl at hx
  split at hx
  · split at hx
    · rename_i hv
      obtain ⟨h1, h2⟩ := q.ok hx hp
      exact SL.step (hk.wants hg) hd (CS.callR hv h1 (fun w F S s => h2 w)) (by rintro _ _ ⟨rfl, rfl⟩; exact h) hf
    · cases hx
  · exact SL.val (hk.wants hg) hd (fun w F S s => x1_ok hx hp hk) h hf
theorem kprop_ok [t : TyTab P] (hx : x1 t.d ρ kn op = some (v, ps)) (hk : KnOk ρ kn) : ∀ c, kprop kn op = some c → v = .bool c := by
  intro c hc
  unfold kprop at hc
  split at hc
  · simp only [x1, hk.known hc] at hx; cases hx; rfl
  · simp only [x1, hk.known hc] at hx; cases hx; rfl
  · split at hc
    · rename_i hq; cases hc; simp only [x1, hk.known hq] at hx; cases hx; rfl
    · rename_i hq; cases hc; simp only [x1, hk.known hq] at hx; cases hx; rfl
    · cases hc
  · split at hc
    · rename_i hq; simp only [x1, hq, hk.known hc] at hx; cases hx; rfl
    · rename_i hq; simp only [x1, hq, hk.known hc] at hx; cases hx; rfl
    · cases hc
  · cases hc
theorem kprop_okl [t : TyTab P] [q : PTab P] (hx : xl t.d q.pf ρ kn op = some (v, ps)) (hk : KnOk ρ kn) : ∀ c, kprop kn op = some c → v = .bool c := by
  intro c hc
  unfold xl at hx
  split at hx
  · simp [kprop] at hc
  · exact kprop_ok hx hk c hc
end
theorem run_ok [t : TyTab P] [q : PTab P] (k : Nat) (ks : List K) (ρ : Env) (kn : Kn) (f : Fo) (φ : List Prop) : (∀ p ∈ (run t.d q.pf n.n k ks ρ kn f φ).2.2.2.2, p) →
    SX P B n o H (run t.d q.pf n.n k ks ρ kn f φ).1 (run t.d q.pf n.n k ks ρ kn f φ).2.1 (run t.d q.pf n.n k ks ρ kn f φ).2.2.1 (run t.d q.pf n.n k ks ρ kn f φ).2.2.2.1 → SX P B n o H ks ρ kn f := by
  fun_induction run t.d q.pf n.n k ks ρ kn f φ <;> intro hp h hk <;> first
    | exact h hk
    | (rename_i ih; exact SG.skip (ih hp h hk))
    | (rename_i ih; exact SG.seq (ih hp h hk))
    | (rename_i ih; exact SG.block (ih hp h hk))
    | (rename_i ih; exact SG.region (ih hp h hk))
    | (rename_i hc ih; exact SG.condT (hk.known hc) (ih hp h hk))
    | (rename_i hc ih; exact SG.condF (hk.known hc) (ih hp h hk))
    | (rename_i hc ih; exact SG.exit _ hc (ih hp h hk))
    | (rename_i ih; exact SN.seq (ih hp h hk))
    | (rename_i ih; exact SN.block (ih hp h hk))
    | (rename_i ih; exact SL.nil (ih hp h hk))
    | (rename_i hf hd hg v ps hx hq ih; exact xl_ok hx (fun p hm => hp p (run_sub _ _ _ _ _ _ p (List.mem_append_left _ hm))) hk hg hd hf (ih hp h (hq ▸ hk.add (kprop_okl hx hk))))
    | (rename_i hf hd hg v ps hx _ _ hq ih; exact xl_ok hx (fun p hm => hp p (run_sub _ _ _ _ _ _ p (List.mem_append_left _ hm))) hk hg hd hf (ih hp h (hq ▸ hk.add (kprop_okl hx hk))))
    | (rename_i hd hg ih; exact SL.pass (hk.wants hg) hd (ih hp h hk.gone))
    | (rename_i hd hg _ ih; exact SL.pass (hk.wants hg) hd (ih hp h hk.gone))
    | (rename_i hg ih; exact SL.pass0 (hk.wants hg) (ih hp h hk))
    | (rename_i ih; exact SW.nil (ih hp h hk))
    | (rename_i ih; exact TW.nil (ih hp h hk))
    | (rename_i hs hd hg hc v ps hx hq ih; exact SW.pure hc (hk.wants hg) hd hs (fun w => x1_ok hx (fun p hm => hp p (run_sub _ _ _ _ _ _ p (List.mem_append_left _ hm))) hk) (ih hp h (hq ▸ hk.add (kprop_ok hx hk))))
    | (rename_i hs hd hg hc v ps hx _ _ hq ih; exact SW.pure hc (hk.wants hg) hd hs (fun w => x1_ok hx (fun p hm => hp p (run_sub _ _ _ _ _ _ p (List.mem_append_left _ hm))) hk) (ih hp h (hq ▸ hk.add (kprop_ok hx hk))))
    | (rename_i hs hd hg hc ih; exact SW.pass (hd := hd) hc (hk.wants hg) hs (ih hp h hk.gone))
    | (rename_i ho hs hd hg v ps hx hq ih; exact TW.pure ho (hk.wants hg) hd hs (fun w => x1_ok hx (fun p hm => hp p (run_sub _ _ _ _ _ _ p (List.mem_append_left _ hm))) hk) (ih hp h (hq ▸ hk.add (kprop_ok hx hk))))
    | (rename_i ho hs hd hg v ps hx _ _ hq ih; exact TW.pure ho (hk.wants hg) hd hs (fun w => x1_ok hx (fun p hm => hp p (run_sub _ _ _ _ _ _ p (List.mem_append_left _ hm))) hk) (ih hp h (hq ▸ hk.add (kprop_ok hx hk))))
    | (rename_i ho hs hd hg ih; exact TW.pass (hd := hd) ho (hk.wants hg) hs (ih hp h hk.gone))
end
end Brv
/-
  Walks by reckoning: the rules for what is not reckoned.
-/
set_option linter.unusedVariables false
set_option linter.unusedSimpArgs false
namespace Brv
open Go
abbrev iv (z : Int) : Value := .int .i64 z
abbrev pt (b : Nat) : Value := .pointer (some ⟨b, 0, none⟩)
def AllP : List Prop → Prop
  | [] => True
  | p :: l => p ∧ AllP l
theorem AllP.all : ∀ {l : List Prop}, AllP l → ∀ p ∈ l, p
  | [], _, p, h => by cases h
  | q :: l, ⟨h1, h2⟩, p, h => by
    rcases List.mem_cons.1 h with rfl | h
    · exact h1
    · exact h2.all p h
theorem KnOk.skip {ρ : Env} {kn : Kn} (h : KnOk ρ kn) {d : Nat} {v : Value} (hn : lookK kn d = none) : KnOk ((d, v) :: ρ) kn := by
  have := h.add (d := d) (v := v) (b := none) (fun c hc => by cases hc)
  simpa [kadd, hn] using this
def okD (n : Nat) (kn : Kn) : Option Nat → Bool
  | some d => Nat.blt d n && (match lookK kn d with | none => true | some _ => false)
  | none => true
theorem KnOk.skipO {ρ : Env} {kn : Kn} (h : KnOk ρ kn) {n : Nat} {d : Option Nat} {v : Value} (hn : okD n kn d = true) : KnOk (extE d v ρ) kn := by
  cases d with
  | none => exact h
  | some d =>
    simp only [okD, Bool.and_eq_true] at hn
    refine h.skip ?_
    have := hn.2
    split at this
    · assumption
    · cases this
theorem okD.lt {n d : Nat} {kn : Kn} (h : okD n kn (some d) = true) : Nat.blt d n = true := by
  simp only [okD, Bool.and_eq_true] at h; exact h.1
def Fo.pl : Fo → Bool
  | .w .. => false
  | .t .. => false
  | _ => true
section
variable {P : Program} {B : Exit → Act → World → Prop} {n : Fm} {o : Org} {H H0 H1 : List Asn} {ks : List K} {ρ : Env} {kn : Kn}
theorem X [t : TyTab P] [q : PTab P] {f f' : Fo} {ks' : List K} {ρ' : Env} {kn' : Kn} {φ : List Prop} (h : run t.d q.pf n.n 2000 ks ρ kn f [] = (ks', ρ', kn', f', φ)) (k : SX P B n o H ks' ρ' kn' f')
    (hp : AllP φ := by repeat (first | exact True.intro | refine And.intro (by omega) ?_)) : SX P B n o H ks ρ kn f := by
  have := run_ok (P := P) (B := B) (n := n) (o := o) (H := H) 2000 ks ρ kn f []
  rw [h] at this
  exact this hp.all k
/-- .. so many steps. -/
theorem Xf [t : TyTab P] [q : PTab P] {f f' : Fo} {ks' : List K} {ρ' : Env} {kn' : Kn} {φ : List Prop} (m : Nat) (h : run t.d q.pf n.n m ks ρ kn f [] = (ks', ρ', kn', f', φ)) (k : SX P B n o H ks' ρ' kn' f')
    (hp : AllP φ := by repeat (first | exact True.intro | refine And.intro (by omega) ?_)) : SX P B n o H ks ρ kn f := by
  have := run_ok (P := P) (B := B) (n := n) (o := o) (H := H) m ks ρ kn f []
  rw [h] at this
  exact this hp.all k
theorem IM {f : Fo} {H' : List Asn} (i : Imp H H') (k : SX P B n o H' ks ρ kn f) (hf : f.pl = true := by rfl) : SX P B n o H ks ρ kn f := fun hk => by
  have k := k hk
  cases f with
  | g c => exact SG.imp i k
  | l ops r => exact SL.imp i k
  | n => exact SN.imp i k
  | w ops σ π pend => cases hf
  | t ops t pend => cases hf
theorem FA {f : Fo} {φ : Prop} (h : ∀ w F S, St H F S w → φ) (k : φ → SX P B n o H ks ρ kn f) : SX P B n o H ks ρ kn f := fun hk => by
  cases f with
  | g c => exact SG.fact h (fun q => k q hk)
  | l ops r => exact SL.fact h (fun q => k q hk)
  | n => exact SN.fact h (fun q => k q hk)
  | w ops σ π pend => exact SW.fact h (fun q => k q hk)
  | t ops t pend => exact TW.fact h (fun q => k q hk)
section
variable {ops r : List Oper} {op : Op} {d : Nat} {ty : TypeId} {pos : String} {af : Array Edge} {gd : Option (Nat × Bool)}
/-- A value that is only read. -/
theorem VL {v : Value} (hr : ∀ w F S, St H F S w → Runs P n ρ w ⟨some d, op, ty, pos, af, gd⟩ v w) (k : SX P B n o H ks ((d, v) :: ρ) kn (.l ops r)) (hg : wantsK ops kn gd = some true := by rfl) (hd : okD n.n kn (some d) = true := by rfl) (hf : isDefer op = false := by rfl) :
    SX P B n o H ks ρ kn (.l ops (⟨some d, op, ty, pos, af, gd⟩ :: r)) := fun hk => SL.val (hk.wants hg) (okD.lt hd) hr (k (hk.skipO (d := some d) hd)) hf
theorem LD {T : TypeId} [t : TyOne P T] {x : Operand} {b j : Nat} {cs : List Value} {U : TypeId} {v : Value} (hx : ev ρ x = some (.pointer (some ⟨b, j, none⟩))) (k : SX P B n o H ks ((d, v) :: ρ) kn (.l ops r))
    (hb : SelB H b cs U := by repeat (first | exact SelB.blk | exact SelB.fz | apply SelB.there)) (hv : cs[j]? = some v := by rfl) (hg : wantsK ops kn gd = some true := by rfl) (hd : okD n.n kn (some d) = true := by rfl) :
    SX P B n o H ks ρ kn (.l ops (⟨some d, .load T x, ty, pos, af, gd⟩ :: r)) := VL (fun w F S s => R.ldB hx (s.cel hb) (by simpa using hv)) k hg hd rfl
/-- A struct within a block. -/
inductive GetN : List Value → Nat → Nat → List Value → Prop
  | nil {l : List Value} : GetN l 0 0 []
  | cons {x : Value} {l vs : List Value} {s : Nat} : GetN l 0 s vs → GetN (x :: l) 0 (s + 1) (x :: vs)
  | there {x : Value} {l vs : List Value} {j s : Nat} : GetN l j s vs → GetN (x :: l) (j + 1) s vs
theorem GetN.eq {l vs : List Value} {j s : Nat} (h : GetN l j s vs) : vs.length = s ∧ ∀ i v, vs[i]? = some v → l[j + i]? = some v := by
  induction h with
  | nil => simp
  | cons _ ih =>
    refine ⟨by simp [ih.1], fun i v hi => ?_⟩
    cases i with
    | zero => simpa using hi
    | succ i => simpa using ih.2 i v (by simpa using hi)
  | there _ ih => exact ⟨ih.1, fun i v hi => by have := ih.2 i v hi; rw [show ∀ j : Nat, j + 1 + i = (j + i) + 1 from fun j => by omega]; simpa using this⟩
theorem LA {T : TypeId} {sz : Nat} [t : TyAgg P T sz] {x : Operand} {b j : Nat} {cs vs : List Value} {U : TypeId} (hx : ev ρ x = some (.pointer (some ⟨b, j, none⟩))) (k : SX P B n o H ks ((d, .agg vs.toArray) :: ρ) kn (.l ops r))
    (hb : SelB H b cs U := by repeat (first | exact SelB.blk | exact SelB.fz | apply SelB.there)) (hv : GetN cs j sz vs := by repeat (first | exact GetN.nil | apply GetN.cons | apply GetN.there)) (hg : wantsK ops kn gd = some true := by rfl) (hd : okD n.n kn (some d) = true := by rfl) :
    SX P B n o H ks ρ kn (.l ops (⟨some d, .load T x, ty, pos, af, gd⟩ :: r)) := VL (fun w F S s => R.ldN hx (fun i v hi => ⟨_, rfl, by
      have h := s.cel hb
      rw [show (⟨b, j, none⟩ : Addr).add i = ⟨b, j + i, none⟩ from Go.Addr.add_lit .., h.cell]
      simpa using hv.eq.2 i v hi⟩) hv.eq.1) k hg hd rfl
end
/-! ## One operation, in any kind of region -/
def Fo.ops : Fo → List Oper
  | .l ops _ => ops
  | .w ops _ _ _ => ops
  | .t ops _ _ => ops
  | _ => []
inductive Nx : Fo → Oper → Fo → (List Asn → Prop) → Prop
  | l {ops r : List Oper} {op : Oper} : Nx (.l ops (op :: r)) op (.l ops r) (fun _ => True)
  | w {ops : List Oper} {σ : List Nat} {i : Nat} {op : Oper} {π : List (Nat × Oper)} {pend : Pend} : σ.any (Nat.beq i) = true → isSelect op.op = false → Nx (.w ops σ ((i, op) :: π) pend) op (.w ops σ π pend) (Obl ops i pend)
  | t {ops : List Oper} {i : Nat} {op : Oper} {t : Tr} {pend : Pend} : ops[i]? = some op → isSelect op.op = false → Nx (.t ops (.alt i t .stop) pend) op (.t ops t pend) (Obl ops i pend)
theorem stp {f f' : Fo} {ob : List Asn → Prop} {d : Option Nat} {op : Op} {ty : TypeId} {pos : String} {af : Array Edge} {gd : Option (Nat × Bool)} {Ψ : Value → List Asn → Prop} (hn : Nx f ⟨d, op, ty, pos, af, gd⟩ f' ob) (hg : wantsK f.ops kn gd = some true) (hd : okD n.n kn d = true)
    (hf : isDefer op = false) (h : CS P n o ρ H ⟨d, op, ty, pos, af, gd⟩ Ψ) (k : ∀ v H', Ψ v H' → ob H' ∧ SX P B n o H' ks (extE d v ρ) kn f') : SX P B n o H ks ρ kn f := fun hk => by
  have k' := fun v H' q => (k v H' q).2 (hk.skipO hd)
  have k0 := fun v H' q => (k v H' q).1
  generalize hop : (⟨d, op, ty, pos, af, gd⟩ : Oper) = oq at hn
  cases hn with
  | l =>
    subst hop
    cases d with
    | none => exact SL.step0 (hk.wants hg) h k' hf
    | some d => exact SL.step (hk.wants hg) (okD.lt hd) h k' hf
  | w hc hs =>
    subst hop
    cases d with
    | none => exact SW.step0 hc (hk.wants hg) hs h (fun v H' q => ⟨k0 v H' q, k' v H' q⟩)
    | some d => exact SW.step hc (hk.wants hg) (okD.lt hd) hs h (fun v H' q => ⟨k0 v H' q, k' v H' q⟩)
  | t ho hs =>
    subst hop
    cases d with
    | none => exact TW.step0 ho (hk.wants hg) hs h (fun v H' q => ⟨k0 v H' q, k' v H' q⟩)
    | some d => exact TW.step ho (hk.wants hg) (okD.lt hd) hs h (fun v H' q => ⟨k0 v H' q, k' v H' q⟩)
section
variable {ops r : List Oper} {op : Op} {d : Option Nat} {ty : TypeId} {pos : String} {af : Array Edge} {gd : Option (Nat × Bool)}
/-- A step, however it goes. -/
theorem SP {Ψ : Value → List Asn → Prop} (h : CS P n o ρ H ⟨d, op, ty, pos, af, gd⟩ Ψ) (k : ∀ v H', Ψ v H' → SX P B n o H' ks (extE d v ρ) kn (.l ops r)) (hg : wantsK ops kn gd = some true := by rfl) (hd : okD n.n kn d = true := by rfl) (hf : isDefer op = false := by rfl) :
    SX P B n o H ks ρ kn (.l ops (⟨d, op, ty, pos, af, gd⟩ :: r)) := stp .l hg hd hf h fun v H' q => ⟨trivial, k v H' q⟩
/-- A step that ends in one way. -/
theorem SP1 {v : Value} {H' : List Asn} (h : CS P n o ρ H ⟨d, op, ty, pos, af, gd⟩ (fun v' K => v' = v ∧ K = H')) (k : SX P B n o H' ks (extE d v ρ) kn (.l ops r)) (hg : wantsK ops kn gd = some true := by rfl) (hd : okD n.n kn d = true := by rfl) (hf : isDefer op = false := by rfl) :
    SX P B n o H ks ρ kn (.l ops (⟨d, op, ty, pos, af, gd⟩ :: r)) := SP h (by rintro _ _ ⟨rfl, rfl⟩; exact k) hg hd hf
/-! calls -/
section
variable {f : FuncId} {args : Array Operand} {ats : Array TypeId} {vs : List Value}
theorem CL0 {v : Value} {K1 : List Asn} (hargs : evs ρ args.toList = some vs) (hc : ∀ (vs : Array Value) w, (callFunc f vs).run P w = .ok (.enter f vs) w) (c : SpecS P f vs H0 (fun v' H' => v' = v ∧ H' = K1)) (k : SX P B n o (K1 ++ H1) ks (extE d v ρ) kn (.l ops r))
    (sel : Sels H H0 H1 := by repeat (first | exact Sels.nil | apply Sels.cons | exact Sel.keep | exact Sel.here | apply Sel.there)) (hg : wantsK ops kn gd = some true := by rfl) (hd : okD n.n kn d = true := by rfl) :
    SX P B n o H ks ρ kn (.l ops (⟨d, .call ⟨.value (.func f), args, ats⟩, ty, pos, af, gd⟩ :: r)) :=
  SP (CS.call hargs hc c sel) (by rintro _ _ ⟨_, ⟨rfl, rfl⟩, rfl⟩; exact k) hg hd rfl
theorem CL1 {A : Type} {v : A → Value} {K1 : A → List Asn} (hargs : evs ρ args.toList = some vs) (hc : ∀ (vs : Array Value) w, (callFunc f vs).run P w = .ok (.enter f vs) w) (c : SpecS P f vs H0 (fun v' H' => ∃ x, v' = v x ∧ H' = K1 x))
    (k : ∀ x, SX P B n o (K1 x ++ H1) ks (extE d (v x) ρ) kn (.l ops r))
    (sel : Sels H H0 H1 := by repeat (first | exact Sels.nil | apply Sels.cons | exact Sel.keep | exact Sel.here | apply Sel.there)) (hg : wantsK ops kn gd = some true := by rfl) (hd : okD n.n kn d = true := by rfl) :
    SX P B n o H ks ρ kn (.l ops (⟨d, .call ⟨.value (.func f), args, ats⟩, ty, pos, af, gd⟩ :: r)) :=
  SP (CS.call hargs hc c sel) (by rintro _ _ ⟨_, ⟨x, rfl, rfl⟩, rfl⟩; exact k x) hg hd rfl
theorem CL2 {A A' : Type} {v : A → A' → Value} {K1 : A → A' → List Asn} (hargs : evs ρ args.toList = some vs) (hc : ∀ (vs : Array Value) w, (callFunc f vs).run P w = .ok (.enter f vs) w) (c : SpecS P f vs H0 (fun v' H' => ∃ x y, v' = v x y ∧ H' = K1 x y))
    (k : ∀ x y, SX P B n o (K1 x y ++ H1) ks (extE d (v x y) ρ) kn (.l ops r))
    (sel : Sels H H0 H1 := by repeat (first | exact Sels.nil | apply Sels.cons | exact Sel.keep | exact Sel.here | apply Sel.there)) (hg : wantsK ops kn gd = some true := by rfl) (hd : okD n.n kn d = true := by rfl) :
    SX P B n o H ks ρ kn (.l ops (⟨d, .call ⟨.value (.func f), args, ats⟩, ty, pos, af, gd⟩ :: r)) :=
  SP (CS.call hargs hc c sel) (by rintro _ _ ⟨_, ⟨x, y, rfl, rfl⟩, rfl⟩; exact k x y) hg hd rfl
theorem CF1 {A : Type} {φ : A → Prop} {v : A → Value} {K1 : A → List Asn} (hargs : evs ρ args.toList = some vs) (hc : ∀ (vs : Array Value) w, (callFunc f vs).run P w = .ok (.enter f vs) w) (c : SpecS P f vs H0 (fun v' H' => ∃ x, φ x ∧ v' = v x ∧ H' = K1 x))
    (k : ∀ x, φ x → SX P B n o (K1 x ++ H1) ks (extE d (v x) ρ) kn (.l ops r))
    (sel : Sels H H0 H1 := by repeat (first | exact Sels.nil | apply Sels.cons | exact Sel.keep | exact Sel.here | apply Sel.there)) (hg : wantsK ops kn gd = some true := by rfl) (hd : okD n.n kn d = true := by rfl) :
    SX P B n o H ks ρ kn (.l ops (⟨d, .call ⟨.value (.func f), args, ats⟩, ty, pos, af, gd⟩ :: r)) :=
  SP (CS.call hargs hc c sel) (by rintro _ _ ⟨_, ⟨x, h, rfl, rfl⟩, rfl⟩; exact k x h) hg hd rfl
theorem CF2 {A A' : Type} {φ : A → A' → Prop} {v : A → A' → Value} {K1 : A → A' → List Asn} (hargs : evs ρ args.toList = some vs) (hc : ∀ (vs : Array Value) w, (callFunc f vs).run P w = .ok (.enter f vs) w) (c : SpecS P f vs H0 (fun v' H' => ∃ x y, φ x y ∧ v' = v x y ∧ H' = K1 x y))
    (k : ∀ x y, φ x y → SX P B n o (K1 x y ++ H1) ks (extE d (v x y) ρ) kn (.l ops r))
    (sel : Sels H H0 H1 := by repeat (first | exact Sels.nil | apply Sels.cons | exact Sel.keep | exact Sel.here | apply Sel.there)) (hg : wantsK ops kn gd = some true := by rfl) (hd : okD n.n kn d = true := by rfl) :
    SX P B n o H ks ρ kn (.l ops (⟨d, .call ⟨.value (.func f), args, ats⟩, ty, pos, af, gd⟩ :: r)) :=
  SP (CS.call hargs hc c sel) (by rintro _ _ ⟨_, ⟨x, y, h, rfl, rfl⟩, rfl⟩; exact k x y h) hg hd rfl
theorem DL0 {ψ : Prop} {v : Value} {K1 : List Asn} (hargs : evs ρ args.toList = some vs) (hc : ∀ (vs : Array Value) w, (callFunc f vs).run P w = .ok (.enter f vs) w) (c : ψ → SpecS P f vs H0 (fun v' H' => v' = v ∧ H' = K1)) (k : SX P B n o (K1 ++ H1) ks (extE d v ρ) kn (.l ops r))
    (sel : Sels H H0 H1 := by repeat (first | exact Sels.nil | apply Sels.cons | exact Sel.keep | exact Sel.here | apply Sel.there)) (hψ : ψ := by repeat (first | assumption | omega | apply And.intro | (simp; done) | (simp; omega))) (hg : wantsK ops kn gd = some true := by rfl) (hd : okD n.n kn d = true := by rfl) :
    SX P B n o H ks ρ kn (.l ops (⟨d, .call ⟨.value (.func f), args, ats⟩, ty, pos, af, gd⟩ :: r)) :=
  SP (CS.call hargs hc (c hψ) sel) (by rintro _ _ ⟨_, ⟨rfl, rfl⟩, rfl⟩; exact k) hg hd rfl
theorem DL1 {A : Type} {ψ : Prop} {v : A → Value} {K1 : A → List Asn} (hargs : evs ρ args.toList = some vs) (hc : ∀ (vs : Array Value) w, (callFunc f vs).run P w = .ok (.enter f vs) w) (c : ψ → SpecS P f vs H0 (fun v' H' => ∃ x, v' = v x ∧ H' = K1 x))
    (k : ∀ x, SX P B n o (K1 x ++ H1) ks (extE d (v x) ρ) kn (.l ops r))
    (sel : Sels H H0 H1 := by repeat (first | exact Sels.nil | apply Sels.cons | exact Sel.keep | exact Sel.here | apply Sel.there)) (hψ : ψ := by repeat (first | assumption | omega | apply And.intro | (simp; done) | (simp; omega))) (hg : wantsK ops kn gd = some true := by rfl) (hd : okD n.n kn d = true := by rfl) :
    SX P B n o H ks ρ kn (.l ops (⟨d, .call ⟨.value (.func f), args, ats⟩, ty, pos, af, gd⟩ :: r)) :=
  SP (CS.call hargs hc (c hψ) sel) (by rintro _ _ ⟨_, ⟨x, rfl, rfl⟩, rfl⟩; exact k x) hg hd rfl
theorem DF1 {A : Type} {φ : A → Prop} {ψ : Prop} {v : A → Value} {K1 : A → List Asn} (hargs : evs ρ args.toList = some vs) (hc : ∀ (vs : Array Value) w, (callFunc f vs).run P w = .ok (.enter f vs) w) (c : ψ → SpecS P f vs H0 (fun v' H' => ∃ x, φ x ∧ v' = v x ∧ H' = K1 x))
    (k : ∀ x, φ x → SX P B n o (K1 x ++ H1) ks (extE d (v x) ρ) kn (.l ops r))
    (sel : Sels H H0 H1 := by repeat (first | exact Sels.nil | apply Sels.cons | exact Sel.keep | exact Sel.here | apply Sel.there)) (hψ : ψ := by repeat (first | assumption | omega | apply And.intro | (simp; done) | (simp; omega))) (hg : wantsK ops kn gd = some true := by rfl) (hd : okD n.n kn d = true := by rfl) :
    SX P B n o H ks ρ kn (.l ops (⟨d, .call ⟨.value (.func f), args, ats⟩, ty, pos, af, gd⟩ :: r)) :=
  SP (CS.call hargs hc (c hψ) sel) (by rintro _ _ ⟨_, ⟨x, h, rfl, rfl⟩, rfl⟩; exact k x h) hg hd rfl
theorem DF2 {A A' : Type} {φ : A → A' → Prop} {ψ : Prop} {v : A → A' → Value} {K1 : A → A' → List Asn} (hargs : evs ρ args.toList = some vs) (hc : ∀ (vs : Array Value) w, (callFunc f vs).run P w = .ok (.enter f vs) w) (c : ψ → SpecS P f vs H0 (fun v' H' => ∃ x y, φ x y ∧ v' = v x y ∧ H' = K1 x y))
    (k : ∀ x y, φ x y → SX P B n o (K1 x y ++ H1) ks (extE d (v x y) ρ) kn (.l ops r))
    (sel : Sels H H0 H1 := by repeat (first | exact Sels.nil | apply Sels.cons | exact Sel.keep | exact Sel.here | apply Sel.there)) (hψ : ψ := by repeat (first | assumption | omega | apply And.intro | (simp; done) | (simp; omega))) (hg : wantsK ops kn gd = some true := by rfl) (hd : okD n.n kn d = true := by rfl) :
    SX P B n o H ks ρ kn (.l ops (⟨d, .call ⟨.value (.func f), args, ats⟩, ty, pos, af, gd⟩ :: r)) :=
  SP (CS.call hargs hc (c hψ) sel) (by rintro _ _ ⟨_, ⟨x, y, h, rfl, rfl⟩, rfl⟩; exact k x y h) hg hd rfl
end
/-! memory -/
theorem AL {T : TypeId} {z : Value} [t : TyZero P T z] {d : Nat} {cs : List Value} (k : ∀ b, SX P B n o (blk b cs T :: H) ks ((d, .pointer (some ⟨b, 0, none⟩)) :: ρ) kn (.l ops r)) (hz : z.cells.toList = cs := by rfl)
    (hg : wantsK ops kn gd = some true := by rfl) (hd : okD n.n kn (some d) = true := by rfl) : SX P B n o H ks ρ kn (.l ops (⟨some d, .alloc T, ty, pos, af, gd⟩ :: r)) :=
  SP (CS.alloc cs hz) (by rintro _ _ ⟨b, rfl, rfl⟩; exact k b) hg hd rfl
inductive PutAt : List Value → Nat → List Value → List Value → Prop
  | nil {l : List Value} : PutAt l 0 [] l
  | cons {x v : Value} {l vs l' : List Value} : PutAt l 0 vs l' → PutAt (x :: l) 0 (v :: vs) (v :: l')
  | there {x : Value} {l vs l' : List Value} {k : Nat} : PutAt l k vs l' → PutAt (x :: l) (k + 1) vs (x :: l')
theorem PutAt.eq {l vs l' : List Value} {k : Nat} (h : PutAt l k vs l') : k + vs.length ≤ l.length ∧ l.take k ++ vs ++ l.drop (k + vs.length) = l' := by
  induction h with
  | nil => simp
  | cons _ ih => exact ⟨by simp at ih ⊢; omega, by have := ih.2; simp at this ⊢; exact this⟩
  | there _ ih => exact ⟨by simp at ih ⊢; omega, by have := ih.2; simp only [List.take_succ_cons, List.cons_append]; rw [show ∀ m k, k + 1 + m = (k + m) + 1 from by omega]; simpa using this⟩
theorem one_of {vs : List Value} (h : vs.all Value.oneCell' = true) : ∀ u ∈ vs, u.oneCell' = true := List.all_eq_true.1 h
theorem ST {T : TypeId} [t : TyOne P T] {x y : Operand} {b j : Nat} {cs cs' : List Value} {U : TypeId} {v : Value} (hx : ev ρ x = some (.pointer (some ⟨b, j, none⟩))) (hy : ev ρ y = some v) (k : SX P B n o (blk b cs' U :: H1) ks ρ kn (.l ops r))
    (sel : Sel H (blk b cs U) H1 := by repeat (first | exact Sel.keep | exact Sel.here | apply Sel.there)) (hs : SetAt cs j v cs' := by repeat (first | exact SetAt.here | apply SetAt.there)) (h1 : v.oneCell' = true := by rfl) (hg : wantsK ops kn gd = some true := by rfl) :
    SX P B n o H ks ρ kn (.l ops (⟨none, .store T x y, ty, pos, af, gd⟩ :: r)) := SP (CS.st hx hy sel hs h1) (by rintro _ _ rfl; exact k) hg rfl rfl
theorem SA {T : TypeId} {sz : Nat} [t : TyAgg P T sz] {x y : Operand} {b j : Nat} {cs vs cs' : List Value} {U : TypeId} (hx : ev ρ x = some (.pointer (some ⟨b, j, none⟩))) (hy : ev ρ y = some (.agg vs.toArray)) (k : SX P B n o (blk b cs' U :: H1) ks ρ kn (.l ops r))
    (sel : Sel H (blk b cs U) H1 := by repeat (first | exact Sel.keep | exact Sel.here | apply Sel.there)) (hs : PutAt cs j vs cs' := by repeat (first | exact PutAt.nil | apply PutAt.cons | apply PutAt.there)) (hl : Nat.beq vs.length sz = true := by rfl) (h1 : vs.all Value.oneCell' = true := by rfl)
    (hg : wantsK ops kn gd = some true := by rfl) : SX P B n o H ks ρ kn (.l ops (⟨none, .store T x y, ty, pos, af, gd⟩ :: r)) :=
  SP (CS.stN hx hy sel (Nat.eq_of_beq_eq_true hl) hs.eq.1 (one_of h1) hs.eq.2) (by rintro _ _ rfl; exact k) hg rfl rfl
/-- A struct's variable: made, and filled at once. -/
theorem AS {T : TypeId} {z : Value} {sz : Nat} [t : TyZero P T z] [ta : TyAgg P T sz] {d : Nat} {y : Operand} {ty' : TypeId} {pos' : String} {af' : Array Edge} {gd' : Option (Nat × Bool)} {vs : List Value} (hy : ev ρ y = some (.agg vs.toArray))
    (k : ∀ b, SX P B n o (blk b vs T :: H) ks ((d, .pointer (some ⟨b, 0, none⟩)) :: ρ) kn (.l ops r)) (hl : Nat.beq vs.length sz = true := by rfl) (h1 : vs.all Value.oneCell' = true := by rfl) (hz : Nat.beq z.cells.toList.length sz = true := by rfl)
    (hne : (match y with | .tmp t => !Nat.beq d t | _ => true) = true := by rfl) (hg : wantsK ops kn gd = some true := by rfl) (hg' : wantsK ops kn gd' = some true := by rfl) (hd : okD n.n kn (some d) = true := by rfl) :
    SX P B n o H ks ρ kn (.l ops (⟨some d, .alloc T, ty, pos, af, gd⟩ :: ⟨none, .store T (.tmp d) y, ty', pos', af', gd'⟩ :: r)) :=
  SP (CS.alloc _ rfl) (by
    rintro _ _ ⟨b, rfl, rfl⟩
    have hl' := Nat.eq_of_beq_eq_true hl
    have hz' := Nat.eq_of_beq_eq_true hz
    have hy' : ev ((d, .pointer (some ⟨b, 0, none⟩)) :: ρ) y = some (.agg vs.toArray) := by
      cases y with
      | tmp t =>
        simp only [ev, look] at hy ⊢
        cases hq : Nat.beq d t with
        | true => simp [hq] at hne
        | false => exact hy
      | const v => exact hy
      | global g => exact hy
      | func f => exact hy
    exact SP (CS.stA (b := b) (x := .tmp d) (by simp only [extE, ev, look, Nat.beq_refl]) hy' .here hl' hz' (one_of h1)) (by rintro _ _ rfl; exact k b) hg' rfl rfl) hg hd rfl
end
end
end Brv
