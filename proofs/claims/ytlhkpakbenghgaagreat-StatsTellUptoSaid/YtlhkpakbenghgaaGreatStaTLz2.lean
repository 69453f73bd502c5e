/-
  Texts of this claim, put together.
-/
import Derived.MapKept
import Derived.ChangeKeysEq
import Derived.Test.YtlhkpakbenghgaaGreatStaTLz1
/-
  The language's own maps.
-/
set_option linter.unusedVariables false
set_option linter.unusedSimpArgs false
namespace Brv
open Go
section
variable {κ : Type} [DecidableEq κ]
/-- A map's entries, in the order in which they came. -/
def mput : List (κ × Value) → κ → Value → List (κ × Value)
  | [], k, v => [(k, v)]
  | p :: r, k, v => if p.1 = k then (k, v) :: r else p :: mput r k v
def mget : List (κ × Value) → κ → Option Value
  | [], _ => none
  | p :: r, k => if p.1 = k then some p.2 else mget r k
end
section
variable {κ : Type} [Key κ]
/-- A map's type. -/
class MapT (P : Program) (T : TypeId) (κ : Type) [Key κ] (K E : outParam TypeId) (d : outParam TypeDesc) : Prop where
  h : P.underlying T = some (.map K E)
  hk : P.underlying K = some d
  key : ∀ k : κ, MapKept.IsKey d (Key.val k)
  inj : ∀ a b : κ, Key.val a = Key.val b → a = b
def ents (l : List MapEntry) (ps : List (κ × Value)) : Prop := l.map (fun e => (e.key, e.val)) = ps.map (fun p => (Key.val p.1, p.2))
def GM (w : World) (b : Nat) (ps : List (κ × Value)) : Prop := ∃ es clock, w.heap[b]? = some (.map es clock) ∧ ents es.toList ps
theorem GM.lt {w : World} {b : Nat} {ps : List (κ × Value)} (h : GM w b ps) : b < w.heap.size := let ⟨_, _, h, _⟩ := h; (Array.getElem?_eq_some_iff.1 h).1
theorem GM.ext {M : List Nat} {w w' : World} {b : Nat} {ps : List (κ × Value)} (h : GM w b ps) (he : Ext M w w') (hb : b ∉ M) : GM w' b ps :=
  let ⟨es, c, h1, h2⟩ := h; ⟨es, c, (he.keep b (Array.getElem?_eq_some_iff.1 h1).1 hb).trans h1, h2⟩
/-- A map of one's own. -/
def gm (b : Nat) (ps : List (κ × Value)) : Asn where
  P := fun F _ w => F = [b] ∧ GM w b ps
  ext := fun F S M w w' h he hF _ => ⟨h.1, h.2.ext he (hF b (by rw [h.1]; simp))⟩
theorem St.gm {b : Nat} {ps : List (κ × Value)} {H H' : List Asn} {F S : List Nat} {w : World} (s : St H F S w) (h : Sel H (Brv.gm b ps) H') : GM w b ps := (s.sel h).elim fun _ h => h.elim fun _ h => h.2.2
variable [DecidableEq κ]
theorem find_ents {d : TypeDesc} (hkey : ∀ k : κ, MapKept.IsKey d (Key.val k)) (inj : ∀ a b : κ, Key.val a = Key.val b → a = b) (k : κ) : ∀ (l : List MapEntry) (ps : List (κ × Value)) (n : Nat), ents l ps →
    (mget ps k = none ∧ Instr.findNow d (Key.val k) l n = some none ∧ ∀ v, mput ps k v = ps ++ [(k, v)]) ∨
    (∃ j e, l[j]? = some e ∧ e.key = Key.val k ∧ mget ps k = some e.val ∧ Instr.findNow d (Key.val k) l n = some (some (n + j, e.val)) ∧ ∀ v, mput ps k v = ps.set j (k, v))
  | [], [], n, _ => .inl ⟨rfl, rfl, fun _ => rfl⟩
  | [], p :: ps, n, h => by simp [ents] at h
  | e :: l, [], n, h => by simp [ents] at h
  | e :: l, p :: ps, n, h => by
    simp only [ents, List.map_cons, List.cons.injEq, Prod.mk.injEq] at h
    obtain ⟨⟨h1, h2⟩, h3⟩ := h
    obtain ⟨r, hr, hi⟩ := MapKept.sameNow_of_keys (b := e.key) (hkey k) (by rw [h1]; exact hkey p.1)
    by_cases hp : p.1 = k
    · refine .inr ⟨0, e, rfl, by rw [h1, hp], ?_, ?_, ?_⟩
      · simp only [mget]; rw [if_pos hp, h2]
      · have : r = true := hi.2 (by rw [h1, hp])
        simp only [Instr.findNow, hr, this]; rfl
      · intro v; simp only [mput]; rw [if_pos hp]; rfl
    · have hrf : r = false := by
        cases hq : r with
        | false => rfl
        | true => exact (hp (inj _ _ (by rw [← h1]; exact (hi.1 hq).symm))).elim
      rcases find_ents hkey inj k l ps (n + 1) h3 with ⟨q1, q2, q3⟩ | ⟨j, e', q1, q2, q3, q4, q5⟩
      · refine .inl ⟨?_, ?_, ?_⟩
        · simp only [mget]; rw [if_neg hp, q1]
        · simp only [Instr.findNow, hr, hrf]; exact q2
        · intro v; simp only [mput]; rw [if_neg hp, q3]; rfl
      · refine .inr ⟨j + 1, e', by simpa using q1, q2, ?_, ?_, ?_⟩
        · simp only [mget]; rw [if_neg hp, q3]
        · simp only [Instr.findNow, hr, hrf]; rw [q4, show n + 1 + j = n + (j + 1) by omega]
        · intro v; simp only [mput]; rw [if_neg hp, q5]; rfl
section
variable {P : Program} {n : Fm} {o : Org} {ρ : Env} {H H1 : List Asn} {d : Nat} {ty : TypeId} {pos : String} {af : Array Edge} {gd : Option (Nat × Bool)} {T K E : TypeId} {dd : TypeDesc} {w : World}
theorem R.look [t : MapT P T κ K E dd] {z : Value} [tz : TyZero P E z] {x y : Operand} {b : Nat} {ps : List (κ × Value)} {k : κ} (hx : ev ρ x = some (.map (some b))) (hy : ev ρ y = some (Key.val k)) (hb : GM w b ps) :
    Runs P n ρ w ⟨some d, .lookup T x y false, ty, pos, af, gd⟩ ((mget ps k).getD z) w := fun f hf => by
  obtain ⟨es, c, h1, h2⟩ := hb
  have hz : (zeroValue E).run P w = .ok z w := by
    have hz := tz.h
    cases hq : P.info? E with
    | none => simp [hq] at hz
    | some i => have hz' : i.zero = some z := by simpa [hq] using hz
                simp [zeroValue, typeInfo, hq, hz']
  rcases find_ents t.key t.inj k es.toList ps 0 h2 with ⟨q1, q2, _⟩ | ⟨j, e, q1, q2, q3, q4, _⟩
  · simp [execOp, Instr.lookup, hf.eval hx, hf.eval hy, run_underlying t.h, MapKept.run_getObj_map h1, MapKept.run_checkKey t.hk (t.key k), MapKept.run_findKey t.hk q2, hz, Result.andThen, q1]
  · simp [execOp, Instr.lookup, hf.eval hx, hf.eval hy, run_underlying t.h, MapKept.run_getObj_map h1, MapKept.run_checkKey t.hk (t.key k), MapKept.run_findKey t.hk q4, Result.andThen, q3]
end
end
end Brv
/-
  Loops in which a frame's marks grow (a range over a function inside).
-/
set_option linter.unusedVariables false
set_option linter.unusedSimpArgs false
namespace Brv
open Go
section
variable {P : Program} {B : Exit → Act → World → Prop} {n : Fm} {ks : List K} {ρ : Env} {w : World} {o : Org} {H : List Asn}
theorem G.loopN {X : Type} (nI : X → Fm) (ρI : X → Env) (I : X → World → Prop) (μ : X → Nat) (x₀ : X) {c : Code} (hro : ∀ x, (nI x).ro = n.ro) (hn : nI x₀ = n) (hs : Sub (ρI x₀) ρ) (h₀ : I x₀ w)
    (round : ∀ x w, I x w → G P B (nI x) (.hand (fun a' w' => ∃ x', μ x' < μ x ∧ Fr (nI x') (ρI x') a' ∧ I x' w') :: ks) (ρI x) w c) : G P B n ks ρ w (.loop c) := by
  intro a ha
  refine wpIn_loop_ghost (fun k a w => ∃ x, μ x = k ∧ Fr (nI x) (ρI x) a ∧ I x w) (μ x₀) ⟨x₀, rfl, hn ▸ ha.sub hs, h₀⟩ ?_
  rintro k a w ⟨x, rfl, hf, hI⟩
  have hr := round x w hI a hf
  rw [hro x] at hr
  refine wpIn_mono hr ?_
  intro e a' w' hq
  cases e with
  | normal => obtain ⟨x', hlt, hf', hI'⟩ := hq; exact ⟨μ x', hlt, x', rfl, hf', hI'⟩
  | exit id => exact hq
  | goto l => exact hq
  | ret => exact hq
  | panic ch => exact hq
  | outgrown => exact hq
theorem SG.loopN {X : Type} (nI : X → Fm) (ρI : X → Env) (HI : X → List Asn) (I : X → Prop) (μ : X → Nat) (x₀ : X) {c : Code} (hro : ∀ x, (nI x).ro = n.ro) (hn : nI x₀ = n) (hs : Sub (ρI x₀) ρ) (i : Imp H (HI x₀)) (h₀ : I x₀)
    (round : ∀ x, I x → SG P B (nI x) o (.hand (fun a' w' => ∃ x', μ x' < μ x ∧ Fr (nI x') (ρI x') a' ∧ I x' ∧ ∃ F S, St (HI x') F S w' ∧ From o w' F S) :: ks) (ρI x) (HI x) c) : SG P B n o ks ρ H (.loop c) :=
  fun w F S s f => G.loopN nI ρI (fun x w' => I x ∧ ∃ F S, St (HI x) F S w' ∧ From o w' F S) μ x₀ hro hn hs ⟨h₀, i.at s f⟩ (fun x w' ⟨hi, F', S', s', f'⟩ => round x hi w' F' S' s' f')
end
/-- The marks of a frame, that are to be taken at its end. -/
def mark (d : Nat) : Deferred := ⟨.collected d, #[]⟩
def dfrs : List Nat → List Asn → List Asn
  | [], H => H
  | d :: ds, H => dfr d :: dfrs ds H
theorem Dfrs.many {H H' : List Asn} {ds : List Nat} {df : List Deferred} (h : Dfrs df H H') : Dfrs (ds.map mark ++ df) (dfrs ds H) H' := by
  induction ds with
  | nil => exact h
  | cons d ds ih => exact .cons .here ih
end Brv
/-
  Slices of numbers among a law's arguments.
-/
set_option linter.unusedVariables false
set_option linter.unusedSimpArgs false
namespace Brv
open Go
end Brv
namespace Brv
open Go
/-- A row of bytes, where it lies. -/
structure BRow where
  a : Option Addr
  n : Nat
  c : Nat
  l : List UInt8
def BRow.val (r : BRow) : Value := .slice r.a r.n r.c
def BRow.ok (w : World) (r : BRow) : Prop := (r.n ≤ r.c ∧ r.c ≤ 140737488351232) ∧ Bs w r.a r.n r.l
theorem BRow.ok.ext0 {w w' : World} {r : BRow} (h : r.ok w) (he : Ext [] w w') : r.ok w' := ⟨h.1, h.2.ext0 he⟩
end Brv
/-
  Pens and scans as assertions; functions that turn nothing old, over assertions.
-/
set_option linter.unusedVariables false
set_option linter.unusedSimpArgs false
namespace Brv
open Go
/-- A pen that wrote l. -/
def pen (TP TE p : Nat) (l : List UInt8) : Asn where
  P := fun F _ w => PenAt TP TE w p l F
  ext := fun F S M w w' h he hF _ => h.ext he hF
/-- A scan, of which l is left. -/
def scn (TS s : Nat) (l : List UInt8) (e : Int) : Asn where
  P := fun F S w => F = [s] ∧ ScanAt TS w s S l e
  ext := fun F S M w w' h he hF hS => ⟨h.1, h.2.ext he (hF s (by rw [h.1]; simp)) hS⟩
theorem Imp.pen {H H' : List Asn} {TP TE p : Nat} (h : Sel H (blk p [.slice none 0 0] TP) H') : Imp H (Brv.pen TP TE p [] :: H') := Imp.same h fun F S w hA => by
  obtain ⟨rfl, hB⟩ := hA
  exact PenAt.new hB
theorem St.scn {H H' : List Asn} {TS s : Nat} {l : List UInt8} {e : Int} {F S : List Nat} {w : World} (st : St H F S w) (h : Sel H (Brv.scn TS s l e) H') : ∃ D, ScanAt TS w s D l e := (st.sel h).elim fun _ h => h.elim fun S1 h => ⟨S1, h.2.2⟩
theorem St.pen {H H' : List Asn} {TP TE p : Nat} {l : List UInt8} {F S : List Nat} {w : World} (st : St H F S w) (h : Sel H (Brv.pen TP TE p l) H') : ∃ S', PenAt TP TE w p l S' := (st.sel h).elim fun F1 h => h.elim fun _ h => ⟨F1, h.2⟩
section
variable {P : Program} {f : FuncId} {vs : List Value}
end
end Brv
/-
  A slice that is made to grow from nothing; what is known of bytes beside blocks that are turned.
-/
set_option linter.unusedVariables false
set_option linter.unusedSimpArgs false
namespace Brv
open Go
section
variable {P : Program} {n : Fm} {o : Org} {ρ : Env} {H H' : List Asn} {ty : TypeId} {pos : String} {af : Array Edge} {gd : Option (Nat × Bool)}
end
/-! ## Structs that are built of parts of many cells -/
def putN : List Value → Nat → List Value → List Value
  | cs, _, [] => cs
  | cs, off, x :: l => putN (cs.set off x) (off + 1) l
theorem putN_spec (off : Nat) : ∀ (l : List Value) (k : Nat) (cells : Array Value), ((l.zipIdx k).foldl (fun cs p => cs.setIfInBounds (off + p.2) p.1) cells).toList = putN cells.toList (off + k) l := by
  intro l
  induction l with
  | nil => intro k cells; rfl
  | cons x l ih =>
    intro k cells
    rw [List.zipIdx_cons, List.foldl_cons, ih (k + 1), putN]
    simp [Nat.add_assoc]
def fillN (pl : Nat → Option (Nat × Nat)) : List Value → List (Nat × Value) → Option (List Value)
  | cs, [] => some cs
  | cs, (i, v) :: rest => match pl i with
    | some (off, sz) => match Nat.beq v.cells.toList.length sz && Nat.ble (off + sz) cs.length with
      | true => fillN pl (putN cs off v.cells.toList) rest
      | false => none
    | none => none
theorem fillN_spec {pl : Nat → Option (Nat × Nat)} : ∀ {vs : List (Nat × Value)} {cs : Array Value} {l : List Value}, fillN pl cs.toList vs = some l → Instr.fill pl cs vs = some l.toArray
  | [], cs, l, h => by
    simp only [fillN, Option.some.injEq] at h
    subst h
    simp [Instr.fill]
  | (i, v) :: rest, cs, l, h => by
    simp only [fillN] at h
    split at h
    · rename_i off sz hp
      split at h
      · rename_i hb
        rw [Bool.and_eq_true] at hb
        have hsz := Nat.eq_of_beq_eq_true hb.1
        have hlt := Nat.le_of_ble_eq_true hb.2
        have e := putN_spec off v.cells.toList 0 cs
        rw [Nat.add_zero] at e
        have e2 : (v.cells.zipIdx.foldl (fun cs (p : Value × Nat) => cs.setIfInBounds (off + p.2) p.1) cs).toList = putN cs.toList off v.cells.toList := by
          rw [← e, ← Array.foldl_toList, Array.toList_zipIdx]
        rw [← e2] at h
        have ih := fillN_spec h
        simp only [Instr.fill, hp]
        rw [if_neg (by simp at hsz hlt ⊢; omega)]
        exact ih
      · cases h
    · cases h
section
variable {P : Program} {n : Fm} {ρ : Env} {w : World} {d : Nat} {ty : TypeId} {pos : String} {af : Array Edge} {gd : Option (Nat × Bool)}
theorem R.buildN {T : TypeId} {pl : Nat → Option (Nat × Nat)} {z : Value} [t : TyBuilt P T pl z] {parts : Array (Nat × Operand)} {vs : List (Nat × Value)} {l : List Value} (hp : evps ρ parts.toList = some vs) (hb : fillN pl z.cells.toList vs = some l) :
    Runs P n ρ w ⟨some d, .build T parts, ty, pos, af, gd⟩ (.agg l.toArray) w := R.build hp (fillN_spec hb)
end
end Brv
/-
  The walks of package flow.
-/
set_option linter.unusedVariables false
set_option linter.unusedSimpArgs false
set_option maxRecDepth 4000
namespace Go.Proofs.YtlhkpakbenghgaaGreat
open Go Brv
theorem tabR_pt {w : World} {a : Option Addr} {n s i : Nat} {Rr : List (List Value)} {r : List Value} (h : Tab w a n s Rr) (hs : 0 < s) (hr : Rr[i]? = some r) : ∃ q, a = some q := by
  obtain ⟨hi, _⟩ := List.getElem?_eq_some_iff.1 hr
  obtain ⟨q, hq, _⟩ := h.at hs i hi
  exact ⟨q, hq⟩
theorem tabR_ld {w : World} {a : Option Addr} {n s i : Nat} {Rr : List (List Value)} {r : List Value} {q : Addr} (h : Tab w a n s Rr) (hs : 0 < s) (hq : a = some q) (hr : Rr[i]? = some r) : Cells w (some (q.add ((i : Int).toNat * s))) r := by
  obtain ⟨hi, rfl⟩ := List.getElem?_eq_some_iff.1 hr
  obtain ⟨p, hp, hc⟩ := h.at hs i hi
  rw [hq] at hp; cases hp
  rwa [Int.toNat_natCast]
theorem tabR_flat {w : World} {a : Option Addr} {n s : Nat} {Rr : List (List Value)} (h : Tab w a n s Rr) : Rr.flatten.length = n * s := by
  have he := h.each
  have hl := h.len
  clear h
  subst hl
  induction Rr with
  | nil => simp
  | cons x l ih =>
    rw [List.flatten_cons, List.length_append, ih (fun vs hv => he vs (List.mem_cons_of_mem _ hv)), he x (by simp), List.length_cons, Nat.add_mul, Nat.one_mul, Nat.add_comm]
theorem tabR_none {w : World} {n s : Nat} {Rr : List (List Value)} (h : Tab w none n s Rr) (hs : 0 < s) : n = 0 ∧ Rr = [] := by
  cases Rr with
  | nil => exact ⟨h.len, rfl⟩
  | cons r Rr => obtain ⟨q, hq⟩ := tabR_pt h hs (i := 0) rfl; cases hq
theorem flat_oneR {Rr : List (List Value)} (h : ∀ r ∈ Rr, ∀ u ∈ r, u.oneCell' = true) : ∀ u ∈ Rr.flatten, u.oneCell' = true := by
  intro u hu
  obtain ⟨r, hr, h2⟩ := List.mem_flatten.1 hu
  exact h r hr u h2
theorem tab_ownR {w : World} {a : Option Addr} {n s : Nat} {Rr : List (List Value)} (h : Cells w a Rr.flatten) (hl : n = Rr.length) (hR : ∀ r ∈ Rr, r.length = s ∧ ∀ u ∈ r, u.oneCell' = true) : Tab w a n s Rr := ⟨h, hl, fun r hr => (hR r hr).1⟩
/-- Folded, by places. -/
def foldG (g : Nat → Int → Int) (u : Int) : Nat → Int
  | 0 => u
  | k + 1 => g k (foldG g u k)
end Go.Proofs.YtlhkpakbenghgaaGreat
/-
  The walks of package flow.
-/
set_option linter.unusedVariables false
set_option linter.unusedSimpArgs false
set_option maxRecDepth 4000
namespace Go.Proofs.YtlhkpakbenghgaaGreat
open Go Brv
theorem cloExt (a : Option Addr) (n c : Nat) (Rr : List (List Value)) (hR : ∀ r ∈ Rr, r.length = 2 ∧ ∀ u ∈ r, u.oneCell' = true) (hb : n * 16 ≤ 140737488355328) : SpecS Tryz.prog 70 [.slice a n c] [sh (fun w => Tab w a n 2 Rr)] (fun v H' => ∃ a' c', v = .slice a' n c' ∧ H' = [own 35 2 a' (n) c' (Rr.flatten)]) := by
  refine SpecS.enter Tryz.func70 rfl 8 rfl (Nat.le_of_ble_eq_true rfl) (fun o => ?_)
  refine SG.seq ?_
  refine SG.region ?_
  refine SL.val rfl rfl (fun w9 F9 S9 s => R.as rfl) ?_
  refine SL.nil ?_
  refine SN.seq ?_
  refine SG.seq ?_
  refine SG.seq ?_
  refine SG.region ?_
  refine SL.val rfl rfl (fun w9 F9 S9 s => R.mv rfl) ?_
  refine SL.val rfl rfl (fun w9 F9 S9 s => R.eqNilS rfl rfl) ?_
  refine SL.nil ?_
  refine SN.seq ?_
  refine SG.condB rfl (fun h0 => ?_) (fun h0 => ?_)
  · obtain rfl : a = none := by simpa using h0
    refine SG.fact (fun w9 F9 S9 s => tabR_none (s.sh (p := fun w => Tab w none n 2 Rr) (by repeat (first | exact Sel.keep | exact Sel.here | apply Sel.there))) (by decide)) (fun hf9 => ?_)
    obtain ⟨hn0, hR0⟩ := hf9
    subst hn0
    subst hR0
    refine SG.imp (Imp.ownNil 35 2) ?_
    refine SG.seq ?_
    refine SG.region ?_
    refine SL.val rfl rfl (fun w9 F9 S9 s => R.as rfl) ?_
    refine SL.nil ?_
    refine SN.seq ?_
    exact SG.ret1 rfl rfl ((Imp.sels (by repeat (first | exact Sels.nil | apply Sels.cons | exact Sel.keep | exact Sel.here | apply Sel.there)))) (⟨none, 0, rfl, rfl⟩)
  · refine SG.fact (fun w9 F9 S9 s => tabR_flat (s.sh (p := fun w => Tab w a n 2 Rr) (by repeat (first | exact Sel.keep | exact Sel.here | apply Sel.there)))) (fun hf9 => ?_)
    have hfl := hf9; clear hf9
    refine SG.skip ?_
    refine SN.seq ?_
    refine SG.seq ?_
    refine SG.region ?_
    refine SL.step rfl rfl (CS.buildA rfl rfl rfl rfl rfl [] rfl) ?_
    rintro _ _ ⟨b5, rfl, rfl⟩
    refine SL.val rfl rfl (fun w9 F9 S9 s => R.mv rfl) ?_
    refine SL.step rfl rfl (CS.imp (Imp.ownBlk (size := 2) (k := 0) (show Sel _ (blk b5 [] 35) _ from (by repeat (first | exact Sel.keep | exact Sel.here | apply Sel.there))) rfl (Nat.zero_le _)) (CS.app rfl rfl (by repeat (first | exact Sel.keep | exact Sel.here | apply Sel.there)) (fun w9 F9 S9 s => (s.sh (p := fun w => Tab w a n 2 Rr) (by repeat (first | exact Sel.keep | exact Sel.here | apply Sel.there))).cells) hfl (flat_oneR (fun r hr => (hR r hr).2)) (by simp [maxLen]; omega) (by omega))) ?_
    rintro _ _ ⟨a7, c7, rfl, rfl⟩
    refine SL.val rfl rfl (fun w9 F9 S9 s => R.as rfl) ?_
    refine SL.nil ?_
    rw [Nat.zero_add, List.nil_append]
    refine SN.seq ?_
    exact SG.ret1 rfl rfl ((Imp.sels (by repeat (first | exact Sels.nil | apply Sels.cons | exact Sel.keep | exact Sel.here | apply Sel.there)))) (⟨a7, c7, rfl, rfl⟩)

theorem valsExt (a : Option Addr) (n c : Nat) : SpecS Tryz.prog 69 [.slice a n c] [] (fun v H' => ∃ b, v = .func (.func 93) #[] #[.pointer (some ⟨b, 0, none⟩)] ∧ H' = [fz b [.slice a n c] 31]) := by
  refine SpecS.enter Tryz.func69 rfl 4 rfl (Nat.le_of_ble_eq_true rfl) (fun o => ?_)
  refine SG.seq ?_
  refine SG.region ?_
  refine SL.step rfl rfl (CS.box1 rfl rfl) ?_
  rintro _ _ ⟨b1, rfl, rfl⟩
  refine SL.val rfl rfl (fun w9 F9 S9 s => R.as rfl) ?_
  refine SL.nil ?_
  refine SN.seq ?_
  refine SG.seq ?_
  refine SG.region ?_
  refine SL.val rfl rfl (fun w9 F9 S9 s => R.mkFunc rfl rfl) ?_
  refine SL.val rfl rfl (fun w9 F9 S9 s => R.as rfl) ?_
  refine SL.nil ?_
  refine SN.imp (Imp.fz (show Sel _ (blk b1 [.slice a n c] 31) _ from (by repeat (first | exact Sel.keep | exact Sel.here | apply Sel.there)))) ?_
  refine SN.seq ?_
  exact SG.ret1 rfl rfl ((Imp.sels (by repeat (first | exact Sels.nil | apply Sels.cons | exact Sel.keep | exact Sel.here | apply Sel.there)))) (⟨b1, rfl, rfl⟩)

theorem vals1Ext (y : Value) (b : Nat) (a : Option Addr) (n c : Nat) (Rr : List (List Value)) (J Jx : Nat → Asn) (hR : ∀ r ∈ Rr, r.length = 2 ∧ ∀ u ∈ r, u.oneCell' = true) (hb : n ≤ 140737488355328) (hY : ∀ k vs p, k < n → (fun k vs p => ∃ row, Rr[k]? = some row ∧ vs = [.agg row.toArray] ∧ p = fun _ => True) k vs p → YSpec Tryz.prog y vs [sh p, J k] (fun b H' => H' = [if b then J (k + 1) else Jx (k + 1)])) : SpecS Tryz.prog 93 [y, .pointer (some ⟨b, 0, none⟩)] [J 0, fz b [.slice a n c] 31, sh (fun w => Tab w a n 2 Rr)] (fun v H' => (H' = J n :: [fz b [.slice a n c] 31, sh (fun w => Tab w a n 2 Rr)] ∨ ∃ k, k ≤ n ∧ H' = Jx k :: [fz b [.slice a n c] 31, sh (fun w => Tab w a n 2 Rr)])) := by
  refine SpecS.enter Tryz.func93 rfl 16 rfl (Nat.le_of_ble_eq_true rfl) (fun o => ?_)
  refine SG.fact (fun w9 F9 S9 s => (s.sh (p := fun w => Tab w a n 2 Rr) (by repeat (first | exact Sel.keep | exact Sel.here | apply Sel.there))).len) (fun hf9 => ?_)
  have hnl := hf9; clear hf9
  refine SG.seq ?_
  refine SG.region ?_
  refine SL.val rfl rfl (fun w9 F9 S9 s => R.ldB (v := .slice a n c) rfl (s.cel (by repeat (first | exact SelB.blk | exact SelB.fz | apply SelB.there))) (by rfl)) ?_
  refine SL.val rfl rfl (fun w9 F9 S9 s => R.lenS rfl) ?_
  refine SL.val rfl rfl (fun w9 F9 S9 s => R.mv rfl) ?_
  refine SL.nil ?_
  refine SN.seq ?_
  refine SG.block ?_
  refine SG.loop (X := Nat) (fun k => [(0, y), (5, .slice a n c), (6, .int .i64 (n : Int)), (7, .int .i64 (k : Int))]) (fun k => [J k, fz b [.slice a n c] 31, sh (fun w => Tab w a n 2 Rr)]) (fun k => k ≤ n) (fun k => n - k) (0) (Sub.cons rfl (Sub.cons rfl (Sub.cons rfl (Sub.cons rfl (Sub.nil _))))) ((Imp.sels (by repeat (first | exact Sels.nil | apply Sels.cons | exact Sel.keep | exact Sel.here | apply Sel.there)))) (Nat.zero_le _) ?_
  intro k hk
  show SG _ _ _ _ _ [(0, y), (5, .slice a n c), (6, .int .i64 (n : Int)), (7, .int .i64 (k : Int))] [J k, fz b [.slice a n c] 31, sh (fun w => Tab w a n 2 Rr)] _
  refine SG.seq ?_
  refine SG.region ?_
  refine SL.val rfl rfl (fun w9 F9 S9 s => R.lss rfl rfl) ?_
  refine SL.nil ?_
  refine SN.seq ?_
  refine SG.seq ?_
  refine SG.condP rfl (fun h0 => ?_) (fun h0 => ?_)
  · obtain ⟨row, hr⟩ : ∃ row, Rr[k]? = some row := ⟨_, List.getElem?_eq_getElem (by omega)⟩
    obtain ⟨hrl, hr1⟩ := hR row (List.mem_of_getElem? hr)
    refine SG.fact (fun w9 F9 S9 s => tabR_pt (s.sh (p := fun w => Tab w a n 2 Rr) (by repeat (first | exact Sel.keep | exact Sel.here | apply Sel.there))) (by decide) hr) (fun hf9 => ?_)
    obtain ⟨q, hq⟩ := hf9
    refine SG.skip ?_
    refine SN.seq ?_
    refine SG.seq ?_
    refine SG.block ?_
    refine SG.seq ?_
    refine SG.region ?_
    refine SL.val rfl rfl (fun w9 F9 S9 s => R.idx rfl rfl (by omega) (by omega) q hq) ?_
    refine SL.val rfl rfl (fun w9 F9 S9 s => R.ldN (vs := row) rfl (tabR_ld (s.sh (p := fun w => Tab w a n 2 Rr) (by repeat (first | exact Sel.keep | exact Sel.here | apply Sel.there))) (by decide) hq hr) hrl) ?_
    refine SL.step rfl rfl (CS.alloc [.int .i64 0, .int .i64 0] rfl) ?_
    rintro _ _ ⟨b4, rfl, rfl⟩
    refine SL.step0 rfl (CS.stA (vs := row) rfl rfl (by repeat (first | exact Sel.keep | exact Sel.here | apply Sel.there)) hrl (by rfl) hr1) ?_
    rintro _ _ rfl
    refine SL.nil ?_
    refine SN.seq ?_
    refine SG.seq ?_
    refine SG.region ?_
    refine SL.val rfl rfl (fun w9 F9 S9 s => R.mv rfl) ?_
    refine SL.val rfl rfl (fun w9 F9 S9 s => R.ldBN (cs := row.toArray) rfl (s.cel (by repeat (first | exact SelB.blk | exact SelB.fz | apply SelB.there))) (by simpa using hrl)) ?_
    refine SL.imp (Imp.pure (p := fun _ => True) (fun _ => trivial)) ?_
    refine SL.step rfl rfl (CS.yield rfl rfl (hY k _ _ (by omega) ⟨row, hr, rfl, rfl⟩) (by repeat (first | exact Sels.nil | apply Sels.cons | exact Sel.keep | exact Sel.here | apply Sel.there))) ?_
    rintro _ _ ⟨_, ⟨bq, rfl, rfl⟩, rfl⟩
    refine SL.n1 ?_
    refine SL.val rfl rfl (fun w9 F9 S9 s => R.not rfl) ?_
    refine SL.nil ?_
    refine SN.seq ?_
    refine SG.condB rfl (fun h1 => ?_) (fun h1 => ?_)
    · obtain rfl : bq = false := by simpa using h1
      exact SG.ret0 rfl ((Imp.sels (by repeat (first | exact Sels.nil | apply Sels.cons | exact Sel.keep | exact Sel.here | apply Sel.there)))) (.inr ⟨k + 1, by omega, rfl⟩)
    · obtain rfl : bq = true := by simpa using h1
      refine SG.skip ?_
      refine SN.block ?_
      refine SN.seq ?_
      refine SG.region ?_
      refine SL.val rfl rfl (fun w9 F9 S9 s => R.add rfl rfl (by omega)) ?_
      refine SL.val rfl rfl (fun w9 F9 S9 s => R.mv rfl) ?_
      refine SL.nil ?_
      exact SN.again (k + 1) (by show n - (k + 1) < n - k; omega) (Sub.cons rfl (Sub.cons rfl (Sub.cons rfl (Sub.cons rfl (Sub.nil _))))) ((Imp.sels (by repeat (first | exact Sels.nil | apply Sels.cons | exact Sel.keep | exact Sel.here | apply Sel.there)))) (by show k + 1 ≤ n; omega)
  · obtain rfl : n = k := by omega
    refine SG.exit _ rfl ?_
    exact SN.end0 rfl ((Imp.sels (by repeat (first | exact Sels.nil | apply Sels.cons | exact Sel.keep | exact Sel.here | apply Sel.there)))) (.inl rfl)

theorem vals1Ext_it (b : Nat) (a : Option Addr) (n c : Nat) (Rr : List (List Value)) (hR : ∀ r ∈ Rr, r.length = 2 ∧ ∀ u ∈ r, u.oneCell' = true) (hb : n ≤ 140737488355328) : IterS Tryz.prog 93 [.pointer (some ⟨b, 0, none⟩)] [fz b [.slice a n c] 31, sh (fun w => Tab w a n 2 Rr)] n (fun k vs p => ∃ row, Rr[k]? = some row ∧ vs = [.agg row.toArray] ∧ p = fun _ => True) := fun y J Jx hY => vals1Ext y b a n c Rr J Jx hR hb hY

theorem eachExt (f : Nat) (us vs : List Value) : SpecS Tryz.prog 68 [.func (.func f) us.toArray vs.toArray] [] (fun v H' => v = .func (.func f) us.toArray vs.toArray ∧ H' = []) := by
  refine SpecS.enter Tryz.func68 rfl 6 rfl (Nat.le_of_ble_eq_true rfl) (fun o => ?_)
  refine SG.seq ?_
  refine SG.region ?_
  refine SL.val rfl rfl (fun w9 F9 S9 s => R.as rfl) ?_
  refine SL.nil ?_
  refine SN.seq ?_
  refine SG.seq ?_
  refine SG.seq ?_
  refine SG.region ?_
  refine SL.val rfl rfl (fun w9 F9 S9 s => R.mv rfl) ?_
  refine SL.val rfl rfl (fun w9 F9 S9 s => R.eqNilF Tryz.underlying99 rfl rfl) ?_
  refine SL.nil ?_
  refine SN.seq ?_
  refine SG.condF rfl ?_
  refine SG.skip ?_
  refine SN.seq ?_
  refine SG.seq ?_
  refine SG.region ?_
  refine SL.val rfl rfl (fun w9 F9 S9 s => R.mv rfl) ?_
  refine SL.val rfl rfl (fun w9 F9 S9 s => R.as rfl) ?_
  refine SL.nil ?_
  refine SN.seq ?_
  exact SG.ret1 rfl rfl ((Imp.sels (by repeat (first | exact Sels.nil | apply Sels.cons | exact Sel.keep | exact Sel.here | apply Sel.there)))) (⟨rfl, rfl⟩)

theorem ofExt (a : Option Addr) (n c : Nat) (Rr : List (List Value)) (hR : ∀ r ∈ Rr, r.length = 2 ∧ ∀ u ∈ r, u.oneCell' = true) (hb : n * 16 ≤ 140737488355328) : SpecS Tryz.prog 40 [.slice a n c] [sh (fun w => Tab w a n 2 Rr)] (fun v H' => ∃ b a' c', v = .func (.func 93) #[] #[.pointer (some ⟨b, 0, none⟩)] ∧ H' = [fz b [.slice a' n c'] 31, sh (fun w => Tab w a' n 2 Rr)]) := by
  refine SpecS.enter Tryz.func40 rfl 6 rfl (Nat.le_of_ble_eq_true rfl) (fun o => ?_)
  refine SG.fact (fun w9 F9 S9 s => (s.sh (p := fun w => Tab w a n 2 Rr) (by repeat (first | exact Sel.keep | exact Sel.here | apply Sel.there))).len) (fun hf9 => ?_)
  have hnl := hf9; clear hf9
  refine SG.seq ?_
  refine SG.region ?_
  refine SL.val rfl rfl (fun w9 F9 S9 s => R.as rfl) ?_
  refine SL.nil ?_
  refine SN.seq ?_
  refine SG.seq ?_
  refine SG.region ?_
  refine SL.val rfl rfl (fun w9 F9 S9 s => R.mv rfl) ?_
  refine SL.step rfl rfl (CS.call rfl go70 (cloExt a n c Rr hR hb) (by repeat (first | exact Sels.nil | apply Sels.cons | exact Sel.keep | exact Sel.here | apply Sel.there))) ?_
  rintro _ _ ⟨_, ⟨a4, c4, rfl, rfl⟩, rfl⟩
  refine SL.n1 ?_
  refine SL.step rfl rfl (CS.call rfl go69 (valsExt a4 n c4) (by repeat (first | exact Sels.nil | apply Sels.cons | exact Sel.keep | exact Sel.here | apply Sel.there))) ?_
  rintro _ _ ⟨_, ⟨b5, rfl, rfl⟩, rfl⟩
  refine SL.n1 ?_
  refine SL.val rfl rfl (fun w9 F9 S9 s => R.as rfl) ?_
  refine SL.nil ?_
  refine SN.imp (Imp.ownSh (show Sel _ (own 35 2 a4 n c4 (Rr.flatten)) _ from (by repeat (first | exact Sel.keep | exact Sel.here | apply Sel.there))) (p := fun w => Tab w a4 n 2 Rr) (fun w h => tab_ownR h hnl hR)) ?_
  refine SN.seq ?_
  exact SG.ret1 rfl rfl ((Imp.sels (by repeat (first | exact Sels.nil | apply Sels.cons | exact Sel.keep | exact Sel.here | apply Sel.there)))) (⟨b5, a4, c4, rfl, rfl⟩)

theorem foldExt (b : Nat) (a : Option Addr) (n c : Nat) (Rr : List (List Value)) (u0 : Int) (ff : FuncId) (g : Nat → Int → Int) (pq : World → Prop) (hR : ∀ r ∈ Rr, r.length = 2 ∧ ∀ u ∈ r, u.oneCell' = true) (hb : n ≤ 140737488355328) (hgo : ∀ (vs : Array Value) w, (callFunc ff vs).run Tryz.prog w = .ok (.enter ff vs) w) (hf : ∀ k u r, Rr[k]? = some r → SpecS Tryz.prog ff [.int .i64 u, .agg r.toArray] [sh pq] (fun v H' => v = .int .i64 (g k u) ∧ H' = [])) : SpecS Tryz.prog 39 [.func (.func 93) #[] #[.pointer (some ⟨b, 0, none⟩)], .int .i64 u0, .func (.func ff) #[] #[]] [fz b [.slice a n c] 31, sh (fun w => Tab w a n 2 Rr), sh pq] (fun v H' => v = .int .i64 (foldG g u0 n) ∧ H' = [fz b [.slice a n c] 31, sh (fun w => Tab w a n 2 Rr)]) := by
  refine SpecS.enter Tryz.func39 rfl 19 rfl (Nat.le_of_ble_eq_true rfl) (fun o => ?_)
  refine SG.fact (fun w9 F9 S9 s => (s.sh (p := fun w => Tab w a n 2 Rr) (by repeat (first | exact Sel.keep | exact Sel.here | apply Sel.there))).len) (fun hf9 => ?_)
  have hnl := hf9; clear hf9
  refine SG.seq ?_
  refine SG.region ?_
  refine SL.step rfl rfl (CS.box1 rfl rfl) ?_
  rintro _ _ ⟨b4, rfl, rfl⟩
  refine SL.step rfl rfl (CS.box1 rfl rfl) ?_
  rintro _ _ ⟨b5, rfl, rfl⟩
  refine SL.val rfl rfl (fun w9 F9 S9 s => R.as rfl) ?_
  refine SL.nil ?_
  refine SN.seq ?_
  refine SG.seq ?_
  refine SG.seq ?_
  refine SG.region ?_
  refine SL.val rfl rfl (fun w9 F9 S9 s => R.ldB (v := .func (.func ff) #[] #[]) rfl (s.cel (by repeat (first | exact SelB.blk | exact SelB.fz | apply SelB.there))) (by rfl)) ?_
  refine SL.val rfl rfl (fun w9 F9 S9 s => R.eqNilF Tryz.underlying101 rfl rfl) ?_
  refine SL.nil ?_
  refine SN.seq ?_
  refine SG.condF rfl ?_
  refine SG.skip ?_
  refine SN.seq ?_
  refine SG.seq ?_
  refine SG.seq ?_
  refine SG.region ?_
  refine SL.val rfl rfl (fun w9 F9 S9 s => R.mv rfl) ?_
  refine SL.step rfl rfl (CS.call rfl go68 (eachExt 93 [] [.pointer (some ⟨b, 0, none⟩)]) (by repeat (first | exact Sels.nil | apply Sels.cons | exact Sel.keep | exact Sel.here | apply Sel.there))) ?_
  rintro _ _ ⟨_, ⟨rfl, rfl⟩, rfl⟩
  refine SL.n0 ?_
  refine SL.nil ?_
  refine SN.seq ?_
  refine SG.block ?_
  refine SG.range rfl rfl go93 (vals1Ext_it b a n c Rr hR hb) (X := Unit) (Y := Unit) (fun k _ => [blk b4 [.int .i64 (foldG g u0 k)] 3, blk b5 [.func (.func ff) #[] #[]] 101, sh pq]) (fun k _ => True) (fun c k _ => []) (fun c k _ => False) (()) ((Imp.sels (by repeat (first | exact Sels.nil | apply Sels.cons | exact Sel.keep | exact Sel.here | apply Sel.there)))) (trivial) ?_ ?_ ?_
  · rintro l k _ vs p hk _ ⟨row, hr, rfl, rfl⟩
    obtain ⟨hrl, hr1⟩ := hR row (List.mem_of_getElem? hr)
    refine ⟨rfl, ?_⟩
    intro o8
    refine SG.region ?_
    refine SL.step rfl rfl (CS.alloc [.int .i64 0, .int .i64 0] rfl) ?_
    rintro _ _ ⟨b7, rfl, rfl⟩
    refine SL.step0 rfl (CS.stA (vs := row) rfl rfl (by repeat (first | exact Sel.keep | exact Sel.here | apply Sel.there)) hrl (by rfl) hr1) ?_
    rintro _ _ rfl
    refine SL.nil ?_
    refine SN.roundA (fun o9 => ?_)
    refine SG.block ?_
    refine SG.region ?_
    refine SL.val rfl rfl (fun w9 F9 S9 s => R.ldB (v := .func (.func ff) #[] #[]) rfl (s.cel (by repeat (first | exact SelB.blk | exact SelB.fz | apply SelB.there))) (by rfl)) ?_
    refine SL.val rfl rfl (fun w9 F9 S9 s => R.ldB (v := .int .i64 (foldG g u0 k)) rfl (s.cel (by repeat (first | exact SelB.blk | exact SelB.fz | apply SelB.there))) (by rfl)) ?_
    refine SL.val rfl rfl (fun w9 F9 S9 s => R.ldBN (cs := row.toArray) rfl (s.cel (by repeat (first | exact SelB.blk | exact SelB.fz | apply SelB.there))) (by simpa using hrl)) ?_
    refine SL.step rfl rfl (CS.callV rfl rfl rfl hgo (hf k _ row hr) (by repeat (first | exact Sels.nil | apply Sels.cons | exact Sel.keep | exact Sel.here | apply Sel.there))) ?_
    rintro _ _ ⟨_, ⟨rfl, rfl⟩, rfl⟩
    refine SL.n0 ?_
    refine SL.step0 rfl (CS.st rfl rfl (show Sel _ (blk b4 _ _) _ from (by repeat (first | exact Sel.keep | exact Sel.here | apply Sel.there))) (by repeat (first | exact SetAt.here | apply SetAt.there)) rfl) ?_
    rintro _ _ rfl
    refine SL.nil ?_
    refine SN.block ?_
    exact SN.next () (Imp.sels (by repeat (first | exact Sels.nil | apply Sels.cons | exact Sel.keep | exact Sel.here | apply Sel.there))) trivial
  · rintro d2 _ _
    refine SN.block ?_
    refine SN.seq ?_
    refine SG.seq ?_
    refine SG.region ?_
    refine SL.val rfl rfl (fun w9 F9 S9 s => R.ldB (v := .int .i64 (foldG g u0 n)) rfl (s.cel (by repeat (first | exact SelB.blk | exact SelB.fz | apply SelB.there))) (by rfl)) ?_
    refine SL.val rfl rfl (fun w9 F9 S9 s => R.as rfl) ?_
    refine SL.nil ?_
    refine SN.seq ?_
    exact SG.ret1M rfl rfl (by repeat (first | exact Dfrs.nil | apply Dfrs.cons | exact Sel.here | apply Sel.there)) ((Imp.sels (by repeat (first | exact Sels.nil | apply Sels.cons | exact Sel.keep | exact Sel.here | apply Sel.there)))) (⟨rfl, rfl⟩)
  · rintro d k c _ hk ⟨⟩

end Go.Proofs.YtlhkpakbenghgaaGreat
/-
  The walks of package flow.
-/
set_option linter.unusedVariables false
set_option linter.unusedSimpArgs false
set_option maxRecDepth 4000
namespace Go.Proofs.YtlhkpakbenghgaaGreat
open Go Brv
theorem cloItem (a : Option Addr) (n c : Nat) (Rr : List (List Value)) (hR : ∀ r ∈ Rr, r.length = 9 ∧ ∀ u ∈ r, u.oneCell' = true) (hb : n * 88 ≤ 140737488355328) : SpecS Tryz.prog 63 [.slice a n c] [sh (fun w => Tab w a n 9 Rr)] (fun v H' => ∃ a' c', v = .slice a' n c' ∧ H' = [own 33 9 a' (n) c' (Rr.flatten)]) := by
  refine SpecS.enter Tryz.func63 rfl 8 rfl (Nat.le_of_ble_eq_true rfl) (fun o => ?_)
  refine SG.seq ?_
  refine SG.region ?_
  refine SL.val rfl rfl (fun w9 F9 S9 s => R.as rfl) ?_
  refine SL.nil ?_
  refine SN.seq ?_
  refine SG.seq ?_
  refine SG.seq ?_
  refine SG.region ?_
  refine SL.val rfl rfl (fun w9 F9 S9 s => R.mv rfl) ?_
  refine SL.val rfl rfl (fun w9 F9 S9 s => R.eqNilS rfl rfl) ?_
  refine SL.nil ?_
  refine SN.seq ?_
  refine SG.condB rfl (fun h0 => ?_) (fun h0 => ?_)
  · obtain rfl : a = none := by simpa using h0
    refine SG.fact (fun w9 F9 S9 s => tabR_none (s.sh (p := fun w => Tab w none n 9 Rr) (by repeat (first | exact Sel.keep | exact Sel.here | apply Sel.there))) (by decide)) (fun hf9 => ?_)
    obtain ⟨hn0, hR0⟩ := hf9
    subst hn0
    subst hR0
    refine SG.imp (Imp.ownNil 33 9) ?_
    refine SG.seq ?_
    refine SG.region ?_
    refine SL.val rfl rfl (fun w9 F9 S9 s => R.as rfl) ?_
    refine SL.nil ?_
    refine SN.seq ?_
    exact SG.ret1 rfl rfl ((Imp.sels (by repeat (first | exact Sels.nil | apply Sels.cons | exact Sel.keep | exact Sel.here | apply Sel.there)))) (⟨none, 0, rfl, rfl⟩)
  · refine SG.fact (fun w9 F9 S9 s => tabR_flat (s.sh (p := fun w => Tab w a n 9 Rr) (by repeat (first | exact Sel.keep | exact Sel.here | apply Sel.there)))) (fun hf9 => ?_)
    have hfl := hf9; clear hf9
    refine SG.skip ?_
    refine SN.seq ?_
    refine SG.seq ?_
    refine SG.region ?_
    refine SL.step rfl rfl (CS.buildA rfl rfl rfl rfl rfl [] rfl) ?_
    rintro _ _ ⟨b5, rfl, rfl⟩
    refine SL.val rfl rfl (fun w9 F9 S9 s => R.mv rfl) ?_
    refine SL.step rfl rfl (CS.imp (Imp.ownBlk (size := 9) (k := 0) (show Sel _ (blk b5 [] 33) _ from (by repeat (first | exact Sel.keep | exact Sel.here | apply Sel.there))) rfl (Nat.zero_le _)) (CS.app rfl rfl (by repeat (first | exact Sel.keep | exact Sel.here | apply Sel.there)) (fun w9 F9 S9 s => (s.sh (p := fun w => Tab w a n 9 Rr) (by repeat (first | exact Sel.keep | exact Sel.here | apply Sel.there))).cells) hfl (flat_oneR (fun r hr => (hR r hr).2)) (by simp [maxLen]; omega) (by omega))) ?_
    rintro _ _ ⟨a7, c7, rfl, rfl⟩
    refine SL.val rfl rfl (fun w9 F9 S9 s => R.as rfl) ?_
    refine SL.nil ?_
    rw [Nat.zero_add, List.nil_append]
    refine SN.seq ?_
    exact SG.ret1 rfl rfl ((Imp.sels (by repeat (first | exact Sels.nil | apply Sels.cons | exact Sel.keep | exact Sel.here | apply Sel.there)))) (⟨a7, c7, rfl, rfl⟩)

theorem valsItem (a : Option Addr) (n c : Nat) : SpecS Tryz.prog 62 [.slice a n c] [] (fun v H' => ∃ b, v = .func (.func 90) #[] #[.pointer (some ⟨b, 0, none⟩)] ∧ H' = [fz b [.slice a n c] 22]) := by
  refine SpecS.enter Tryz.func62 rfl 4 rfl (Nat.le_of_ble_eq_true rfl) (fun o => ?_)
  refine SG.seq ?_
  refine SG.region ?_
  refine SL.step rfl rfl (CS.box1 rfl rfl) ?_
  rintro _ _ ⟨b1, rfl, rfl⟩
  refine SL.val rfl rfl (fun w9 F9 S9 s => R.as rfl) ?_
  refine SL.nil ?_
  refine SN.seq ?_
  refine SG.seq ?_
  refine SG.region ?_
  refine SL.val rfl rfl (fun w9 F9 S9 s => R.mkFunc rfl rfl) ?_
  refine SL.val rfl rfl (fun w9 F9 S9 s => R.as rfl) ?_
  refine SL.nil ?_
  refine SN.imp (Imp.fz (show Sel _ (blk b1 [.slice a n c] 22) _ from (by repeat (first | exact Sel.keep | exact Sel.here | apply Sel.there)))) ?_
  refine SN.seq ?_
  exact SG.ret1 rfl rfl ((Imp.sels (by repeat (first | exact Sels.nil | apply Sels.cons | exact Sel.keep | exact Sel.here | apply Sel.there)))) (⟨b1, rfl, rfl⟩)

theorem vals1Item (y : Value) (b : Nat) (a : Option Addr) (n c : Nat) (Rr : List (List Value)) (J Jx : Nat → Asn) (hR : ∀ r ∈ Rr, r.length = 9 ∧ ∀ u ∈ r, u.oneCell' = true) (hb : n ≤ 140737488355328) (hY : ∀ k vs p, k < n → (fun k vs p => ∃ row, Rr[k]? = some row ∧ vs = [.agg row.toArray] ∧ p = fun _ => True) k vs p → YSpec Tryz.prog y vs [sh p, J k] (fun b H' => H' = [if b then J (k + 1) else Jx (k + 1)])) : SpecS Tryz.prog 90 [y, .pointer (some ⟨b, 0, none⟩)] [J 0, fz b [.slice a n c] 22, sh (fun w => Tab w a n 9 Rr)] (fun v H' => (H' = J n :: [fz b [.slice a n c] 22, sh (fun w => Tab w a n 9 Rr)] ∨ ∃ k, k ≤ n ∧ H' = Jx k :: [fz b [.slice a n c] 22, sh (fun w => Tab w a n 9 Rr)])) := by
  refine SpecS.enter Tryz.func90 rfl 16 rfl (Nat.le_of_ble_eq_true rfl) (fun o => ?_)
  refine SG.fact (fun w9 F9 S9 s => (s.sh (p := fun w => Tab w a n 9 Rr) (by repeat (first | exact Sel.keep | exact Sel.here | apply Sel.there))).len) (fun hf9 => ?_)
  have hnl := hf9; clear hf9
  refine SG.seq ?_
  refine SG.region ?_
  refine SL.val rfl rfl (fun w9 F9 S9 s => R.ldB (v := .slice a n c) rfl (s.cel (by repeat (first | exact SelB.blk | exact SelB.fz | apply SelB.there))) (by rfl)) ?_
  refine SL.val rfl rfl (fun w9 F9 S9 s => R.lenS rfl) ?_
  refine SL.val rfl rfl (fun w9 F9 S9 s => R.mv rfl) ?_
  refine SL.nil ?_
  refine SN.seq ?_
  refine SG.block ?_
  refine SG.loop (X := Nat) (fun k => [(0, y), (5, .slice a n c), (6, .int .i64 (n : Int)), (7, .int .i64 (k : Int))]) (fun k => [J k, fz b [.slice a n c] 22, sh (fun w => Tab w a n 9 Rr)]) (fun k => k ≤ n) (fun k => n - k) (0) (Sub.cons rfl (Sub.cons rfl (Sub.cons rfl (Sub.cons rfl (Sub.nil _))))) ((Imp.sels (by repeat (first | exact Sels.nil | apply Sels.cons | exact Sel.keep | exact Sel.here | apply Sel.there)))) (Nat.zero_le _) ?_
  intro k hk
  show SG _ _ _ _ _ [(0, y), (5, .slice a n c), (6, .int .i64 (n : Int)), (7, .int .i64 (k : Int))] [J k, fz b [.slice a n c] 22, sh (fun w => Tab w a n 9 Rr)] _
  refine SG.seq ?_
  refine SG.region ?_
  refine SL.val rfl rfl (fun w9 F9 S9 s => R.lss rfl rfl) ?_
  refine SL.nil ?_
  refine SN.seq ?_
  refine SG.seq ?_
  refine SG.condP rfl (fun h0 => ?_) (fun h0 => ?_)
  · obtain ⟨row, hr⟩ : ∃ row, Rr[k]? = some row := ⟨_, List.getElem?_eq_getElem (by omega)⟩
    obtain ⟨hrl, hr1⟩ := hR row (List.mem_of_getElem? hr)
    refine SG.fact (fun w9 F9 S9 s => tabR_pt (s.sh (p := fun w => Tab w a n 9 Rr) (by repeat (first | exact Sel.keep | exact Sel.here | apply Sel.there))) (by decide) hr) (fun hf9 => ?_)
    obtain ⟨q, hq⟩ := hf9
    refine SG.skip ?_
    refine SN.seq ?_
    refine SG.seq ?_
    refine SG.block ?_
    refine SG.seq ?_
    refine SG.region ?_
    refine SL.val rfl rfl (fun w9 F9 S9 s => R.idx rfl rfl (by omega) (by omega) q hq) ?_
    refine SL.val rfl rfl (fun w9 F9 S9 s => R.ldN (vs := row) rfl (tabR_ld (s.sh (p := fun w => Tab w a n 9 Rr) (by repeat (first | exact Sel.keep | exact Sel.here | apply Sel.there))) (by decide) hq hr) hrl) ?_
    refine SL.step rfl rfl (CS.alloc [.int .i64 0, .int .i64 0, .int .i64 0, .int .i64 0, .int .i64 0, .int .i64 0, .int .i64 0, .int .i64 0, .slice none 0 0] rfl) ?_
    rintro _ _ ⟨b4, rfl, rfl⟩
    refine SL.step0 rfl (CS.stA (vs := row) rfl rfl (by repeat (first | exact Sel.keep | exact Sel.here | apply Sel.there)) hrl (by rfl) hr1) ?_
    rintro _ _ rfl
    refine SL.nil ?_
    refine SN.seq ?_
    refine SG.seq ?_
    refine SG.region ?_
    refine SL.val rfl rfl (fun w9 F9 S9 s => R.mv rfl) ?_
    refine SL.val rfl rfl (fun w9 F9 S9 s => R.ldBN (cs := row.toArray) rfl (s.cel (by repeat (first | exact SelB.blk | exact SelB.fz | apply SelB.there))) (by simpa using hrl)) ?_
    refine SL.imp (Imp.pure (p := fun _ => True) (fun _ => trivial)) ?_
    refine SL.step rfl rfl (CS.yield rfl rfl (hY k _ _ (by omega) ⟨row, hr, rfl, rfl⟩) (by repeat (first | exact Sels.nil | apply Sels.cons | exact Sel.keep | exact Sel.here | apply Sel.there))) ?_
    rintro _ _ ⟨_, ⟨bq, rfl, rfl⟩, rfl⟩
    refine SL.n1 ?_
    refine SL.val rfl rfl (fun w9 F9 S9 s => R.not rfl) ?_
    refine SL.nil ?_
    refine SN.seq ?_
    refine SG.condB rfl (fun h1 => ?_) (fun h1 => ?_)
    · obtain rfl : bq = false := by simpa using h1
      exact SG.ret0 rfl ((Imp.sels (by repeat (first | exact Sels.nil | apply Sels.cons | exact Sel.keep | exact Sel.here | apply Sel.there)))) (.inr ⟨k + 1, by omega, rfl⟩)
    · obtain rfl : bq = true := by simpa using h1
      refine SG.skip ?_
      refine SN.block ?_
      refine SN.seq ?_
      refine SG.region ?_
      refine SL.val rfl rfl (fun w9 F9 S9 s => R.add rfl rfl (by omega)) ?_
      refine SL.val rfl rfl (fun w9 F9 S9 s => R.mv rfl) ?_
      refine SL.nil ?_
      exact SN.again (k + 1) (by show n - (k + 1) < n - k; omega) (Sub.cons rfl (Sub.cons rfl (Sub.cons rfl (Sub.cons rfl (Sub.nil _))))) ((Imp.sels (by repeat (first | exact Sels.nil | apply Sels.cons | exact Sel.keep | exact Sel.here | apply Sel.there)))) (by show k + 1 ≤ n; omega)
  · obtain rfl : n = k := by omega
    refine SG.exit _ rfl ?_
    exact SN.end0 rfl ((Imp.sels (by repeat (first | exact Sels.nil | apply Sels.cons | exact Sel.keep | exact Sel.here | apply Sel.there)))) (.inl rfl)

theorem vals1Item_it (b : Nat) (a : Option Addr) (n c : Nat) (Rr : List (List Value)) (hR : ∀ r ∈ Rr, r.length = 9 ∧ ∀ u ∈ r, u.oneCell' = true) (hb : n ≤ 140737488355328) : IterS Tryz.prog 90 [.pointer (some ⟨b, 0, none⟩)] [fz b [.slice a n c] 22, sh (fun w => Tab w a n 9 Rr)] n (fun k vs p => ∃ row, Rr[k]? = some row ∧ vs = [.agg row.toArray] ∧ p = fun _ => True) := fun y J Jx hY => vals1Item y b a n c Rr J Jx hR hb hY

theorem eachItem (f : Nat) (us vs : List Value) : SpecS Tryz.prog 61 [.func (.func f) us.toArray vs.toArray] [] (fun v H' => v = .func (.func f) us.toArray vs.toArray ∧ H' = []) := by
  refine SpecS.enter Tryz.func61 rfl 6 rfl (Nat.le_of_ble_eq_true rfl) (fun o => ?_)
  refine SG.seq ?_
  refine SG.region ?_
  refine SL.val rfl rfl (fun w9 F9 S9 s => R.as rfl) ?_
  refine SL.nil ?_
  refine SN.seq ?_
  refine SG.seq ?_
  refine SG.seq ?_
  refine SG.region ?_
  refine SL.val rfl rfl (fun w9 F9 S9 s => R.mv rfl) ?_
  refine SL.val rfl rfl (fun w9 F9 S9 s => R.eqNilF Tryz.underlying86 rfl rfl) ?_
  refine SL.nil ?_
  refine SN.seq ?_
  refine SG.condF rfl ?_
  refine SG.skip ?_
  refine SN.seq ?_
  refine SG.seq ?_
  refine SG.region ?_
  refine SL.val rfl rfl (fun w9 F9 S9 s => R.mv rfl) ?_
  refine SL.val rfl rfl (fun w9 F9 S9 s => R.as rfl) ?_
  refine SL.nil ?_
  refine SN.seq ?_
  exact SG.ret1 rfl rfl ((Imp.sels (by repeat (first | exact Sels.nil | apply Sels.cons | exact Sel.keep | exact Sel.here | apply Sel.there)))) (⟨rfl, rfl⟩)

theorem ofItem (a : Option Addr) (n c : Nat) (Rr : List (List Value)) (hR : ∀ r ∈ Rr, r.length = 9 ∧ ∀ u ∈ r, u.oneCell' = true) (hb : n * 88 ≤ 140737488355328) : SpecS Tryz.prog 35 [.slice a n c] [sh (fun w => Tab w a n 9 Rr)] (fun v H' => ∃ b a' c', v = .func (.func 90) #[] #[.pointer (some ⟨b, 0, none⟩)] ∧ H' = [fz b [.slice a' n c'] 22, sh (fun w => Tab w a' n 9 Rr)]) := by
  refine SpecS.enter Tryz.func35 rfl 6 rfl (Nat.le_of_ble_eq_true rfl) (fun o => ?_)
  refine SG.fact (fun w9 F9 S9 s => (s.sh (p := fun w => Tab w a n 9 Rr) (by repeat (first | exact Sel.keep | exact Sel.here | apply Sel.there))).len) (fun hf9 => ?_)
  have hnl := hf9; clear hf9
  refine SG.seq ?_
  refine SG.region ?_
  refine SL.val rfl rfl (fun w9 F9 S9 s => R.as rfl) ?_
  refine SL.nil ?_
  refine SN.seq ?_
  refine SG.seq ?_
  refine SG.region ?_
  refine SL.val rfl rfl (fun w9 F9 S9 s => R.mv rfl) ?_
  refine SL.step rfl rfl (CS.call rfl go63 (cloItem a n c Rr hR hb) (by repeat (first | exact Sels.nil | apply Sels.cons | exact Sel.keep | exact Sel.here | apply Sel.there))) ?_
  rintro _ _ ⟨_, ⟨a4, c4, rfl, rfl⟩, rfl⟩
  refine SL.n1 ?_
  refine SL.step rfl rfl (CS.call rfl go62 (valsItem a4 n c4) (by repeat (first | exact Sels.nil | apply Sels.cons | exact Sel.keep | exact Sel.here | apply Sel.there))) ?_
  rintro _ _ ⟨_, ⟨b5, rfl, rfl⟩, rfl⟩
  refine SL.n1 ?_
  refine SL.val rfl rfl (fun w9 F9 S9 s => R.as rfl) ?_
  refine SL.nil ?_
  refine SN.imp (Imp.ownSh (show Sel _ (own 33 9 a4 n c4 (Rr.flatten)) _ from (by repeat (first | exact Sel.keep | exact Sel.here | apply Sel.there))) (p := fun w => Tab w a4 n 9 Rr) (fun w h => tab_ownR h hnl hR)) ?_
  refine SN.seq ?_
  exact SG.ret1 rfl rfl ((Imp.sels (by repeat (first | exact Sels.nil | apply Sels.cons | exact Sel.keep | exact Sel.here | apply Sel.there)))) (⟨b5, a4, c4, rfl, rfl⟩)

theorem foldItem (b : Nat) (a : Option Addr) (n c : Nat) (Rr : List (List Value)) (u0 : Int) (ff : FuncId) (g : Nat → Int → Int) (pq : World → Prop) (hR : ∀ r ∈ Rr, r.length = 9 ∧ ∀ u ∈ r, u.oneCell' = true) (hb : n ≤ 140737488355328) (hgo : ∀ (vs : Array Value) w, (callFunc ff vs).run Tryz.prog w = .ok (.enter ff vs) w) (hf : ∀ k u r, Rr[k]? = some r → SpecS Tryz.prog ff [.int .i64 u, .agg r.toArray] [sh pq] (fun v H' => v = .int .i64 (g k u) ∧ H' = [])) : SpecS Tryz.prog 34 [.func (.func 90) #[] #[.pointer (some ⟨b, 0, none⟩)], .int .i64 u0, .func (.func ff) #[] #[]] [fz b [.slice a n c] 22, sh (fun w => Tab w a n 9 Rr), sh pq] (fun v H' => v = .int .i64 (foldG g u0 n) ∧ H' = [fz b [.slice a n c] 22, sh (fun w => Tab w a n 9 Rr)]) := by
  refine SpecS.enter Tryz.func34 rfl 19 rfl (Nat.le_of_ble_eq_true rfl) (fun o => ?_)
  refine SG.fact (fun w9 F9 S9 s => (s.sh (p := fun w => Tab w a n 9 Rr) (by repeat (first | exact Sel.keep | exact Sel.here | apply Sel.there))).len) (fun hf9 => ?_)
  have hnl := hf9; clear hf9
  refine SG.seq ?_
  refine SG.region ?_
  refine SL.step rfl rfl (CS.box1 rfl rfl) ?_
  rintro _ _ ⟨b4, rfl, rfl⟩
  refine SL.step rfl rfl (CS.box1 rfl rfl) ?_
  rintro _ _ ⟨b5, rfl, rfl⟩
  refine SL.val rfl rfl (fun w9 F9 S9 s => R.as rfl) ?_
  refine SL.nil ?_
  refine SN.seq ?_
  refine SG.seq ?_
  refine SG.seq ?_
  refine SG.region ?_
  refine SL.val rfl rfl (fun w9 F9 S9 s => R.ldB (v := .func (.func ff) #[] #[]) rfl (s.cel (by repeat (first | exact SelB.blk | exact SelB.fz | apply SelB.there))) (by rfl)) ?_
  refine SL.val rfl rfl (fun w9 F9 S9 s => R.eqNilF Tryz.underlying88 rfl rfl) ?_
  refine SL.nil ?_
  refine SN.seq ?_
  refine SG.condF rfl ?_
  refine SG.skip ?_
  refine SN.seq ?_
  refine SG.seq ?_
  refine SG.seq ?_
  refine SG.region ?_
  refine SL.val rfl rfl (fun w9 F9 S9 s => R.mv rfl) ?_
  refine SL.step rfl rfl (CS.call rfl go61 (eachItem 90 [] [.pointer (some ⟨b, 0, none⟩)]) (by repeat (first | exact Sels.nil | apply Sels.cons | exact Sel.keep | exact Sel.here | apply Sel.there))) ?_
  rintro _ _ ⟨_, ⟨rfl, rfl⟩, rfl⟩
  refine SL.n0 ?_
  refine SL.nil ?_
  refine SN.seq ?_
  refine SG.block ?_
  refine SG.range rfl rfl go90 (vals1Item_it b a n c Rr hR hb) (X := Unit) (Y := Unit) (fun k _ => [blk b4 [.int .i64 (foldG g u0 k)] 3, blk b5 [.func (.func ff) #[] #[]] 88, sh pq]) (fun k _ => True) (fun c k _ => []) (fun c k _ => False) (()) ((Imp.sels (by repeat (first | exact Sels.nil | apply Sels.cons | exact Sel.keep | exact Sel.here | apply Sel.there)))) (trivial) ?_ ?_ ?_
  · rintro l k _ vs p hk _ ⟨row, hr, rfl, rfl⟩
    obtain ⟨hrl, hr1⟩ := hR row (List.mem_of_getElem? hr)
    refine ⟨rfl, ?_⟩
    intro o8
    refine SG.region ?_
    refine SL.step rfl rfl (CS.alloc [.int .i64 0, .int .i64 0, .int .i64 0, .int .i64 0, .int .i64 0, .int .i64 0, .int .i64 0, .int .i64 0, .slice none 0 0] rfl) ?_
    rintro _ _ ⟨b7, rfl, rfl⟩
    refine SL.step0 rfl (CS.stA (vs := row) rfl rfl (by repeat (first | exact Sel.keep | exact Sel.here | apply Sel.there)) hrl (by rfl) hr1) ?_
    rintro _ _ rfl
    refine SL.nil ?_
    refine SN.roundA (fun o9 => ?_)
    refine SG.block ?_
    refine SG.region ?_
    refine SL.val rfl rfl (fun w9 F9 S9 s => R.ldB (v := .func (.func ff) #[] #[]) rfl (s.cel (by repeat (first | exact SelB.blk | exact SelB.fz | apply SelB.there))) (by rfl)) ?_
    refine SL.val rfl rfl (fun w9 F9 S9 s => R.ldB (v := .int .i64 (foldG g u0 k)) rfl (s.cel (by repeat (first | exact SelB.blk | exact SelB.fz | apply SelB.there))) (by rfl)) ?_
    refine SL.val rfl rfl (fun w9 F9 S9 s => R.ldBN (cs := row.toArray) rfl (s.cel (by repeat (first | exact SelB.blk | exact SelB.fz | apply SelB.there))) (by simpa using hrl)) ?_
    refine SL.step rfl rfl (CS.callV rfl rfl rfl hgo (hf k _ row hr) (by repeat (first | exact Sels.nil | apply Sels.cons | exact Sel.keep | exact Sel.here | apply Sel.there))) ?_
    rintro _ _ ⟨_, ⟨rfl, rfl⟩, rfl⟩
    refine SL.n0 ?_
    refine SL.step0 rfl (CS.st rfl rfl (show Sel _ (blk b4 _ _) _ from (by repeat (first | exact Sel.keep | exact Sel.here | apply Sel.there))) (by repeat (first | exact SetAt.here | apply SetAt.there)) rfl) ?_
    rintro _ _ rfl
    refine SL.nil ?_
    refine SN.block ?_
    exact SN.next () (Imp.sels (by repeat (first | exact Sels.nil | apply Sels.cons | exact Sel.keep | exact Sel.here | apply Sel.there))) trivial
  · rintro d2 _ _
    refine SN.block ?_
    refine SN.seq ?_
    refine SG.seq ?_
    refine SG.region ?_
    refine SL.val rfl rfl (fun w9 F9 S9 s => R.ldB (v := .int .i64 (foldG g u0 n)) rfl (s.cel (by repeat (first | exact SelB.blk | exact SelB.fz | apply SelB.there))) (by rfl)) ?_
    refine SL.val rfl rfl (fun w9 F9 S9 s => R.as rfl) ?_
    refine SL.nil ?_
    refine SN.seq ?_
    exact SG.ret1M rfl rfl (by repeat (first | exact Dfrs.nil | apply Dfrs.cons | exact Sel.here | apply Sel.there)) ((Imp.sels (by repeat (first | exact Sels.nil | apply Sels.cons | exact Sel.keep | exact Sel.here | apply Sel.there)))) (⟨rfl, rfl⟩)
  · rintro d k c _ hk ⟨⟩

end Go.Proofs.YtlhkpakbenghgaaGreat
/-
  The walks of package stats.
-/
set_option linter.unusedVariables false
set_option linter.unusedSimpArgs false
set_option maxRecDepth 4000
namespace Go.Proofs.YtlhkpakbenghgaaGreat
open Go Brv Brv.Stats
structure ExtV where
  mk ::
  (At' : Int)
  (N' : Int)
def ExtV.cells (o : ExtV) : List Value := [.int .i64 o.At', .int .i64 o.N']
def ExtV.ok (w : World) (o : ExtV) : Prop := (Lit.int .i64 o.At').wf = true ∧ (Lit.int .i64 o.N').wf = true
theorem ExtV.ok.ext0 {w w' : World} {o : ExtV} (h : o.ok w) (he : Ext [] w w') : o.ok w' := by
  obtain ⟨h0, h1⟩ := h
  exact ⟨h0, h1⟩
theorem ExtV.cells.length (o : ExtV) : o.cells.length = 2 := rfl
theorem ExtV.cells.one (o : ExtV) : ∀ u ∈ o.cells.toArray.toList, u.oneCell' = true := by
  intro u hu
  simp only [ExtV.cells, List.mem_cons, List.not_mem_nil, or_false] at hu
  rcases hu with rfl | rfl <;> rfl
structure ItemV where
  mk ::
  (Id' : Int)
  (Kind' : Int)
  (Timeline' : Int)
  (Number' : Int)
  (A' : Int)
  (B' : Int)
  (Parent' : Int)
  (Length' : Int)
  (At'a : Option Addr) (At'n At'c : Nat) (At' : List ExtV)
def ItemV.cells (o : ItemV) : List Value := [.int .i64 o.Id', .int .i64 o.Kind', .int .i64 o.Timeline', .int .i64 o.Number', .int .i64 o.A', .int .i64 o.B', .int .i64 o.Parent', .int .i64 o.Length', .slice o.At'a o.At'n o.At'c]
def ItemV.ok (w : World) (o : ItemV) : Prop := (Lit.int .i64 o.Id').wf = true ∧ (Lit.int .i64 o.Kind').wf = true ∧ (Lit.int .i64 o.Timeline').wf = true ∧ (Lit.int .i64 o.Number').wf = true ∧ (Lit.int .i64 o.A').wf = true ∧ (Lit.int .i64 o.B').wf = true ∧ (Lit.int .i64 o.Parent').wf = true ∧ (Lit.int .i64 o.Length').wf = true ∧ (o.At'n ≤ o.At'c ∧ o.At'c * 16 ≤ 140737488351232 ∧ Tab w o.At'a o.At'n 2 (o.At'.map ExtV.cells) ∧ ∀ x ∈ o.At', x.ok w)
theorem ItemV.ok.ext0 {w w' : World} {o : ItemV} (h : o.ok w) (he : Ext [] w w') : o.ok w' := by
  obtain ⟨h0, h1, h2, h3, h4, h5, h6, h7, h8⟩ := h
  exact ⟨h0, h1, h2, h3, h4, h5, h6, h7, ⟨h8.1, h8.2.1, h8.2.2.1.ext0 he, fun x hx => (h8.2.2.2 x hx).ext0 he⟩⟩
theorem ItemV.cells.length (o : ItemV) : o.cells.length = 9 := rfl
theorem ItemV.cells.one (o : ItemV) : ∀ u ∈ o.cells.toArray.toList, u.oneCell' = true := by
  intro u hu
  simp only [ItemV.cells, List.mem_cons, List.not_mem_nil, or_false] at hu
  rcases hu with rfl | rfl | rfl | rfl | rfl | rfl | rfl | rfl | rfl <;> rfl
theorem extR (l : List ExtV) : ∀ r ∈ l.map ExtV.cells, r.length = 2 ∧ ∀ u ∈ r, u.oneCell' = true := by
  intro r hr
  obtain ⟨x, _, rfl⟩ := List.mem_map.1 hr
  exact ⟨rfl, fun u hu => ExtV.cells.one x u (by simpa using hu)⟩
theorem itemR (l : List ItemV) : ∀ r ∈ l.map ItemV.cells, r.length = 9 ∧ ∀ u ∈ r, u.oneCell' = true := by
  intro r hr
  obtain ⟨x, _, rfl⟩ := List.mem_map.1 hr
  exact ⟨rfl, fun u hu => ItemV.cells.one x u (by simpa using hu)⟩
def secE (l : List ExtV) : Int := l.foldl (fun n e => wr (n + e.N')) 0
def secL (l : List ItemV) : Int := l.foldl (fun n x => wr (n + secE x.At')) 0
theorem foldG_list {α : Type} (f : Int → α → Int) (g : Nat → Int → Int) (u : Int) : ∀ (l : List α), (∀ k u x, l[k]? = some x → g k u = f u x) → foldG g u l.length = l.foldl f u := by
  intro l h
  have gen : ∀ k, k ≤ l.length → foldG g u k = (l.take k).foldl f u := by
    intro k
    induction k with
    | zero => exact fun _ => rfl
    | succ k ih =>
      intro hk
      have hx : l[k]? = some l[k] := List.getElem?_eq_getElem (by omega)
      show g k (foldG g u k) = _
      rw [h k _ _ hx, ih (by omega), List.take_add_one, hx, List.foldl_append]; rfl
  rw [gen _ (Nat.le_refl _), List.take_length]
def gE (l : List ExtV) (k : Nat) (u : Int) : Int := match l[k]? with
  | some e => wr (u + e.N')
  | none => u
def gI (l : List ItemV) (k : Nat) (u : Int) : Int := match l[k]? with
  | some x => wr (u + secE x.At')
  | none => u
theorem gE_sum (l : List ExtV) : foldG (gE l) 0 l.length = secE l := foldG_list _ _ _ l fun k u x hx => by unfold gE; rw [hx]
theorem gI_sum (l : List ItemV) : foldG (gI l) 0 l.length = secL l := foldG_list _ _ _ l fun k u x hx => by unfold gI; rw [hx]
structure ItemsOk (w : World) (a : Option Addr) (n : Nat) (l : List ItemV) : Prop where
  len : n = l.length
  tab : Tab w a n 9 (l.map ItemV.cells)
  ok : ∀ x ∈ l, x.ok w
theorem ItemsOk.ext0 {w w' : World} {a : Option Addr} {n : Nat} {l : List ItemV} (h : ItemsOk w a n l) (he : Ext [] w w') : ItemsOk w' a n l := ⟨h.len, h.tab.ext0 he, fun x hx => (h.ok x hx).ext0 he⟩
theorem item_at {w : World} {x : ItemV} (h : x.ok w) : Tab w x.At'a x.At'n 2 (x.At'.map ExtV.cells) ∧ x.At'n * 16 ≤ 140737488355328 ∧ x.At'n = x.At'.length := by
  obtain ⟨_, _, _, _, _, _, _, _, h1, h2, h3, _⟩ := h
  exact ⟨h3, by omega, by have := h3.len; simpa using this⟩

theorem sec1_ok (u : Int) (e : ExtV) : SpecS Tryz.prog 41 [.int .i64 u, .agg (ExtV.cells e).toArray] [] (fun v H' => v = .int .i64 (wr (u + e.N')) ∧ H' = []) := by
  refine SpecS.enter Tryz.func41 rfl 9 rfl (Nat.le_of_ble_eq_true rfl) (fun o => ?_)
  refine SG.seq ?_
  refine SG.region ?_
  refine SL.step rfl rfl (CS.boxA rfl) ?_
  rintro _ _ ⟨b3, rfl, rfl⟩
  refine SL.val rfl rfl (fun w9 F9 S9 s => R.as rfl) ?_
  refine SL.nil ?_
  refine SN.seq ?_
  refine SG.seq ?_
  refine SG.region ?_
  refine SL.val rfl rfl (fun w9 F9 S9 s => R.mv rfl) ?_
  refine SL.val rfl rfl (fun w9 F9 S9 s => R.fld rfl) ?_
  refine SL.val rfl rfl (fun w9 F9 S9 s => R.ldB (v := .int .i64 e.N') rfl (s.cel (by repeat (first | exact SelB.blk | exact SelB.fz | apply SelB.there))) (by rfl)) ?_
  refine SL.val rfl rfl (fun w9 F9 S9 s => R.addW rfl rfl (wr (u + e.N')) rfl) ?_
  refine SL.val rfl rfl (fun w9 F9 S9 s => R.as rfl) ?_
  refine SL.nil ?_
  refine SN.seq ?_
  exact SG.ret1 rfl rfl ((Imp.sels (by repeat (first | exact Sels.nil | apply Sels.cons | exact Sel.keep | exact Sel.here | apply Sel.there)))) (⟨rfl, rfl⟩)

theorem sec1_hf {l : List ExtV} {k : Nat} {u : Int} {r : List Value} (hr : (l.map ExtV.cells)[k]? = some r) : SpecS Tryz.prog 41 [.int .i64 u, .agg r.toArray] [sh (fun _ => True)] (fun v H' => v = .int .i64 (gE l k u) ∧ H' = []) := by
  rw [List.getElem?_map] at hr
  cases hx : l[k]? with
  | none => rw [hx] at hr; cases hr
  | some e =>
    rw [hx] at hr
    cases hr
    have h := sec1_ok u e
    rw [show gE l k u = wr (u + e.N') by unfold gE; rw [hx]]
    exact SpecS.ofImp (Imp.sels .nil) h

theorem secs_ok (x : ItemV) : SpecS Tryz.prog 17 [.agg (ItemV.cells x).toArray] [sh (fun w => x.ok w)] (fun v H' => v = .int .i64 (secE x.At') ∧ H' = []) := by
  refine SpecS.enter Tryz.func17 rfl 7 rfl (Nat.le_of_ble_eq_true rfl) (fun o => ?_)
  refine SG.fact (fun w9 F9 S9 s => (item_at (s.sh (p := fun w => x.ok w) (by repeat (first | exact Sel.keep | exact Sel.here | apply Sel.there)))).2.1) (fun hf9 => ?_)
  have hat := hf9; clear hf9
  refine SG.fact (fun w9 F9 S9 s => (item_at (s.sh (p := fun w => x.ok w) (by repeat (first | exact Sel.keep | exact Sel.here | apply Sel.there)))).2.2) (fun hf9 => ?_)
  have hl5 := hf9; clear hf9
  refine SG.seq ?_
  refine SG.region ?_
  refine SL.step rfl rfl (CS.boxA rfl) ?_
  rintro _ _ ⟨b1, rfl, rfl⟩
  refine SL.val rfl rfl (fun w9 F9 S9 s => R.as rfl) ?_
  refine SL.nil ?_
  refine SN.seq ?_
  refine SG.seq ?_
  refine SG.region ?_
  refine SL.val rfl rfl (fun w9 F9 S9 s => R.fld rfl) ?_
  refine SL.val rfl rfl (fun w9 F9 S9 s => R.ldB (v := .slice x.At'a x.At'n x.At'c) rfl (s.cel (by repeat (first | exact SelB.blk | exact SelB.fz | apply SelB.there))) (by rfl)) ?_
  refine SL.imp (Imp.weak (p := fun w => x.ok w) (q := fun w => Tab w x.At'a x.At'n 2 (x.At'.map ExtV.cells)) (by repeat (first | exact Sel.keep | exact Sel.here | apply Sel.there)) (fun w h => (item_at h).1)) ?_
  refine SL.step rfl rfl (CS.call rfl go40 (ofExt x.At'a x.At'n x.At'c (x.At'.map ExtV.cells) (extR x.At') hat) (by repeat (first | exact Sels.nil | apply Sels.cons | exact Sel.keep | exact Sel.here | apply Sel.there))) ?_
  rintro _ _ ⟨_, ⟨b5, a5, c5, rfl, rfl⟩, rfl⟩
  refine SL.n2 ?_
  refine SL.imp (Imp.pure (p := fun _ => True) (fun _ => trivial)) ?_
  refine SL.step rfl rfl (CS.call rfl go39 (foldExt b5 a5 x.At'n c5 (x.At'.map ExtV.cells) 0 41 (gE x.At') (fun _ => True) (extR x.At') (by omega) go41 (fun k u r hr => sec1_hf hr)) (by repeat (first | exact Sels.nil | apply Sels.cons | exact Sel.keep | exact Sel.here | apply Sel.there))) ?_
  rintro _ _ ⟨_, ⟨rfl, rfl⟩, rfl⟩
  refine SL.n2 ?_
  refine SL.val rfl rfl (fun w9 F9 S9 s => R.as rfl) ?_
  refine SL.nil ?_
  refine SN.seq ?_
  exact SG.ret1 rfl rfl ((Imp.sels (by repeat (first | exact Sels.nil | apply Sels.cons | exact Sel.keep | exact Sel.here | apply Sel.there)))) (⟨congrArg (Value.int .i64) (by rw [hl5]; exact gE_sum _), rfl⟩)

end Go.Proofs.YtlhkpakbenghgaaGreat
/-
  Plain laws on package stats: the tables as orders' pairs.
-/
set_option linter.unusedVariables false
set_option linter.unusedSimpArgs false
namespace Brv.Stats
open Go Brv
section
variable {α β : Type}
def mapK (g : Int → α → β) (l : List (Int × α)) : List (Int × β) := l.map fun p => (p.1, g p.1 p.2)
theorem mapK_len (g : Int → α → β) (l : List (Int × α)) : (mapK g l).length = l.length := by simp [mapK]
theorem mapK_at (g : Int → α → β) (l : List (Int × α)) (i : Nat) : (mapK g l)[i]? = l[i]?.map fun p => (p.1, g p.1 p.2) := by simp [mapK]
theorem lowT_mapK (g : Int → α → β) (l : List (Int × α)) (k : Int) : lowT (mapK g l) k = lowT l k := by
  unfold lowT mapK
  induction l with
  | nil => rfl
  | cons p l ih => simp only [List.map_cons, List.takeWhile_cons]; split <;> simp_all
theorem hasT_mapK (g : Int → α → β) (l : List (Int × α)) (k : Int) : hasT (mapK g l) k = hasT l k := by
  unfold hasT
  rw [lowT_mapK, mapK, List.getElem?_map]
  cases l[lowT l k]? <;> rfl
theorem putT_mapK (g : Int → α → β) (l : List (Int × α)) (k : Int) (v : α) : putT (mapK g l) k (g k v) = mapK g (putT l k v) := by
  unfold putT
  rw [hasT_mapK, lowT_mapK]
  split <;> simp [mapK, List.map_set, List.map_take, List.map_drop]
theorem getT_mapK (g : Int → α → β) (l : List (Int × α)) (k : Int) : getT (mapK g l) k = (getT l k).map (g k) := by
  unfold getT
  rw [hasT_mapK, lowT_mapK]
  cases hh : hasT l k with
  | false => rfl
  | true =>
    obtain ⟨p, hp, e⟩ := hasT_mem hh
    simp only [if_true, mapK, List.getElem?_map, hp, Option.map_some]
    rw [e]
theorem hasT_isSome (l : List (Int × α)) (k : Int) : hasT l k = (getT l k).isSome := by
  unfold getT
  cases h : hasT l k with
  | false => rfl
  | true => obtain ⟨p, hp, _⟩ := hasT_mem h; simp [hp]
end
def us4 (k : Int) (v : V3) : List Value := [.int .i64 k, .int .i64 v.1, .int .i64 v.2.1, .int .i64 v.2.2]
abbrev V2 := Int × Int
def bz3 (k : Int) (v : V2) : List Value := [.int .i64 k, .int .i64 v.1, .int .i64 v.2]
def in1 (k : Int) (v : Int) : List Value := [.int .i64 v]
def psU (T : List (Int × V3)) : List (Pr Int) := mapK us4 T
def psB (T : List (Int × V2)) : List (Pr Int) := mapK bz3 T
def psI (T : List (Int × Int)) : List (Pr Int) := mapK in1 T
theorem us4_one (k : Int) (v : V3) : ∀ u ∈ us4 k v, u.oneCell' = true := by intro u hu; simp only [us4, List.mem_cons, List.not_mem_nil, or_false] at hu; rcases hu with rfl | rfl | rfl | rfl <;> rfl
theorem bz3_one (k : Int) (v : V2) : ∀ u ∈ bz3 k v, u.oneCell' = true := by intro u hu; simp only [bz3, List.mem_cons, List.not_mem_nil, or_false] at hu; rcases hu with rfl | rfl | rfl <;> rfl
def uCells (T : List (Int × V3)) : List (List Value) := T.map fun p => us4 p.1 p.2
def bCells (T : List (Int × V2)) : List (List Value) := T.map fun p => bz3 p.1 p.2
theorem take_flat {α : Type} (f : α → List Value) {l : List α} {k : Nat} {x : α} (h : l[k]? = some x) : ((l.take k).map f).flatten ++ f x = ((l.take (k + 1)).map f).flatten := by
  rw [List.take_add_one, h]; simp
end Brv.Stats
/-
  The walks of package stats.
-/
set_option linter.unusedVariables false
set_option linter.unusedSimpArgs false
set_option maxRecDepth 4000
namespace Go.Proofs.YtlhkpakbenghgaaGreat
open Go Brv Brv.Stats
theorem itemsOk_at {w : World} {a : Option Addr} {n : Nat} {l : List ItemV} (h : ItemsOk w a n l) {k : Nat} {x : ItemV} (hx : l[k]? = some x) : x.ok w := h.ok x (List.mem_of_getElem? hx)
theorem items_pt {w : World} {a : Option Addr} {n k : Nat} {l : List ItemV} (h : ItemsOk w a n l) {x : ItemV} (hx : l[k]? = some x) : ∃ q, a = some q := tabR_pt h.tab (by decide) (show (l.map ItemV.cells)[k]? = some x.cells by rw [List.getElem?_map, hx]; rfl)
theorem items_ld {w : World} {a : Option Addr} {n k : Nat} {l : List ItemV} (h : ItemsOk w a n l) {x : ItemV} {q : Addr} (hq : a = some q) (hx : l[k]? = some x) : Cells w (some (q.add ((k : Int).toNat * 9))) x.cells := tabR_ld h.tab (by decide) hq (show (l.map ItemV.cells)[k]? = some x.cells by rw [List.getElem?_map, hx]; rfl)
def AllOk (l : List ItemV) (w : World) : Prop := ∀ x ∈ l, x.ok w

theorem secI_ok (u : Int) (x : ItemV) : SpecS Tryz.prog 36 [.int .i64 u, .agg (ItemV.cells x).toArray] [sh (fun w => x.ok w)] (fun v H' => v = .int .i64 (wr (u + secE x.At')) ∧ H' = []) := by
  refine SpecS.enter Tryz.func36 rfl 9 rfl (Nat.le_of_ble_eq_true rfl) (fun o => ?_)
  refine SG.seq ?_
  refine SG.region ?_
  refine SL.step rfl rfl (CS.boxA rfl) ?_
  rintro _ _ ⟨b3, rfl, rfl⟩
  refine SL.val rfl rfl (fun w9 F9 S9 s => R.as rfl) ?_
  refine SL.nil ?_
  refine SN.seq ?_
  refine SG.seq ?_
  refine SG.region ?_
  refine SL.val rfl rfl (fun w9 F9 S9 s => R.mv rfl) ?_
  refine SL.val rfl rfl (fun w9 F9 S9 s => R.ldBN (cs := x.cells.toArray) rfl (s.cel (by repeat (first | exact SelB.blk | exact SelB.fz | apply SelB.there))) rfl) ?_
  refine SL.step rfl rfl (CS.call rfl go17 (secs_ok x) (by repeat (first | exact Sels.nil | apply Sels.cons | exact Sel.keep | exact Sel.here | apply Sel.there))) ?_
  rintro _ _ ⟨_, ⟨rfl, rfl⟩, rfl⟩
  refine SL.n0 ?_
  refine SL.val rfl rfl (fun w9 F9 S9 s => R.addW rfl rfl (wr (u + secE x.At')) rfl) ?_
  refine SL.val rfl rfl (fun w9 F9 S9 s => R.as rfl) ?_
  refine SL.nil ?_
  refine SN.seq ?_
  exact SG.ret1 rfl rfl ((Imp.sels (by repeat (first | exact Sels.nil | apply Sels.cons | exact Sel.keep | exact Sel.here | apply Sel.there)))) (⟨rfl, rfl⟩)

theorem secI_hf {l : List ItemV} {k : Nat} {u : Int} {r : List Value} (hr : (l.map ItemV.cells)[k]? = some r) : SpecS Tryz.prog 36 [.int .i64 u, .agg r.toArray] [sh (AllOk l)] (fun v H' => v = .int .i64 (gI l k u) ∧ H' = []) := by
  rw [List.getElem?_map] at hr
  cases hx : l[k]? with
  | none => rw [hx] at hr; cases hr
  | some x =>
    rw [hx] at hr
    cases hr
    have h := secI_ok u x
    rw [show gI l k u = wr (u + secE x.At') by unfold gI; rw [hx]]
    exact SpecS.ofImp (Imp.weak (p := AllOk l) (q := fun w => x.ok w) .here (fun w h => h x (List.mem_of_getElem? hx))) h

theorem Secs_ok (a : Option Addr) (n c : Nat) (l : List ItemV) (hb : n * 88 ≤ 140737488355328) : SpecS Tryz.prog 11 [.slice a n c] [sh (fun w => ItemsOk w a n l)] (fun v H' => v = .int .i64 (secL l) ∧ H' = []) := by
  refine SpecS.enter Tryz.func11 rfl 6 rfl (Nat.le_of_ble_eq_true rfl) (fun o => ?_)
  refine SG.fact (fun w9 F9 S9 s => (s.sh (p := fun w => ItemsOk w a n l) (by repeat (first | exact Sel.keep | exact Sel.here | apply Sel.there))).len) (fun hf9 => ?_)
  have hln := hf9; clear hf9
  refine SG.seq ?_
  refine SG.region ?_
  refine SL.val rfl rfl (fun w9 F9 S9 s => R.as rfl) ?_
  refine SL.nil ?_
  refine SN.imp (Imp.weak (p := fun w => ItemsOk w a n l) (q := fun w => Tab w a n 9 (l.map ItemV.cells)) (by repeat (first | exact Sel.keep | exact Sel.here | apply Sel.there)) (fun w h => h.tab)) ?_
  refine SN.seq ?_
  refine SG.seq ?_
  refine SG.region ?_
  refine SL.val rfl rfl (fun w9 F9 S9 s => R.mv rfl) ?_
  refine SL.step rfl rfl (CS.call rfl go35 (ofItem a n c (l.map ItemV.cells) (itemR l) (by omega)) (by repeat (first | exact Sels.nil | apply Sels.cons | exact Sel.keep | exact Sel.here | apply Sel.there))) ?_
  rintro _ _ ⟨_, ⟨b5, a5, c5, rfl, rfl⟩, rfl⟩
  refine SL.n2 ?_
  refine SL.imp (Imp.weak (p := fun w => ItemsOk w a n l) (q := AllOk l) (by repeat (first | exact Sel.keep | exact Sel.here | apply Sel.there)) (fun w h => h.ok)) ?_
  refine SL.step rfl rfl (CS.call rfl go34 (foldItem b5 a5 n c5 (l.map ItemV.cells) 0 36 (gI l) (AllOk l) (itemR l) (by omega) go36 (fun k u r hr => secI_hf hr)) (by repeat (first | exact Sels.nil | apply Sels.cons | exact Sel.keep | exact Sel.here | apply Sel.there))) ?_
  rintro _ _ ⟨_, ⟨rfl, rfl⟩, rfl⟩
  refine SL.n3 ?_
  refine SL.val rfl rfl (fun w9 F9 S9 s => R.as rfl) ?_
  refine SL.nil ?_
  refine SN.seq ?_
  exact SG.ret1 rfl rfl ((Imp.sels (by repeat (first | exact Sels.nil | apply Sels.cons | exact Sel.keep | exact Sel.here | apply Sel.there)))) (⟨congrArg (Value.int .i64) (by rw [hln]; exact gI_sum _), rfl⟩)

end Go.Proofs.YtlhkpakbenghgaaGreat
/-
  The walks of package order.
-/
set_option linter.unusedVariables false
set_option linter.unusedSimpArgs false
set_option maxRecDepth 4000
namespace Go.Proofs.YtlhkpakbenghgaaGreat
open Go Brv
theorem nanI_ok (x : Int) (w : World) : Meets Tryz.prog 53 [.int .i64 x] w (fun v w' => v = .bool false ∧ w' = w) := by
  refine Meets.enter Tryz.func53 rfl 6 rfl (Nat.le_of_ble_eq_true rfl) ?_
  refine G.seq ?_
  refine G.region ?_
  refine L.val rfl rfl (R.as rfl) ?_
  refine L.nil ?_
  refine N.seq ?_
  refine G.seq ?_
  refine G.region ?_
  refine L.val rfl rfl (R.mv rfl) ?_
  refine L.val rfl rfl (R.mv rfl) ?_
  refine L.val rfl rfl (R.neI rfl rfl) ?_
  refine L.val rfl rfl (R.as rfl) ?_
  refine L.nil ?_
  refine N.seq ?_
  refine G.ret1 rfl rfl ?_
  exact ⟨congrArg Value.bool (by simp), rfl⟩

theorem cmpI_ok (x y : Int) (w : World) : Meets Tryz.prog 28 [.int .i64 x, .int .i64 y] w (fun v w' => v = .int .i64 (cmpF x y) ∧ w' = w) := by
  refine Meets.enter Tryz.func28 rfl 20 rfl (Nat.le_of_ble_eq_true rfl) ?_
  refine G.seq ?_
  refine G.region ?_
  refine L.val rfl rfl (R.as rfl) ?_
  refine L.nil ?_
  refine N.seq ?_
  refine G.seq ?_
  refine G.region ?_
  refine L.val rfl rfl (R.mv rfl) ?_
  refine L.callF rfl rfl rfl go53 (nanI_ok _ _) ?_
  rintro _ _ ⟨rfl, hw⟩
  obtain rfl := hw.symm
  refine L.val rfl rfl (R.as rfl) ?_
  refine L.nil ?_
  refine N.seq ?_
  refine G.seq ?_
  refine G.region ?_
  refine L.val rfl rfl (R.mv rfl) ?_
  refine L.callF rfl rfl rfl go53 (nanI_ok _ _) ?_
  rintro _ _ ⟨rfl, hw⟩
  obtain rfl := hw.symm
  refine L.val rfl rfl (R.as rfl) ?_
  refine L.nil ?_
  refine N.seq ?_
  refine G.seq ?_
  refine G.seq ?_
  refine G.region ?_
  refine L.val rfl rfl (R.mv rfl) ?_
  refine L.nil ?_
  refine N.seq ?_
  refine G.condF rfl ?_
  refine G.skip ?_
  refine N.seq ?_
  refine G.seq ?_
  refine G.seq ?_
  refine G.region ?_
  refine L.val rfl rfl (R.mv rfl) ?_
  refine L.nil ?_
  refine N.seq ?_
  refine G.condF rfl ?_
  refine G.skip ?_
  refine N.seq ?_
  refine G.seq ?_
  refine G.seq ?_
  refine G.region ?_
  refine L.val rfl rfl (R.mv rfl) ?_
  refine L.val rfl rfl (R.mv rfl) ?_
  refine L.val rfl rfl (R.lss rfl rfl) ?_
  refine L.nil ?_
  refine N.seq ?_
  refine G.condB rfl (fun h3 => ?_) (fun h3 => ?_)
  · refine G.seq ?_
    refine G.region ?_
    refine L.val rfl rfl (R.as rfl) ?_
    refine L.nil ?_
    refine N.seq ?_
    refine G.ret1 rfl rfl ?_
    first
      | exact ⟨congrArg (Value.int .i64) (cmpF_lt (show Key.lt x y = true from h3)).symm, rfl⟩
      | exact ⟨congrArg (Value.int .i64) (cmpF_gt (show Key.lt x y = false from h3) (show Key.lt y x = true from h4)).symm, rfl⟩
      | exact ⟨congrArg (Value.int .i64) (cmpF_eq (show Key.lt x y = false from h3) (show Key.lt y x = false from h4)).symm, rfl⟩
  · refine G.skip ?_
    refine N.seq ?_
    refine G.seq ?_
    refine G.seq ?_
    refine G.region ?_
    refine L.val rfl rfl (R.mv rfl) ?_
    refine L.val rfl rfl (R.mv rfl) ?_
    refine L.val rfl rfl (R.gtr rfl rfl) ?_
    refine L.nil ?_
    refine N.seq ?_
    refine G.condB rfl (fun h4 => ?_) (fun h4 => ?_)
    · refine G.seq ?_
      refine G.region ?_
      refine L.val rfl rfl (R.as rfl) ?_
      refine L.nil ?_
      refine N.seq ?_
      refine G.ret1 rfl rfl ?_
      first
        | exact ⟨congrArg (Value.int .i64) (cmpF_lt (show Key.lt x y = true from h3)).symm, rfl⟩
        | exact ⟨congrArg (Value.int .i64) (cmpF_gt (show Key.lt x y = false from h3) (show Key.lt y x = true from h4)).symm, rfl⟩
        | exact ⟨congrArg (Value.int .i64) (cmpF_eq (show Key.lt x y = false from h3) (show Key.lt y x = false from h4)).symm, rfl⟩
    · refine G.skip ?_
      refine N.seq ?_
      refine G.seq ?_
      refine G.region ?_
      refine L.val rfl rfl (R.as rfl) ?_
      refine L.nil ?_
      refine N.seq ?_
      refine G.ret1 rfl rfl ?_
      first
        | exact ⟨congrArg (Value.int .i64) (cmpF_lt (show Key.lt x y = true from h3)).symm, rfl⟩
        | exact ⟨congrArg (Value.int .i64) (cmpF_gt (show Key.lt x y = false from h3) (show Key.lt y x = true from h4)).symm, rfl⟩
        | exact ⟨congrArg (Value.int .i64) (cmpF_eq (show Key.lt x y = false from h3) (show Key.lt y x = false from h4)).symm, rfl⟩

end Go.Proofs.YtlhkpakbenghgaaGreat
/-
  The walks of package order.
-/
set_option linter.unusedVariables false
set_option linter.unusedSimpArgs false
set_option maxRecDepth 4000
namespace Go.Proofs.YtlhkpakbenghgaaGreat
open Go Brv
theorem find1ApiUsage_ok (p : Pr (Int)) (k : Int) (w : World) : Meets Tryz.prog 65 [.agg (pcell p).toArray, .int .i64 k] w (fun v w' => v = .int .i64 (cmpF p.1 k) ∧ Ext [] w w') := by
  refine Meets.enter Tryz.func65 rfl 9 rfl (Nat.le_of_ble_eq_true rfl) ?_
  have E := Ext.refl [] w
  refine G.seq ?_
  refine G.region ?_
  refine L.do rfl rfl (R.box rfl) ?_
  rintro _ w1 ⟨b2, rfl, hb2, hs2, e1, B2⟩
  replace B2 : Blk w1 b2 (pcell p).toArray 95 (0, 0) := B2
  replace E := E.trans0 e1
  refine L.val rfl rfl (R.as rfl) ?_
  refine L.nil ?_
  refine N.seq ?_
  refine G.seq ?_
  refine G.region ?_
  refine L.val rfl rfl (R.fld rfl) ?_
  refine L.val rfl rfl (R.ldB (v := .int .i64 p.1) rfl B2 rfl) ?_
  refine L.val rfl rfl (R.mv rfl) ?_
  refine L.callF rfl rfl rfl go28 (cmpI_ok _ _ _) ?_
  rintro _ _ ⟨rfl, hw⟩
  obtain rfl := hw.symm
  refine L.val rfl rfl (R.as rfl) ?_
  refine L.nil ?_
  refine N.seq ?_
  refine G.ret1 rfl rfl ?_
  exact ⟨rfl, E⟩

theorem bsApiUsage_ok (a : Option Addr) (n c : Nat) (ps : List (Pr (Int))) (k : Int) (w : World) (hc : Cells w a (pcells ps)) (hn : n = ps.length) (hok : OkP 4 ps) (hs : Sorted ps) (hnl : n ≤ 1000000) : Meets Tryz.prog 64 [.slice a n c, .int .i64 k, .func (.func 65) #[] #[]] w (fun v w' => v = .tuple #[.int .i64 (low ps k : Int), .bool (hasK ps k)] ∧ Ext [] w w') := by
  refine Meets.enter Tryz.func64 rfl 49 rfl (Nat.le_of_ble_eq_true rfl) ?_
  have E := Ext.refl [] w
  have hT := Tab.pairs hc hn hok
  have hlo := low_le ps k
  refine G.seq ?_
  refine G.region ?_
  refine L.val rfl rfl (R.as rfl) ?_
  refine L.val rfl rfl (R.as rfl) ?_
  refine L.nil ?_
  refine N.seq ?_
  refine G.seq ?_
  refine G.region ?_
  refine L.val rfl rfl (R.mv rfl) ?_
  refine L.val rfl rfl (R.lenS rfl) ?_
  refine L.val rfl rfl (R.as rfl) ?_
  refine L.nil ?_
  refine N.seq ?_
  refine G.seq ?_
  refine G.region ?_
  refine L.val rfl rfl (R.mv rfl) ?_
  refine L.val rfl rfl (R.as rfl) ?_
  refine L.val rfl rfl (R.as rfl) ?_
  refine L.nil ?_
  refine N.seq ?_
  refine G.seq ?_
  refine G.block ?_
  refine G.loop (X := Nat × Nat) (fun s => [(0, .slice a n c), (1, .int .i64 k), (2, .func (.func 65) #[] #[]), (8, .int .i64 (n : Int)), (9, .int .i64 (s.1 : Int)), (10, .int .i64 (s.2 : Int))]) (fun s w' => s.1 ≤ s.2 ∧ s.2 ≤ n ∧ s.1 ≤ low ps k ∧ low ps k ≤ s.2 ∧ Ext [] w w') (fun s => s.2 - s.1) ((0, n)) (Sub.cons rfl (Sub.cons rfl (Sub.cons rfl (Sub.cons rfl (Sub.cons rfl (Sub.cons rfl (Sub.nil _))))))) ⟨Nat.zero_le _, Nat.le_refl _, Nat.zero_le _, by show low ps k ≤ n; omega, E⟩ ?_
  rintro ⟨i, j⟩ w1 ⟨hi1, hi2, hi3, hi4, E⟩
  dsimp only at hi1 hi2 hi3 hi4
  refine G.sub [(0, .slice a n c), (1, .int .i64 k), (2, .func (.func 65) #[] #[]), (8, .int .i64 (n : Int)), (9, .int .i64 (i : Int)), (10, .int .i64 (j : Int))] (Sub.cons rfl (Sub.cons rfl (Sub.cons rfl (Sub.cons rfl (Sub.cons rfl (Sub.cons rfl (Sub.nil _))))))) ?_
  refine G.seq ?_
  refine G.seq ?_
  refine G.region ?_
  refine L.val rfl rfl (R.mv rfl) ?_
  refine L.val rfl rfl (R.mv rfl) ?_
  refine L.val rfl rfl (R.lss rfl rfl) ?_
  refine L.nil ?_
  refine N.seq ?_
  refine G.condP rfl (fun h0 => ?_) (fun h0 => ?_)
  · have hij : i < j := by omega
    obtain ⟨hm, hhm⟩ : ∃ hm, hm = (i + j) / 2 := ⟨_, rfl⟩
    have hm1 : i ≤ hm := by omega
    have hm2 : hm < j := by omega
    refine G.skip ?_
    refine N.seq ?_
    refine G.block ?_
    refine G.seq ?_
    refine G.region ?_
    refine L.val rfl rfl (R.mv rfl) ?_
    refine L.val rfl rfl (R.mv rfl) ?_
    refine L.val rfl rfl (R.add rfl rfl (by omega)) ?_
    refine L.val rfl rfl (R.conv rfl ((i + j : Nat) : Int) (by rw [wrap_u64 (by omega)]; omega)) ?_
    refine L.val rfl rfl (R.shrW rfl rfl (by decide) (hm : Int) (by rw [shr1]; omega)) ?_
    refine L.val rfl rfl (R.conv rfl (hm : Int) (wrap_i64 (by omega))) ?_
    refine L.val rfl rfl (R.as rfl) ?_
    refine L.nil ?_
    refine N.seq ?_
    refine G.seq ?_
    refine G.region ?_
    refine L.val rfl rfl (R.mv rfl) ?_
    refine L.val rfl rfl (R.mv rfl) ?_
    refine L.val rfl rfl (R.mv rfl) ?_
    obtain ⟨p1, hp1⟩ : ∃ p, ps[hm]? = some p := ⟨_, List.getElem?_eq_getElem (by omega)⟩
    obtain ⟨qp1, hqp1, hclp1⟩ := hT.at (by decide) hm (by rw [List.length_map]; omega)
    have hep1 : (ps.map pcell)[hm]'(by rw [List.length_map]; omega) = pcell p1 := by rw [List.getElem_map]; exact congrArg pcell (List.getElem?_eq_some_iff.1 hp1).2
    rw [hep1] at hclp1
    have hszp1 : (pcell p1).length = 5 := by show p1.2.length + 1 = _; rw [(hok p1 (List.mem_of_getElem? hp1)).1]
    refine L.val rfl rfl (R.idx rfl rfl (by omega) (by omega) qp1 hqp1) ?_
    refine L.val rfl rfl (R.ldN (vs := pcell p1) rfl (hclp1.ext0 E) hszp1) ?_
    refine L.val rfl rfl (R.mv rfl) ?_
    refine L.callV rfl rfl rfl rfl rfl go65 (find1ApiUsage_ok p1 k _) ?_
    rintro _ w2 ⟨rfl, e2⟩
    replace E := E.trans0 e2
    refine L.val rfl rfl (R.lss rfl rfl) ?_
    refine L.nil ?_
    refine N.seq ?_
    refine G.condP rfl (fun h1 => ?_) (fun h1 => ?_)
    · have hcmp : cmpF p1.1 k < 0 := h1
      refine G.region ?_
      refine L.val rfl rfl (R.mv rfl) ?_
      refine L.val rfl rfl (R.add rfl rfl (by omega)) ?_
      refine L.val rfl rfl (R.as rfl) ?_
      refine L.nil ?_
      refine N.block ?_
      first
        | exact N.again (hm + 1, j) (by show j - (hm + 1) < j - i; omega) (Sub.cons rfl (Sub.cons rfl (Sub.cons rfl (Sub.cons rfl (Sub.cons rfl (Sub.cons rfl (Sub.nil _))))))) ⟨by show hm + 1 ≤ j; omega, hi2, by show hm + 1 ≤ low ps k; have := (lt_low hs hp1).1 hcmp; omega, hi4, E⟩
        | exact N.again (i, hm) (by show hm - i < j - i; omega) (Sub.cons rfl (Sub.cons rfl (Sub.cons rfl (Sub.cons rfl (Sub.cons rfl (Sub.cons rfl (Sub.nil _))))))) ⟨by show i ≤ hm; omega, by show hm ≤ n; omega, hi3, by show low ps k ≤ hm; have : ¬ hm < low ps k := fun h9 => hcmp ((lt_low hs hp1).2 h9); omega, E⟩
    · have hcmp : ¬ cmpF p1.1 k < 0 := h1
      refine G.region ?_
      refine L.val rfl rfl (R.mv rfl) ?_
      refine L.val rfl rfl (R.as rfl) ?_
      refine L.nil ?_
      refine N.block ?_
      first
        | exact N.again (hm + 1, j) (by show j - (hm + 1) < j - i; omega) (Sub.cons rfl (Sub.cons rfl (Sub.cons rfl (Sub.cons rfl (Sub.cons rfl (Sub.cons rfl (Sub.nil _))))))) ⟨by show hm + 1 ≤ j; omega, hi2, by show hm + 1 ≤ low ps k; have := (lt_low hs hp1).1 hcmp; omega, hi4, E⟩
        | exact N.again (i, hm) (by show hm - i < j - i; omega) (Sub.cons rfl (Sub.cons rfl (Sub.cons rfl (Sub.cons rfl (Sub.cons rfl (Sub.cons rfl (Sub.nil _))))))) ⟨by show i ≤ hm; omega, by show hm ≤ n; omega, hi3, by show low ps k ≤ hm; have : ¬ hm < low ps k := fun h9 => hcmp ((lt_low hs hp1).2 h9); omega, E⟩
  · have hij : i = low ps k := by omega
    refine G.exit _ rfl ?_
    refine N.seq ?_
    refine G.seq ?_
    refine G.region ?_
    refine L.val rfl rfl (R.mv rfl) ?_
    refine L.val rfl rfl (R.mv rfl) ?_
    refine L.val rfl rfl (R.mv rfl) ?_
    refine L.val rfl rfl (R.lss rfl rfl) ?_
    refine L.val rfl rfl (R.mv rfl) ?_
    refine L.caseP 39 rfl (fun hg8_4 => ?_) (fun hg8_4 => ?_)
    · refine L.val rfl rfl (R.mv rfl) ?_
      refine L.val rfl rfl (R.mv rfl) ?_
      refine L.val rfl rfl (R.mv rfl) ?_
      obtain ⟨p2, hp2⟩ : ∃ p, ps[i]? = some p := ⟨_, List.getElem?_eq_getElem (by omega)⟩
      obtain ⟨qp2, hqp2, hclp2⟩ := hT.at (by decide) i (by rw [List.length_map]; omega)
      have hep2 : (ps.map pcell)[i]'(by rw [List.length_map]; omega) = pcell p2 := by rw [List.getElem_map]; exact congrArg pcell (List.getElem?_eq_some_iff.1 hp2).2
      rw [hep2] at hclp2
      have hszp2 : (pcell p2).length = 5 := by show p2.2.length + 1 = _; rw [(hok p2 (List.mem_of_getElem? hp2)).1]
      refine L.val rfl rfl (R.idx rfl rfl (by omega) (by omega) qp2 hqp2) ?_
      refine L.val rfl rfl (R.ldN (vs := pcell p2) rfl (hclp2.ext0 E) hszp2) ?_
      refine L.val rfl rfl (R.mv rfl) ?_
      refine L.callV rfl rfl rfl rfl rfl go65 (find1ApiUsage_ok p2 k _) ?_
      rintro _ w3 ⟨rfl, e3⟩
      replace E := E.trans0 e3
      refine L.val rfl rfl (R.eqI rfl rfl) ?_
      first | refine L.val rfl rfl (R.pickT rfl rfl) ?_ | refine L.val rfl rfl (R.pickF rfl rfl) ?_
      refine L.val rfl rfl (R.as rfl) ?_
      refine L.val rfl rfl (R.as rfl) ?_
      refine L.nil ?_
      refine N.seq ?_
      refine G.ret2 rfl rfl rfl ?_
      first
        | exact ⟨by rw [hfound, ← hij], E⟩
        | exact ⟨by rw [hasK_at hs (by rw [← hij]; exact hp2), ← hij], E⟩
    · have hfound : hasK ps k = false := hasK_end (by omega)
      refine L.pass rfl rfl ?_
      refine L.pass rfl rfl ?_
      refine L.pass rfl rfl ?_
      refine L.pass rfl rfl ?_
      refine L.pass rfl rfl ?_
      refine L.pass rfl rfl ?_
      refine L.pass rfl rfl ?_
      refine L.pass rfl rfl ?_
      first | refine L.val rfl rfl (R.pickT rfl rfl) ?_ | refine L.val rfl rfl (R.pickF rfl rfl) ?_
      refine L.val rfl rfl (R.as rfl) ?_
      refine L.val rfl rfl (R.as rfl) ?_
      refine L.nil ?_
      refine N.seq ?_
      refine G.ret2 rfl rfl rfl ?_
      first
        | exact ⟨by rw [hfound, ← hij], E⟩
        | exact ⟨by rw [hasK_at hs (by rw [← hij]; exact hp2), ← hij], E⟩

theorem findApiUsage_ok (m : Nat) (ps : List (Pr (Int))) (S : List Nat) (k : Int) (w : World) (hd : MapAt (κ := Int) 91 95 4 w m ps S) (hl : ps.length ≤ 1000000) : Meets Tryz.prog 37 [.pointer (some ⟨m, 0, none⟩), .int .i64 k] w (fun v w' => v = .tuple #[.int .i64 (low ps k : Int), .bool (hasK ps k)] ∧ Ext [] w w') := by
  refine Meets.enter Tryz.func37 rfl 14 rfl (Nat.le_of_ble_eq_true rfl) ?_
  have E := Ext.refl [] w
  obtain ⟨a, c, M, rfl, hm0, Bm, om, hok, hs⟩ := hd
  refine G.seq ?_
  refine G.region ?_
  refine L.val rfl rfl (R.as rfl) ?_
  refine L.val rfl rfl (R.as rfl) ?_
  refine L.nil ?_
  refine N.seq ?_
  refine G.seq ?_
  refine G.region ?_
  refine L.val rfl rfl (R.mv rfl) ?_
  refine L.val rfl rfl (R.nilChk rfl) ?_
  refine L.val rfl rfl (R.fld rfl) ?_
  refine L.val rfl rfl (R.ldB rfl Bm rfl) ?_
  refine L.val rfl rfl (R.mv rfl) ?_
  refine L.callF rfl rfl rfl go64 (bsApiUsage_ok _ _ _ ps k _ om.cells rfl hok hs (by omega)) ?_
  rintro _ w1 ⟨rfl, e1⟩
  replace E := E.trans0 e1
  refine L.val rfl rfl (R.ext rfl rfl) ?_
  refine L.val rfl rfl (R.ext rfl rfl) ?_
  refine L.val rfl rfl (R.as rfl) ?_
  refine L.val rfl rfl (R.as rfl) ?_
  refine L.nil ?_
  refine N.seq ?_
  refine G.ret2 rfl rfl rfl ?_
  exact ⟨rfl, E⟩

theorem insApiUsage_ok (a : Option Addr) (n c : Nat) (ps : List (Pr (Int))) (M : List Nat) (i : Nat) (p : Pr (Int)) (vb : Nat) (w : World) (ho : Own w 95 (1 + 4) a n c (pcells ps) M) (hn : n = ps.length) (hok : OkP 4 ps) (hi : i ≤ n) (hp : p.2.length = 4 ∧ ∀ u ∈ p.2, u.oneCell' = true) (Bv : Blk w vb (pcell p).toArray 95 (0, 0)) (hvM : vb ∉ M) (hnl : n ≤ 1000000) : Meets Tryz.prog 38 [.slice a n c, .int .i64 (i : Int), .slice (some ⟨vb, 0, none⟩) 1 1] w (fun v w' => ∃ a' c' M', v = .slice a' (n + 1) c' ∧ Ext M w w' ∧ (∀ g ∈ M', g ∈ M ∨ w.heap.size ≤ g) ∧ Own w' 95 (1 + 4) a' (n + 1) c' (pcells (ps.take i ++ p :: ps.drop i)) M') := by
  refine Meets.enter Tryz.func38 rfl 95 rfl (Nat.le_of_ble_eq_true rfl) ?_
  have hl2 : (pcell p).length = 5 := by show p.2.length + 1 = _; rw [hp.1]
  have hp1 : ∀ u ∈ pcell p, u.oneCell' = true := pcell1 hp.2
  have hoc := ho.le
  have hps := (pcells_take (sv := 4) hok.len i (by omega))
  rw [show 1 + 4 = 5 from rfl] at hps
  have hcd : (pcells (ps.drop i)).length = (n - i) * 5 := by rw [pcells_len (sv := 4) (fun q hq => (hok q (List.mem_of_mem_drop hq)).1), List.length_drop, hn]
  have hci : (pcells (ps.take i)).length = i * 5 := by rw [pcells_len (sv := 4) (fun q hq => (hok q (List.mem_of_mem_take hq)).1), List.length_take, Nat.min_eq_left (by omega)]
  have hone := pcell_one hok
  have hone2 : ∀ u ∈ pcells (ps.drop i), u.oneCell' = true := fun u hu => hone u (by have h9 := hps.2; rw [← h9] at hu; exact List.mem_of_mem_drop hu)
  have Cv : Cells w (some ⟨vb, 0, none⟩) (pcell p) := Cells.of_blk Bv 0 _ (fun j v hj => by simpa using hj)
  refine G.seq ?_
  refine G.region ?_
  refine L.val rfl rfl (R.as rfl) ?_
  refine L.nil ?_
  refine N.seq ?_
  refine G.seq ?_
  refine G.region ?_
  refine L.val rfl rfl (R.mv rfl) ?_
  refine L.val rfl rfl (R.mv rfl) ?_
  refine L.val rfl rfl (R.slL rfl rfl (by omega) (by omega)) ?_
  refine L.nil ?_
  refine N.seq ?_
  refine G.seq ?_
  refine G.region ?_
  refine L.val rfl rfl (R.mv rfl) ?_
  refine L.val rfl rfl (R.lenS rfl) ?_
  refine L.val rfl rfl (R.as rfl) ?_
  refine L.nil ?_
  refine N.seq ?_
  refine G.seq ?_
  refine G.seq ?_
  refine G.region ?_
  refine L.val rfl rfl (R.mv rfl) ?_
  refine L.val rfl rfl (R.eqI rfl rfl) ?_
  refine L.nil ?_
  refine N.seq ?_
  refine G.condP rfl (fun h0 => ?_) (fun h0 => ?_)
  · exfalso; omega
  · refine G.skip ?_
    refine N.seq ?_
    refine G.seq ?_
    refine G.region ?_
    refine L.val rfl rfl (R.mv rfl) ?_
    refine L.val rfl rfl (R.lenS rfl) ?_
    refine L.val rfl rfl (R.as rfl) ?_
    refine L.nil ?_
    refine N.seq ?_
    refine G.seq ?_
    refine G.seq ?_
    refine G.region ?_
    refine L.val rfl rfl (R.mv rfl) ?_
    refine L.val rfl rfl (R.mv rfl) ?_
    refine L.val rfl rfl (R.eqI rfl rfl) ?_
    refine L.nil ?_
    refine N.seq ?_
    refine G.condP rfl (fun h1 => ?_) (fun h1 => ?_)
    · obtain rfl : i = n := by omega
      refine G.seq ?_
      refine G.region ?_
      refine L.val rfl rfl (R.mv rfl) ?_
      refine L.val rfl rfl (R.mv rfl) ?_
      refine L.do rfl rfl (R.app rfl rfl ho Cv (by rw [hl2]) hp1 (by simp [maxLen]; omega) (by omega)) ?_
      rintro _ w1 ⟨a1, c1, M1, rfl, e1, hM1, o1⟩
      refine L.val rfl rfl (R.as rfl) ?_
      refine L.nil ?_
      refine N.seq ?_
      refine G.ret1 rfl rfl ?_
      first
        | (have e9 : pcells ps ++ pcell p = pcells (ps.take i ++ p :: ps.drop i) := by rw [← pcells_ins, List.take_of_length_le (by omega), List.drop_of_length_le (by omega)]; simp [pcells]
           rw [e9] at o1; exact ⟨a1, c1, M1, rfl, e1, hM1, o1⟩)
        | (refine ⟨_, c1, [g1], rfl, n3.mono (by simp), fun x hx => .inr (by rw [List.mem_singleton.1 hx]; exact hg1), ?_⟩
           have hfin := hog.1; rw [pcells_ins, ← Nat.add_one_mul, ← Nat.add_mul, show i + 1 + (n - i) = n + 1 by omega] at hfin
           refine ⟨by rw [pcells_len (sv := 4) (fun q hq => (okIns hok hp q hq).1), List.length_append, List.length_cons, List.length_take, List.length_drop]; congr 1; omega, .inr ⟨g1, _, rfl, rfl, B3, by omega, hx1, ?_, hfin⟩⟩
           rw [← Nat.add_one_mul] at hog; rw [hog.2.2]; exact hz1)
        | (refine ⟨_, c, [g0], rfl, hE5, fun x hx => .inl hx, ?_⟩
           have hfin := hoi.1; rw [pcells_ins, ← Nat.add_one_mul] at hfin
           refine ⟨by rw [pcells_len (sv := 4) (fun q hq => (okIns hok hp q hq).1), List.length_append, List.length_cons, List.length_take, List.length_drop]; congr 1; omega, .inr ⟨g0, _, rfl, rfl, B5, by omega, hx0, ?_, hfin⟩⟩
           rw [hoi.2.2]; exact hz0)
    · have hin : i < n := by omega
      refine G.skip ?_
      refine N.seq ?_
      refine G.seq ?_
      refine G.seq ?_
      refine G.region ?_
      refine L.val rfl rfl (R.mv rfl) ?_
      refine L.val rfl rfl (R.mv rfl) ?_
      refine L.val rfl rfl (R.add rfl rfl (by omega)) ?_
      refine L.val rfl rfl (R.mv rfl) ?_
      refine L.val rfl rfl (R.capS rfl) ?_
      refine L.val rfl rfl (R.gtr rfl rfl) ?_
      refine L.nil ?_
      refine N.seq ?_
      refine G.condP rfl (fun h2 => ?_) (fun h2 => ?_)
      · have hgc : c < n + 1 := by omega
        refine G.seq ?_
        refine G.region ?_
        refine L.val rfl rfl (R.mv rfl) ?_
        refine L.val rfl rfl (R.mv rfl) ?_
        refine L.val rfl rfl (R.slH rfl rfl (by omega) (by omega)) ?_
        refine L.be 34 rfl (show _ = Value.slice a i c by rw [subA_zero, Int.toNat_natCast]) ?_
        refine L.val rfl rfl (R.mv rfl) ?_
        refine L.val rfl rfl (R.mv rfl) ?_
        refine L.val rfl rfl (R.add rfl rfl (by omega)) ?_
        refine L.val rfl rfl (R.mv rfl) ?_
        refine L.val rfl rfl (R.sub' rfl rfl (by omega)) ?_
        refine L.be 39 rfl (show _ = Value.int .i64 ((n + 1 - i : Nat) : Int) by congr 1; omega) ?_
        refine L.do rfl rfl (R.appZN (m := n + 1 - i) rfl rfl (ho.pre (i := i) (by omega)) (by intro u hu; simp [Value.cells] at hu; first | (rcases hu with rfl | rfl <;> rfl) | (rcases hu with rfl | rfl | rfl <;> rfl) | (rcases hu with rfl | rfl | rfl | rfl <;> rfl) | (rcases hu with rfl | rfl | rfl | rfl | rfl <;> rfl)) (by simp [maxLen]; omega) (by omega) (by decide) (by decide) (by omega)) ?_
        rintro _ w1 ⟨a1, c1, M1, rfl, e1, o1, hM1⟩
        rw [show i + (n + 1 - i) = n + 1 by omega] at o1 ⊢
        obtain ⟨g1, cur1, rfl, rfl, B1, hc1, hx1, hz1, ht1⟩ := o1.some (by omega)
        have hg1 := hM1 g1 (by simp)
        have hcu : (cur1.toList.take (i * 5)) = pcells (ps.take i) := by
          have h9 := congrArg (List.take (i * 5)) ht1
          rw [List.take_take, Nat.min_eq_left (Nat.mul_le_mul_right _ (by omega))] at h9
          refine h9.trans ?_
          show List.take (i * 5) (List.take (i * 5) (pcells ps) ++ _) = _
          rw [List.take_append_of_le_length (by rw [hps.1, hci]; exact Nat.le_refl _), List.take_take, Nat.min_self]
          exact hps.1
        have hzz : (n + 1) * 5 ≤ cur1.size := Nat.le_trans (Nat.mul_le_mul_right _ hc1) hz1
        have hog := over_grow (c1 := pcell p) (c2 := pcells (ps.drop i)) (s := 5) (K := (n - i) * 5) hcu (by omega) hl2 hcd (by omega)
        refine L.val rfl rfl (R.as rfl) ?_
        refine L.nil ?_
        refine N.seq ?_
        refine G.seq ?_
        refine G.region ?_
        refine L.val rfl rfl (R.mv rfl) ?_
        refine L.val rfl rfl (R.mv rfl) ?_
        refine L.val rfl rfl (R.slL rfl rfl (by omega) (by omega)) ?_
        refine L.be 43 rfl (show _ = Value.slice (some ⟨g1, i * 5, none⟩) (n + 1 - i) (c1 - i) by rw [Int.toNat_natCast, subA_lit (by omega), Nat.zero_add]) ?_
        refine L.val rfl rfl (R.mv rfl) ?_
        refine L.do rfl rfl (R.copyN (m := 1) rfl rfl B1 (Cv.ext0 e1) (Nat.min_eq_left (by omega)) (by rw [hl2]) (by rw [hl2]; omega) hp1) ?_
        rintro _ w2 ⟨rfl, P2⟩
        obtain ⟨e2, hs2, B2⟩ := P2
        have n2 := e1.news2 e2 hg1
        have Cd : Cells w2 (subA a i c 5) (pcells (ps.drop i)) := by
          have h9 := (ho.cells.ext0 n2).sub i c 5 ((n - i) * 5) (by rw [ho.1, show 1 + 4 = 5 from rfl, ← Nat.add_mul]; exact Nat.mul_le_mul_right _ (by omega)) (by omega)
          rw [hps.2, List.take_of_length_le (by omega)] at h9
          exact h9
        refine L.nil ?_
        refine N.seq ?_
        refine G.seq ?_
        refine G.staged [8] [.blocks ([g1])] [fun w' => Ext [] w2 w', fun w' => Ext [g1] w2 w' ∧ Blk w' g1 (Over (Over cur1 (i * 5) (pcell p)) ((i + 1) * 5) (pcells (ps.drop i))) 95 (0, 0)] [] (by decide +kernel) (by decide +kernel) rfl rfl rfl (fun _ h => h) ?_
        refine Z.val rfl rfl rfl rfl rfl (fun w3 => R.mv rfl) ?_
        refine Z.val rfl rfl rfl rfl rfl (fun w3 => R.mv rfl) ?_
        refine Z.val rfl rfl rfl rfl rfl (fun w3 => R.mv rfl) ?_
        refine Z.val rfl rfl rfl rfl rfl (fun w3 => R.add rfl rfl (by omega)) ?_
        refine Z.val rfl rfl rfl rfl rfl (fun w3 => R.slL rfl rfl (by omega) (by omega)) ?_
        refine Z.be 50 rfl (show _ = Value.slice (some ⟨g1, (i + 1) * 5, none⟩) (n - i) (c1 - (i + 1)) by rw [show ((i : Int) + ((1 : Nat) : Int)).toNat = i + 1 by omega, subA_lit (by omega), Nat.zero_add, show n + 1 - (i + 1) = n - i by omega]) ?_
        refine Z.val rfl rfl rfl rfl rfl (fun w3 => R.mv rfl) ?_
        refine Z.val rfl rfl rfl rfl rfl (fun w3 => R.mv rfl) ?_
        refine Z.val rfl rfl rfl rfl rfl (fun w3 => R.slL rfl rfl (by omega) (by omega)) ?_
        refine Z.be 53 rfl (show _ = Value.slice (subA a i c 5) (n - i) (c - i) by rw [Int.toNat_natCast]) ?_
        refine Z.put (A := fun v _ => True) (Lasts.kill (fun _ _ _ _ h => h) (by decide +kernel)) 0 (by decide +kernel) rfl rfl rfl rfl rfl rfl rfl (fun w3 hJ => (R.copyN (m := n - i) rfl rfl (B2.ext0 hJ) (Cd.ext0 hJ) (Nat.min_self _) hcd (by rw [hcd, hog.2.1]; omega) hone2).mono (fun v w9 h => by obtain ⟨_, h1, h2, h3⟩ := h; exact ⟨trivial, h1, h1.after hJ, h3⟩)) ?_
        refine Z.nil rfl rfl (fun w3 hJ => ?_)
        obtain ⟨e3, B3⟩ := hJ
        intro v54 _
        have n3 := n2.news2 e3 hg1
        refine N.seq ?_
        refine G.seq ?_
        refine G.region ?_
        refine L.val rfl rfl (R.mv rfl) ?_
        refine L.val rfl rfl (R.as rfl) ?_
        refine L.nil ?_
        refine N.seq ?_
        refine G.ret1 rfl rfl ?_
        first
          | (have e9 : pcells ps ++ pcell p = pcells (ps.take i ++ p :: ps.drop i) := by rw [← pcells_ins, List.take_of_length_le (by omega), List.drop_of_length_le (by omega)]; simp [pcells]
             rw [e9] at o1; exact ⟨a1, c1, M1, rfl, e1, hM1, o1⟩)
          | (refine ⟨_, c1, [g1], rfl, n3.mono (by simp), fun x hx => .inr (by rw [List.mem_singleton.1 hx]; exact hg1), ?_⟩
             have hfin := hog.1; rw [pcells_ins, ← Nat.add_one_mul, ← Nat.add_mul, show i + 1 + (n - i) = n + 1 by omega] at hfin
             refine ⟨by rw [pcells_len (sv := 4) (fun q hq => (okIns hok hp q hq).1), List.length_append, List.length_cons, List.length_take, List.length_drop]; congr 1; omega, .inr ⟨g1, _, rfl, rfl, B3, by omega, hx1, ?_, hfin⟩⟩
             rw [← Nat.add_one_mul] at hog; rw [hog.2.2]; exact hz1)
          | (refine ⟨_, c, [g0], rfl, hE5, fun x hx => .inl hx, ?_⟩
             have hfin := hoi.1; rw [pcells_ins, ← Nat.add_one_mul] at hfin
             refine ⟨by rw [pcells_len (sv := 4) (fun q hq => (okIns hok hp q hq).1), List.length_append, List.length_cons, List.length_take, List.length_drop]; congr 1; omega, .inr ⟨g0, _, rfl, rfl, B5, by omega, hx0, ?_, hfin⟩⟩
             rw [hoi.2.2]; exact hz0)
      · have hroom : n + 1 ≤ c := by omega
        obtain ⟨g0, cur0, rfl, rfl, B0, hc0, hx0, hz0, ht0⟩ := ho.some (by omega)
        have hzz : (n + 1) * 5 ≤ cur0.size := Nat.le_trans (Nat.mul_le_mul_right _ hroom) hz0
        have hxl : (pcells ps).length = n * 5 := ho.1
        have hoi := over_insert (s := 5) (A := i * 5) (L := n * 5) ht0 hxl (Nat.mul_le_mul_right _ (by omega)) hl2 (by omega)
        rw [hps.1, hps.2] at hoi
        have hro : i * 5 + 5 + (n - i) * 5 ≤ cur0.size := by
          have h9 : (i + 1 + (n - i)) * 5 ≤ cur0.size := by rw [show i + 1 + (n - i) = n + 1 by omega]; exact hzz
          rwa [Nat.add_mul, Nat.add_mul, Nat.one_mul] at h9
        have Cd : Cells w (some ⟨g0, i * 5, none⟩) (pcells (ps.drop i)) := Cells.of_blk B0 (i * 5) (pcells (ps.drop i)) (fun j v hj => by
          rw [← hps.2, ← ht0, List.drop_take, List.getElem?_take] at hj
          split at hj
          · simpa [List.getElem?_drop] using hj
          · cases hj)
        refine G.skip ?_
        refine N.seq ?_
        refine G.seq ?_
        refine G.region ?_
        refine L.val rfl rfl (R.mv rfl) ?_
        refine L.val rfl rfl (R.mv rfl) ?_
        refine L.val rfl rfl (R.mv rfl) ?_
        refine L.val rfl rfl (R.add rfl rfl (by omega)) ?_
        refine L.val rfl rfl (R.slH rfl rfl (by omega) (by omega)) ?_
        refine L.be 60 rfl (show _ = Value.slice (some ⟨g0, 0, none⟩) (n + 1) c by rw [subA_zero, show ((n : Int) + ((1 : Nat) : Int)).toNat = n + 1 by omega]) ?_
        refine L.val rfl rfl (R.as rfl) ?_
        refine L.nil ?_
        refine N.seq ?_
        refine G.seq ?_
        refine G.seq ?_
        refine G.region ?_
        refine L.val rfl rfl (R.mv rfl) ?_
        refine L.val rfl rfl (R.mv rfl) ?_
        refine L.val rfl rfl (R.mv rfl) ?_
        refine L.val rfl rfl (R.mv rfl) ?_
        refine L.val rfl rfl (R.add rfl rfl (by omega)) ?_
        refine L.val rfl rfl (R.slL rfl rfl (by omega) (by omega)) ?_
        refine L.be 66 rfl (show _ = Value.slice (subA (some ⟨g0, 0, none⟩) (i + 1) c 5) (n + 1 - (i + 1)) (c - (i + 1)) by rw [show ((i : Int) + ((1 : Nat) : Int)).toNat = i + 1 by omega]) ?_
        refine L.be 66 rfl (show _ = Value.slice (some ⟨g0, (i + 1) * 5, none⟩) (n - i) (c - (i + 1)) by rw [subA_lit (by omega), Nat.zero_add, show n + 1 - (i + 1) = n - i by omega]) ?_
        refine L.val rfl rfl (R.overlaps (A := (pcell p).toArray) (B := cur0) Tryz.func66 (by decide) rfl rfl rfl rfl rfl Bv B0 (by simpa using hvM) (by omega)) ?_
        refine L.val rfl rfl (R.not rfl) ?_
        refine L.nil ?_
        refine N.seq ?_
        refine G.condT rfl ?_
        refine G.seq ?_
        refine G.staged [8] [.blocks ([g0])] [fun w' => Ext [] w w', fun w' => Ext [g0] w w' ∧ Blk w' g0 (Over cur0 (i * 5 + 5) (pcells (ps.drop i))) 95 (0, 0)] [] (by decide +kernel) (by decide +kernel) rfl rfl rfl (fun _ h => h) ?_
        refine Z.val rfl rfl rfl rfl rfl (fun w1 => R.mv rfl) ?_
        refine Z.val rfl rfl rfl rfl rfl (fun w1 => R.mv rfl) ?_
        refine Z.val rfl rfl rfl rfl rfl (fun w1 => R.mv rfl) ?_
        refine Z.val rfl rfl rfl rfl rfl (fun w1 => R.add rfl rfl (by omega)) ?_
        refine Z.val rfl rfl rfl rfl rfl (fun w1 => R.slL rfl rfl (by omega) (by omega)) ?_
        refine Z.be 73 rfl (show _ = Value.slice (some ⟨g0, i * 5 + 5, none⟩) (n - i) (c - (i + 1)) by rw [show ((i : Int) + ((1 : Nat) : Int)).toNat = i + 1 by omega, subA_lit (by omega), Nat.zero_add, show n + 1 - (i + 1) = n - i by omega, Nat.add_mul]) ?_
        refine Z.val rfl rfl rfl rfl rfl (fun w1 => R.mv rfl) ?_
        refine Z.val rfl rfl rfl rfl rfl (fun w1 => R.mv rfl) ?_
        refine Z.val rfl rfl rfl rfl rfl (fun w1 => R.slL rfl rfl (by omega) (by omega)) ?_
        refine Z.be 76 rfl (show _ = Value.slice (some ⟨g0, i * 5, none⟩) (n + 1 - i) (c - i) by rw [Int.toNat_natCast, subA_lit (by omega), Nat.zero_add]) ?_
        refine Z.put (A := fun v _ => True) (Lasts.kill (fun _ _ _ _ h => h) (by decide +kernel)) 0 (by decide +kernel) rfl rfl rfl rfl rfl rfl rfl (fun w1 hJ => (R.copyN (m := n - i) rfl rfl (B0.ext0 hJ) (Cd.ext0 hJ) (Nat.min_eq_right (by omega)) hcd (by rw [hcd]; omega) hone2).mono (fun v w9 h => by obtain ⟨_, h1, h2, h3⟩ := h; exact ⟨trivial, h1, h1.after hJ, h3⟩)) ?_
        refine Z.nil rfl rfl (fun w1 hJ => ?_)
        obtain ⟨e3, B3⟩ := hJ
        intro v77 _
        have hvg : vb ≠ g0 := fun h => hvM (by rw [h]; simp)
        refine N.seq ?_
        refine G.seq ?_
        refine G.region ?_
        refine L.val rfl rfl (R.mv rfl) ?_
        refine L.val rfl rfl (R.mv rfl) ?_
        refine L.val rfl rfl (R.slL rfl rfl (by omega) (by omega)) ?_
        refine L.be 80 rfl (show _ = Value.slice (some ⟨g0, i * 5, none⟩) (n + 1 - i) (c - i) by rw [Int.toNat_natCast, subA_lit (by omega), Nat.zero_add]) ?_
        refine L.val rfl rfl (R.mv rfl) ?_
        refine L.do rfl rfl (R.copyN (m := 1) rfl rfl B3 (Cv.ext e3 (by intro q hq; cases hq; simpa using hvg)) (Nat.min_eq_left (by omega)) (by rw [hl2]) (by rw [hl2, hoi.2.1]; omega) hp1) ?_
        rintro _ w5 ⟨rfl, P5⟩
        obtain ⟨e5, hs5, B5⟩ := P5
        have hE5 := e3.transN e5 (fun x hx => .inl hx)
        refine L.nil ?_
        refine N.seq ?_
        refine G.seq ?_
        refine G.region ?_
        refine L.val rfl rfl (R.mv rfl) ?_
        refine L.val rfl rfl (R.as rfl) ?_
        refine L.nil ?_
        refine N.seq ?_
        refine G.ret1 rfl rfl ?_
        first
          | (have e9 : pcells ps ++ pcell p = pcells (ps.take i ++ p :: ps.drop i) := by rw [← pcells_ins, List.take_of_length_le (by omega), List.drop_of_length_le (by omega)]; simp [pcells]
             rw [e9] at o1; exact ⟨a1, c1, M1, rfl, e1, hM1, o1⟩)
          | (refine ⟨_, c1, [g1], rfl, n3.mono (by simp), fun x hx => .inr (by rw [List.mem_singleton.1 hx]; exact hg1), ?_⟩
             have hfin := hog.1; rw [pcells_ins, ← Nat.add_one_mul, ← Nat.add_mul, show i + 1 + (n - i) = n + 1 by omega] at hfin
             refine ⟨by rw [pcells_len (sv := 4) (fun q hq => (okIns hok hp q hq).1), List.length_append, List.length_cons, List.length_take, List.length_drop]; congr 1; omega, .inr ⟨g1, _, rfl, rfl, B3, by omega, hx1, ?_, hfin⟩⟩
             rw [← Nat.add_one_mul] at hog; rw [hog.2.2]; exact hz1)
          | (refine ⟨_, c, [g0], rfl, hE5, fun x hx => .inl hx, ?_⟩
             have hfin := hoi.1; rw [pcells_ins, ← Nat.add_one_mul] at hfin
             refine ⟨by rw [pcells_len (sv := 4) (fun q hq => (okIns hok hp q hq).1), List.length_append, List.length_cons, List.length_take, List.length_drop]; congr 1; omega, .inr ⟨g0, _, rfl, rfl, B5, by omega, hx0, ?_, hfin⟩⟩
             rw [hoi.2.2]; exact hz0)

end Go.Proofs.YtlhkpakbenghgaaGreat
/-
  Functions of the library, at bytes.
-/
set_option linter.unusedVariables false
namespace Go.Proofs.YtlhkpakbenghgaaGreat
open Go Brv
end Go.Proofs.YtlhkpakbenghgaaGreat
/-
  The walks of package order.
-/
set_option linter.unusedVariables false
set_option linter.unusedSimpArgs false
set_option maxRecDepth 4000
namespace Go.Proofs.YtlhkpakbenghgaaGreat
open Go Brv
theorem scApiUsage_ok (a : Option Addr) (n c : Nat) (xs : List Value) (w : World) (hb : Cells w a xs) (hl : n * (1 + 4) = xs.length) (hone : ∀ u ∈ xs, u.oneCell' = true) (hn : n ≤ 1000000) : Meets Tryz.prog 44 [.slice a n c] w (Cloned w 95 (1 + 4) n xs) := by
  refine Meets.enter Tryz.func44 rfl 8 rfl (Nat.le_of_ble_eq_true rfl) ?_
  refine G.seq ?_
  refine G.region ?_
  refine L.val rfl rfl (R.as rfl) ?_
  refine L.nil ?_
  refine N.seq ?_
  refine G.seq ?_
  refine G.seq ?_
  refine G.region ?_
  refine L.val rfl rfl (R.mv rfl) ?_
  refine L.val rfl rfl (R.eqNilS rfl rfl) ?_
  refine L.nil ?_
  refine N.seq ?_
  refine G.condB rfl (fun h0 => ?_) (fun h0 => ?_)
  · obtain rfl : a = none := by simpa using h0
    obtain rfl := cells_none hb
    obtain rfl : n = 0 := by simp at hl; omega
    refine G.seq ?_
    refine G.region ?_
    refine L.val rfl rfl (R.as rfl) ?_
    refine L.nil ?_
    refine N.seq ?_
    refine G.ret1 rfl rfl ?_
    exact ⟨none, 0, [], rfl, Ext.refl _ _, Own.nil _ _ _, by simp⟩
  · refine G.skip ?_
    refine N.seq ?_
    refine G.seq ?_
    refine G.region ?_
    refine L.do rfl rfl (R.buildS rfl (by decide) rfl) ?_
    rintro _ w1 ⟨b5, rfl, hb5, hs5, e1, B5⟩
    have hb := hb.ext0 e1
    have o0 := Own.blk (n := 0) (size := 1 + 4) B5 (by simp) (by simp [maxLen])
    refine L.val rfl rfl (R.mv rfl) ?_
    refine L.do rfl rfl (R.app rfl rfl o0 hb hl.symm hone (by simp [maxLen]; omega) (by omega)) ?_
    rintro _ w2 ⟨a1, c1, M1, rfl, e2, hM1, o1⟩
    refine L.val rfl rfl (R.as rfl) ?_
    refine L.nil ?_
    refine N.seq ?_
    refine G.ret1 rfl rfl ?_
    exact ⟨a1, c1, M1, by rw [Nat.zero_add] , e1.trans e2 (by simp) (by simp; omega), by simpa using o1, by intro g hg; have := hM1 g hg; have := e1.size; simp at *; omega⟩

theorem onewApiUsage_ok  (w : World) : Meets Tryz.prog 14 [] w (fun v w' => ∃ b, v = .pointer (some ⟨b, 0, none⟩) ∧ w.heap.size ≤ b ∧ Ext [] w w' ∧ MapAt (κ := Int) 91 95 4 w' b [] [b]) := by
  refine Meets.enter Tryz.func14 rfl 3 rfl (Nat.le_of_ble_eq_true rfl) ?_
  have E := Ext.refl [] w
  refine G.seq ?_
  refine G.region ?_
  refine L.val rfl rfl (R.as rfl) ?_
  refine L.nil ?_
  refine N.seq ?_
  refine G.seq ?_
  refine G.region ?_
  refine L.val rfl rfl (R.build (cs := #[.slice none 0 0]) rfl rfl) ?_
  refine L.do rfl rfl (R.box rfl) ?_
  rintro _ w1 ⟨b, rfl, hb2, hs2, e1, B2⟩
  replace E := E.trans0 e1
  refine L.val rfl rfl (R.as rfl) ?_
  refine L.nil ?_
  refine N.seq ?_
  refine G.ret1 rfl rfl ?_
  exact ⟨b, rfl, by omega, E, MapAt.mk (M := []) (by simp) B2 rfl (Own.nil _ _ _) (by intro p hp; cases hp) List.Pairwise.nil⟩

def IsPrApiUsage (TP s : Nat) (p : Pr (Int)) (v : Value) (w : World) : Prop := ∃ vb, v = .slice (some ⟨vb, 0, none⟩) 1 1 ∧ s ≤ vb ∧ Blk w vb (pcell p).toArray TP (0, 0)
theorem IsPrApiUsage.keep (TP s : Nat) (p : Pr (Int)) : ∀ v w w', Ext [] w w' → IsPrApiUsage TP s p v w → IsPrApiUsage TP s p v w' := fun _ _ _ he ⟨vb, hv, h1, h2⟩ => ⟨vb, hv, h1, h2.ext0 he⟩
theorem putApiUsage_ok (m : Nat) (ps : List (Pr (Int))) (S : List Nat) (k : Int) (u : List Value) (w : World) (hd : MapAt (κ := Int) 91 95 4 w m ps S) (hl : ps.length ≤ 999999) (hu : u.length = 4 ∧ ∀ y ∈ u, y.oneCell' = true) : Meets Tryz.prog 16 [.pointer (some ⟨m, 0, none⟩), .int .i64 k, .agg u.toArray] w (fun v w' => v = .bool (!hasK ps k) ∧ ∃ S', Grown S S' w w' ∧ MapAt (κ := Int) 91 95 4 w' m (putK ps k u) S') := by
  refine Meets.enter Tryz.func16 rfl 39 rfl (Nat.le_of_ble_eq_true rfl) ?_
  have E := Ext.refl [] w
  have hd0 := hd
  obtain ⟨a, c, M, rfl, hm0, Bm, om, hok, hs⟩ := hd
  refine G.seq ?_
  refine G.region ?_
  refine L.do rfl rfl (R.box rfl) ?_
  rintro _ w1 ⟨b5, rfl, hb5, hs5, e1, B5⟩
  replace B5 : Blk w1 b5 u.toArray 43 (0, 0) := B5
  replace E := E.trans0 e1
  replace hd0 := hd0.ext0 e1
  replace Bm := Bm.ext0 e1
  replace om := om.ext0 e1
  refine L.val rfl rfl (R.as rfl) ?_
  refine L.nil ?_
  refine N.seq ?_
  refine G.seq ?_
  refine G.seq ?_
  refine G.region ?_
  refine L.val rfl rfl (R.mv rfl) ?_
  refine L.val rfl rfl (R.eqNilP rfl rfl) ?_
  refine L.nil ?_
  refine N.seq ?_
  refine G.condF rfl ?_
  refine G.skip ?_
  refine N.seq ?_
  refine G.seq ?_
  refine G.region ?_
  refine L.val rfl rfl (R.mv rfl) ?_
  refine L.val rfl rfl (R.mv rfl) ?_
  refine L.callF rfl rfl rfl go37 (findApiUsage_ok m ps (m :: M) k _ hd0 (by omega)) ?_
  rintro _ w2 ⟨rfl, e2⟩
  replace E := E.trans0 e2
  replace B5 := B5.ext0 e2
  replace Bm := Bm.ext0 e2
  replace om := om.ext0 e2
  refine L.val rfl rfl (R.mv rfl) ?_
  refine L.val rfl rfl (R.ext rfl rfl) ?_
  refine L.val rfl rfl (R.ext rfl rfl) ?_
  refine L.val rfl rfl (R.as rfl) ?_
  refine L.val rfl rfl (R.as rfl) ?_
  refine L.nil ?_
  refine N.seq ?_
  refine G.seq ?_
  refine G.seq ?_
  refine G.region ?_
  refine L.val rfl rfl (R.mv rfl) ?_
  refine L.nil ?_
  refine N.seq ?_
  refine G.condB rfl (fun h1 => ?_) (fun h1 => ?_)
  · have hk : hasK ps k = true := h1
    have hlt := hasK_lt hk
    obtain ⟨g, cur, rfl, rfl, Bg, hnc, hcm, hcs, ht⟩ := om.some (by omega)
    have hgm : m ≠ g := fun h => hm0 (by simp [h])
    have hsz : low ps k * 5 + 5 ≤ cur.size := by
      have h9 : (low ps k + 1) * 5 ≤ c * 5 := Nat.mul_le_mul_right _ (by omega)
      rw [Nat.add_mul, Nat.one_mul] at h9
      exact Nat.le_trans h9 hcs
    refine G.seq ?_
    refine G.staged [8] [.blocks ([g])] [Ext [] w2, fun w' => Ext [g] w2 w' ∧ Blk w' g (cur.toList.take (low ps k * 5 + 1) ++ u ++ cur.toList.drop (low ps k * 5 + 1 + u.length)).toArray 95 (0, 0)] [] (by decide +kernel) (by decide +kernel) rfl rfl rfl (fun _ h => h) ?_
    refine Z.val rfl rfl rfl rfl rfl (fun w3 => R.mv rfl) ?_
    refine Z.val rfl rfl rfl rfl rfl (fun w3 => R.nilChk rfl) ?_
    refine Z.val rfl rfl rfl rfl rfl (fun w3 => R.fld rfl) ?_
    refine Z.read 0 (by decide +kernel) rfl rfl rfl rfl rfl rfl (fun w3 hJ => R.ldB rfl (Bm.ext0 hJ) rfl) ?_
    refine Z.val rfl rfl rfl rfl rfl (fun w3 => R.mv rfl) ?_
    refine Z.read 0 (by decide +kernel) rfl rfl rfl rfl rfl rfl (fun w3 hJ => R.ldBN rfl (B5.ext0 hJ) (by simpa using hu.1)) ?_
    refine Z.val rfl rfl rfl rfl rfl (fun w3 => R.idx rfl rfl (by omega) (by omega) _ rfl) ?_
    refine Z.be 24 rfl (show _ = Value.pointer (some ⟨g, low ps k * 5, none⟩) by rw [Int.toNat_natCast, Go.Addr.add_lit, Nat.zero_add]) ?_
    refine Z.val rfl rfl rfl rfl rfl (fun w3 => R.fld rfl) ?_
    refine Z.set 0 (by decide +kernel) rfl rfl rfl rfl rfl rfl (fun w3 hJ => (R.stN (vs := u.toArray) rfl rfl (Bg.ext0 hJ) (by simpa using hu.1) (by have h9 := hu.1; simp; omega) (by simpa using hu.2)).mono (fun _ h => ⟨h.1, h.1.after hJ, h.2.2⟩)) ?_
    refine Z.nil rfl rfl (fun w3 hJ => ?_)
    obtain ⟨e3, Bg3⟩ := hJ
    replace Bm := Bm.ext e3 (by simpa using hgm)
    have o2 := own_set (v := u) rfl hok hs hk hu.1 hnc hcm hcs ht Bg3
    have X := e3.after E
    refine N.seq ?_
    refine G.seq ?_
    refine G.region ?_
    refine L.val rfl rfl (R.as rfl) ?_
    refine L.nil ?_
    refine N.seq ?_
    refine G.ret1 rfl rfl ?_
    first
      | exact ⟨by rw [hk]; rfl, [m, g], ⟨X.mono (fun x hx => .inl (List.mem_cons_of_mem _ hx)), fun x hx => .inl hx⟩, MapAt.mk hm0 Bm (by rw [put_len, if_pos hk]) o2 (hok.put hu) (sorted_put hs _ _)⟩
      | exact ⟨by rw [hk]; rfl, m :: M3, ⟨X, fun x hx => (List.mem_cons.1 hx).elim (fun h => .inl (by simp [h])) (fun h => (hM3 x h).elim (fun h => .inl (List.mem_cons_of_mem _ h)) (fun h => .inr (by omega)))⟩, MapAt.mk hm3 Bm3 (by rw [put_len, if_neg (by simp [hk])]) (by rw [putK_no hk]; exact o4) (hok.put hu) (sorted_put hs _ _)⟩
  · have hk : hasK ps k = false := h1
    have hio := low_le ps k
    have hMl := om.lt
    have hml := Bm.lt
    have hE2 := E.size
    have hsz2 : (pcell ((k, u) : Pr (Int))).length = 5 := by show u.length + 1 = _; rw [hu.1]
    refine G.skip ?_
    refine N.seq ?_
    refine G.seq ?_
    refine G.staged [10, 13] [.blocks (M), .blocks ([m])] [Ext [] w2, Ext M w2, fun w' => ∃ a3 c3 M3, Blk w' m #[.slice a3 (ps.length + 1) c3] 91 (0, 0) ∧ Own w' 95 (1 + 4) a3 (ps.length + 1) c3 (pcells (ps.take (low ps k) ++ ((k, u) : Pr (Int)) :: ps.drop (low ps k))) M3 ∧ (∀ g ∈ M3, g ∈ M ∨ w2.heap.size ≤ g) ∧ Ext (m :: M) w2 w'] [(10, 35), (13, 35), (13, 36)] (by decide +kernel) (by decide +kernel) rfl rfl rfl (fun _ h => h) ?_
    refine Z.val rfl rfl rfl rfl rfl (fun w3 => R.mv rfl) ?_
    refine Z.val rfl rfl rfl rfl rfl (fun w3 => R.mv rfl) ?_
    refine Z.val rfl rfl rfl rfl rfl (fun w3 => R.nilChk rfl) ?_
    refine Z.val rfl rfl rfl rfl rfl (fun w3 => R.fld rfl) ?_
    refine Z.read 0 (by decide +kernel) rfl rfl rfl rfl rfl rfl (fun w3 hJ => R.ldB rfl (Bm.ext0 hJ) rfl) ?_
    refine Z.val rfl rfl rfl rfl rfl (fun w3 => R.mv rfl) ?_
    refine Z.val rfl rfl rfl rfl rfl (fun w3 => R.mv rfl) ?_
    refine Z.read 0 (by decide +kernel) rfl rfl rfl rfl rfl rfl (fun w3 hJ => R.ldBN rfl (B5.ext0 hJ) (by simpa using hu.1)) ?_
    refine Z.val rfl rfl rfl rfl rfl (fun w3 => R.build (cs := (pcell ((k, u) : Pr (Int))).toArray) rfl (fill_two rfl rfl rfl (by simpa using hu.1) rfl)) ?_
    refine Z.new (A := IsPrApiUsage 95 w2.heap.size ((k, u) : Pr (Int))) (Lasts.kill (IsPrApiUsage.keep _ _ _) (by decide +kernel)) 0 (by decide +kernel) rfl rfl rfl rfl rfl (fun w3 hJ => (R.buildA rfl rfl rfl rfl (by show (Nat.beq (pcell ((k, u) : Pr (Int))).toArray.size 5 && true) = true; rw [List.size_toArray, hsz2]; rfl)).mono (fun v w1 h => by obtain ⟨g9, rfl, h91, _, e9, B9⟩ := h; exact ⟨⟨g9, rfl, by have := hJ.size; omega, by simpa [cellsOf, Value.cells] using B9⟩, e9, hJ.trans0 e9⟩)) ?_
    refine Z.callPut (A := Held M w2.heap.size 95 (1 + 4) (ps.length + 1) (pcells (ps.take (low ps k) ++ ((k, u) : Pr (Int)) :: ps.drop (low ps k)))) (Lasts.kill (Held.keep _ _ _ _ _ _) (by decide +kernel)) 0 (by decide +kernel) rfl rfl rfl rfl rfl rfl go38 (fun w3 hJ => fun v hv => by obtain ⟨vb, rfl, hvb, Bv⟩ := hv; exact ⟨_, rfl, (insApiUsage_ok a ps.length c ps M (low ps k) ((k, u) : Pr (Int)) vb _ (om.ext0 hJ) rfl hok hio hu Bv (fun h => by have := hMl vb h; omega) (by omega)).mono (fun v w9 h => by obtain ⟨a3, c3, M3, rfl, e9, hM3, o3⟩ := h; exact ⟨⟨a3, c3, M3, rfl, o3, fun g hg => (hM3 g hg).imp id (Nat.le_trans hJ.size)⟩, e9, e9.after hJ⟩)⟩) ?_
    refine Z.val rfl rfl rfl rfl rfl (fun w3 => R.nilChk rfl) ?_
    refine Z.val rfl rfl rfl rfl rfl (fun w3 => R.fld rfl) ?_
    refine Z.set 1 (by decide +kernel) rfl rfl rfl rfl rfl rfl (fun w3 hJ => fun v hv => (R.st rfl rfl (Bm.ext hJ hm0) (by show 0 < 1; decide) (by obtain ⟨_, _, _, rfl, _⟩ := hv; rfl)).mono (fun _ h => ⟨h.1, by obtain ⟨a3, c3, M3, rfl, o3, hM3⟩ := hv; exact ⟨a3, c3, M3, h.2.2, o3.ext h.1 (fun g hg hm => (hM3 g hg).elim (fun h9 => hm0 (by rw [← List.mem_singleton.1 hm]; exact h9)) (fun h9 => by rw [List.mem_singleton.1 hm] at h9; omega)), hM3, (hJ.mono (fun y hy => .inl (List.mem_cons_of_mem _ hy))).transN h.1 (fun y hy => .inl (by rw [List.mem_singleton.1 hy]; simp))⟩⟩)) ?_
    refine Z.nil rfl rfl (fun w3 hJ => ?_)
    obtain ⟨a3, c3, M3, Bm3, o4, hM3, X0⟩ := hJ
    have X := X0.after E
    have hm3 : m ∉ M3 := fun h => (hM3 m h).elim hm0 (by omega)
    refine N.seq ?_
    refine G.seq ?_
    refine G.region ?_
    refine L.val rfl rfl (R.as rfl) ?_
    refine L.nil ?_
    refine N.seq ?_
    refine G.ret1 rfl rfl ?_
    first
      | exact ⟨by rw [hk]; rfl, [m, g], ⟨X.mono (fun x hx => .inl (List.mem_cons_of_mem _ hx)), fun x hx => .inl hx⟩, MapAt.mk hm0 Bm (by rw [put_len, if_pos hk]) o2 (hok.put hu) (sorted_put hs _ _)⟩
      | exact ⟨by rw [hk]; rfl, m :: M3, ⟨X, fun x hx => (List.mem_cons.1 hx).elim (fun h => .inl (by simp [h])) (fun h => (hM3 x h).elim (fun h => .inl (List.mem_cons_of_mem _ h)) (fun h => .inr (by omega)))⟩, MapAt.mk hm3 Bm3 (by rw [put_len, if_neg (by simp [hk])]) (by rw [putK_no hk]; exact o4) (hok.put hu) (sorted_put hs _ _)⟩

theorem getApiUsage_ok (m : Nat) (ps : List (Pr (Int))) (S : List Nat) (k : Int) (w : World) (hd : MapAt (κ := Int) 91 95 4 w m ps S) (hl : ps.length ≤ 999999) : Meets Tryz.prog 15 [.pointer (some ⟨m, 0, none⟩), .int .i64 k] w (fun v w' => v = .tuple #[gvA (.agg #[.int .i64 0, .int .i64 0, .int .i64 0, .int .i64 0]) (getK ps k), .bool (hasK ps k)] ∧ Ext [] w w') := by
  refine Meets.enter Tryz.func15 rfl 29 rfl (Nat.le_of_ble_eq_true rfl) ?_
  have E := Ext.refl [] w
  have hd0 := hd
  obtain ⟨a, c, M, rfl, hm0, Bm, om, hok, hs⟩ := hd
  refine G.seq ?_
  refine G.region ?_
  refine L.do rfl rfl (R.alloc) ?_
  rintro _ w1 ⟨b4, rfl, hb4, hs4, e1, B4⟩
  replace B4 : Blk w1 b4 #[.int .i64 0, .int .i64 0, .int .i64 0, .int .i64 0] 43 (0, 0) := B4
  replace E := E.trans0 e1
  replace hd0 := hd0.ext0 e1
  replace Bm := Bm.ext0 e1
  replace om := om.ext0 e1
  refine L.val rfl rfl (R.as rfl) ?_
  refine L.nil ?_
  refine N.seq ?_
  refine G.seq ?_
  refine G.region ?_
  refine L.do rfl rfl (R.alloc) ?_
  rintro _ w2 ⟨b6, rfl, hb6, hs6, e2, B6⟩
  replace B6 : Blk w2 b6 #[.int .i64 0, .int .i64 0, .int .i64 0, .int .i64 0] 43 (0, 0) := B6
  replace E := E.trans0 e2
  replace hd0 := hd0.ext0 e2
  replace Bm := Bm.ext0 e2
  replace om := om.ext0 e2
  replace B4 := B4.ext0 e2
  refine L.nil ?_
  refine N.seq ?_
  refine G.seq ?_
  refine G.seq ?_
  refine G.region ?_
  refine L.val rfl rfl (R.mv rfl) ?_
  refine L.val rfl rfl (R.eqNilP rfl rfl) ?_
  refine L.nil ?_
  refine N.seq ?_
  refine G.condF rfl ?_
  refine G.skip ?_
  refine N.seq ?_
  refine G.seq ?_
  refine G.region ?_
  refine L.val rfl rfl (R.mv rfl) ?_
  refine L.val rfl rfl (R.mv rfl) ?_
  refine L.callF rfl rfl rfl go37 (findApiUsage_ok m ps (m :: M) k _ hd0 (by omega)) ?_
  rintro _ w3 ⟨rfl, e3⟩
  replace E := E.trans0 e3
  have l4 := B4.lt
  have hE3 := E.size
  replace Bm := Bm.ext0 e3
  replace om := om.ext0 e3
  replace B4 := B4.ext0 e3
  replace B6 := B6.ext0 e3
  refine L.val rfl rfl (R.mv rfl) ?_
  refine L.val rfl rfl (R.ext rfl rfl) ?_
  refine L.val rfl rfl (R.ext rfl rfl) ?_
  refine L.val rfl rfl (R.as rfl) ?_
  refine L.val rfl rfl (R.as rfl) ?_
  refine L.nil ?_
  refine N.seq ?_
  refine G.seq ?_
  refine G.seq ?_
  refine G.region ?_
  refine L.val rfl rfl (R.mv rfl) ?_
  refine L.val rfl rfl (R.not rfl) ?_
  refine L.nil ?_
  refine N.seq ?_
  refine G.condB rfl (fun h1 => ?_) (fun h1 => ?_)
  · have hk : hasK ps k = false := by simpa using h1
    have hsz4 : (#[.int .i64 0, .int .i64 0, .int .i64 0, .int .i64 0] : Array Value).size = 4 := rfl
    refine G.seq ?_
    refine G.region ?_
    refine L.val rfl rfl (R.ldBN rfl B6 rfl) ?_
    refine L.set rfl (R.stN rfl rfl B4 rfl (Nat.le_refl 4) (by intro y hy; simp at hy; first | (subst hy; rfl) | (rcases hy with rfl | rfl <;> rfl) | (rcases hy with rfl | rfl | rfl <;> rfl) | (rcases hy with rfl | rfl | rfl | rfl <;> rfl) | (rcases hy with rfl | rfl | rfl | rfl | rfl <;> rfl))) ?_
    rintro w5 ⟨e5, hs5, B4⟩
    replace B4 : Blk w5 b4 #[.int .i64 0, .int .i64 0, .int .i64 0, .int .i64 0] 43 (0, 0) := B4
    replace E := E.trans e5 (M := []) (by simp) (by intro y hy; rw [List.mem_singleton.1 hy]; exact .inr (by omega))
    refine L.val rfl rfl (R.as rfl) ?_
    refine L.nil ?_
    refine N.seq ?_
    refine G.retCT (s := 4) rfl rfl rfl B4 hsz4 ?_
    first
      | (rw [getK_no hk, hk]; exact ⟨rfl, E⟩)
      | (rw [getK_yes hk hp, hk]; exact ⟨rfl, E⟩)
  · have hk : hasK ps k = true := by simpa using h1
    have hlt := hasK_lt hk
    obtain ⟨g, cur, rfl, rfl, Bg, hnc, hcm, hcs, ht⟩ := om.some (by omega)
    have hgm : m ≠ g := fun h => hm0 (by simp [h])
    have hsz : low ps k * 5 + 5 ≤ cur.size := by
      have h9 : (low ps k + 1) * 5 ≤ c * 5 := Nat.mul_le_mul_right _ (by omega)
      rw [Nat.add_mul, Nat.one_mul] at h9
      exact Nat.le_trans h9 hcs
    obtain ⟨p, hp⟩ : ∃ p, ps[low ps k]? = some p := ⟨_, List.getElem?_eq_getElem hlt⟩
    have hpl := hok p (List.mem_of_getElem? hp)
    have hsz4 : p.2.toArray.size = 4 := by simpa using hpl.1
    refine G.skip ?_
    refine N.seq ?_
    refine G.seq ?_
    refine G.region ?_
    refine L.val rfl rfl (R.mv rfl) ?_
    refine L.val rfl rfl (R.nilChk rfl) ?_
    refine L.val rfl rfl (R.fld rfl) ?_
    refine L.val rfl rfl (R.ldB rfl Bm rfl) ?_
    refine L.val rfl rfl (R.mv rfl) ?_
    refine L.val rfl rfl (R.idx rfl rfl (by omega) (by omega) _ rfl) ?_
    refine L.be 26 rfl (show _ = Value.pointer (some ⟨g, low ps k * 5, none⟩) by rw [Int.toNat_natCast, Go.Addr.add_lit, Nat.zero_add]) ?_
    refine L.val rfl rfl (R.fld rfl) ?_
    refine L.val rfl rfl (R.ldN (vs := p.2) rfl (Cells.of_blk Bg (low ps k * 5 + 1) p.2 (fun j v hj => by rw [Nat.add_assoc]; exact row_at ht hok hp (by show (Key.val p.1 :: p.2)[1 + j]? = some v; rw [Nat.add_comm 1 j]; exact hj))) hpl.1) ?_
    refine L.set rfl (R.stN (vs := p.2.toArray) rfl rfl B4 hsz4 (by show 0 + p.2.toArray.size ≤ 4; omega) (by simpa using hpl.2)) ?_
    rintro w5 ⟨e5, hs5, B4⟩
    rw [over_all (show (#[.int .i64 0, .int .i64 0, .int .i64 0, .int .i64 0] : Array Value).size = p.2.toArray.size from hsz4.symm)] at B4
    replace E := E.trans e5 (M := []) (by simp) (by intro y hy; rw [List.mem_singleton.1 hy]; exact .inr (by omega))
    refine L.val rfl rfl (R.as rfl) ?_
    refine L.nil ?_
    refine N.seq ?_
    refine G.retCT (s := 4) rfl rfl rfl B4 hsz4 ?_
    first
      | (rw [getK_no hk, hk]; exact ⟨rfl, E⟩)
      | (rw [getK_yes hk hp, hk]; exact ⟨rfl, E⟩)

end Go.Proofs.YtlhkpakbenghgaaGreat
/-
  The walks of package order.
-/
set_option linter.unusedVariables false
set_option linter.unusedSimpArgs false
set_option maxRecDepth 4000
namespace Go.Proofs.YtlhkpakbenghgaaGreat
open Go Brv
theorem pallApiUsage_ok (a : Option Addr) (n c : Nat) (w : World) : Meets Tryz.prog 43 [.slice a n c] w (fun v w' => ∃ b0, v = .func (.func 72) #[] #[.pointer (some ⟨b0, 0, none⟩)] ∧ Ext [] w w' ∧ Blk w' b0 #[.slice a n c] 89 (0, 0) ∧ w.heap.size ≤ b0) := by
  refine Meets.enter Tryz.func43 rfl 4 rfl (Nat.le_of_ble_eq_true rfl) ?_
  have E := Ext.refl [] w
  refine G.seq ?_
  refine G.region ?_
  refine L.do rfl rfl (R.box rfl) ?_
  rintro _ w1 ⟨b0, rfl, hb1, hs1, e1, B1⟩
  replace E := E.trans0 e1
  refine L.val rfl rfl (R.as rfl) ?_
  refine L.nil ?_
  refine N.seq ?_
  refine G.seq ?_
  refine G.region ?_
  refine L.val rfl rfl (R.mkFunc rfl rfl) ?_
  refine L.val rfl rfl (R.as rfl) ?_
  refine L.nil ?_
  refine N.seq ?_
  refine G.ret1 rfl rfl ?_
  exact ⟨b0, rfl, E, B1, by omega⟩

theorem pall1ApiUsage_ok (y : Value) (b0 : Nat) (a : Option Addr) (n c : Nat) (ps : List (Pr (Int))) (Ma : List Nat) (D₀ : List Nat) (J Jx : Nat → List Nat → World → Prop) (w : World) (hB0 : Blk w b0 #[.slice a n c] 89 (0, 0)) (ho : Own w 95 (1 + 4) a n c (pcells ps) Ma) (hn : n = ps.length) (hok : OkP 4 ps) (hnl : n ≤ 1000000) (hD : ∀ g ∈ D₀, g < w.heap.size ∧ g ∉ b0 :: Ma ∧ g ∉ ([] : List Nat)) (hJ : ∀ k D W₁ W₂ M', J k D W₁ → Ext M' W₁ W₂ → (∀ g ∈ M', g ∉ D ∧ (g ∈ ([] : List Nat) ∨ w.heap.size ≤ g)) → J k D W₂) (hJx : ∀ k D W₁ W₂ M', Jx k D W₁ → Ext M' W₁ W₂ → (∀ g ∈ M', g ∉ D ∧ (g ∈ ([] : List Nat) ∨ w.heap.size ≤ g)) → Jx k D W₂) (hY : ∀ k D vs W₁, k < n → J k D W₁ → prE (fun k => ps[k]?) k vs W₁ → (∀ g ∈ D, g < W₁.heap.size) → YCall Tryz.prog y vs W₁ fun b W₂ => ∃ D', Ext D W₁ W₂ ∧ (∀ g ∈ D', g < W₂.heap.size ∧ (g ∈ D ∨ W₁.heap.size ≤ g)) ∧ (b = true → J (k + 1) D' W₂) ∧ (b = false → Jx (k + 1) D' W₂)) (h0 : J 0 D₀ w) : Meets Tryz.prog 72 [y, .pointer (some ⟨b0, 0, none⟩)] w (fun _ W₂ => (∃ D, J n D W₂ ∧ True) ∨ ∃ k D, k ≤ n ∧ Jx k D W₂ ∧ True) := by
  refine Meets.enter Tryz.func72 rfl 18 rfl (Nat.le_of_ble_eq_true rfl) ?_
  have hb0D : b0 ∉ D₀ := fun h => (hD _ h).2.1 (by simp)
  have hMD : ∀ g ∈ Ma, g ∉ D₀ := fun g hg h => (hD _ h).2.1 (by simp [hg])
  refine G.seq ?_
  refine G.region ?_
  refine L.val rfl rfl (R.ldB rfl hB0 rfl) ?_
  refine L.val rfl rfl (R.lenS rfl) ?_
  refine L.val rfl rfl (R.mv rfl) ?_
  refine L.nil ?_
  refine N.seq ?_
  refine G.block ?_
  refine G.loop (X := Nat) (fun i => [(0, y), (5, .slice a n c), (6, .int .i64 (n : Int)), (7, .int .i64 (i : Int))]) (fun i w' => i ≤ n ∧ (∃ D, J i D w' ∧ ∀ g ∈ D, g < w'.heap.size ∧ (g ∈ D₀ ∨ w.heap.size ≤ g)) ∧ Ext D₀ w w') (fun i => n - i) (0) (Sub.cons rfl (Sub.cons rfl (Sub.cons rfl (Sub.cons rfl (Sub.nil _))))) ⟨Nat.zero_le _, ⟨D₀, h0, fun g hg => ⟨(hD g hg).1, .inl hg⟩⟩, Ext.refl _ _⟩ ?_
  rintro i w1 ⟨hi, ⟨D, hJi, hDD⟩, e1⟩
  have ho1 := ho.ext e1 hMD
  have B0 := hB0.ext e1 hb0D
  refine G.seq ?_
  refine G.region ?_
  refine L.val rfl rfl (R.lss rfl rfl) ?_
  refine L.nil ?_
  refine N.seq ?_
  refine G.seq ?_
  refine G.condP rfl (fun h0 => ?_) (fun h0 => ?_)
  · have hil : i < n := by omega
    have hes := e1.size
    obtain ⟨p, hp⟩ : ∃ p, ps[i]? = some p := ⟨_, List.getElem?_eq_getElem (by omega)⟩
    obtain ⟨q, hq, hcl⟩ := (Tab.pairs ho1.cells hn hok).at (by decide) i (by rw [List.length_map]; omega)
    have he : (ps.map pcell)[i]'(by rw [List.length_map]; omega) = pcell p := by rw [List.getElem_map]; exact congrArg pcell (List.getElem?_eq_some_iff.1 hp).2
    rw [he] at hcl
    have hsz : (pcell p).length = 5 := by show p.2.length + 1 = _; rw [(hok p (List.mem_of_getElem? hp)).1]
    have hsA : (pcell p).toArray.size = 5 := by rw [List.size_toArray]; exact hsz
    have h1c : ∀ u ∈ (pcell p).toArray.toList, u.oneCell' = true := pcell1 (hok p (List.mem_of_getElem? hp)).2
    refine G.skip ?_
    refine N.seq ?_
    refine G.seq ?_
    refine G.block ?_
    refine G.seq ?_
    refine G.region ?_
    refine L.val rfl rfl (R.mv rfl) ?_
    refine L.val rfl rfl (R.idx rfl rfl (by omega) (by omega) q hq) ?_
    refine L.val rfl rfl (R.ldN (vs := pcell p) rfl hcl hsz) ?_
    refine L.do rfl rfl (R.alloc) ?_
    rintro _ w2 ⟨b4, rfl, hb4, hs4, e2, B4⟩
    have hDb : ∀ g ∈ D, g < b4 := fun g hg => by have := (hDD g hg).1; omega
    replace B4 : Blk w2 b4 (.agg #[.int .i64 0, .int .i64 0, .int .i64 0, .int .i64 0, .int .i64 0] : Value).cells 95 (0, 0) := B4
    replace hJi := hJ _ D w1 w2 [] hJi e2 (by simp)
    replace hDD := fun g hg => And.intro (Nat.lt_of_lt_of_le (hDD g hg).1 e2.size) (hDD g hg).2
    replace e1 := e1.trans0 e2
    have hws := e1.size
    refine L.val rfl rfl (R.as rfl) ?_
    refine L.set rfl (R.stN rfl rfl B4 hsA (by show 0 + (pcell p).toArray.size ≤ 5; omega) h1c) ?_
    rintro w3 ⟨e3, hs3, B4⟩
    rw [over_all (show (.agg #[.int .i64 0, .int .i64 0, .int .i64 0, .int .i64 0, .int .i64 0] : Value).cells.size = (pcell p).toArray.size from hsA.symm)] at B4
    replace hJi := hJ _ D w2 w3 [b4] hJi e3 (fun g hg => by rw [List.mem_singleton.1 hg]; exact ⟨fun h => by have := hDb _ h; omega, .inr (by omega)⟩)
    replace hDD := fun g hg => And.intro (Nat.lt_of_lt_of_le (hDD g hg).1 e3.size) (hDD g hg).2
    replace e1 := e1.transN e3 (fun g hg => .inr (by rw [List.mem_singleton.1 hg]; omega))
    refine L.nil ?_
    refine N.seq ?_
    refine G.seq ?_
    refine G.region ?_
    refine L.val rfl rfl (R.mv rfl) ?_
    refine L.val rfl rfl (R.mv rfl) ?_
    refine L.val rfl rfl (R.ldBN rfl B4 hsA) ?_
    refine L.ycall rfl rfl rfl rfl (hY i D _ _ hil hJi ⟨p, _, hp, rfl⟩ (fun g hg => (hDD g hg).1)) ?_
    rintro bb w4 ⟨D2, eD, hD2, hT, hF⟩
    refine L.val rfl rfl (R.not rfl) ?_
    refine L.nil ?_
    refine N.seq ?_
    refine G.condB rfl (fun h1 => ?_) (fun h1 => ?_)
    · obtain rfl : bb = false := by simpa using h1
      refine G.ret0 rfl ?_
      exact .inr ⟨i + 1, D2, by omega, hF rfl, trivial⟩
    · obtain rfl : bb = true := by simpa using h1
      refine G.skip ?_
      refine N.block ?_
      refine N.seq ?_
      refine G.region ?_
      refine L.val rfl rfl (R.add rfl rfl (by omega)) ?_
      refine L.val rfl rfl (R.mv rfl) ?_
      refine L.nil ?_
      exact N.again (i + 1) (by omega) (Sub.cons rfl (Sub.cons rfl (Sub.cons rfl (Sub.cons rfl (Sub.nil _))))) ⟨by omega, ⟨D2, hT rfl, fun g hg => ⟨(hD2 g hg).1, (hD2 g hg).2.elim (fun h => (hDD g h).2) (fun h => .inr (Nat.le_trans e1.size h))⟩⟩, e1.transN eD (fun g hg => (hDD g hg).2)⟩
  · refine G.exit _ rfl ?_
    refine N.end0 rfl ?_
    obtain rfl : i = n := by omega
    exact .inl ⟨D, hJi, trivial⟩

theorem pallApiUsage_iter (b0 : Nat) (a : Option Addr) (n c : Nat) (ps : List (Pr (Int))) (Ma : List Nat) (w : World) (hB0 : Blk w b0 #[.slice a n c] 89 (0, 0)) (ho : Own w 95 (1 + 4) a n c (pcells ps) Ma) (hn : n = ps.length) (hok : OkP 4 ps) (hnl : n ≤ 1000000) : Iter Tryz.prog 72 [.pointer (some ⟨b0, 0, none⟩)] w n (prE (fun k => ps[k]?)) (fun _ _ => True) (b0 :: Ma) [] := by
  intro y D₀ J Jx W hE hD hJ hJx hY h0
  exact pall1ApiUsage_ok y b0 a n c ps Ma D₀ J Jx W (hB0.ext0 hE) (ho.ext0 hE) hn hok hnl hD (fun k D W₁ W₂ M' h he hm => hJ k D W₁ W₂ M' h he (fun g hg => ⟨(hm g hg).1, (hm g hg).2.imp id (Nat.le_trans hE.size)⟩)) (fun k D W₁ W₂ M' h he hm => hJx k D W₁ W₂ M' h he (fun g hg => ⟨(hm g hg).1, (hm g hg).2.imp id (Nat.le_trans hE.size)⟩)) hY h0

theorem walkApiUsage_ok (gf : FuncId) (lb : List Value) (w : World) : Meets Tryz.prog 42 [.func (.func gf) #[] lb.toArray] w (fun v w' => ∃ b1, v = .func (.func 71) #[] #[.pointer (some ⟨b1, 0, none⟩)] ∧ Ext [] w w' ∧ Blk w' b1 #[.func (.func gf) #[] lb.toArray] 104 (0, 0) ∧ w.heap.size ≤ b1) := by
  refine Meets.enter Tryz.func42 rfl 4 rfl (Nat.le_of_ble_eq_true rfl) ?_
  have E := Ext.refl [] w
  refine G.seq ?_
  refine G.region ?_
  refine L.do rfl rfl (R.box rfl) ?_
  rintro _ w1 ⟨b1, rfl, hb1, hs1, e1, B1⟩
  replace E := E.trans0 e1
  refine L.val rfl rfl (R.as rfl) ?_
  refine L.nil ?_
  refine N.seq ?_
  refine G.seq ?_
  refine G.region ?_
  refine L.val rfl rfl (R.mkFunc rfl rfl) ?_
  refine L.val rfl rfl (R.as rfl) ?_
  refine L.nil ?_
  refine N.seq ?_
  refine G.ret1 rfl rfl ?_
  exact ⟨b1, rfl, E, B1, by omega⟩

theorem walk1ApiUsage_ok (y : Value) (b1 : Nat) (gf : FuncId) (lb : List Value) (Nn : Nat) (q : Nat → Option (Pr (Int))) (F : List Nat) (D₀ : List Nat) (J Jx : Nat → List Nat → World → Prop) (w : World) (hB1 : Blk w b1 #[.func (.func gf) #[] lb.toArray] 104 (0, 0)) (eg : ∀ (vs : Array Value) w, (callFunc gf vs).run Tryz.prog w = .ok (.enter gf vs) w) (hit : ∀ W, Ext [] w W → Iter Tryz.prog gf lb W Nn (prE q) (fun _ _ => True) F []) (hF : ∀ x ∈ F, x < w.heap.size) (hq : ∀ k (p : Pr (Int)), q k = some p → p.2.length = 4 ∧ ∀ u ∈ p.2, u.oneCell' = true) (hD : ∀ g ∈ D₀, g < w.heap.size ∧ g ∉ b1 :: F ∧ g ∉ ([] : List Nat)) (hJ : ∀ k D W₁ W₂ M', J k D W₁ → Ext M' W₁ W₂ → (∀ g ∈ M', g ∉ D ∧ (g ∈ ([] : List Nat) ∨ w.heap.size ≤ g)) → J k D W₂) (hJx : ∀ k D W₁ W₂ M', Jx k D W₁ → Ext M' W₁ W₂ → (∀ g ∈ M', g ∉ D ∧ (g ∈ ([] : List Nat) ∨ w.heap.size ≤ g)) → Jx k D W₂) (hY : ∀ k D vs W₁, k < Nn → J k D W₁ → (kvE (fun l => Value.agg l.toArray) q) k vs W₁ → (∀ g ∈ D, g < W₁.heap.size) → YCall Tryz.prog y vs W₁ fun b W₂ => ∃ D', Ext D W₁ W₂ ∧ (∀ g ∈ D', g < W₂.heap.size ∧ (g ∈ D ∨ W₁.heap.size ≤ g)) ∧ (b = true → J (k + 1) D' W₂) ∧ (b = false → Jx (k + 1) D' W₂)) (h0 : J 0 D₀ w) : Meets Tryz.prog 71 [y, .pointer (some ⟨b1, 0, none⟩)] w (fun _ W₂ => (∃ D, J Nn D W₂ ∧ True) ∨ ∃ k D, k ≤ Nn ∧ Jx k D W₂ ∧ True) := by
  refine Meets.enter Tryz.func71 rfl 15 rfl (Nat.le_of_ble_eq_true rfl) ?_
  refine G.seq ?_
  refine G.region ?_
  refine L.do rfl rfl (R.box rfl) ?_
  rintro _ w1 ⟨b2, rfl, hb2, hs2, e1, B2⟩
  have hw1 := e1.size
  refine L.nil ?_
  refine N.seq ?_
  refine G.seq ?_
  refine G.region ?_
  refine L.val rfl rfl (R.ldB rfl (hB1.ext0 e1) rfl) ?_
  refine L.nil ?_
  refine N.seq ?_
  refine G.block ?_
  have hD0 : ∀ g ∈ b2 :: D₀, g < w1.heap.size ∧ g ∉ F ∧ g ∉ ([] : List Nat) := by
    intro g hg
    rcases List.mem_cons.1 hg with rfl | hg
    · exact ⟨by omega, fun h => by have := hF _ h; omega, by simp⟩
    · exact ⟨Nat.lt_of_lt_of_le (hD g hg).1 hw1, fun h => (hD g hg).2.1 (List.mem_cons_of_mem _ h), by simp⟩
  have hI0 : wkI J b2 54 y 0 (b2 :: D₀) w1 := ⟨D₀, rfl, fun h => by have := (hD _ h).1; omega, hJ 0 D₀ w w1 [] h0 e1 (by simp), B2⟩
  refine G.range (lb := lb) rfl rfl eg (hit _ e1) (fun _ _ _ h _ => h) (b2 :: D₀) hD0 (fun x h => h.elim (fun h => Nat.lt_of_lt_of_le (hF x h) hw1) (by simp)) (wkI J b2 54 y) (wkX Jx b2) ?_ ?_ hI0 ?_ ?_ ?_
  · rintro k DD W1 W2 M2 ⟨D, rfl, hn2, hj, hb⟩ he hm
    exact ⟨D, rfl, hn2, hJ k D W1 W2 M2 hj he (fun g hg => ⟨fun h => (hm g hg).1 (List.mem_cons_of_mem _ h), (hm g hg).2.imp id (Nat.le_trans hw1)⟩), hb.ext he (fun h => (hm _ h).1 (by simp))⟩
  · rintro c k DD W1 W2 M2 ⟨hc, D, rfl, hn2, hj⟩ he hm
    exact ⟨hc, D, rfl, hn2, hJx k D W1 W2 M2 hj he (fun g hg => ⟨fun h => (hm g hg).1 (List.mem_cons_of_mem _ h), (hm g hg).2.imp id (Nat.le_trans hw1)⟩)⟩
  · rintro l k DD vs W1 hl2 hlt hlD hDl hk ⟨D, rfl, hn2, hj, B2⟩ ⟨p, v0, hp, rfl⟩
    refine ⟨rfl, ?_⟩
    refine G.sub [(7, .agg (pcell p).toArray), (2, .pointer (some ⟨b2, 0, none⟩))] (Sub.cons rfl (Sub.cons rfl (Sub.nil _))) ?_
    have hpl := hq k p hp
    have hsz : (pcell p).length = 5 := by show p.2.length + 1 = _; rw [hpl.1]
    have hsA : (pcell p).toArray.size = 5 := by rw [List.size_toArray]; exact hsz
    have h1c : ∀ u ∈ (pcell p).toArray.toList, u.oneCell' = true := pcell1 hpl.2
    have l2 := B2.lt
    refine G.region ?_
    refine L.do rfl rfl (R.alloc) ?_
    rintro _ w2 ⟨b4, rfl, hb4, hs4, e2, B4⟩
    replace B4 : Blk w2 b4 (.agg #[.int .i64 0, .int .i64 0, .int .i64 0, .int .i64 0, .int .i64 0] : Value).cells 95 (0, 0) := B4
    refine L.set rfl (R.stN rfl rfl B4 hsA (by show 0 + (pcell p).toArray.size ≤ 5; omega) h1c) ?_
    rintro w3 ⟨e3, hs3, B4⟩
    rw [over_all (show (.agg #[.int .i64 0, .int .i64 0, .int .i64 0, .int .i64 0, .int .i64 0] : Value).cells.size = (pcell p).toArray.size from hsA.symm)] at B4
    have hEW := e2.news2 e3 (by omega)
    refine L.nil ?_
    refine N.round (hEW) (fun wb hb1 hb2 => ?_)
    replace B4 := B4.still hb2
    replace B2 := (B2.ext0 hEW).still hb2
    have hjw := hJ k D _ wb [l] (hJ k D W1 _ [] hj hEW (by simp)) hb1 (fun g hg => by rw [List.mem_singleton.1 hg]; exact ⟨fun h => hlD (List.mem_cons_of_mem _ h), .inr (by omega)⟩)
    have hDw : ∀ g ∈ D, g < wb.heap.size := fun g hg => Nat.lt_of_lt_of_le (hDl g (List.mem_cons_of_mem _ hg)) (Nat.le_trans hEW.size hb1.size)
    have l2b := B2.lt
    have hyc := hY k D [.int .i64 p.1, .agg p.2.toArray] wb hk hjw ⟨p, hp, rfl⟩ hDw
    have hcy : y.cells = #[y] := by rcases hyc with ⟨l9, rfl, _⟩ | ⟨f9, u9, c9, rfl, _⟩ <;> rfl
    rw [hcy] at B2
    refine G.block ?_
    refine G.seq ?_
    refine G.region ?_
    refine L.val rfl rfl (R.ldB rfl B2 rfl) ?_
    refine L.val rfl rfl (R.fld rfl) ?_
    refine L.val rfl rfl (R.ldB (v := .int .i64 p.1) rfl B4 rfl) ?_
    refine L.val rfl rfl (R.fld rfl) ?_
    refine L.val rfl rfl (R.ldN (vs := p.2) rfl (Cells.of_blk B4 1 p.2 (fun j v hj => by rw [Nat.add_comm 1]; simpa [pcell] using hj)) hpl.1) ?_
    refine L.ycall rfl rfl rfl rfl hyc ?_
    rintro bb w7 ⟨D2, eD, hD2, hT, hFl⟩
    have X : Ext (b2 :: D) wb w7 := eD.mono (fun g hg => .inl (List.mem_cons_of_mem _ hg))
    have hn3 : b2 ∉ D2 := fun h => (hD2 b2 h).2.elim hn2 (fun h => by omega)
    have hDD : ∀ g ∈ b2 :: D2, g < w7.heap.size ∧ (g ∈ b2 :: D ∨ wb.heap.size ≤ g) := by
      intro g hg
      rcases List.mem_cons.1 hg with rfl | hg
      · exact ⟨Nat.lt_of_lt_of_le l2b eD.size, .inl (by simp)⟩
      · exact ⟨(hD2 g hg).1, (hD2 g hg).2.imp (fun h => List.mem_cons_of_mem _ h) id⟩
    refine L.val rfl rfl (R.not rfl) ?_
    refine L.nil ?_
    refine N.seq ?_
    refine G.condB rfl (fun h0 => ?_) (fun h0 => ?_)
    · obtain rfl : bb = false := by simpa using h0
      refine G.ret fun _ _ => ?_
      exact ⟨b2 :: D2, X, hDD, rfl, D2, rfl, hn3, hFl rfl⟩
    · obtain rfl : bb = true := by simpa using h0
      refine G.skip ?_
      refine N.block ?_
      refine N.done fun _ _ => ?_
      exact ⟨b2 :: D2, X, hDD, D2, rfl, hn3, hT rfl, by rw [hcy]; exact B2.ext eD hn2⟩
  · rintro d DD W2 hd hdD hK ⟨D, rfl, hn2, hj, B2⟩ _
    refine N.block ?_
    refine N.end0M rfl (leave1 hK) ?_
    exact .inl ⟨D, hJ Nn D W2 _ [d] hj (Ext.putObj _ _ _) (fun g hg => by rw [List.mem_singleton.1 hg]; exact ⟨fun h => hdD (List.mem_cons_of_mem _ h), .inr (by omega)⟩), trivial⟩
  · rintro d DD k c W2 hd hdD hK hk ⟨rfl, D, rfl, hn2, hj⟩ _
    refine G.ret0M rfl (leave1 hK) ?_
    exact .inr ⟨k, D, hk, hJx k D W2 _ [d] hj (Ext.putObj _ _ _) (fun g hg => by rw [List.mem_singleton.1 hg]; exact ⟨fun h => hdD (List.mem_cons_of_mem _ h), .inr (by omega)⟩), trivial⟩

theorem walkApiUsage_iter (b1 : Nat) (gf : FuncId) (lb : List Value) (Nn : Nat) (q : Nat → Option (Pr (Int))) (F : List Nat) (w : World) (hB1 : Blk w b1 #[.func (.func gf) #[] lb.toArray] 104 (0, 0)) (eg : ∀ (vs : Array Value) w, (callFunc gf vs).run Tryz.prog w = .ok (.enter gf vs) w) (hit : ∀ W, Ext [] w W → Iter Tryz.prog gf lb W Nn (prE q) (fun _ _ => True) F []) (hF : ∀ x ∈ F, x < w.heap.size) (hq : ∀ k (p : Pr (Int)), q k = some p → p.2.length = 4 ∧ ∀ u ∈ p.2, u.oneCell' = true) : Iter Tryz.prog 71 [.pointer (some ⟨b1, 0, none⟩)] w Nn (kvE (fun l => Value.agg l.toArray) q) (fun _ _ => True) (b1 :: F) [] := by
  intro y D₀ J Jx W hE hD hJ hJx hY h0
  exact walk1ApiUsage_ok y b1 gf lb Nn q F D₀ J Jx W (hB1.ext0 hE) eg (fun W' h => hit W' (hE.trans0 h)) (fun x hx => Nat.lt_of_lt_of_le (hF x hx) hE.size) hq hD (fun k D W₁ W₂ M' h he hm => hJ k D W₁ W₂ M' h he (fun g hg => ⟨(hm g hg).1, (hm g hg).2.imp id (Nat.le_trans hE.size)⟩)) (fun k D W₁ W₂ M' h he hm => hJx k D W₁ W₂ M' h he (fun g hg => ⟨(hm g hg).1, (hm g hg).2.imp id (Nat.le_trans hE.size)⟩)) hY h0

end Go.Proofs.YtlhkpakbenghgaaGreat
/-
  The walks of package order.
-/
set_option linter.unusedVariables false
set_option linter.unusedSimpArgs false
set_option maxRecDepth 4000
namespace Go.Proofs.YtlhkpakbenghgaaGreat
open Go Brv
end Go.Proofs.YtlhkpakbenghgaaGreat
/-
  Orders over assertions.
-/
set_option linter.unusedVariables false
set_option linter.unusedSimpArgs false
set_option maxRecDepth 4000
namespace Go.Proofs.YtlhkpakbenghgaaGreat
open Go Brv
theorem oallApiUsageQ (m : Nat) (ps : List (Pr (Int))) (S : List Nat) (w : World) (hd : MapAt (κ := Int) 91 95 4 w m ps S) (hl : ps.length ≤ 999999) : Meets Tryz.prog 18 [.pointer (some ⟨m, 0, none⟩)] w (fun v w' => ∃ lb F, v = .func (.func 71) #[] (lb : List Value).toArray ∧ Ext [] w w' ∧ (∀ M W, Ext M w' W → Apart F M → Iter Tryz.prog 71 lb W ps.length (kvE (fun l => Value.agg l.toArray) (fun k => ps[k]?)) (fun _ _ => True) F []) ∧ ∀ x ∈ F, w.heap.size ≤ x ∧ x < w'.heap.size) := by
  refine Meets.enter Tryz.func18 rfl 15 rfl (Nat.le_of_ble_eq_true rfl) ?_
  have E := Ext.refl [] w
  obtain ⟨a, c, M, rfl, hm0, Bm, om, hok, hs⟩ := hd
  refine G.seq ?_
  refine G.region ?_
  refine L.val rfl rfl (R.as rfl) ?_
  refine L.nil ?_
  refine N.seq ?_
  refine G.seq ?_
  refine G.seq ?_
  refine G.region ?_
  refine L.val rfl rfl (R.mv rfl) ?_
  refine L.val rfl rfl (R.eqNilP rfl rfl) ?_
  refine L.nil ?_
  refine N.seq ?_
  refine G.condF rfl ?_
  refine G.skip ?_
  refine N.seq ?_
  refine G.seq ?_
  refine G.region ?_
  refine L.val rfl rfl (R.mv rfl) ?_
  refine L.val rfl rfl (R.nilChk rfl) ?_
  refine L.val rfl rfl (R.fld rfl) ?_
  refine L.val rfl rfl (R.ldB rfl Bm rfl) ?_
  refine L.callF rfl rfl rfl go44 (scApiUsage_ok _ _ _ _ _ om.cells (by rw [om.1]) (pcell_one hok) (by omega)) ?_
  rintro _ w1 ⟨a1, c1, M1, rfl, e1, o1, hM1⟩
  have hE0 := E.size
  replace E := E.trans0 e1
  have hl1 := o1.lt
  have hE1 := E.size
  refine L.callF rfl rfl rfl go43 (pallApiUsage_ok a1 ps.length c1 _) ?_
  rintro _ w2 ⟨b0, rfl, e2, B0, hb0⟩
  have hE2 := E.size
  replace E := E.trans0 e2
  replace o1 := o1.ext0 e2
  have l0 := B0.lt
  have hE3 := E.size
  refine L.callF rfl rfl rfl go42 (walkApiUsage_ok 72 [.pointer (some ⟨b0, 0, none⟩)] _) ?_
  rintro _ w3 ⟨b1, rfl, e3, B1, hb1⟩
  replace E := E.trans0 e3
  replace o1 := o1.ext0 e3
  replace B0 := B0.ext0 e3
  have l1 := B1.lt
  have hs3 := e3.size
  have hs2 := e2.size
  have hFl : ∀ y ∈ b1 :: b0 :: M1, w.heap.size ≤ y ∧ y < w3.heap.size := by
    intro y hy
    simp only [List.mem_cons] at hy
    rcases hy with rfl | rfl | hy
    · exact ⟨by omega, l1⟩
    · exact ⟨by omega, by omega⟩
    · have := hl1 y hy; have := hM1 y hy; exact ⟨by omega, by omega⟩
  refine L.val rfl rfl (R.as rfl) ?_
  refine L.nil ?_
  refine N.seq ?_
  refine G.ret1 rfl rfl ?_
  exact ⟨[.pointer (some ⟨b1, 0, none⟩)], b1 :: b0 :: M1, rfl, E, fun M9 W hW hA => walkApiUsage_iter b1 72 [.pointer (some ⟨b0, 0, none⟩)] ps.length (fun k => ps[k]?) (b0 :: M1) W (B1.ext hW (hA b1 (by simp))) go72 (fun W' h => pallApiUsage_iter b0 a1 ps.length c1 ps M1 W' ((B0.ext hW (hA b0 (by simp))).ext0 h) ((o1.ext hW (fun g hg => hA g (by simp [hg]))).ext0 h) (by simp) hok (by omega)) (fun y hy => Nat.lt_of_lt_of_le (hFl y (List.mem_cons_of_mem _ hy)).2 hW.size) (fun k p hp => hok p (List.mem_of_getElem? hp)), hFl⟩

/-- The assertion of the iterator that All gives. -/
def itApiUsage (lb : List Value) (ps : List (Pr (Int))) : Asn := itA Tryz.prog 71 lb ps.length (kvE (fun l => Value.agg l.toArray) (fun k => ps[k]?))
instance (lb : List Value) (ps : List (Pr (Int))) : Pers (itApiUsage lb ps) := inferInstanceAs (Pers (itA _ _ _ _ _))
theorem itApiUsage_run (lb : List Value) (ps : List (Pr (Int))) : IterS Tryz.prog 71 lb [itApiUsage lb ps] ps.length (fun k vs p => (∃ q, ps[k]? = some q ∧ vs = [Key.val q.1, (fun l => Value.agg l.toArray) q.2]) ∧ p = fun _ => True) :=
  IterS.read fun k vs W h => h
theorem oallApiUsageS (m : Nat) (ps : List (Pr (Int))) (hl : ps.length ≤ 999999) : SpecS Tryz.prog 18 [.pointer (some ⟨m, 0, none⟩)] [mp (κ := Int) 91 95 4 m ps] (fun v H' => ∃ lb : List Value, v = .func (.func 71) #[] lb.toArray ∧ H' = [itApiUsage lb ps, mp (κ := Int) 91 95 4 m ps]) :=
  (SpecS.ofFresh (φ := fun v A => ∃ lb : List Value, v = .func (.func 71) #[] lb.toArray ∧ A = itApiUsage lb ps) fun w F S s => by
    obtain ⟨S', hm⟩ := s.mp (show Sel _ (mp (κ := Int) 91 95 4 m ps) _ from .here)
    refine (oallApiUsageQ m ps S' w hm hl).mono ?_
    rintro v w' ⟨lb, F', h1, h2, h3, h4⟩
    exact ⟨itApiUsage lb ps, [], F', ⟨lb, h1, rfl⟩, h2, fun M W he hA => ⟨_, h3 M W he hA⟩, by simp, h4⟩).mono fun v H' ⟨A, ⟨lb, h1, h2⟩, h3⟩ => ⟨lb, h1, by rw [h3, h2]⟩

end Go.Proofs.YtlhkpakbenghgaaGreat
/-
  Arrays of two numbers, compared.
-/
set_option linter.unusedVariables false
set_option linter.unusedSimpArgs false
namespace Brv
open Go
section
variable {P : Program} {n : Fm} {ρ : Env} {w : World} {d : Nat} {ty : TypeId} {pos : String} {af : Array Edge} {gd : Option (Nat × Bool)}
class TyA2 (P : Program) (T : TypeId) (E : outParam TypeId) : Prop where
  hT : P.underlying T = some (.array 2 E)
  hE : P.underlying E = some (.int .i64)
  hp : P.plainKey E = true
  hs : ∀ w, (Go.sizeOf E).run P w = .ok 1 w
  hg : P.eqGuardType P.depth T = false
end
/-- A function on many assertions as one. -/
theorem SpecS.sp {P : Program} {f : FuncId} {vs : List Value} {l l' : List Asn} {φ : Value → Prop} (h : SpecS P f vs l (fun v H' => φ v ∧ H' = l')) : SpecS P f vs [Brv.sp l] (fun v H' => φ v ∧ H' = [Brv.sp l']) := fun w F S st => by
  obtain ⟨F1, S1, _, _, ⟨a, _, c, _⟩, _, hA, _⟩ := st.sep
  refine (h w F1 S1 ⟨hA, fun x hx => st.ltF x (a hx), fun x hx => st.ltS x (c hx)⟩).mono ?_
  rintro v w' ⟨_, F', S', ⟨hφ, rfl⟩, st', fr⟩
  exact ⟨_, F', S', ⟨hφ, rfl⟩, ⟨⟨F', S', [], [], ⟨subR _, by simp, subR _, by simp⟩, ⟨Apart.nilR _, Apart.nilR _, Apart.nilR _⟩, st'.sep, trivial⟩, st'.ltF, st'.ltS⟩, fr.lift a c⟩
end Brv
/-
  The walks of package stats.
-/
set_option linter.unusedVariables false
set_option linter.unusedSimpArgs false
set_option maxRecDepth 4000
namespace Go.Proofs.YtlhkpakbenghgaaGreat
open Go Brv Brv.Stats
def rowU (x : ItemV) : Int × V3 := (x.Kind', (1, x.Length', secE x.At'))
def usR (l : List ItemV) : List (Int × V3) := l.map rowU
def usT (l : List ItemV) : List (Int × V3) := accT [] (usR l)
def usK (l : List ItemV) (k : Nat) : List (Int × V3) := accT [] ((usR l).take k)
theorem usK_len (l : List ItemV) (k : Nat) : (usK l k).length ≤ k := by
  have := accT_len (T := []) (rows := (usR l).take k)
  rw [List.length_take] at this
  simp only [List.length_nil] at this
  unfold usK; omega
theorem usK_all (l : List ItemV) {n : Nat} (h : n = l.length) : usK l n = usT l := by
  unfold usK usT; rw [List.take_of_length_le (by unfold usR; rw [List.length_map]; omega)]
theorem usK_step {l : List ItemV} {k : Nat} {x : ItemV} (h : l[k]? = some x) : putT (usK l k) x.Kind' (addV ((getT (usK l k) x.Kind').getD zV) (1, x.Length', secE x.At')) = usK l (k + 1) :=
  (accT_take (T := []) (rows := usR l) (r := rowU x) (by unfold usR; rw [List.getElem?_map, h]; rfl)).symm
theorem usT_len (l : List ItemV) : (usT l).length ≤ l.length := by rw [← usK_all l rfl]; exact usK_len _ _
theorem psU_at {T : List (Int × V3)} {k : Nat} {q : Int × List Value} (h : (psU T)[k]? = some q) : ∃ p, T[k]? = some p ∧ q = (p.1, us4 p.1 p.2) := by
  unfold psU at h
  rw [mapK_at] at h
  cases hp : T[k]? with
  | none => rw [hp] at h; cases h
  | some p => rw [hp] at h; cases h; exact ⟨p, rfl, rfl⟩
theorem uCells_take {T : List (Int × V3)} {k : Nat} {p : Int × V3} (h : T[k]? = some p) : (uCells (T.take k)).flatten ++ us4 p.1 p.2 = (uCells (T.take (k + 1))).flatten := take_flat (fun p : Int × V3 => us4 p.1 p.2) h

theorem getU (m : Nat) (T : List (Int × V3)) (k : Int) (S : List Nat) (w : World) (hm : MapAt (κ := Int) 91 95 4 w m (psU T) S) (hl : T.length ≤ 999999) : Meets Tryz.prog 15 [.pointer (some ⟨m, 0, none⟩), .int .i64 k] w (fun v w' => v = .tuple #[.agg (us4 (if hasT T k then k else 0) ((getT T k).getD zV)).toArray, .bool (hasT T k)] ∧ Ext [] w w') :=
  (getApiUsage_ok m (psU T) S k w hm (by unfold psU; rw [mapK_len]; exact hl)).mono fun v w' ⟨h1, h2⟩ => ⟨by
    rw [h1, ← hasT_eq, ← getT_eq]
    unfold psU
    rw [hasT_mapK, getT_mapK, hasT_isSome]
    cases getT T k <;> rfl, h2⟩
theorem putU (m : Nat) (T T' : List (Int × V3)) (k : Int) (v : V3) (hl : T.length ≤ 999999) (hT : putT T k v = T') : SpecS Tryz.prog 16 [.pointer (some ⟨m, 0, none⟩), .int .i64 k, .agg (us4 k v).toArray] [mp (κ := Int) 91 95 4 m (psU T)] (fun v H' => v = .bool (!hasT T k) ∧ H' = [mp (κ := Int) 91 95 4 m (psU T')]) := by
  have := SpecS.ofMap (φ := fun v => v = .bool (!hasK (psU T) k)) (fun w S hm => putApiUsage_ok m (psU T) S k (us4 k v) w hm (by unfold psU; rw [mapK_len]; exact hl) ⟨rfl, us4_one k v⟩)
  subst hT
  rw [← hasT_eq, ← putT_eq] at this
  unfold psU at this ⊢
  rw [hasT_mapK, putT_mapK] at this
  exact this

theorem Usages_ok (a : Option Addr) (n c : Nat) (its : List ItemV) (hb : n ≤ 900000) : SpecS Tryz.prog 5 [.slice a n c] [sh (fun w => ItemsOk w a n its)] (fun v H' => ∃ a' c', v = .slice a' (usT its).length c' ∧ H' = [own 43 4 a' ((usT its).length) c' (uCells (usT its)).flatten]) := by
  refine SpecS.enter Tryz.func5 rfl 55 rfl (Nat.le_of_ble_eq_true rfl) (fun o => ?_)
  refine SG.fact (fun w9 F9 S9 s => (s.sh (p := fun w => ItemsOk w a n its) (by repeat (first | exact Sel.keep | exact Sel.here | apply Sel.there))).len) (fun hf9 => ?_)
  have hln := hf9; clear hf9
  refine SG.seq ?_
  refine SG.region ?_
  refine SL.val rfl rfl (fun w9 F9 S9 s => R.as rfl) ?_
  refine SL.nil ?_
  refine SN.seq ?_
  refine SG.seq ?_
  refine SG.region ?_
  refine SL.step rfl rfl (CS.call rfl go14 (SpecS.ofNew (fun w => onewApiUsage_ok w)) (by repeat (first | exact Sels.nil | apply Sels.cons | exact Sel.keep | exact Sel.here | apply Sel.there))) ?_
  rintro _ _ ⟨_, ⟨m, rfl, rfl⟩, rfl⟩
  refine SL.n1 ?_
  refine SL.val rfl rfl (fun w9 F9 S9 s => R.as rfl) ?_
  refine SL.nil ?_
  refine SN.seq ?_
  refine SG.seq ?_
  refine SG.seq ?_
  refine SG.region ?_
  refine SL.val rfl rfl (fun w9 F9 S9 s => R.mv rfl) ?_
  refine SL.val rfl rfl (fun w9 F9 S9 s => R.lenS rfl) ?_
  refine SL.val rfl rfl (fun w9 F9 S9 s => R.mv rfl) ?_
  refine SL.nil ?_
  refine SN.seq ?_
  refine SG.block ?_
  refine SG.loop (X := Nat) (fun k => [(0, .slice a n c), (3, .pointer (some ⟨m, 0, none⟩)), (12, .slice a n c), (13, .int .i64 (n : Int)), (14, .int .i64 (k : Int))]) (fun k => [mp (κ := Int) 91 95 4 m (psU (usK its k)), sh (fun w => ItemsOk w a n its)]) (fun k => k ≤ n) (fun k => n - k) (0) (Sub.cons rfl (Sub.cons rfl (Sub.cons rfl (Sub.cons rfl (Sub.cons rfl (Sub.nil _)))))) ((Imp.sels (by repeat (first | exact Sels.nil | apply Sels.cons | exact Sel.keep | exact Sel.here | apply Sel.there)))) (Nat.zero_le _) ?_
  intro k hk
  show SG _ _ _ _ _ [(0, .slice a n c), (3, .pointer (some ⟨m, 0, none⟩)), (12, .slice a n c), (13, .int .i64 (n : Int)), (14, .int .i64 (k : Int))] [mp (κ := Int) 91 95 4 m (psU (usK its k)), sh (fun w => ItemsOk w a n its)] _
  refine SG.seq ?_
  refine SG.region ?_
  refine SL.val rfl rfl (fun w9 F9 S9 s => R.lss rfl rfl) ?_
  refine SL.nil ?_
  refine SN.seq ?_
  refine SG.seq ?_
  refine SG.condP rfl (fun h0 => ?_) (fun h0 => ?_)
  · obtain ⟨x, hx⟩ : ∃ x, its[k]? = some x := ⟨_, List.getElem?_eq_getElem (by omega)⟩
    have hul := usK_len its k
    refine SG.fact (fun w9 F9 S9 s => items_pt (s.sh (p := fun w => ItemsOk w a n its) (by repeat (first | exact Sel.keep | exact Sel.here | apply Sel.there))) hx) (fun hf9 => ?_)
    obtain ⟨q, hq⟩ := hf9
    refine SG.skip ?_
    refine SN.seq ?_
    refine SG.seq ?_
    refine SG.block ?_
    refine SG.seq ?_
    refine SG.region ?_
    refine SL.val rfl rfl (fun w9 F9 S9 s => R.idx rfl rfl (by omega) (by omega) q hq) ?_
    refine SL.val rfl rfl (fun w9 F9 S9 s => R.ldN (vs := x.cells) rfl (items_ld (s.sh (p := fun w => ItemsOk w a n its) (by repeat (first | exact Sel.keep | exact Sel.here | apply Sel.there))) hq hx) rfl) ?_
    refine SL.step rfl rfl (CS.alloc [.int .i64 0, .int .i64 0, .int .i64 0, .int .i64 0, .int .i64 0, .int .i64 0, .int .i64 0, .int .i64 0, .slice none 0 0] rfl) ?_
    rintro _ _ ⟨b5, rfl, rfl⟩
    refine SL.step0 rfl (CS.stA (vs := x.cells) rfl rfl (by repeat (first | exact Sel.keep | exact Sel.here | apply Sel.there)) rfl (by rfl) (ItemV.cells.one x)) ?_
    rintro _ _ rfl
    refine SL.nil ?_
    refine SN.seq ?_
    refine SG.seq ?_
    refine SG.region ?_
    refine SL.val rfl rfl (fun w9 F9 S9 s => R.mv rfl) ?_
    refine SL.val rfl rfl (fun w9 F9 S9 s => R.fld rfl) ?_
    refine SL.val rfl rfl (fun w9 F9 S9 s => R.ldB (v := .int .i64 x.Kind') rfl (s.cel (by repeat (first | exact SelB.blk | exact SelB.fz | apply SelB.there))) (by rfl)) ?_
    refine SL.step rfl rfl (CS.callR rfl go15 (fun w9 F9 S9 s => (s.mp (show Sel _ (mp (κ := Int) 91 95 4 m (psU (usK its k))) _ from (by repeat (first | exact Sel.keep | exact Sel.here | apply Sel.there)))).elim fun S9 h9 => getU m (usK its k) x.Kind' S9 w9 h9 (by omega))) ?_
    rintro _ _ ⟨rfl, rfl⟩
    refine SL.val rfl rfl (fun w9 F9 S9 s => R.mv rfl) ?_
    refine SL.val rfl rfl (fun w9 F9 S9 s => R.ext rfl rfl) ?_
    refine SL.val rfl rfl (fun w9 F9 S9 s => R.ext rfl rfl) ?_
    refine SL.step rfl rfl (CS.alloc [.int .i64 0, .int .i64 0, .int .i64 0, .int .i64 0] rfl) ?_
    rintro _ _ ⟨b6, rfl, rfl⟩
    refine SL.step0 rfl (CS.stA (vs := us4 (if hasT (usK its k) x.Kind' then x.Kind' else 0) ((getT (usK its k) x.Kind').getD zV)) rfl rfl (by repeat (first | exact Sel.keep | exact Sel.here | apply Sel.there)) rfl (by rfl) (us4_one _ _)) ?_
    rintro _ _ rfl
    refine SL.val rfl rfl (fun w9 F9 S9 s => R.as rfl) ?_
    refine SL.nil ?_
    refine SN.imp (Imp.weak (p := fun w => ItemsOk w a n its) (q := fun w => x.ok w) (by repeat (first | exact Sel.keep | exact Sel.here | apply Sel.there)) (fun w h => itemsOk_at h hx)) ?_
    refine SN.seq ?_
    refine SG.draw [16, 19] [0, 1, 2, 3, 4, 5, 6, 7, 8, 9, 10, 11, 12, 13, 14, 15, 16, 17, 18, 19] (by decide +kernel) rfl ?_
    refine SW.pure rfl rfl rfl rfl (fun w9 => R.mv rfl) ?_
    refine SW.pure rfl rfl rfl rfl (fun w9 => R.fld rfl) ?_
    refine SW.read rfl rfl rfl rfl (fun w9 F9 S9 s => R.ldB (v := .int .i64 x.Kind') rfl (s.cel (by repeat (first | exact SelB.blk | exact SelB.fz | apply SelB.there))) (by rfl)) ?_
    refine SW.pure rfl rfl rfl rfl (fun w9 => R.fld rfl) ?_
    refine SW.read rfl rfl rfl rfl (fun w9 F9 S9 s => R.ldB (v := .int .i64 x.Kind') rfl (s.cel (by repeat (first | exact SelB.blk | exact SelB.fz | apply SelB.there))) (by rfl)) ?_
    refine SW.pure rfl rfl rfl rfl (fun w9 => R.fld rfl) ?_
    refine SW.read rfl rfl rfl rfl (fun w9 F9 S9 s => R.ldB (v := .int .i64 ((getT (usK its k) x.Kind').getD zV).1) rfl (s.cel (by repeat (first | exact SelB.blk | exact SelB.fz | apply SelB.there))) (by rfl)) ?_
    refine SW.pure rfl rfl rfl rfl (fun w9 => R.addW rfl rfl (wr (((getT (usK its k) x.Kind').getD zV).1 + 1)) rfl) ?_
    refine SW.pure rfl rfl rfl rfl (fun w9 => R.fld rfl) ?_
    refine SW.read rfl rfl rfl rfl (fun w9 F9 S9 s => R.ldB (v := .int .i64 ((getT (usK its k) x.Kind').getD zV).2.1) rfl (s.cel (by repeat (first | exact SelB.blk | exact SelB.fz | apply SelB.there))) (by rfl)) ?_
    refine SW.pure rfl rfl rfl rfl (fun w9 => R.fld rfl) ?_
    refine SW.read rfl rfl rfl rfl (fun w9 F9 S9 s => R.ldB (v := .int .i64 x.Length') rfl (s.cel (by repeat (first | exact SelB.blk | exact SelB.fz | apply SelB.there))) (by rfl)) ?_
    refine SW.pure rfl rfl rfl rfl (fun w9 => R.addW rfl rfl (wr (((getT (usK its k) x.Kind').getD zV).2.1 + x.Length')) rfl) ?_
    refine SW.pure rfl rfl rfl rfl (fun w9 => R.fld rfl) ?_
    refine SW.read rfl rfl rfl rfl (fun w9 F9 S9 s => R.ldB (v := .int .i64 ((getT (usK its k) x.Kind').getD zV).2.2) rfl (s.cel (by repeat (first | exact SelB.blk | exact SelB.fz | apply SelB.there))) (by rfl)) ?_
    refine SW.read rfl rfl rfl rfl (fun w9 F9 S9 s => R.ldBN (cs := x.cells.toArray) rfl (s.cel (by repeat (first | exact SelB.blk | exact SelB.fz | apply SelB.there))) rfl) ?_
    refine SW.step rfl rfl rfl rfl (CS.call rfl go17 (secs_ok x) (by repeat (first | exact Sels.nil | apply Sels.cons | exact Sel.keep | exact Sel.here | apply Sel.there))) ?_
    rintro _ _ ⟨_, ⟨rfl, rfl⟩, rfl⟩
    refine ⟨⟨.inl (by decide +kernel), ⟨.inr (fun w9 F9 S9 s => R.ldB (v := .int .i64 ((getT (usK its k) x.Kind').getD zV).2.2) rfl (s.cel (by repeat (first | exact SelB.blk | exact SelB.fz | apply SelB.there))) (by rfl)), ⟨.inr (fun w9 F9 S9 s => R.ldB (v := .int .i64 x.Length') rfl (s.cel (by repeat (first | exact SelB.blk | exact SelB.fz | apply SelB.there))) (by rfl)), ⟨.inr (fun w9 F9 S9 s => R.ldB (v := .int .i64 ((getT (usK its k) x.Kind').getD zV).2.1) rfl (s.cel (by repeat (first | exact SelB.blk | exact SelB.fz | apply SelB.there))) (by rfl)), ⟨.inr (fun w9 F9 S9 s => R.ldB (v := .int .i64 ((getT (usK its k) x.Kind').getD zV).1) rfl (s.cel (by repeat (first | exact SelB.blk | exact SelB.fz | apply SelB.there))) (by rfl)), ⟨.inr (fun w9 F9 S9 s => R.ldB (v := .int .i64 x.Kind') rfl (s.cel (by repeat (first | exact SelB.blk | exact SelB.fz | apply SelB.there))) (by rfl)), ⟨.inr (fun w9 F9 S9 s => R.ldB (v := .int .i64 x.Kind') rfl (s.cel (by repeat (first | exact SelB.blk | exact SelB.fz | apply SelB.there))) (by rfl)), trivial⟩⟩⟩⟩⟩⟩⟩, ?_⟩
    refine SW.n0 ?_
    refine SW.pure rfl rfl rfl rfl (fun w9 => R.addW rfl rfl (wr (((getT (usK its k) x.Kind').getD zV).2.2 + secE x.At')) rfl) ?_
    refine SW.pure rfl rfl rfl rfl (fun w9 => R.buildN (l := us4 x.Kind' (addV ((getT (usK its k) x.Kind').getD zV) (1, x.Length', secE x.At'))) rfl rfl) ?_
    refine SW.step rfl rfl rfl rfl (CS.call rfl go16 (putU m (usK its k) (usK its (k + 1)) x.Kind' (addV ((getT (usK its k) x.Kind').getD zV) (1, x.Length', secE x.At')) (by omega) (usK_step hx)) (by repeat (first | exact Sels.nil | apply Sels.cons | exact Sel.keep | exact Sel.here | apply Sel.there))) ?_
    rintro _ _ ⟨_, ⟨rfl, rfl⟩, rfl⟩
    refine ⟨⟨.inl (by decide +kernel), ⟨.inl (by decide +kernel), ⟨.inl (by decide +kernel), ⟨.inl (by decide +kernel), ⟨.inl (by decide +kernel), ⟨.inl (by decide +kernel), ⟨.inl (by decide +kernel), trivial⟩⟩⟩⟩⟩⟩⟩, ?_⟩
    refine SW.n1 ?_
    refine SW.nil ?_
    refine SN.block ?_
    refine SN.seq ?_
    refine SG.region ?_
    refine SL.val rfl rfl (fun w9 F9 S9 s => R.add rfl rfl (by omega)) ?_
    refine SL.val rfl rfl (fun w9 F9 S9 s => R.mv rfl) ?_
    refine SL.nil ?_
    exact SN.again (k + 1) (by show n - (k + 1) < n - k; omega) (Sub.cons rfl (Sub.cons rfl (Sub.cons rfl (Sub.cons rfl (Sub.cons rfl (Sub.nil _)))))) ((Imp.sels (by repeat (first | exact Sels.nil | apply Sels.cons | exact Sel.keep | exact Sel.here | apply Sel.there)))) (by show k + 1 ≤ n; omega)
  · obtain rfl : n = k := by omega
    have hul := usT_len its
    rw [usK_all its hln]
    refine SG.exit _ rfl ?_
    refine SN.seq ?_
    refine SG.seq ?_
    refine SG.region ?_
    refine SL.step rfl rfl (CS.alloc [.slice none 0 0] rfl) ?_
    rintro _ _ ⟨b8, rfl, rfl⟩
    refine SL.nil ?_
    refine SN.seq ?_
    refine SG.seq ?_
    refine SG.seq ?_
    refine SG.region ?_
    refine SL.val rfl rfl (fun w9 F9 S9 s => R.mv rfl) ?_
    refine SL.step rfl rfl (CS.call rfl go18 (oallApiUsageS m (psU (usT its)) (by unfold psU; rw [mapK_len]; omega)) (by repeat (first | exact Sels.nil | apply Sels.cons | exact Sel.keep | exact Sel.here | apply Sel.there))) ?_
    rintro _ _ ⟨_, ⟨lb, rfl, rfl⟩, rfl⟩
    refine SL.n2 ?_
    refine SL.nil ?_
    refine SN.seq ?_
    refine SG.block ?_
    refine SG.range rfl rfl go71 (itApiUsage_run lb (psU (usT its))) (X := Option Addr × Nat) (Y := Unit) (fun k y => [blk b8 [.slice y.1 k y.2] 36, own 43 4 y.1 (k) y.2 (uCells ((usT its).take k)).flatten]) (fun k y => True) (fun c k _ => []) (fun c k _ => False) ((none, 0)) (((Imp.ownNil 43 4).trans (Imp.sels (by repeat (first | exact Sels.nil | apply Sels.cons | exact Sel.keep | exact Sel.here | apply Sel.there))))) (trivial) ?_ ?_ ?_
    · rintro l k ⟨a9, c9⟩ vs p hk _ ⟨⟨q, hq, rfl⟩, rfl⟩
      obtain ⟨e, he, rfl⟩ := psU_at hq
      have hel := (List.getElem?_eq_some_iff.1 he).1
      refine ⟨rfl, ?_⟩
      have hel2 := hel; have hul2 := hul
      intro o8
      refine SG.region ?_
      refine SL.step rfl rfl (CS.alloc [.int .i64 0, .int .i64 0, .int .i64 0, .int .i64 0] rfl) ?_
      rintro _ _ ⟨b10, rfl, rfl⟩
      refine SL.step0 rfl (CS.stA (vs := us4 e.1 e.2) rfl rfl (by repeat (first | exact Sel.keep | exact Sel.here | apply Sel.there)) rfl (by rfl) (us4_one _ _)) ?_
      rintro _ _ rfl
      refine SL.nil ?_
      refine SN.roundA (fun o9 => ?_)
      refine SG.block ?_
      refine SG.region ?_
      refine SL.val rfl rfl (fun w9 F9 S9 s => R.ldB (v := .slice a9 k c9) rfl (s.cel (by repeat (first | exact SelB.blk | exact SelB.fz | apply SelB.there))) (by rfl)) ?_
      refine SL.val rfl rfl (fun w9 F9 S9 s => R.ldBN (cs := (us4 e.1 e.2).toArray) rfl (s.cel (by repeat (first | exact SelB.blk | exact SelB.fz | apply SelB.there))) rfl) ?_
      refine SL.step rfl rfl (CS.buildA rfl rfl rfl rfl rfl (us4 e.1 e.2) rfl) ?_
      rintro _ _ ⟨b18, rfl, rfl⟩
      refine SL.step rfl rfl (CS.app rfl rfl (show Sel _ (own 43 4 a9 (k) c9 (uCells ((usT its).take k)).flatten) _ from (by repeat (first | exact Sel.keep | exact Sel.here | apply Sel.there))) (fun w9 F9 S9 s => s.blkC (show Sel _ (blk b18 (us4 e.1 e.2) _) _ from (by repeat (first | exact Sel.keep | exact Sel.here | apply Sel.there)))) rfl (us4_one _ _) (by simp [maxLen]; omega) (by omega)) ?_
      rintro _ _ ⟨a19, c19, rfl, rfl⟩
      refine SL.step0 rfl (CS.st rfl rfl (show Sel _ (blk b8 _ _) _ from (by repeat (first | exact Sel.keep | exact Sel.here | apply Sel.there))) (by repeat (first | exact SetAt.here | apply SetAt.there)) rfl) ?_
      rintro _ _ rfl
      refine SL.nil ?_
      refine SN.block ?_
      exact SN.next ((a19, c19)) ((show Imp _ _ by dsimp only; rw [← uCells_take he]; exact (Imp.sels (by repeat (first | exact Sels.nil | apply Sels.cons | exact Sel.keep | exact Sel.here | apply Sel.there))))) (trivial)
    · rintro d2 ⟨a9, c9⟩ _
      rw [show (psU (usT its)).length = (usT its).length by unfold psU; rw [mapK_len], List.take_length]
      refine SN.block ?_
      refine SN.seq ?_
      refine SG.seq ?_
      refine SG.region ?_
      refine SL.val rfl rfl (fun w9 F9 S9 s => R.ldB (v := .slice a9 (usT its).length c9) rfl (s.cel (by repeat (first | exact SelB.blk | exact SelB.fz | apply SelB.there))) (by rfl)) ?_
      refine SL.val rfl rfl (fun w9 F9 S9 s => R.as rfl) ?_
      refine SL.nil ?_
      refine SN.seq ?_
      exact SG.ret1M rfl rfl (by repeat (first | exact Dfrs.nil | apply Dfrs.cons | exact Sel.here | apply Sel.there)) ((Imp.sels (by repeat (first | exact Sels.nil | apply Sels.cons | exact Sel.keep | exact Sel.here | apply Sel.there)))) (⟨a9, c9, rfl, rfl⟩)
    · rintro d k c _ hk ⟨⟩

end Go.Proofs.YtlhkpakbenghgaaGreat
/-
  Plain laws on package stats: what is counted.
-/
set_option linter.unusedVariables false
set_option linter.unusedSimpArgs false
namespace Brv.Stats
open Go Brv
end Brv.Stats
/-
  Plain laws on sorting: what is sorted, and stays in order.
-/
set_option linter.unusedVariables false
set_option linter.unusedSimpArgs false
namespace Brv.Stats
open Go Brv
abbrev E3 := Int × V2
def cellB (p : E3) : List Value := bz3 p.1 p.2
theorem cellB_len (p : E3) : (cellB p).length = 3 := rfl
theorem cellB_one (p : E3) : ∀ u ∈ cellB p, u.oneCell' = true := bz3_one _ _
/-- Strictly ahead: more often written. -/
def bf (x y : E3) : Bool := decide (y.2.1 < x.2.1)
def Down (l : List E3) : Prop := l.Pairwise fun x y => bf y x = false
/-- The same elements, those of like rank in the same order. -/
def Stb (l m : List E3) : Prop := ∀ k, l.filter (fun x => decide (x.2.1 = k)) = m.filter (fun x => decide (x.2.1 = k))
theorem Stb.refl (l : List E3) : Stb l l := fun _ => rfl
theorem Stb.symm {l m : List E3} (h : Stb l m) : Stb m l := fun k => (h k).symm
theorem Stb.trans {l m r : List E3} (h : Stb l m) (h2 : Stb m r) : Stb l r := fun k => (h k).trans (h2 k)
theorem Stb.app {l m l' m' : List E3} (h : Stb l m) (h2 : Stb l' m') : Stb (l ++ l') (m ++ m') := fun k => by rw [List.filter_append, List.filter_append, h k, h2 k]
theorem Stb.mem {l m : List E3} (h : Stb l m) {x : E3} (hx : x ∈ l) : x ∈ m := by
  have : x ∈ l.filter (fun y => decide (y.2.1 = x.2.1)) := List.mem_filter.2 ⟨hx, by simp⟩
  rw [h] at this
  exact (List.mem_filter.1 this).1
/-- Two neighbouring parts, of which none is like the other's, may change places. -/
theorem Stb.swap {l m : List E3} (h : ∀ x ∈ l, ∀ y ∈ m, x.2.1 ≠ y.2.1) : Stb (l ++ m) (m ++ l) := fun k => by
  rw [List.filter_append, List.filter_append]
  by_cases hl : ∃ x ∈ l, x.2.1 = k
  · obtain ⟨x, hx, rfl⟩ := hl
    have : m.filter (fun y => decide (y.2.1 = x.2.1)) = [] := List.filter_eq_nil_iff.2 fun y hy => by simpa using fun e => h x hx y hy e.symm
    rw [this, List.append_nil, List.nil_append]
  · have : l.filter (fun y => decide (y.2.1 = k)) = [] := List.filter_eq_nil_iff.2 fun y hy => by simpa using fun e => hl ⟨y, hy, e⟩
    rw [this, List.append_nil, List.nil_append]
theorem Down.le {l m : List E3} (h : Down (l ++ m)) {x y : E3} (hx : x ∈ l) (hy : y ∈ m) : bf y x = false := (List.pairwise_append.1 h).2.2 x hx y hy
theorem Down.app {l m : List E3} (h : Down l) (h2 : Down m) (h3 : ∀ x ∈ l, ∀ y ∈ m, bf y x = false) : Down (l ++ m) := List.pairwise_append.2 ⟨h, h2, h3⟩
theorem Down.left {l m : List E3} (h : Down (l ++ m)) : Down l := (List.pairwise_append.1 h).1
theorem Down.right {l m : List E3} (h : Down (l ++ m)) : Down m := (List.pairwise_append.1 h).2.1
theorem bf_trans {x y z : E3} (h : bf y x = false) (h2 : bf z y = false) : bf z x = false := by unfold bf at *; simp only [decide_eq_false_iff_not] at *; omega
/-- What is sorted is told by its elements. -/
theorem Down.uniq {l m : List E3} (h : Down l) (h2 : Down m) (hs : Stb l m) : l = m := by
  induction l generalizing m with
  | nil =>
    cases m with
    | nil => rfl
    | cons y m => exact absurd (hs.symm.mem (List.mem_cons_self (a := y) (l := m))) (by simp)
  | cons x l ih =>
    cases m with
    | nil => exact absurd (hs.mem (List.mem_cons_self (a := x) (l := l))) (by simp)
    | cons y m =>
      unfold Down at h h2
      rw [List.pairwise_cons] at h h2
      have hk : x.2.1 = y.2.1 := by
        have h3 : bf y x = false := by
          rcases List.mem_cons.1 (hs.symm.mem (List.mem_cons_self (a := y) (l := m))) with e | e
          · subst e; unfold bf; simp
          · exact h.1 y e
        have h4 : bf x y = false := by
          rcases List.mem_cons.1 (hs.mem (List.mem_cons_self (a := x) (l := l))) with e | e
          · subst e; unfold bf; simp
          · exact h2.1 x e
        unfold bf at h3 h4
        simp only [decide_eq_false_iff_not] at h3 h4
        omega
      have hxy : x = y := by
        have := hs x.2.1
        rw [List.filter_cons_of_pos (by simp), List.filter_cons_of_pos (by simp [hk])] at this
        exact (List.cons.inj this).1
      subst hxy
      congr 1
      refine ih h.2 h2.2 fun k => ?_
      have := hs k
      by_cases e : x.2.1 = k
      · rw [List.filter_cons_of_pos (by simp [e]), List.filter_cons_of_pos (by simp [e])] at this
        exact (List.cons.inj this).2
      · rwa [List.filter_cons_of_neg (by simp [e]), List.filter_cons_of_neg (by simp [e])] at this
/-- A part of a list has been sorted. -/
def Part (l m : List E3) (a b : Nat) : Prop := ∃ P A B Q, l = P ++ A ++ Q ∧ m = P ++ B ++ Q ∧ P.length = a ∧ a + A.length = b ∧ a + B.length = b ∧ Stb A B ∧ Down B
theorem Part.len {l m : List E3} {a b : Nat} (h : Part l m a b) : m.length = l.length := by
  obtain ⟨P, A, B, Q, rfl, rfl, h1, h2, h3, _⟩ := h
  simp only [List.length_append]; omega
def sinkM (l : List E3) (a : Nat) : Nat → List E3
  | 0 => l
  | j + 1 => if a ≤ j then
      match l[j]?, l[j + 1]? with
      | some x, some y => if bf y x then sinkM ((l.set (j + 1) x).set j y) a j else l
      | _, _ => l
    else l
def insK (l : List E3) (a : Nat) : Nat → List E3
  | 0 => l
  | k + 1 => sinkM (insK l a k) a (a + 1 + k)
def insM (l : List E3) (a b : Nat) : List E3 := insK l a (b - (a + 1))
theorem sinkM_len (l : List E3) (a : Nat) : ∀ j, (sinkM l a j).length = l.length := by
  intro j
  induction j generalizing l with
  | zero => rfl
  | succ j ih =>
    rw [sinkM]
    split
    · split
      · split
        · rw [ih]; simp
        · rfl
      · rfl
    · rfl
theorem insK_len (l : List E3) (a : Nat) : ∀ k, (insK l a k).length = l.length := by
  intro k
  induction k with
  | zero => rfl
  | succ k ih => rw [insK, sinkM_len, ih]
theorem sinkM_stop {l : List E3} {a j : Nat} (h : ¬ a < j) : sinkM l a j = l := by
  cases j with
  | zero => rfl
  | succ j => rw [sinkM, if_neg (by omega)]
theorem sinkM_no {l : List E3} {a j : Nat} {x y : E3} (hx : l[j]? = some x) (hy : l[j + 1]? = some y) (h : bf y x = false) : sinkM l a (j + 1) = l := by
  rw [sinkM, hx, hy]; simp [h]
theorem sinkM_yes {l : List E3} {a j : Nat} {x y : E3} (ha : a ≤ j) (hx : l[j]? = some x) (hy : l[j + 1]? = some y) (h : bf y x = true) : sinkM l a (j + 1) = sinkM ((l.set (j + 1) x).set j y) a j := by
  rw [sinkM, if_pos ha, hx, hy]; exact if_pos h
/-- The element behind a sorted part sinks to its place. -/
theorem sink_part {P Q : List E3} {y : E3} {a : Nat} (hP : P.length = a) : ∀ (n : Nat) (A R : List E3), A.length = n → Down (A ++ R) → (∀ z ∈ R, bf y z = true) → ∃ A1 A2, A = A1 ++ A2 ∧ sinkM (P ++ A ++ y :: (R ++ Q)) a (a + A.length) = P ++ A1 ++ y :: (A2 ++ R ++ Q) ∧ (∀ z ∈ A2, bf y z = true) ∧ (∀ z ∈ A1, bf y z = false) := by
  intro n
  induction n with
  | zero =>
    intro A R hA hd hR
    obtain rfl : A = [] := List.length_eq_zero_iff.1 hA
    exact ⟨[], [], rfl, by rw [sinkM_stop (by simp)]; simp, by simp, by simp⟩
  | succ n ih =>
    intro A R hA hd hR
    rcases List.eq_nil_or_concat A with rfl | ⟨A', x, rfl⟩
    · simp at hA
    · rw [List.concat_eq_append] at hA hd ⊢
      rw [List.length_append, List.length_singleton] at hA ⊢
      have hx : (P ++ (A' ++ [x]) ++ y :: (R ++ Q))[a + A'.length]? = some x := by
        rw [List.getElem?_append_left (by simp; omega), List.getElem?_append_right (by omega), hP, Nat.add_sub_cancel_left]; simp
      have hy : (P ++ (A' ++ [x]) ++ y :: (R ++ Q))[a + A'.length + 1]? = some y := by
        rw [List.getElem?_append_right (by simp; omega)]
        simp only [List.length_append, List.length_singleton, hP]
        rw [show a + A'.length + 1 - (a + (A'.length + 1)) = 0 by omega]; rfl
      cases hb : bf y x with
      | false =>
        refine ⟨A' ++ [x], [], by simp, ?_, by simp, ?_⟩
        · rw [show a + (A'.length + 1) = a + A'.length + 1 by omega, sinkM_no hx hy hb]; simp
        · intro z hz
          rcases List.mem_append.1 hz with hz | hz
          · exact bf_trans (Down.le hd.left hz (by simp)) hb
          · rw [List.mem_singleton.1 hz]; exact hb
      | true =>
        have hs : ((P ++ (A' ++ [x]) ++ y :: (R ++ Q)).set (a + A'.length + 1) x).set (a + A'.length) y = P ++ A' ++ y :: (([x] ++ R) ++ Q) := by
          have e : P ++ (A' ++ [x]) ++ y :: (R ++ Q) = (P ++ A') ++ x :: y :: (R ++ Q) := by simp
          have hl : (P ++ A').length = a + A'.length := by rw [List.length_append, hP]
          rw [e, ← hl, List.set_append_right _ _ (by omega), List.set_append_right _ _ (by omega)]
          simp
        obtain ⟨A1, A2, h1, h2, h3, h4⟩ := ih A' ([x] ++ R) (by omega) (by rw [← List.append_assoc]; exact hd) (by
          intro z hz
          rcases List.mem_append.1 hz with hz | hz
          · rw [List.mem_singleton.1 hz]; exact hb
          · exact hR z hz)
        refine ⟨A1, A2 ++ [x], by rw [h1]; simp, ?_, ?_, h4⟩
        · rw [show a + (A'.length + 1) = a + A'.length + 1 by omega, sinkM_yes (by omega) hx hy hb, hs, h2]; simp
        · intro z hz
          rcases List.mem_append.1 hz with hz | hz
          · exact h3 z hz
          · rw [List.mem_singleton.1 hz]; exact hb
theorem bf_ne {x y : E3} (h : bf x y = true) : x.2.1 ≠ y.2.1 := by unfold bf at h; simp only [decide_eq_true_eq] at h; omega
theorem bf_asym {x y : E3} (h : bf x y = true) : bf y x = false := by unfold bf at *; simp only [decide_eq_true_eq, decide_eq_false_iff_not] at *; omega
theorem insK_part {l : List E3} {a : Nat} : ∀ k, a + 1 + k ≤ l.length → Part l (insK l a k) a (a + 1 + k) := by
  intro k
  induction k with
  | zero =>
    intro h
    have hx : l.drop a = l[a] :: l.drop (a + 1) := List.drop_eq_getElem_cons (by omega)
    refine ⟨l.take a, [l[a]], [l[a]], l.drop (a + 1), ?_, ?_, by rw [List.length_take]; omega, rfl, rfl, Stb.refl _, List.pairwise_singleton _ _⟩ <;>
    · rw [List.append_assoc, List.singleton_append, ← hx]; simp [insK]
  | succ k ih =>
    intro h
    obtain ⟨P, A, B, Q, h1, h2, h3, h4, h5, h6, h7⟩ := ih (by omega)
    cases Q with
    | nil =>
      have := congrArg List.length h1
      simp only [List.length_append, List.length_nil] at this; omega
    | cons y Q =>
      obtain ⟨B1, B2, e1, e2, e3, e4⟩ := sink_part (P := P) (Q := Q) (y := y) h3 B.length B [] rfl (by simpa using h7) (by simp)
      have hk : a + B.length = a + 1 + k := by omega
      refine ⟨P, A ++ [y], B1 ++ y :: B2, Q, by rw [h1]; simp, ?_, h3, by simp; omega, by rw [e1] at h5; simp only [List.length_append, List.length_cons] at h5 ⊢; omega, ?_, ?_⟩
      · rw [insK, h2, ← hk]
        simp only [List.append_nil, List.nil_append] at e2
        rw [e2]; simp
      · refine (h6.app (Stb.refl [y])).trans ?_
        rw [e1, List.append_assoc]
        exact (Stb.refl B1).app ((Stb.swap fun x hx z hz => by rw [List.mem_singleton.1 hz]; exact fun e => bf_ne (e3 x hx) e.symm).trans (Stb.refl _))
      · rw [e1] at h7
        refine Down.app h7.left (List.pairwise_cons.2 ⟨fun z hz => bf_asym (e3 z hz), h7.right⟩) fun x hx z hz => ?_
        rcases List.mem_cons.1 hz with rfl | hz
        · exact e4 x hx
        · exact h7.le hx hz
theorem insM_part {l : List E3} {a b : Nat} (hab : a ≤ b) (h : b ≤ l.length) : Part l (insM l a b) a b := by
  by_cases hb : a + 1 ≤ b
  · have := insK_part (l := l) (a := a) (b - (a + 1)) (by omega)
    rwa [show a + 1 + (b - (a + 1)) = b by omega] at this
  · obtain rfl : a = b := by omega
    refine ⟨l.take a, [], [], l.drop a, by simp, ?_, by rw [List.length_take]; omega, rfl, rfl, Stb.refl _, List.Pairwise.nil⟩
    unfold insM
    rw [show a - (a + 1) = 0 by omega]; simp [insK]
theorem insM_len (l : List E3) (a b : Nat) : (insM l a b).length = l.length := insK_len _ _ _
end Brv.Stats
/-
  Plain laws on sorting: parts that change places, and merges in place.
-/
set_option linter.unusedVariables false
set_option linter.unusedSimpArgs false
namespace Brv.Stats
open Go Brv
def swap2 (l : List E3) (i j : Nat) : List E3 := match l[i]?, l[j]? with
  | some x, some y => (l.set i y).set j x
  | _, _ => l
theorem swap2_len (l : List E3) (i j : Nat) : (swap2 l i j).length = l.length := by
  unfold swap2; split <;> simp
theorem swap2_at {l : List E3} {i j : Nat} {x y : E3} (hx : l[i]? = some x) (hy : l[j]? = some y) : swap2 l i j = (l.set i y).set j x := by unfold swap2; rw [hx, hy]
theorem at_mid {U W : List E3} {x : E3} {i : Nat} (h : U.length = i) : (U ++ x :: W)[i]? = some x := by subst h; simp
theorem swap2_mid {U V W : List E3} {x y : E3} {i j : Nat} (hi : U.length = i) (hj : i + 1 + V.length = j) : swap2 (U ++ x :: (V ++ y :: W)) i j = U ++ y :: (V ++ x :: W) := by
  have e : U ++ x :: (V ++ y :: W) = (U ++ x :: V) ++ y :: W := by simp
  have e2 : U ++ y :: (V ++ y :: W) = (U ++ y :: V) ++ y :: W := by simp
  rw [swap2_at (at_mid hi) (by rw [e]; exact at_mid (by simp only [List.length_append, List.length_cons]; omega)), List.set_append_right _ _ (by omega), hi, Nat.sub_self, List.set_cons_zero, e2, List.set_append_right _ _ (by simp only [List.length_append, List.length_cons]; omega)]
  rw [show j - (U ++ y :: V).length = 0 by simp only [List.length_append, List.length_cons]; omega, List.set_cons_zero]
  simp
theorem swap2_next {U W : List E3} {x y : E3} {i : Nat} (hi : U.length = i) : swap2 (U ++ x :: y :: W) i (i + 1) = U ++ y :: x :: W := swap2_mid (V := []) hi rfl
theorem swap2_back {U W : List E3} {x y : E3} {i : Nat} (hi : U.length = i) : swap2 (U ++ x :: y :: W) (i + 1) i = U ++ y :: x :: W := by
  have e : U ++ x :: y :: W = (U ++ [x]) ++ y :: W := by simp
  have e2 : (U ++ x :: x :: W) = U ++ x :: (x :: W) := rfl
  rw [swap2_at (x := y) (y := x) (by rw [e]; exact at_mid (by simp [hi])) (at_mid hi), e, List.set_append_right _ _ (by simp [hi]), show i + 1 - (U ++ [x]).length = 0 by simp [hi], List.set_cons_zero, List.append_assoc, List.singleton_append, List.set_append_right _ _ (by omega), hi, Nat.sub_self, List.set_cons_zero]
/-- Two parts of a length change places. -/
def swpK (l : List E3) (a b : Nat) : Nat → List E3
  | 0 => l
  | k + 1 => swap2 (swpK l a b k) (a + k) (b + k)
theorem swpK_len (l : List E3) (a b : Nat) : ∀ k, (swpK l a b k).length = l.length := by
  intro k
  induction k with
  | zero => rfl
  | succ k ih => rw [swpK, swap2_len, ih]
theorem swpK_eq {P X M Y Q : List E3} {a b n : Nat} (hP : P.length = a) (hX : X.length = n) (hb : a + n + M.length = b) (hY : Y.length = n) : swpK (P ++ X ++ M ++ Y ++ Q) a b n = P ++ Y ++ M ++ X ++ Q := by
  have gen : ∀ k, k ≤ n → swpK (P ++ X ++ M ++ Y ++ Q) a b k = (P ++ Y.take k) ++ (X.drop k ++ M ++ X.take k ++ Y.drop k ++ Q) := by
    intro k
    induction k with
    | zero => intro _; simp [swpK]
    | succ k ih =>
      intro hk
      obtain ⟨x, hx⟩ : ∃ x, X[k]? = some x := ⟨_, List.getElem?_eq_getElem (by omega)⟩
      obtain ⟨y, hy⟩ : ∃ y, Y[k]? = some y := ⟨_, List.getElem?_eq_getElem (by omega)⟩
      have dx : X.drop k = x :: X.drop (k + 1) := by rw [List.drop_eq_getElem_cons (by omega)]; congr 1; exact (List.getElem?_eq_some_iff.1 hx).2
      have dy : Y.drop k = y :: Y.drop (k + 1) := by rw [List.drop_eq_getElem_cons (by omega)]; congr 1; exact (List.getElem?_eq_some_iff.1 hy).2
      rw [swpK, ih (by omega), dx, dy]
      have e : P ++ Y.take k ++ (x :: X.drop (k + 1) ++ M ++ X.take k ++ y :: Y.drop (k + 1) ++ Q) = (P ++ Y.take k) ++ x :: ((X.drop (k + 1) ++ M ++ X.take k) ++ y :: (Y.drop (k + 1) ++ Q)) := by simp
      rw [e, swap2_mid (by simp only [List.length_append, List.length_take]; omega) (by simp only [List.length_append, List.length_take, List.length_drop]; omega), List.take_add_one, List.take_add_one, hx, hy]
      simp
  rw [gen n (Nat.le_refl _), ← hX, List.drop_length, List.take_length, hX, ← hY, List.drop_length, List.take_length]
  simp
/-- What is left of a rotation. -/
def Rot (l goal : List E3) (m i j : Nat) : Prop := ∃ P A B Q, l = P ++ A ++ B ++ Q ∧ goal = P ++ B ++ A ++ Q ∧ P.length + i = m ∧ A.length = i ∧ B.length = j ∧ 0 < i ∧ 0 < j
theorem Rot.len {l goal : List E3} {m i j : Nat} (h : Rot l goal m i j) : goal.length = l.length ∧ i ≤ m ∧ m + j ≤ l.length ∧ 0 < i ∧ 0 < j := by
  obtain ⟨P, A, B, Q, rfl, rfl, h1, h2, h3, h4, h5⟩ := h
  simp only [List.length_append]; omega
theorem Rot.big {l goal : List E3} {m i j : Nat} (h : Rot l goal m i j) (hij : j < i) : Rot (swpK l (m - i) m j) goal m (i - j) j := by
  obtain ⟨P, A, B, Q, rfl, rfl, h1, h2, h3, h4, h5⟩ := h
  have hA : A = A.take j ++ A.drop j := (List.take_append_drop j A).symm
  refine ⟨P ++ B, A.drop j, A.take j, Q, ?_, ?_, by simp only [List.length_append]; omega, by rw [List.length_drop]; omega, by rw [List.length_take]; omega, by omega, h5⟩
  · conv => lhs; rw [hA]
    have := swpK_eq (P := P) (X := A.take j) (M := A.drop j) (Y := B) (Q := Q) (a := m - i) (b := m) (n := j) (by omega) (by rw [List.length_take]; omega) (by rw [List.length_drop]; omega) h3
    rw [← List.append_assoc, this]
  · conv => lhs; rw [hA]
    simp
theorem Rot.small {l goal : List E3} {m i j : Nat} (h : Rot l goal m i j) (hij : i < j) : Rot (swpK l (m - i) (m + j - i) i) goal m i (j - i) := by
  obtain ⟨P, A, B, Q, rfl, rfl, h1, h2, h3, h4, h5⟩ := h
  have hB : B = B.take (j - i) ++ B.drop (j - i) := (List.take_append_drop _ B).symm
  refine ⟨P, B.drop (j - i), B.take (j - i), A ++ Q, ?_, ?_, h1, by rw [List.length_drop]; omega, by rw [List.length_take]; omega, h4, by omega⟩
  · conv => lhs; rw [hB]
    have := swpK_eq (P := P) (X := A) (M := B.take (j - i)) (Y := B.drop (j - i)) (Q := Q) (a := m - i) (b := m + j - i) (n := i) (by omega) h2 (by rw [List.length_take]; omega) (by rw [List.length_drop]; omega)
    rw [← List.append_assoc, this]; simp
  · conv => lhs; rw [hB]
    simp
theorem Rot.last {l goal : List E3} {m i j : Nat} (h : Rot l goal m i j) (hij : i = j) : swpK l (m - i) m i = goal := by
  obtain ⟨P, A, B, Q, rfl, rfl, h1, h2, h3, h4, h5⟩ := h
  have := swpK_eq (P := P) (X := A) (M := []) (Y := B) (Q := Q) (a := m - i) (b := m) (n := i) (by omega) h2 (by simp; omega) (by omega)
  simpa using this
/-- Two sorted runs. -/
def Runs (l : List E3) (a m b : Nat) : Prop := ∃ P A B Q, l = P ++ A ++ B ++ Q ∧ P.length = a ∧ a + A.length = m ∧ m + B.length = b ∧ Down A ∧ Down B
theorem Runs.le {l : List E3} {a m b : Nat} (h : Runs l a m b) : a ≤ m ∧ m ≤ b ∧ b ≤ l.length := by
  obtain ⟨P, A, B, Q, rfl, h1, h2, h3, _⟩ := h
  simp only [List.length_append]; omega
def bubU (l : List E3) (a : Nat) : Nat → List E3
  | 0 => l
  | t + 1 => swap2 (bubU l a t) (a + t) (a + t + 1)
def bubD (l : List E3) (m : Nat) : Nat → List E3
  | 0 => l
  | t + 1 => swap2 (bubD l m t) (m - t) (m - t - 1)
theorem bubU_len (l : List E3) (a : Nat) : ∀ t, (bubU l a t).length = l.length := by
  intro t
  induction t with
  | zero => rfl
  | succ t ih => rw [bubU, swap2_len, ih]
theorem bubD_len (l : List E3) (a : Nat) : ∀ t, (bubD l a t).length = l.length := by
  intro t
  induction t with
  | zero => rfl
  | succ t ih => rw [bubD, swap2_len, ih]
theorem bubU_eq {P B Q : List E3} {x : E3} {a : Nat} (hP : P.length = a) : ∀ t, t ≤ B.length → bubU (P ++ x :: (B ++ Q)) a t = P ++ B.take t ++ x :: (B.drop t ++ Q) := by
  intro t
  induction t with
  | zero => intro _; simp [bubU]
  | succ t ih =>
    intro ht
    obtain ⟨y, hy⟩ : ∃ y, B[t]? = some y := ⟨_, List.getElem?_eq_getElem (by omega)⟩
    have dy : B.drop t = y :: B.drop (t + 1) := by rw [List.drop_eq_getElem_cons (by omega)]; congr 1; exact (List.getElem?_eq_some_iff.1 hy).2
    rw [bubU, ih (by omega), dy, List.cons_append, swap2_next (by simp only [List.length_append, List.length_take]; omega), List.take_add_one, hy]
    simp
theorem bubD_eq {P A Q : List E3} {y : E3} {m : Nat} (hm : P.length + A.length = m) : ∀ t, t ≤ A.length → bubD (P ++ A ++ y :: Q) m t = P ++ A.take (A.length - t) ++ y :: (A.drop (A.length - t) ++ Q) := by
  intro t
  induction t with
  | zero => intro _; simp [bubD]
  | succ t ih =>
    intro ht
    obtain ⟨z, hz⟩ : ∃ z, A[A.length - (t + 1)]? = some z := ⟨_, List.getElem?_eq_getElem (by omega)⟩
    have tz : A.take (A.length - t) = A.take (A.length - (t + 1)) ++ [z] := by rw [show A.length - t = A.length - (t + 1) + 1 by omega, List.take_add_one, hz]; rfl
    have dz : A.drop (A.length - (t + 1)) = z :: A.drop (A.length - t) := by rw [List.drop_eq_getElem_cons (by omega), show A.length - (t + 1) + 1 = A.length - t by omega]; congr 1; exact (List.getElem?_eq_some_iff.1 hz).2
    have hl : (P ++ A.take (A.length - (t + 1))).length = m - t - 1 := by simp only [List.length_append, List.length_take]; omega
    rw [bubD, ih (by omega), tz, dz]
    have e : P ++ (A.take (A.length - (t + 1)) ++ [z]) ++ y :: (A.drop (A.length - t) ++ Q) = (P ++ A.take (A.length - (t + 1))) ++ z :: y :: (A.drop (A.length - t) ++ Q) := by simp
    rw [e]
    have := swap2_back (U := P ++ A.take (A.length - (t + 1))) (x := z) (y := y) (W := A.drop (A.length - t) ++ Q) hl
    rw [show m - t - 1 + 1 = m - t by omega] at this
    rw [this]; simp
theorem down_take {B : List E3} (h : Down B) {s : Nat} {z x : E3} (hz : B[s]? = some z) (hb : bf z x = true) : ∀ w ∈ B.take (s + 1), bf w x = true := by
  intro w hw
  rw [List.take_add_one, hz] at hw
  rcases List.mem_append.1 hw with hw | hw
  · have h1 : Down (B.take s ++ z :: B.drop (s + 1)) := by
      rw [show B.take s ++ z :: B.drop (s + 1) = B by conv => rhs; rw [← List.take_append_drop s B, List.drop_eq_getElem_cons (List.getElem?_eq_some_iff.1 hz).1, (List.getElem?_eq_some_iff.1 hz).2]]
      exact h
    have := h1.le hw (List.mem_cons_self)
    unfold bf at *; simp only [decide_eq_true_eq, decide_eq_false_iff_not] at *; omega
  · simp only [Option.toList_some, List.mem_singleton] at hw; rw [hw]; exact hb
theorem down_drop {B : List E3} (h : Down B) {s : Nat} {z x : E3} (hz : B[s]? = some z) (hb : bf z x = false) : ∀ w ∈ B.drop s, bf w x = false := by
  intro w hw
  rw [List.drop_eq_getElem_cons (List.getElem?_eq_some_iff.1 hz).1, (List.getElem?_eq_some_iff.1 hz).2] at hw
  rcases List.mem_cons.1 hw with rfl | hw
  · exact hb
  · have h1 : Down (B.take s ++ z :: B.drop (s + 1)) := by
      rw [show B.take s ++ z :: B.drop (s + 1) = B by conv => rhs; rw [← List.take_append_drop s B, List.drop_eq_getElem_cons (List.getElem?_eq_some_iff.1 hz).1, (List.getElem?_eq_some_iff.1 hz).2]]
      exact h
    exact bf_trans hb ((List.pairwise_cons.1 h1.right).1 w hw)
theorem down_take' {B : List E3} (h : Down B) {s : Nat} {z x : E3} (hz : B[s]? = some z) (hb : bf x z = false) : ∀ w ∈ B.take (s + 1), bf x w = false := by
  intro w hw
  rw [List.take_add_one, hz] at hw
  rcases List.mem_append.1 hw with hw | hw
  · have h1 : Down (B.take s ++ z :: B.drop (s + 1)) := by
      rw [show B.take s ++ z :: B.drop (s + 1) = B by conv => rhs; rw [← List.take_append_drop s B, List.drop_eq_getElem_cons (List.getElem?_eq_some_iff.1 hz).1, (List.getElem?_eq_some_iff.1 hz).2]]
      exact h
    exact bf_trans (h1.le hw (List.mem_cons_self)) hb
  · simp only [Option.toList_some, List.mem_singleton] at hw; rw [hw]; exact hb
theorem down_drop' {B : List E3} (h : Down B) {s : Nat} {z x : E3} (hz : B[s]? = some z) (hb : bf x z = true) : ∀ w ∈ B.drop s, bf x w = true := by
  intro w hw
  rw [List.drop_eq_getElem_cons (List.getElem?_eq_some_iff.1 hz).1, (List.getElem?_eq_some_iff.1 hz).2] at hw
  rcases List.mem_cons.1 hw with rfl | hw
  · exact hb
  · have h1 : Down (B.take s ++ z :: B.drop (s + 1)) := by
      rw [show B.take s ++ z :: B.drop (s + 1) = B by conv => rhs; rw [← List.take_append_drop s B, List.drop_eq_getElem_cons (List.getElem?_eq_some_iff.1 hz).1, (List.getElem?_eq_some_iff.1 hz).2]]
      exact h
    have := (List.pairwise_cons.1 h1.right).1 w hw
    unfold bf at *; simp only [decide_eq_true_eq, decide_eq_false_iff_not] at *; omega
theorem at_app {P A Q : List E3} {a i : Nat} (hP : P.length = a) (hi : a ≤ i) (h2 : i < a + A.length) : (P ++ A ++ Q)[i]? = A[i - a]? := by
  rw [List.append_assoc, List.getElem?_append_right (by omega), List.getElem?_append_left (by omega), hP]
/-- One element, merged into the run behind it. -/
theorem merge_up {l : List E3} {a b s : Nat} {x : E3} (h : Runs l a (a + 1) b) (hx : l[a]? = some x) (hs : a + 1 ≤ s) (hsb : s ≤ b) (h1 : s = a + 1 ∨ ∃ z, l[s - 1]? = some z ∧ bf z x = true) (h2 : s = b ∨ ∃ z, l[s]? = some z ∧ bf z x = false) : Part l (bubU l a (s - 1 - a)) a b := by
  obtain ⟨P, A, B, Q, rfl, e1, e2, e3, hA, hB⟩ := h
  obtain ⟨y, rfl⟩ : ∃ y, A = [y] := List.length_eq_one_iff.1 (by omega)
  have e : P ++ [y] ++ B ++ Q = P ++ y :: (B ++ Q) := by simp
  rw [e, at_mid e1] at hx
  cases hx
  obtain ⟨t, rfl⟩ : ∃ t, s = a + 1 + t := ⟨s - (a + 1), by omega⟩
  have ht : t ≤ B.length := by omega
  have hat : ∀ i, i < B.length → (P ++ [x] ++ B ++ Q)[a + 1 + i]? = B[i]? := fun i hi => by
    rw [at_app (a := a + 1) (by simp; omega) (by omega) (by omega), Nat.add_sub_cancel_left]
  have hB1 : ∀ w ∈ B.take t, bf w x = true := by
    rcases h1 with h1 | ⟨z, hz, hb⟩
    · obtain rfl : t = 0 := by omega
      simp
    · cases t with
      | zero => simp
      | succ t =>
        rw [show a + 1 + (t + 1) - 1 = a + 1 + t by omega, hat t (by omega)] at hz
        exact down_take hB hz hb
  have hB2 : ∀ w ∈ B.drop t, bf w x = false := by
    rcases h2 with h2 | ⟨z, hz, hb⟩
    · rw [List.drop_of_length_le (by omega)]; simp
    · by_cases h9 : t < B.length
      · rw [hat t h9] at hz
        exact down_drop hB hz hb
      · rw [List.drop_of_length_le (by omega)]; simp
  refine ⟨P, [x] ++ B, B.take t ++ x :: B.drop t, Q, by simp, ?_, e1, by simp; omega, by simp only [List.length_append, List.length_cons, List.length_take, List.length_drop]; omega, ?_, ?_⟩
  · rw [e, show a + 1 + t - 1 - a = t by omega, bubU_eq e1 t ht]; simp
  · conv => lhs; rw [← List.take_append_drop t B, ← List.append_assoc]
    have := (Stb.swap (l := [x]) (m := B.take t) fun u hu w hw => by rw [List.mem_singleton.1 hu]; exact fun e => bf_ne (hB1 w hw) e.symm).app (Stb.refl (B.drop t))
    simpa using this
  · have hd : Down (B.take t ++ B.drop t) := by rw [List.take_append_drop]; exact hB
    refine Down.app hd.left (List.pairwise_cons.2 ⟨fun w hw => hB2 w hw, hd.right⟩) fun u hu w hw => ?_
    rcases List.mem_cons.1 hw with rfl | hw
    · exact bf_asym (hB1 u hu)
    · exact hd.le hu hw
/-- One element, merged into the run ahead of it. -/
theorem merge_down {l : List E3} {a m s : Nat} {y : E3} (h : Runs l a m (m + 1)) (hy : l[m]? = some y) (hs : a ≤ s) (hsm : s ≤ m) (h1 : s = a ∨ ∃ z, l[s - 1]? = some z ∧ bf y z = false) (h2 : s = m ∨ ∃ z, l[s]? = some z ∧ bf y z = true) : Part l (bubD l m (m - s)) a (m + 1) := by
  obtain ⟨P, A, B, Q, rfl, e1, e2, e3, hA, hB⟩ := h
  obtain ⟨x, rfl⟩ : ∃ x, B = [x] := List.length_eq_one_iff.1 (by omega)
  have e : P ++ A ++ [x] ++ Q = P ++ A ++ x :: Q := by simp
  rw [e, at_mid (by simp only [List.length_append]; omega)] at hy
  cases hy
  obtain ⟨t, rfl⟩ : ∃ t, s = a + t := ⟨s - a, by omega⟩
  have ht : t ≤ A.length := by omega
  have hat : ∀ i, i < A.length → (P ++ A ++ [y] ++ Q)[a + i]? = A[i]? := fun i hi => by
    rw [List.append_assoc (P ++ A), at_app e1 (by omega) (by omega), Nat.add_sub_cancel_left]
  have hA1 : ∀ w ∈ A.take t, bf y w = false := by
    rcases h1 with h1 | ⟨z, hz, hb⟩
    · obtain rfl : t = 0 := by omega
      simp
    · cases t with
      | zero => simp
      | succ t =>
        rw [show a + (t + 1) - 1 = a + t by omega, hat t (by omega)] at hz
        exact down_take' hA hz hb
  have hA2 : ∀ w ∈ A.drop t, bf y w = true := by
    rcases h2 with h2 | ⟨z, hz, hb⟩
    · rw [List.drop_of_length_le (by omega)]; simp
    · by_cases h9 : t < A.length
      · rw [hat t h9] at hz
        exact down_drop' hA hz hb
      · rw [List.drop_of_length_le (by omega)]; simp
  refine ⟨P, A ++ [y], A.take t ++ y :: A.drop t, Q, by simp, ?_, e1, by simp; omega, by simp only [List.length_append, List.length_cons, List.length_take, List.length_drop]; omega, ?_, ?_⟩
  · rw [e, bubD_eq (by omega) _ (by omega), show A.length - (m - (a + t)) = t by omega]; simp
  · conv => lhs; rw [← List.take_append_drop t A, List.append_assoc]
    exact (Stb.refl _).app ((Stb.swap fun u hu w hw => by rw [List.mem_singleton.1 hw]; exact fun e => bf_ne (hA2 u hu) e.symm).trans (Stb.refl _))
  · have hd : Down (A.take t ++ A.drop t) := by rw [List.take_append_drop]; exact hA
    refine Down.app hd.left (List.pairwise_cons.2 ⟨fun w hw => bf_asym (hA2 w hw), hd.right⟩) fun u hu w hw => ?_
    rcases List.mem_cons.1 hw with rfl | hw
    · exact hA1 u hu
    · exact hd.le hu hw
/-- Where two runs are cut: what is ahead of both cuts goes ahead of what is behind. -/
structure Cutd (l : List E3) (a m b s e : Nat) : Prop where
  ex : ∃ P A1 A2 B1 B2 Q, l = P ++ (A1 ++ A2) ++ (B1 ++ B2) ++ Q ∧ P.length = a ∧ a + A1.length = s ∧ s + A2.length = m ∧ m + B1.length = e ∧ e + B2.length = b ∧ Down (A1 ++ A2) ∧ Down (B1 ++ B2) ∧ (∀ x ∈ A1, ∀ y ∈ B2, bf y x = false) ∧ (∀ x ∈ A2, ∀ y ∈ B1, bf y x = true)
theorem runs_cut {l : List E3} {a m b s e : Nat} (h : Runs l a m b) (hs : a ≤ s) (hsm : s ≤ m) (he : m ≤ e) (heb : e ≤ b) (h1 : s = a ∨ e = b ∨ ∃ z u, l[s - 1]? = some z ∧ l[e]? = some u ∧ bf u z = false) (h2 : s = m ∨ e = m ∨ ∃ z u, l[s]? = some z ∧ l[e - 1]? = some u ∧ bf u z = true) : Cutd l a m b s e := by
  obtain ⟨P, A, B, Q, rfl, e1, e2, e3, hA, hB⟩ := h
  have hatA : ∀ i, i < A.length → (P ++ A ++ B ++ Q)[a + i]? = A[i]? := fun i hi => by
    rw [List.append_assoc (P ++ A), at_app e1 (by omega) (by omega), Nat.add_sub_cancel_left]
  have hatB : ∀ i, i < B.length → (P ++ A ++ B ++ Q)[m + i]? = B[i]? := fun i hi => by
    rw [at_app (a := m) (by simp only [List.length_append]; omega) (by omega) (by omega), Nat.add_sub_cancel_left]
  obtain ⟨t, rfl⟩ : ∃ t, s = a + t := ⟨s - a, by omega⟩
  obtain ⟨r, rfl⟩ : ∃ r, e = m + r := ⟨e - m, by omega⟩
  refine ⟨P, A.take t, A.drop t, B.take r, B.drop r, Q, by rw [List.take_append_drop, List.take_append_drop], e1, by rw [List.length_take]; omega, by rw [List.length_drop]; omega, by rw [List.length_take]; omega, by rw [List.length_drop]; omega, by rw [List.take_append_drop]; exact hA, by rw [List.take_append_drop]; exact hB, ?_, ?_⟩
  · intro x hx y hy
    rcases h1 with h1 | h1 | ⟨z, u, hz, hu, hb⟩
    · obtain rfl : t = 0 := by omega
      simp at hx
    · rw [List.drop_of_length_le (by omega)] at hy; simp at hy
    · cases t with
      | zero => simp at hx
      | succ t =>
        by_cases hr : r < B.length
        · rw [show a + (t + 1) - 1 = a + t by omega, hatA t (by omega)] at hz
          rw [hatB r hr] at hu
          have q1 : ∀ w ∈ B.drop r, bf w z = false := down_drop hB hu hb
          exact (down_take' hA hz (q1 y hy)) x hx
        · rw [List.drop_of_length_le (by omega)] at hy; simp at hy
  · intro x hx y hy
    rcases h2 with h2 | h2 | ⟨z, u, hz, hu, hb⟩
    · rw [List.drop_of_length_le (by omega)] at hx; simp at hx
    · obtain rfl : r = 0 := by omega
      simp at hy
    · cases r with
      | zero => simp at hy
      | succ r =>
        by_cases ht : t < A.length
        · rw [show m + (r + 1) - 1 = m + r by omega, hatB r (by omega)] at hu
          rw [hatA t ht] at hz
          have q1 : ∀ w ∈ B.take (r + 1), bf w z = true := down_take hB hu hb
          exact (down_drop' hA hz (q1 y hy)) x hx
        · rw [List.drop_of_length_le (by omega)] at hx; simp at hx
/-- After the rotation. -/
structure Turn (l l1 : List E3) (a mid b s e : Nat) : Prop where
  ex : ∃ P A1 A2 B1 B2 Q, l = P ++ (A1 ++ A2) ++ (B1 ++ B2) ++ Q ∧ l1 = P ++ (A1 ++ B1) ++ (A2 ++ B2) ++ Q ∧ P.length = a ∧ a + A1.length = s ∧ s + B1.length = mid ∧ mid + A2.length = e ∧ e + B2.length = b ∧ Down (A1 ++ A2) ∧ Down (B1 ++ B2) ∧ (∀ x ∈ A1, ∀ y ∈ B2, bf y x = false) ∧ (∀ x ∈ A2, ∀ y ∈ B1, bf y x = true)
theorem Cutd.none {l : List E3} {a m b s e mid : Nat} (h : Cutd l a m b s e) (hn : s = m ∨ m = e) (hm : mid + m = s + e) : Turn l l a mid b s e := by
  obtain ⟨P, A1, A2, B1, B2, Q, h1, h2, h3, h4, h5, h6, h7⟩ := h
  refine ⟨P, A1, A2, B1, B2, Q, h1, ?_, h2, h3, by omega, by omega, h6, h7⟩
  rcases hn with hn | hn
  · obtain rfl : A2 = [] := List.length_eq_zero_iff.1 (by omega)
    rw [h1]; simp
  · obtain rfl : B1 = [] := List.length_eq_zero_iff.1 (by omega)
    rw [h1]; simp
theorem Cutd.rot {l : List E3} {a m b s e mid : Nat} (h : Cutd l a m b s e) (h1 : s < m) (h2 : m < e) (hm : mid + m = s + e) : ∃ l1, Rot l l1 m (m - s) (e - m) ∧ Turn l l1 a mid b s e := by
  obtain ⟨P, A1, A2, B1, B2, Q, e1, e2, e3, e4, e5, e6, e7⟩ := h
  exact ⟨P ++ (A1 ++ B1) ++ (A2 ++ B2) ++ Q, ⟨P ++ A1, A2, B1, B2 ++ Q, by rw [e1]; simp, by simp, by simp only [List.length_append]; omega, by omega, by omega, by omega, by omega⟩, P, A1, A2, B1, B2, Q, e1, rfl, e2, e3, by omega, by omega, e6, e7⟩
/-- What is left behind the first half. -/
structure Half (l l2 : List E3) (a mid b s e : Nat) : Prop where
  ex : ∃ P A1 A2 B1 B2 C Q, l = P ++ (A1 ++ A2) ++ (B1 ++ B2) ++ Q ∧ l2 = P ++ C ++ (A2 ++ B2) ++ Q ∧ P.length = a ∧ a + C.length = mid ∧ mid + A2.length = e ∧ e + B2.length = b ∧ A1.length + B1.length = C.length ∧ Stb (A1 ++ B1) C ∧ Down C ∧ Down (A1 ++ A2) ∧ Down (B1 ++ B2) ∧ (∀ x ∈ A1, ∀ y ∈ B2, bf y x = false) ∧ (∀ x ∈ A2, ∀ y ∈ B1, bf y x = true)
theorem Turn.runs {l l1 : List E3} {a mid b s e : Nat} (h : Turn l l1 a mid b s e) : Runs l1 a s mid := by
  obtain ⟨P, A1, A2, B1, B2, Q, e1, e2, e3, e4, e5, e6, e7, e8, e9, _⟩ := h
  exact ⟨P, A1, B1, A2 ++ B2 ++ Q, by rw [e2]; simp, e3, e4, e5, e8.left, e9.left⟩
theorem app_inj {A B C D : List E3} (h : A ++ B = C ++ D) (hl : A.length = C.length) : A = C ∧ B = D := List.append_inj h hl
theorem Turn.half {l l1 l2 : List E3} {a mid b s e : Nat} (h : Turn l l1 a mid b s e) (hp : Part l1 l2 a mid) : Half l l2 a mid b s e := by
  obtain ⟨P, A1, A2, B1, B2, Q, e1, e2, e3, e4, e5, e6, e7, e8, e9, e10, e11⟩ := h
  obtain ⟨P', X, C, Q', f1, f2, f3, f4, f5, f6, f7⟩ := hp
  have f0 : P ++ ((A1 ++ B1) ++ ((A2 ++ B2) ++ Q)) = P' ++ (X ++ Q') := by rw [← List.append_assoc P, ← List.append_assoc (P ++ (A1 ++ B1)), ← List.append_assoc P', ← e2, ← f1]
  obtain ⟨rfl, g1⟩ := app_inj f0 (by omega)
  obtain ⟨rfl, rfl⟩ := app_inj g1 (by simp only [List.length_append]; omega)
  rw [List.length_append] at f4
  exact ⟨P, A1, A2, B1, B2, C, Q, e1, by rw [f2]; simp, e3, f5, e6, e7, by omega, f6, f7, e8, e9, e10, e11⟩
theorem Turn.half0 {l l1 : List E3} {a mid b s e : Nat} (h : Turn l l1 a mid b s e) (hn : a = s ∨ s = mid) : Half l l1 a mid b s e := by
  obtain ⟨P, A1, A2, B1, B2, Q, e1, e2, e3, e4, e5, e6, e7, e8, e9, e10, e11⟩ := h
  refine ⟨P, A1, A2, B1, B2, A1 ++ B1, Q, e1, e2, e3, by simp only [List.length_append]; omega, e6, e7, by rw [List.length_append], Stb.refl _, ?_, e8, e9, e10, e11⟩
  rcases hn with hn | hn
  · obtain rfl : A1 = [] := List.length_eq_zero_iff.1 (by omega)
    simpa using e9.left
  · obtain rfl : B1 = [] := List.length_eq_zero_iff.1 (by omega)
    simpa using e8.left
theorem Half.runs {l l2 : List E3} {a mid b s e : Nat} (h : Half l l2 a mid b s e) : Runs l2 mid e b := by
  obtain ⟨P, A1, A2, B1, B2, C, Q, e1, e2, e3, e4, e5, e6, e0, e7, e8, e9, e10, e11, e12⟩ := h
  exact ⟨P ++ C, A2, B2, Q, by rw [e2]; simp, by simp only [List.length_append]; omega, e5, e6, e9.right, e10.right⟩
theorem Half.end {l l2 l3 : List E3} {a mid b s e : Nat} (h : Half l l2 a mid b s e) (hp : Part l2 l3 mid b) : Part l l3 a b := by
  obtain ⟨P, A1, A2, B1, B2, C, Q, e1, e2, e3, e4, e5, e6, e0, e7, e8, e9, e10, e11, e12⟩ := h
  obtain ⟨P', X, D, Q', f1, f2, f3, f4, f5, f6, f7⟩ := hp
  have f0 : (P ++ C) ++ ((A2 ++ B2) ++ Q) = P' ++ (X ++ Q') := by rw [← List.append_assoc (P ++ C), ← List.append_assoc P', ← e2, ← f1]
  obtain ⟨rfl, g1⟩ := app_inj f0 (by simp only [List.length_append]; omega)
  obtain ⟨rfl, rfl⟩ := app_inj g1 (by simp only [List.length_append]; omega)
  have hC : ∀ x ∈ C, x ∈ A1 ++ B1 := fun x hx => e7.symm.mem hx
  have hD : ∀ x ∈ D, x ∈ A2 ++ B2 := fun x hx => f6.symm.mem hx
  refine ⟨P, (A1 ++ A2) ++ (B1 ++ B2), C ++ D, Q, by rw [e1]; simp, by rw [f2]; simp, e3, ?_, by simp only [List.length_append]; omega, ?_, ?_⟩
  · simp only [List.length_append]; omega
  · refine Stb.trans ?_ (e7.app f6)
    rw [show (A1 ++ A2) ++ (B1 ++ B2) = A1 ++ ((A2 ++ B1) ++ B2) by simp, show (A1 ++ B1) ++ (A2 ++ B2) = A1 ++ ((B1 ++ A2) ++ B2) by simp]
    exact (Stb.refl _).app ((Stb.swap fun x hx y hy => fun e => bf_ne (e12 x hx y hy) e.symm).app (Stb.refl _))
  · refine Down.app e8 f7 fun x hx y hy => ?_
    rcases List.mem_append.1 (hC x hx) with hx | hx <;> rcases List.mem_append.1 (hD y hy) with hy | hy
    · exact e9.le hx hy
    · exact e11 x hx y hy
    · exact bf_asym (e12 y hy x hx)
    · exact e10.le hx hy
theorem Half.end0 {l l2 : List E3} {a mid b s e : Nat} (h : Half l l2 a mid b s e) (hn : mid = e ∨ e = b) : Part l l2 a b := by
  refine h.end ?_
  obtain ⟨P, A1, A2, B1, B2, C, Q, e1, e2, e3, e4, e5, e6, e0, e7, e8, e9, e10, e11, e12⟩ := h
  refine ⟨P ++ C, A2 ++ B2, A2 ++ B2, Q, e2, e2, by simp only [List.length_append]; omega, by simp only [List.length_append]; omega, by simp only [List.length_append]; omega, Stb.refl _, ?_⟩
  rcases hn with hn | hn
  · obtain rfl : A2 = [] := List.length_eq_zero_iff.1 (by omega)
    simpa using e10.right
  · obtain rfl : B2 = [] := List.length_eq_zero_iff.1 (by omega)
    simpa using e9.right
end Brv.Stats
/-
  Plain laws on sorting: blocks that are sorted.
-/
set_option linter.unusedVariables false
set_option linter.unusedSimpArgs false
namespace Brv.Stats
open Go Brv
def seg (l : List E3) (i j : Nat) : List E3 := (l.take j).drop i
theorem Part.stb {l m : List E3} {a b : Nat} (h : Part l m a b) : Stb l m := by
  obtain ⟨P, A, B, Q, rfl, rfl, _, _, _, h, _⟩ := h
  exact ((Stb.refl P).app h).app (Stb.refl Q)
theorem Part.lo {l m : List E3} {a b i j : Nat} (h : Part l m a b) (hj : j ≤ a) : seg m i j = seg l i j := by
  obtain ⟨P, A, B, Q, rfl, rfl, h1, _⟩ := h
  unfold seg
  rw [List.append_assoc, List.append_assoc, List.take_append_of_le_length (by omega), List.take_append_of_le_length (by omega)]
theorem Part.hi {l m : List E3} {a b i j : Nat} (h : Part l m a b) (hi : b ≤ i) : seg m i j = seg l i j := by
  obtain ⟨P, A, B, Q, rfl, rfl, h1, h2, h3, _⟩ := h
  have e : ∀ X : List E3, a + X.length = b → seg (P ++ X ++ Q) i j = (Q.drop (i - b)).take (j - i) := by
    intro X hX
    have hl : (P ++ X).length = b := by rw [List.length_append]; omega
    unfold seg
    rw [List.drop_take, List.drop_append, List.drop_of_length_le (by omega), List.nil_append, hl]
  rw [e A h2, e B h3]
theorem Part.mid {l m : List E3} {a b : Nat} (h : Part l m a b) : Down (seg m a b) := by
  obtain ⟨P, A, B, Q, rfl, rfl, h1, h2, h3, h4, h5⟩ := h
  unfold seg
  rw [List.take_append_of_le_length (by simp only [List.length_append]; omega), List.take_of_length_le (by simp only [List.length_append]; omega), ← h1, List.drop_left]
  exact h5
theorem seg_join (l : List E3) {i j k : Nat} (h1 : i ≤ j) (h2 : j ≤ k) (h3 : k ≤ l.length) : l.take i ++ seg l i j ++ seg l j k ++ l.drop k = l := by
  unfold seg
  have e1 : l.take i ++ (l.take j).drop i = l.take j := by
    have := List.take_append_drop i (l.take j)
    rwa [List.take_take, Nat.min_eq_left h1] at this
  have e2 : l.take j ++ (l.take k).drop j = l.take k := by
    have := List.take_append_drop j (l.take k)
    rwa [List.take_take, Nat.min_eq_left h2] at this
  rw [e1, e2, List.take_append_drop]
theorem runs_of {l : List E3} {a m b : Nat} (h1 : Down (seg l a m)) (h2 : Down (seg l m b)) (ha : a ≤ m) (hm : m ≤ b) (hb : b ≤ l.length) : Runs l a m b :=
  ⟨l.take a, seg l a m, seg l m b, l.drop b, (seg_join l ha hm hb).symm, by rw [List.length_take]; omega, by unfold seg; rw [List.length_drop, List.length_take]; omega, by unfold seg; rw [List.length_drop, List.length_take]; omega, h1, h2⟩
/-- Whole sorted blocks, up to a place. -/
inductive Full (l : List E3) (s : Nat) : Nat → Prop
  | zero : Full l s 0
  | snoc {a : Nat} : Full l s a → Down (seg l a (a + s)) → Full l s (a + s)
/-- Sorted blocks from a place on, the last of which may be short. -/
inductive Blks (l : List E3) (s : Nat) : Nat → Nat → Prop
  | last {a b : Nat} : a ≤ b → b ≤ a + s → Down (seg l a b) → Blks l s a b
  | cons {a b : Nat} : a + s ≤ b → Down (seg l a (a + s)) → Blks l s (a + s) b → Blks l s a b
theorem Full.part {l m : List E3} {s a b k : Nat} (h : Full l s k) (hp : Part l m a b) (hk : k ≤ a) : Full m s k := by
  induction h with
  | zero => exact .zero
  | snoc h1 h2 ih => exact .snoc (ih (by omega)) (by rw [hp.lo hk]; exact h2)
theorem Blks.part {l m : List E3} {s a b k n : Nat} (h : Blks l s k n) (hp : Part l m a b) (hk : b ≤ k) : Blks m s k n := by
  induction h with
  | last h1 h2 h3 => exact .last h1 h2 (by rw [hp.hi hk]; exact h3)
  | cons h1 h2 h3 ih => exact .cons h1 (by rw [hp.hi hk]; exact h2) (ih (by omega))
theorem Full.blks {l : List E3} {s a n : Nat} (h : Full l s a) : Blks l s a n → a ≤ n → Blks l s 0 n := by
  induction h with
  | zero => exact fun h _ => h
  | snoc h1 h2 ih => exact fun h h3 => ih (.cons h3 h2 h) (by omega)
theorem Blks.one {l : List E3} {s a n : Nat} (h : Blks l s a n) (hn : n ≤ a + s) : Down (seg l a n) := by
  cases h with
  | last h1 h2 h3 => exact h3
  | cons h1 h2 h3 =>
    rw [show n = a + s by omega]; exact h2
theorem Blks.first {l : List E3} {s a n : Nat} (h : Blks l s a n) (hn : a + s < n) : Down (seg l a (a + s)) ∧ Blks l s (a + s) n := by
  cases h with
  | last h1 h2 h3 => omega
  | cons h1 h2 h3 => exact ⟨h2, h3⟩
theorem seg_nil (l : List E3) (a : Nat) : seg l a a = [] := by unfold seg; rw [List.drop_of_length_le (by rw [List.length_take]; omega)]
theorem Blks.two {l : List E3} {s a n : Nat} (h : Blks l s a n) (hs : 0 < s) (hn : a + 2 * s ≤ n) (hl : n ≤ l.length) : Runs l a (a + s) (a + 2 * s) ∧ Blks l s (a + 2 * s) n := by
  obtain ⟨h1, h2⟩ := h.first (by omega)
  have e : a + s + s = a + 2 * s := by omega
  cases h2 with
  | last h3 h4 h5 =>
    obtain rfl : n = a + 2 * s := by omega
    exact ⟨runs_of h1 h5 (by omega) (by omega) hl, .last (Nat.le_refl _) (by omega) (by rw [seg_nil]; exact List.Pairwise.nil)⟩
  | cons h3 h4 h5 =>
    rw [e] at h4 h5
    exact ⟨runs_of h1 h4 (by omega) (by omega) (by omega), h5⟩
theorem Blks.rest {l : List E3} {s a n : Nat} (h : Blks l s a n) (h1 : a + s < n) (h2 : n < a + 2 * s) (hl : n ≤ l.length) : Runs l a (a + s) n := by
  obtain ⟨q1, q2⟩ := h.first h1
  exact runs_of q1 (q2.one (by omega)) (by omega) (by omega) hl
theorem Blks.all {l : List E3} {s n : Nat} (h : Blks l s 0 n) (hn : n ≤ s) (hl : n = l.length) : Down l := by
  have := h.one (by omega)
  unfold seg at this
  rw [List.take_of_length_le (by omega)] at this
  simpa using this
theorem part_all {l m : List E3} {n : Nat} (h : Stb l m) (hd : Down m) (h1 : n = l.length) (h2 : n = m.length) : Part l m 0 n := ⟨[], l, m, [], by simp, by simp, rfl, by omega, by omega, h, hd⟩
end Brv.Stats
/-
  Plain laws on package stats: what the document's answers come to.
-/
set_option linter.unusedVariables false
set_option linter.unusedSimpArgs false
namespace Brv.Stats
open Go Brv
def gtO : Option Int → Int → Bool
  | none, _ => true
  | some b, q => decide (b < q)
def ltO : Option Int → Int → Bool
  | none, _ => true
  | some b, q => decide (q < b)
def mnS (lo o : Option Int) (q : Int) : Option Int := if gtO lo q && ltO o q then some q else o
def loK {α : Type} (T : List (Int × α)) : Nat → Option Int
  | 0 => none
  | k + 1 => (T[k]?).map Prod.fst
theorem gtO_0 {α : Type} {T : List (Int × α)} {k : Nat} (h : k = 0) (q : Int) : gtO (loK T k) q = true := by subst h; rfl
theorem gtO_s {α : Type} {T : List (Int × α)} {k k1 : Nat} {p : Int × α} (h : T[k1]? = some p) (hk : k = k1 + 1) (q : Int) : gtO (loK T k) q = decide (p.1 < q) := by subst hk; show gtO ((T[k1]?).map Prod.fst) q = _; rw [h]; rfl
theorem ltO_n {o : Option Int} (h : o.isSome = false) (q : Int) : ltO o q = true := by cases o with | none => rfl | some b => cases h
theorem ltO_s {o : Option Int} (h : o.isSome = true) (q : Int) : ltO o q = decide (q < o.getD 0) := by cases o with | none => cases h | some b => rfl
theorem mnS_yes {lo o : Option Int} {q : Int} (h : (gtO lo q && ltO o q) = true) : mnS lo o q = some q := if_pos h
theorem mnS_no {lo o : Option Int} {q : Int} (h : (gtO lo q && ltO o q) = false) : mnS lo o q = o := if_neg (by simp [h])
/-- The least of those above a bound. -/
def MnIs (lo : Option Int) (ks : List Int) (o : Option Int) : Prop := (o = none ∧ ∀ q ∈ ks, gtO lo q = false) ∨ ∃ m, o = some m ∧ m ∈ ks ∧ gtO lo m = true ∧ ∀ q ∈ ks, gtO lo q = true → m ≤ q
theorem MnIs.nil (lo : Option Int) : MnIs lo [] none := .inl ⟨rfl, by simp⟩
theorem MnIs.snoc {lo : Option Int} {ks : List Int} {o : Option Int} (h : MnIs lo ks o) (q : Int) : MnIs lo (ks ++ [q]) (mnS lo o q) := by
  cases hg : gtO lo q with
  | false =>
    rw [mnS_no (by rw [hg]; rfl)]
    rcases h with ⟨rfl, h⟩ | ⟨m, rfl, h1, h2, h3⟩
    · refine .inl ⟨rfl, fun r hr => ?_⟩
      rcases List.mem_append.1 hr with hr | hr
      · exact h r hr
      · rw [List.mem_singleton.1 hr]; exact hg
    · refine .inr ⟨m, rfl, List.mem_append_left _ h1, h2, fun r hr hr2 => ?_⟩
      rcases List.mem_append.1 hr with hr | hr
      · exact h3 r hr hr2
      · rw [List.mem_singleton.1 hr, hg] at hr2; cases hr2
  | true =>
    rcases h with ⟨rfl, h⟩ | ⟨m, rfl, h1, h2, h3⟩
    · rw [mnS_yes (by rw [hg]; rfl)]
      refine .inr ⟨q, rfl, by simp, hg, fun r hr hr2 => ?_⟩
      rcases List.mem_append.1 hr with hr | hr
      · rw [h r hr] at hr2; cases hr2
      · rw [List.mem_singleton.1 hr]; exact Int.le_refl _
    · by_cases hl : q < m
      · rw [mnS_yes (by rw [hg]; simp [ltO, hl])]
        refine .inr ⟨q, rfl, by simp, hg, fun r hr hr2 => ?_⟩
        rcases List.mem_append.1 hr with hr | hr
        · have := h3 r hr hr2; omega
        · rw [List.mem_singleton.1 hr]; exact Int.le_refl _
      · rw [mnS_no (by rw [hg]; simp [ltO, hl])]
        refine .inr ⟨m, rfl, List.mem_append_left _ h1, h2, fun r hr hr2 => ?_⟩
        rcases List.mem_append.1 hr with hr | hr
        · exact h3 r hr hr2
        · rw [List.mem_singleton.1 hr]; omega
theorem srt_le {α : Type} {T : List (Int × α)} (h : Srt T) {i j : Nat} {p q : Int × α} (hp : T[i]? = some p) (hq : T[j]? = some q) (hij : i < j) : p.1 < q.1 := by
  obtain ⟨h1, rfl⟩ := List.getElem?_eq_some_iff.1 hp
  obtain ⟨h2, rfl⟩ := List.getElem?_eq_some_iff.1 hq
  exact List.pairwise_iff_getElem.1 h i j h1 h2 hij
/-- The next key of a table. -/
theorem tab_next {α : Type} {T : List (Int × α)} (hs : Srt T) {ks : List Int} (hks : ∀ q, q ∈ ks ↔ ∃ p ∈ T, p.1 = q) {k : Nat} (hk : k ≤ T.length) {o : Option Int} (h : MnIs (loK T k) ks o) : (o = none ∧ k = T.length) ∨ ∃ p, T[k]? = some p ∧ o = some p.1 := by
  have lowj : ∀ j p, T[j]? = some p → gtO (loK T k) p.1 = true → k ≤ j := by
    intro j p hp hg
    cases k with
    | zero => exact Nat.zero_le _
    | succ k =>
      obtain ⟨pl, hpl⟩ : ∃ pl, T[k]? = some pl := ⟨_, List.getElem?_eq_getElem (by omega)⟩
      rw [gtO_s hpl rfl] at hg
      have hg := of_decide_eq_true hg
      rcases Nat.lt_trichotomy j k with h1 | h1 | h1
      · have := srt_le hs hp hpl h1; omega
      · subst h1; rw [hp] at hpl; cases hpl; omega
      · exact h1
  have hig : ∀ p, T[k]? = some p → gtO (loK T k) p.1 = true := by
    intro p hp
    cases k with
    | zero => rfl
    | succ k =>
      obtain ⟨pl, hpl⟩ : ∃ pl, T[k]? = some pl := ⟨_, List.getElem?_eq_getElem (by omega)⟩
      rw [gtO_s hpl rfl]
      exact decide_eq_true (srt_le hs hpl hp (by omega))
  rcases Nat.lt_or_ge k T.length with hlt | hge
  · obtain ⟨p, hp⟩ : ∃ p, T[k]? = some p := ⟨_, List.getElem?_eq_getElem hlt⟩
    have hpm : p.1 ∈ ks := (hks _).2 ⟨p, List.mem_of_getElem? hp, rfl⟩
    rcases h with ⟨rfl, h⟩ | ⟨m, rfl, h1, h2, h3⟩
    · have := h _ hpm; rw [hig p hp] at this; cases this
    · have hle := h3 _ hpm (hig p hp)
      obtain ⟨p', hp', e⟩ := (hks m).1 h1
      obtain ⟨j, hj⟩ := List.getElem?_of_mem hp'
      have hkj := lowj j p' hj (by rw [e]; exact h2)
      refine .inr ⟨p, hp, ?_⟩
      rcases Nat.lt_or_ge k j with h4 | h4
      · have := srt_le hs hp hj h4; congr 1; omega
      · obtain rfl : j = k := by omega
        rw [hp] at hj; cases hj; rw [e]
  · rcases h with ⟨rfl, h⟩ | ⟨m, rfl, h1, h2, h3⟩
    · exact .inl ⟨rfl, by omega⟩
    · obtain ⟨p', hp', e⟩ := (hks m).1 h1
      obtain ⟨j, hj⟩ := List.getElem?_of_mem hp'
      have h5 := lowj j p' hj (by rw [e]; exact h2)
      have := (List.getElem?_eq_some_iff.1 hj).1
      omega
/-- All that is of one key, added up. -/
def svS (q : Int) (v : V3) (r : Int × V3) : V3 := if r.1 = q then addV v r.2 else v
def sv (q : Int) (rows : List (Int × V3)) : V3 := rows.foldl (svS q) zV
theorem sumK_sv (q : Int) (rows : List (Int × V3)) : ∀ o, (sumK q rows o).getD zV = rows.foldl (svS q) (o.getD zV) := by
  induction rows with
  | nil => exact fun o => rfl
  | cons r rows ih =>
    intro o
    show (sumK q rows (sumS q o r)).getD zV = rows.foldl (svS q) (svS q (o.getD zV) r)
    rw [ih]
    congr 1
    unfold sumS svS
    by_cases e : r.1 = q
    · rw [if_pos e, if_pos e]; rfl
    · rw [if_neg e, if_neg e]
theorem acc_sv {rows : List (Int × V3)} {k : Nat} {p : Int × V3} (h : (accT [] rows)[k]? = some p) : p.2 = sv p.1 rows := by
  have hs : Srt (accT [] rows) := accT_srt List.Pairwise.nil
  have h1 := getT_at hs h
  rw [accT_get p.1 List.Pairwise.nil] at h1
  have := sumK_sv p.1 rows none
  rw [show getT ([] : List (Int × V3)) p.1 = none from rfl] at h1
  rw [h1] at this
  exact this
theorem sv_step {q : Int} {rows : List (Int × V3)} {i : Nat} {r : Int × V3} (h : rows[i]? = some r) : sv q (rows.take (i + 1)) = svS q (sv q (rows.take i)) r := by
  unfold sv; rw [List.take_add_one, h, List.foldl_append]; rfl
theorem sv_nrm (q : Int) (rows : List (Int × V3)) : wr (sv q rows).2.2 = (sv q rows).2.2 := by
  unfold sv
  have : ∀ (rows : List (Int × V3)) (v : V3), wr v.2.2 = v.2.2 → wr (rows.foldl (svS q) v).2.2 = (rows.foldl (svS q) v).2.2 := by
    intro rows
    induction rows with
    | nil => exact fun v h => h
    | cons r rows ih =>
      intro v h
      refine ih _ ?_
      unfold svS
      split
      · exact wr_w _
      · exact h
  exact this rows zV (by decide +kernel)
theorem acc_keys {rows : List (Int × V3)} : ∀ {T : List (Int × V3)}, Srt T → ∀ q, (∃ p ∈ accT T rows, p.1 = q) ↔ (∃ p ∈ T, p.1 = q) ∨ q ∈ rows.map Prod.fst := by
  induction rows with
  | nil => intro T hs q; simp [accT]
  | cons r rows ih =>
    intro T hs q
    show (∃ p ∈ accT (stepT T r) rows, p.1 = q) ↔ _
    rw [ih (T := stepT T r) (srt_put hs _ _)]
    unfold stepT
    rw [List.map_cons, List.mem_cons]
    constructor
    · rintro (⟨p, hp, e⟩ | h)
      · rcases (mem_put2 hs).1 hp with rfl | ⟨hp, _⟩
        · exact .inr (.inl e.symm)
        · exact .inl ⟨p, hp, e⟩
      · exact .inr (.inr h)
    · rintro (⟨p, hp, e⟩ | e | h)
      · by_cases e2 : p.1 = r.1
        · exact .inl ⟨_, (mem_put2 hs).2 (.inl rfl), by rw [← e, e2]⟩
        · exact .inl ⟨p, (mem_put2 hs).2 (.inr ⟨hp, e2⟩), e⟩
      · exact .inl ⟨_, (mem_put2 hs).2 (.inl rfl), e.symm⟩
      · exact .inr h
/-- Choosing the first of the greatest left, again and again, sorts and keeps the order. -/
theorem pick_next {l ys : List E3} (hst : Stb l ys) (hd : Down ys) (hn : l.Nodup) {k i : Nat} {x z : E3} (hx : ys[k]? = some x) (hz : l[i]? = some z) (hnot : z ∉ ys.take k) (hmax : ∀ (j : Nat) (w : E3), l[j]? = some w → w ∉ ys.take k → bf w z = false) (hfst : ∀ (j : Nat) (w : E3), j < i → l[j]? = some w → w ∉ ys.take k → bf z w = true) (hny : ys.Nodup) : z = x := by
  obtain ⟨hk, ex⟩ := List.getElem?_eq_some_iff.1 hx
  obtain ⟨hi, ez⟩ := List.getElem?_eq_some_iff.1 hz
  have ey : ys = ys.take k ++ x :: ys.drop (k + 1) := by
    conv => lhs; rw [← List.take_append_drop k ys, List.drop_eq_getElem_cons hk, ex]
  have el : l = l.take i ++ z :: l.drop (i + 1) := by
    conv => lhs; rw [← List.take_append_drop i l, List.drop_eq_getElem_cons hi, ez]
  have hxk : x ∉ ys.take k := by
    intro h
    rw [ey] at hny
    exact (List.nodup_append.1 hny).2.2 x h x (by simp) rfl
  by_cases hzx : z = x
  · exact hzx
  exfalso
  have hzy : z ∈ ys.drop (k + 1) := by
    have h1 : z ∈ ys := hst.mem (List.mem_of_getElem? hz)
    rw [ey] at h1
    rcases List.mem_append.1 h1 with h1 | h1
    · exact absurd h1 hnot
    · rcases List.mem_cons.1 h1 with h1 | h1
      · exact absurd h1 hzx
      · exact h1
  have hxl : x ∈ l := hst.symm.mem (List.mem_of_getElem? hx)
  obtain ⟨j, hj⟩ := List.getElem?_of_mem hxl
  have h1 : bf x z = false := hmax j x hj hxk
  have h2 : bf z x = false := by
    rw [ey] at hd
    exact (List.pairwise_cons.1 hd.right).1 z hzy
  have hsame : z.2.1 = x.2.1 := by unfold bf at h1 h2; simp only [decide_eq_false_iff_not] at h1 h2; omega
  have hij : i < j := by
    rcases Nat.lt_trichotomy j i with h | h | h
    · have := hfst j x h hj hxk
      rw [h2] at this; cases this
    · subst h; rw [hz] at hj; cases hj; exact absurd rfl hzx
    · exact h
  have hxd : x ∈ l.drop (i + 1) := by
    refine List.mem_iff_getElem?.2 ⟨j - (i + 1), ?_⟩
    rw [List.getElem?_drop, show i + 1 + (j - (i + 1)) = j by omega]; exact hj
  have hf := hst x.2.1
  rw [el, ey] at hf
  rw [List.filter_append, List.filter_append, List.filter_cons_of_pos (by simp [hsame]), List.filter_cons_of_pos (by simp)] at hf
  have hnf : ((l.take i).filter (fun y => decide (y.2.1 = x.2.1)) ++ z :: (l.drop (i + 1)).filter (fun y => decide (y.2.1 = x.2.1))).Nodup := by
    have : (l.filter (fun y => decide (y.2.1 = x.2.1))).Nodup := List.Nodup.sublist (List.filter_sublist) hn
    rw [el, List.filter_append, List.filter_cons_of_pos (by simp [hsame])] at this
    exact this
  generalize (l.take i).filter (fun y => decide (y.2.1 = x.2.1)) = G1 at hf hnf
  generalize (ys.take k).filter (fun y => decide (y.2.1 = x.2.1)) = F1 at hf
  have hG2 : x ∈ (l.drop (i + 1)).filter (fun y => decide (y.2.1 = x.2.1)) := List.mem_filter.2 ⟨hxd, by simp⟩
  have hF2 : z ∈ (ys.drop (k + 1)).filter (fun y => decide (y.2.1 = x.2.1)) := List.mem_filter.2 ⟨hzy, by simp [hsame]⟩
  generalize (l.drop (i + 1)).filter (fun y => decide (y.2.1 = x.2.1)) = G2 at hf hnf hG2
  generalize (ys.drop (k + 1)).filter (fun y => decide (y.2.1 = x.2.1)) = F2 at hf hF2
  obtain ⟨u, hu⟩ := List.getElem?_of_mem hG2
  obtain ⟨t, ht⟩ := List.getElem?_of_mem hF2
  have inj : ∀ {L : List E3}, L.Nodup → ∀ {a b : Nat} {y : E3}, L[a]? = some y → L[b]? = some y → a = b := by
    intro L hL a b y ha hb
    obtain ⟨ha1, ha2⟩ := List.getElem?_eq_some_iff.1 ha
    obtain ⟨hb1, hb2⟩ := List.getElem?_eq_some_iff.1 hb
    rcases Nat.lt_trichotomy a b with h | h | h
    · exact absurd (ha2.trans hb2.symm) (List.pairwise_iff_getElem.1 hL a b ha1 hb1 h)
    · exact h
    · exact absurd (hb2.trans ha2.symm) (List.pairwise_iff_getElem.1 hL b a hb1 ha1 h)
  have a1 : (G1 ++ z :: G2)[G1.length]? = some z := at_mid rfl
  have a2 : (G1 ++ z :: G2)[G1.length + 1 + u]? = some x := by
    rw [List.getElem?_append_right (by omega), show G1.length + 1 + u - G1.length = u + 1 by omega, List.getElem?_cons_succ]; exact hu
  have b1 : (G1 ++ z :: G2)[F1.length]? = some x := by rw [hf]; exact at_mid rfl
  have b2 : (G1 ++ z :: G2)[F1.length + 1 + t]? = some z := by
    rw [hf, List.getElem?_append_right (by omega), show F1.length + 1 + t - F1.length = t + 1 by omega, List.getElem?_cons_succ]; exact ht
  have c1 := inj hnf a1 b2
  have c2 := inj hnf a2 b1
  omega
end Brv.Stats
/-
  Rows of structs that are owned: elements read and written.
-/
set_option linter.unusedVariables false
set_option linter.unusedSimpArgs false
namespace Brv
open Go
section
variable {α : Type} {f : α → List Value} {s : Nat}
theorem flat_len (hf : ∀ x, (f x).length = s) (l : List α) : (l.map f).flatten.length = l.length * s := by
  induction l with
  | nil => simp
  | cons x l ih => rw [List.map_cons, List.flatten_cons, List.length_append, ih, hf, List.length_cons, Nat.add_mul, Nat.one_mul, Nat.add_comm]
theorem flat_take (hf : ∀ x, (f x).length = s) (l : List α) {i : Nat} (hi : i ≤ l.length) : (l.map f).flatten.take (i * s) = ((l.take i).map f).flatten := by
  conv => lhs; rw [← List.take_append_drop i l, List.map_append, List.flatten_append]
  rw [List.take_append_of_le_length (by rw [flat_len hf, List.length_take, Nat.min_eq_left hi]; exact Nat.le_refl _), List.take_of_length_le (by rw [flat_len hf, List.length_take, Nat.min_eq_left hi]; exact Nat.le_refl _)]
theorem flat_drop (hf : ∀ x, (f x).length = s) (l : List α) {i : Nat} (hi : i ≤ l.length) : (l.map f).flatten.drop (i * s) = ((l.drop i).map f).flatten := by
  conv => lhs; rw [← List.take_append_drop i l, List.map_append, List.flatten_append]
  have : ((l.take i).map f).flatten.length = i * s := by rw [flat_len hf, List.length_take, Nat.min_eq_left hi]
  rw [← this, List.drop_left]
theorem flat_set (hf : ∀ x, (f x).length = s) (l : List α) {i : Nat} (hi : i < l.length) (v : α) : (l.map f).flatten.take (i * s) ++ f v ++ (l.map f).flatten.drop (i * s + s) = ((l.set i v).map f).flatten := by
  rw [flat_take hf l (by omega), show i * s + s = (i + 1) * s by rw [Nat.add_mul, Nat.one_mul], flat_drop hf l hi, List.set_eq_take_append_cons_drop, if_pos hi]
  simp
theorem set_take {β : Type} {c v : List β} {i K : Nat} (hv : v.length = s) (h : i + s ≤ K) (hK : K ≤ c.length) : (c.take i ++ v ++ c.drop (i + s)).take K = (c.take K).take i ++ v ++ (c.take K).drop (i + s) := by
  have h1 : (c.take i).length = i := by rw [List.length_take]; omega
  rw [List.take_append, List.take_of_length_le (show (c.take i ++ v).length ≤ K by rw [List.length_append, h1, hv]; omega), List.length_append, h1, hv, List.take_take, Nat.min_eq_left (show i ≤ K by omega), List.drop_take]
theorem row_ld (hf : ∀ x, (f x).length = s) {w : World} {g : Nat} {l : List α} (h : Cells w (some ⟨g, 0, none⟩) (l.map f).flatten) {i : Nat} {x : α} (hx : l[i]? = some x) : Cells w (some ⟨g, i * s, none⟩) (f x) := by
  obtain ⟨hi, rfl⟩ := List.getElem?_eq_some_iff.1 hx
  intro j v hj
  have hjl := (List.getElem?_eq_some_iff.1 hj).1
  refine ⟨_, rfl, ?_⟩
  have h2 : (l.map f).flatten[i * s + j]? = some v := by
    rw [← List.getElem?_drop, flat_drop hf l (by omega), List.drop_eq_getElem_cons hi, List.map_cons, List.flatten_cons, List.getElem?_append_left hjl]
    exact hj
  have := h.load h2
  rw [Go.Addr.add_lit] at this ⊢
  simpa [Nat.add_assoc] using this
end
section
variable {P : Program} {n : Fm} {o : Org} {ρ : Env} {H H1 : List Asn} {d : Nat} {ty : TypeId} {pos : String} {af : Array Edge} {gd : Option (Nat × Bool)}
/-- An element of a row that is owned is written. -/
theorem CS.stR {α : Type} {f : α → List Value} {T : TypeId} {s : Nat} [t : TyAgg P T s] {x y : Operand} {E g i k c : Nat} {l : List α} {v : α} (hf : ∀ x, (f x).length = s) (h1 : ∀ x, ∀ u ∈ f x, u.oneCell' = true) (hx : ev ρ x = some (.pointer (some ⟨g, i * s, none⟩))) (hy : ev ρ y = some (.agg (f v).toArray)) (sel : Sel H (own E s (some ⟨g, 0, none⟩) k c (l.map f).flatten) H1) (hi : i < k) (hk : k = l.length) :
    CS P n o ρ H ⟨none, .store T x y, ty, pos, af, gd⟩ (fun _ H' => H' = own E s (some ⟨g, 0, none⟩) k c ((l.set i v).map f).flatten :: H1) := by
  refine CS.mono (CS.upd sel (φ := fun _ A' => A' = own E s (some ⟨g, 0, none⟩) k c ((l.set i v).map f).flatten) fun w F S F1 S1 st hA hlt => ?_) (by rintro v H' ⟨_, rfl, rfl⟩; rfl)
  rcases hA with ⟨hlen, ⟨h, _⟩ | ⟨g', cur, hg, hF, hB, hkc, hcm, hcs, ht⟩⟩
  · cases h
  · cases hg
    subst hF
    have hks := Nat.mul_le_mul_right s hkc
    have his : i * s + s ≤ k * s := by have := Nat.mul_le_mul_right s (show i + 1 ≤ k from hi); rw [Nat.add_mul, Nat.one_mul] at this; exact this
    obtain ⟨w', hr, he, hsz', hB'⟩ := R.stN (P := P) (n := n) (T := T) (ty := ty) (pos := pos) (af := af) (gd := gd) hx hy hB (by simpa using hf v) (by simp only [List.size_toArray, hf]; omega) (by simpa using h1 v)
    simp only [List.size_toArray, hf] at hB' hsz'
    refine .inr (.inl ⟨rfl, w', hr, _, [g], [], rfl, ⟨by rw [flat_len hf, List.length_set, hk], .inr ⟨g, _, rfl, rfl, hB', hkc, hcm, ?_, ?_⟩⟩, fun x hx => by have := hlt x hx; omega, by simp, ⟨he, fun x hx => .inl hx, by simp⟩⟩)
    · simp only [List.size_toArray, List.length_append, List.length_take, List.length_drop, Array.length_toList, hf]
      omega
    · rw [← flat_set hf l (by omega) v, ← ht, List.toList_toArray]
      exact set_take (hf v) his (by rw [Array.length_toList]; omega)
end
end Brv
/-
  The walks of package stats.
-/
set_option linter.unusedVariables false
set_option linter.unusedSimpArgs false
set_option maxRecDepth 4000
namespace Go.Proofs.YtlhkpakbenghgaaGreat
open Go Brv Brv.Stats
theorem usR_at {l : List ItemV} {i : Nat} {x : ItemV} (h : l[i]? = some x) : (usR l)[i]? = some (rowU x) := by unfold usR; rw [List.getElem?_map, h]; rfl
def ksI (l : List ItemV) : List Int := (usR l).map Prod.fst
theorem ksI_at {l : List ItemV} {i : Nat} {x : ItemV} (h : l[i]? = some x) : (ksI l)[i]? = some x.Kind' := by unfold ksI; rw [List.getElem?_map, usR_at h]; rfl
theorem ksI_len (l : List ItemV) : (ksI l).length = l.length := by unfold ksI usR; rw [List.length_map, List.length_map]
theorem usR_len (l : List ItemV) : (usR l).length = l.length := by unfold usR; rw [List.length_map]
theorem usT_keys (l : List ItemV) : ∀ q, q ∈ ksI l ↔ ∃ p ∈ usT l, p.1 = q := fun q => by
  have := acc_keys (rows := usR l) (T := []) List.Pairwise.nil q
  unfold usT ksI
  rw [this]; simp
theorem mn_step {lo o : Option Int} {ks : List Int} {i : Nat} {q : Int} (h : MnIs lo (ks.take i) o) (hq : ks[i]? = some q) : MnIs lo (ks.take (i + 1)) (mnS lo o q) := by
  rw [List.take_add_one, hq]; exact h.snoc q
def fE (u : Int) (l : List ExtV) : Int := l.foldl (fun n e => wr (n + e.N')) u
theorem fE_step {u : Int} {l : List ExtV} {j : Nat} {e : ExtV} (h : l[j]? = some e) : fE u (l.take (j + 1)) = wr (fE u (l.take j) + e.N') := by unfold fE; rw [List.take_add_one, h, List.foldl_append]; rfl
theorem fE_from (l : List ExtV) : ∀ u : Int, fE (wr u) l = wr (u + secE l) := by
  induction l with
  | nil => intro u; show wr u = wr (u + 0); rw [Int.add_zero]
  | cons x l ih =>
    intro u
    have h1 : fE (wr u) (x :: l) = fE (wr (wr u + x.N')) l := rfl
    have h2 : secE (x :: l) = fE (wr (0 + x.N')) l := rfl
    rw [h1, h2, ih, ih, wr_r, Int.add_assoc, wr_l, Int.zero_add]
theorem fE_sec {u : Int} (h : wr u = u) (l : List ExtV) : fE u l = wr (u + secE l) := by rw [← fE_from, h]
theorem usT_srt2 (l : List ItemV) : Srt (usT l) := accT_srt List.Pairwise.nil
theorem sv_same {l : List ItemV} {i : Nat} {x : ItemV} {q : Int} (h : l[i]? = some x) (hk : x.Kind' = q) : sv q ((usR l).take (i + 1)) = (wr ((sv q ((usR l).take i)).1 + 1), wr ((sv q ((usR l).take i)).2.1 + x.Length'), fE (sv q ((usR l).take i)).2.2 x.At') := by
  rw [sv_step (usR_at h), fE_sec (sv_nrm _ _)]
  unfold svS
  rw [if_pos (show (rowU x).1 = q from hk)]; rfl
theorem sv_other {l : List ItemV} {i : Nat} {x : ItemV} {q : Int} (h : l[i]? = some x) (hk : x.Kind' ≠ q) : sv q ((usR l).take (i + 1)) = sv q ((usR l).take i) := by
  rw [sv_step (usR_at h)]
  exact if_neg hk

set_option maxHeartbeats 1000000 in
theorem rUsages_ok (a : Option Addr) (n c : Nat) (its : List ItemV) (hb : n ≤ 900000) : SpecS Tryz.prog 6 [.slice a n c] [sh (fun w => ItemsOk w a n its)] (fun v H' => ∃ a' c', v = .slice a' (usT its).length c' ∧ H' = [own 43 4 a' ((usT its).length) c' (uCells (usT its)).flatten]) := by
  refine SpecS.enter Tryz.func6 rfl 91 rfl (Nat.le_of_ble_eq_true rfl) (fun o => ?_)
  refine SG.fact (fun w9 F9 S9 s => (s.sh (p := fun w => ItemsOk w a n its) (by repeat (first | exact Sel.keep | exact Sel.here | apply Sel.there))).len) (fun hf9 => ?_)
  have hln := hf9; clear hf9
  have hul := usT_len its
  refine SG.seq ?_
  refine SG.region ?_
  refine SL.val rfl rfl (fun w9 F9 S9 s => R.as rfl) ?_
  refine SL.nil ?_
  refine SN.seq ?_
  refine SG.seq ?_
  refine SG.region ?_
  refine SL.val rfl rfl (fun w9 F9 S9 s => R.as rfl) ?_
  refine SL.nil ?_
  refine SN.seq ?_
  refine SG.block ?_
  refine SG.loop (X := Nat × Option Addr × Nat) (fun y => [(0, .slice a n c), (3, .slice y.2.1 y.1 y.2.2)]) (fun y => [own 43 4 y.2.1 (y.1) y.2.2 (uCells (List.take y.1 (usT its))).flatten, sh (fun w => ItemsOk w a n its)]) (fun y => y.1 ≤ (usT its).length) (fun y => (usT its).length - y.1) ((0, none, 0)) (Sub.cons rfl (Sub.cons rfl (Sub.nil _))) (((Imp.ownNil 43 4).trans (Imp.sels (by repeat (first | exact Sels.nil | apply Sels.cons | exact Sel.keep | exact Sel.here | apply Sel.there))))) (Nat.zero_le _) ?_
  rintro ⟨k, a9, c9⟩ hk
  dsimp only at hk
  show SG _ _ _ _ _ [(0, .slice a n c), (3, .slice a9 k c9)] [own 43 4 a9 (k) c9 (uCells (List.take k (usT its))).flatten, sh (fun w => ItemsOk w a n its)] _
  refine SG.block ?_
  refine SG.seq ?_
  refine SG.region ?_
  refine SL.val rfl rfl (fun w9 F9 S9 s => R.as rfl) ?_
  refine SL.nil ?_
  refine SN.seq ?_
  refine SG.seq ?_
  refine SG.region ?_
  refine SL.val rfl rfl (fun w9 F9 S9 s => R.as rfl) ?_
  refine SL.nil ?_
  refine SN.seq ?_
  refine SG.seq ?_
  refine SG.seq ?_
  refine SG.region ?_
  refine SL.val rfl rfl (fun w9 F9 S9 s => R.mv rfl) ?_
  refine SL.val rfl rfl (fun w9 F9 S9 s => R.lenS rfl) ?_
  refine SL.val rfl rfl (fun w9 F9 S9 s => R.mv rfl) ?_
  refine SL.nil ?_
  refine SN.seq ?_
  refine SG.block ?_
  refine SG.loop (X := Nat × Option Int) (fun y => [(0, .slice a n c), (3, .slice a9 k c9), (4, .int .i64 ((y.2).getD 0)), (5, .bool (y.2).isSome), (13, .slice a n c), (14, .int .i64 ((n : Nat) : Int)), (15, .int .i64 ((y.1 : Nat) : Int))]) (fun y => [own 43 4 a9 (k) c9 (uCells (List.take k (usT its))).flatten, sh (fun w => ItemsOk w a n its)]) (fun y => y.1 ≤ n ∧ MnIs (loK (usT its) k) ((ksI its).take y.1) y.2) (fun y => n - y.1) ((0, none)) (Sub.cons rfl (Sub.cons rfl (Sub.cons rfl (Sub.cons rfl (Sub.cons rfl (Sub.cons rfl (Sub.cons rfl (Sub.nil _)))))))) ((Imp.sels (by repeat (first | exact Sels.nil | apply Sels.cons | exact Sel.keep | exact Sel.here | apply Sel.there)))) (⟨Nat.zero_le _, MnIs.nil _⟩) ?_
  rintro ⟨i, o⟩ ⟨hi, hm⟩
  dsimp only at hi hm
  show SG _ _ _ _ _ [(0, .slice a n c), (3, .slice a9 k c9), (4, .int .i64 ((o).getD 0)), (5, .bool (o).isSome), (13, .slice a n c), (14, .int .i64 ((n : Nat) : Int)), (15, .int .i64 ((i : Nat) : Int))] [own 43 4 a9 (k) c9 (uCells (List.take k (usT its))).flatten, sh (fun w => ItemsOk w a n its)] _
  refine SG.seq ?_
  refine SG.region ?_
  refine SL.val rfl rfl (fun w9 F9 S9 s => R.lss rfl rfl) ?_
  refine SL.nil ?_
  refine SN.seq ?_
  refine SG.seq ?_
  refine SG.condP rfl (fun h0 => ?_) (fun h0 => ?_)
  · obtain ⟨x, hx⟩ : ∃ x, its[i]? = some x := ⟨_, List.getElem?_eq_getElem (by omega)⟩
    refine SG.fact (fun w9 F9 S9 s => items_pt (s.sh (p := fun w => ItemsOk w a n its) (by repeat (first | exact Sel.keep | exact Sel.here | apply Sel.there))) hx) (fun hf9 => ?_)
    obtain ⟨q, hq⟩ := hf9
    refine SG.skip ?_
    refine SN.seq ?_
    refine SG.seq ?_
    refine SG.block ?_
    refine SG.seq ?_
    refine SG.region ?_
    refine SL.val rfl rfl (fun w9 F9 S9 s => R.idx rfl rfl (by omega) (by omega) q hq) ?_
    refine SL.val rfl rfl (fun w9 F9 S9 s => R.ldN (vs := x.cells) rfl (items_ld (s.sh (p := fun w => ItemsOk w a n its) (by repeat (first | exact Sel.keep | exact Sel.here | apply Sel.there))) hq hx) rfl) ?_
    refine SL.step rfl rfl (CS.alloc [.int .i64 0, .int .i64 0, .int .i64 0, .int .i64 0, .int .i64 0, .int .i64 0, .int .i64 0, .int .i64 0, .slice none 0 0] rfl) ?_
    rintro _ _ ⟨b7, rfl, rfl⟩
    refine SL.step0 rfl (CS.stA (vs := x.cells) rfl rfl (by repeat (first | exact Sel.keep | exact Sel.here | apply Sel.there)) rfl (by rfl) (ItemV.cells.one x)) ?_
    rintro _ _ rfl
    refine SL.nil ?_
    refine SN.fact (fun w9 F9 S9 s => fun (h0 : 0 < k) => s.ownG (show Sel _ (own 43 4 a9 (k) c9 (uCells (List.take k (usT its))).flatten) _ from (by repeat (first | exact Sel.keep | exact Sel.here | apply Sel.there))) h0) (fun hf9 => ?_)
    have hga := hf9; clear hf9
    refine SN.seq ?_
    refine SG.seq ?_
    refine SG.cut (X := Bool) (fun w => [(0, .slice a n c), (3, .slice a9 k c9), (4, .int .i64 ((o).getD 0)), (5, .bool (o).isSome), (13, .slice a n c), (14, .int .i64 ((n : Nat) : Int)), (15, .int .i64 ((i : Nat) : Int)), (7, .pointer (some ⟨b7, 0, none⟩)), (43, .bool w)]) (fun w => [own 43 4 a9 (k) c9 (uCells (List.take k (usT its))).flatten, blk b7 x.cells 33, sh (fun w => ItemsOk w a n its)]) (fun w => w = (gtO (loK (usT its) k) x.Kind' && ltO o x.Kind')) ?_ ?_
    · refine SG.draw [] [0, 1, 2, 3, 4, 5, 6, 7, 8, 9, 10, 11, 12, 13, 14, 15, 16, 17, 18, 19, 20, 21, 22, 23, 24] (by decide +kernel) rfl ?_
      refine SW.pure rfl rfl rfl rfl (fun w9 => R.mv rfl) ?_
      refine SW.pure rfl rfl rfl rfl (fun w9 => R.lenS rfl) ?_
      refine SW.pure rfl rfl rfl rfl (fun w9 => R.eqI rfl rfl) ?_
      refine SW.pure rfl rfl rfl rfl (fun w9 => R.mv rfl) ?_
      refine SW.caseP 22 rfl (fun hg7_3 => ?_) (fun hg7_3 => ?_)
      · refine SW.pass (hd := rfl) rfl rfl rfl ?_
        refine SW.pass (hd := rfl) rfl rfl rfl ?_
        refine SW.pass (hd := rfl) rfl rfl rfl ?_
        refine SW.pass (hd := rfl) rfl rfl rfl ?_
        refine SW.pass (hd := rfl) rfl rfl rfl ?_
        refine SW.pass (hd := rfl) rfl rfl rfl ?_
        refine SW.pass (hd := rfl) rfl rfl rfl ?_
        refine SW.pass (hd := rfl) rfl rfl rfl ?_
        refine SW.pass (hd := rfl) rfl rfl rfl ?_
        refine SW.pass (hd := rfl) rfl rfl rfl ?_
        first | refine SW.pure rfl rfl rfl rfl (fun w9 => R.pickT rfl rfl) ?_ | refine SW.pure rfl rfl rfl rfl (fun w9 => R.pickF rfl rfl) ?_
        refine SW.pure rfl rfl rfl rfl (fun w9 => R.mv rfl) ?_
        refine SW.pure rfl rfl rfl rfl (fun w9 => R.mv rfl) ?_
        refine SW.pure rfl rfl rfl rfl (fun w9 => R.not rfl) ?_
        refine SW.pure rfl rfl rfl rfl (fun w9 => R.mv rfl) ?_
        refine SW.caseB 37 rfl (fun hg7_18 => ?_) (fun hg7_18 => ?_)
        · refine SW.pass (hd := rfl) rfl rfl rfl ?_
          refine SW.pass (hd := rfl) rfl rfl rfl ?_
          refine SW.pass (hd := rfl) rfl rfl rfl ?_
          refine SW.pass (hd := rfl) rfl rfl rfl ?_
          first | refine SW.pure rfl rfl rfl rfl (fun w9 => R.pickT rfl rfl) ?_ | refine SW.pure rfl rfl rfl rfl (fun w9 => R.pickF rfl rfl) ?_
          first | refine SW.pure rfl rfl rfl rfl (fun w9 => R.pickT rfl rfl) ?_ | refine SW.pure rfl rfl rfl rfl (fun w9 => R.pickF rfl rfl) ?_
          refine SW.nil ?_
          exact SN.handX (true) (Sub.cons rfl (Sub.cons rfl (Sub.cons rfl (Sub.cons rfl (Sub.cons rfl (Sub.cons rfl (Sub.cons rfl (Sub.cons rfl (Sub.cons rfl (Sub.nil _)))))))))) ((Imp.sels (by repeat (first | exact Sels.nil | apply Sels.cons | exact Sel.keep | exact Sel.here | apply Sel.there)))) (by rw [gtO_0 (by omega), ltO_n (by simpa using hg7_18)]; rfl)
        · refine SW.pure rfl rfl rfl rfl (fun w9 => R.fld rfl) ?_
          refine SW.read rfl rfl rfl rfl (fun w9 F9 S9 s => R.ldB (v := .int .i64 x.Kind') rfl (s.cel (by repeat (first | exact SelB.blk | exact SelB.fz | apply SelB.there))) (by rfl)) ?_
          refine SW.pure rfl rfl rfl rfl (fun w9 => R.mv rfl) ?_
          refine SW.pure rfl rfl rfl rfl (fun w9 => R.lss rfl rfl) ?_
          first | refine SW.pure rfl rfl rfl rfl (fun w9 => R.pickT rfl rfl) ?_ | refine SW.pure rfl rfl rfl rfl (fun w9 => R.pickF rfl rfl) ?_
          first | refine SW.pure rfl rfl rfl rfl (fun w9 => R.pickT rfl rfl) ?_ | refine SW.pure rfl rfl rfl rfl (fun w9 => R.pickF rfl rfl) ?_
          refine SW.nil ?_
          exact SN.handX (decide (x.Kind' < o.getD 0)) (Sub.cons rfl (Sub.cons rfl (Sub.cons rfl (Sub.cons rfl (Sub.cons rfl (Sub.cons rfl (Sub.cons rfl (Sub.cons rfl (Sub.cons rfl (Sub.nil _)))))))))) ((Imp.sels (by repeat (first | exact Sels.nil | apply Sels.cons | exact Sel.keep | exact Sel.here | apply Sel.there)))) (by rw [gtO_0 (by omega), ltO_s (by simpa using hg7_18), Bool.true_and])
      · obtain ⟨k1, hk1⟩ : ∃ k1, k = k1 + 1 := ⟨k - 1, by omega⟩
        obtain ⟨pl, hpl⟩ : ∃ pl, (usT its)[k1]? = some pl := ⟨_, List.getElem?_eq_getElem (by omega)⟩
        have hplT : (List.take k (usT its))[k1]? = some pl := by rw [List.getElem?_take_of_lt (by omega)]; exact hpl
        obtain ⟨g9, rfl⟩ := hga (by omega)
        refine SW.pure rfl rfl rfl rfl (fun w9 => R.fld rfl) ?_
        refine SW.read rfl rfl rfl rfl (fun w9 F9 S9 s => R.ldB (v := .int .i64 x.Kind') rfl (s.cel (by repeat (first | exact SelB.blk | exact SelB.fz | apply SelB.there))) (by rfl)) ?_
        refine SW.pure rfl rfl rfl rfl (fun w9 => R.mv rfl) ?_
        refine SW.pure rfl rfl rfl rfl (fun w9 => R.mv rfl) ?_
        refine SW.pure rfl rfl rfl rfl (fun w9 => R.lenS rfl) ?_
        refine SW.pure rfl rfl rfl rfl (fun w9 => R.subW rfl rfl ((k1 : Nat) : Int) (by rw [wrap_i64 (by omega)]; omega)) ?_
        refine SW.pure rfl rfl rfl rfl (fun w9 => R.idxO rfl rfl (by omega) (by omega) rfl (k1 * 4) (by omega)) ?_
        refine SW.pure rfl rfl rfl rfl (fun w9 => R.fld rfl) ?_
        refine SW.read rfl rfl rfl rfl (fun w9 F9 S9 s => R.ld (v := .int .i64 pl.1) rfl ((row_ld (f := (fun p : Int × V3 => us4 p.1 p.2)) (fun _ => rfl) (s.ownC (show Sel _ (own 43 4 (some ⟨g9, 0, none⟩) (k) c9 (uCells (List.take k (usT its))).flatten) _ from (by repeat (first | exact Sel.keep | exact Sel.here | apply Sel.there)))) hplT).load (j := 0) rfl)) ?_
        refine SW.pure rfl rfl rfl rfl (fun w9 => R.gtr rfl rfl) ?_
        first | refine SW.pure rfl rfl rfl rfl (fun w9 => R.pickT rfl rfl) ?_ | refine SW.pure rfl rfl rfl rfl (fun w9 => R.pickF rfl rfl) ?_
        refine SW.pure rfl rfl rfl rfl (fun w9 => R.mv rfl) ?_
        refine SW.caseP 34 rfl (fun hg7_15 => ?_) (fun hg7_15 => ?_)
        · refine SW.pure rfl rfl rfl rfl (fun w9 => R.mv rfl) ?_
          refine SW.pure rfl rfl rfl rfl (fun w9 => R.not rfl) ?_
          refine SW.pure rfl rfl rfl rfl (fun w9 => R.mv rfl) ?_
          refine SW.caseB 37 rfl (fun hg7_18 => ?_) (fun hg7_18 => ?_)
          · refine SW.pass (hd := rfl) rfl rfl rfl ?_
            refine SW.pass (hd := rfl) rfl rfl rfl ?_
            refine SW.pass (hd := rfl) rfl rfl rfl ?_
            refine SW.pass (hd := rfl) rfl rfl rfl ?_
            first | refine SW.pure rfl rfl rfl rfl (fun w9 => R.pickT rfl rfl) ?_ | refine SW.pure rfl rfl rfl rfl (fun w9 => R.pickF rfl rfl) ?_
            first | refine SW.pure rfl rfl rfl rfl (fun w9 => R.pickT rfl rfl) ?_ | refine SW.pure rfl rfl rfl rfl (fun w9 => R.pickF rfl rfl) ?_
            refine SW.nil ?_
            exact SN.handX (true) (Sub.cons rfl (Sub.cons rfl (Sub.cons rfl (Sub.cons rfl (Sub.cons rfl (Sub.cons rfl (Sub.cons rfl (Sub.cons rfl (Sub.cons rfl (Sub.nil _)))))))))) ((Imp.sels (by repeat (first | exact Sels.nil | apply Sels.cons | exact Sel.keep | exact Sel.here | apply Sel.there)))) (by rw [gtO_s hpl hk1, show decide (pl.1 < x.Kind') = true from decide_eq_true (by omega), ltO_n (by simpa using hg7_18)]; rfl)
          · refine SW.pure rfl rfl rfl rfl (fun w9 => R.fld rfl) ?_
            refine SW.read rfl rfl rfl rfl (fun w9 F9 S9 s => R.ldB (v := .int .i64 x.Kind') rfl (s.cel (by repeat (first | exact SelB.blk | exact SelB.fz | apply SelB.there))) (by rfl)) ?_
            refine SW.pure rfl rfl rfl rfl (fun w9 => R.mv rfl) ?_
            refine SW.pure rfl rfl rfl rfl (fun w9 => R.lss rfl rfl) ?_
            first | refine SW.pure rfl rfl rfl rfl (fun w9 => R.pickT rfl rfl) ?_ | refine SW.pure rfl rfl rfl rfl (fun w9 => R.pickF rfl rfl) ?_
            first | refine SW.pure rfl rfl rfl rfl (fun w9 => R.pickT rfl rfl) ?_ | refine SW.pure rfl rfl rfl rfl (fun w9 => R.pickF rfl rfl) ?_
            refine SW.nil ?_
            exact SN.handX (decide (x.Kind' < o.getD 0)) (Sub.cons rfl (Sub.cons rfl (Sub.cons rfl (Sub.cons rfl (Sub.cons rfl (Sub.cons rfl (Sub.cons rfl (Sub.cons rfl (Sub.cons rfl (Sub.nil _)))))))))) ((Imp.sels (by repeat (first | exact Sels.nil | apply Sels.cons | exact Sel.keep | exact Sel.here | apply Sel.there)))) (by rw [gtO_s hpl hk1, show decide (pl.1 < x.Kind') = true from decide_eq_true (by omega), ltO_s (by simpa using hg7_18), Bool.true_and])
        · refine SW.pass (hd := rfl) rfl rfl rfl ?_
          refine SW.pass (hd := rfl) rfl rfl rfl ?_
          refine SW.pass (hd := rfl) rfl rfl rfl ?_
          refine SW.pass (hd := rfl) rfl rfl rfl ?_
          refine SW.pass (hd := rfl) rfl rfl rfl ?_
          refine SW.pass (hd := rfl) rfl rfl rfl ?_
          refine SW.pass (hd := rfl) rfl rfl rfl ?_
          refine SW.pass (hd := rfl) rfl rfl rfl ?_
          first | refine SW.pure rfl rfl rfl rfl (fun w9 => R.pickT rfl rfl) ?_ | refine SW.pure rfl rfl rfl rfl (fun w9 => R.pickF rfl rfl) ?_
          refine SW.nil ?_
          exact SN.handX (false) (Sub.cons rfl (Sub.cons rfl (Sub.cons rfl (Sub.cons rfl (Sub.cons rfl (Sub.cons rfl (Sub.cons rfl (Sub.cons rfl (Sub.cons rfl (Sub.nil _)))))))))) ((Imp.sels (by repeat (first | exact Sels.nil | apply Sels.cons | exact Sel.keep | exact Sel.here | apply Sel.there)))) (by rw [gtO_s hpl hk1, show decide (pl.1 < x.Kind') = false from decide_eq_false (by omega)]; rfl)
    · rintro w hw
      show SN _ _ _ _ _ [(0, .slice a n c), (3, .slice a9 k c9), (4, .int .i64 ((o).getD 0)), (5, .bool (o).isSome), (13, .slice a n c), (14, .int .i64 ((n : Nat) : Int)), (15, .int .i64 ((i : Nat) : Int)), (7, .pointer (some ⟨b7, 0, none⟩)), (43, .bool w)] [own 43 4 a9 (k) c9 (uCells (List.take k (usT its))).flatten, blk b7 x.cells 33, sh (fun w => ItemsOk w a n its)]
      refine SN.seq ?_
      refine SG.condB rfl (fun h1 => ?_) (fun h1 => ?_)
      · refine SG.seq ?_
        refine SG.region ?_
        refine SL.val rfl rfl (fun w9 F9 S9 s => R.fld rfl) ?_
        refine SL.val rfl rfl (fun w9 F9 S9 s => R.ldB (v := .int .i64 x.Kind') rfl (s.cel (by repeat (first | exact SelB.blk | exact SelB.fz | apply SelB.there))) (by rfl)) ?_
        refine SL.val rfl rfl (fun w9 F9 S9 s => R.as rfl) ?_
        refine SL.nil ?_
        refine SN.seq ?_
        refine SG.region ?_
        refine SL.val rfl rfl (fun w9 F9 S9 s => R.as rfl) ?_
        refine SL.nil ?_
        refine SN.block ?_
        refine SN.seq ?_
        refine SG.region ?_
        refine SL.val rfl rfl (fun w9 F9 S9 s => R.add rfl rfl (by omega)) ?_
        refine SL.val rfl rfl (fun w9 F9 S9 s => R.mv rfl) ?_
        refine SL.nil ?_
        exact SN.again ((i + 1, some x.Kind')) (by show n - (i + 1) < n - i; omega) (Sub.cons rfl (Sub.cons rfl (Sub.cons rfl (Sub.cons rfl (Sub.cons rfl (Sub.cons rfl (Sub.cons rfl (Sub.nil _)))))))) ((Imp.sels (by repeat (first | exact Sels.nil | apply Sels.cons | exact Sel.keep | exact Sel.here | apply Sel.there)))) (⟨by show i + 1 ≤ n; omega, by have h9 := mn_step hm (ksI_at hx); rwa [mnS_yes (by rw [← hw]; exact h1)] at h9⟩)
      · refine SG.skip ?_
        refine SN.block ?_
        refine SN.seq ?_
        refine SG.region ?_
        refine SL.val rfl rfl (fun w9 F9 S9 s => R.add rfl rfl (by omega)) ?_
        refine SL.val rfl rfl (fun w9 F9 S9 s => R.mv rfl) ?_
        refine SL.nil ?_
        exact SN.again ((i + 1, o)) (by show n - (i + 1) < n - i; omega) (Sub.cons rfl (Sub.cons rfl (Sub.cons rfl (Sub.cons rfl (Sub.cons rfl (Sub.cons rfl (Sub.cons rfl (Sub.nil _)))))))) ((Imp.sels (by repeat (first | exact Sels.nil | apply Sels.cons | exact Sel.keep | exact Sel.here | apply Sel.there)))) (⟨by show i + 1 ≤ n; omega, by have h9 := mn_step hm (ksI_at hx); rwa [mnS_no (by rw [← hw]; simpa using h1)] at h9⟩)
  · obtain rfl : n = i := by omega
    rw [List.take_of_length_le (by rw [ksI_len]; omega)] at hm
    have hnx := tab_next (usT_srt2 its) (usT_keys its) hk hm
    refine SG.exit _ rfl ?_
    refine SN.seq ?_
    refine SG.seq ?_
    refine SG.seq ?_
    refine SG.region ?_
    refine SL.val rfl rfl (fun w9 F9 S9 s => R.mv rfl) ?_
    refine SL.val rfl rfl (fun w9 F9 S9 s => R.not rfl) ?_
    refine SL.nil ?_
    refine SN.seq ?_
    refine SG.condB rfl (fun h2 => ?_) (fun h2 => ?_)
    · obtain ⟨ho, hkl⟩ : o = none ∧ k = (usT its).length := by
        rcases hnx with h | ⟨p, hp, ho⟩
        · exact h
        · simp [ho] at h2
      subst hkl
      rw [List.take_length]
      refine SG.seq ?_
      refine SG.region ?_
      refine SL.val rfl rfl (fun w9 F9 S9 s => R.mv rfl) ?_
      refine SL.val rfl rfl (fun w9 F9 S9 s => R.as rfl) ?_
      refine SL.nil ?_
      refine SN.seq ?_
      exact SG.ret1 rfl rfl ((Imp.sels (by repeat (first | exact Sels.nil | apply Sels.cons | exact Sel.keep | exact Sel.here | apply Sel.there)))) (⟨a9, c9, rfl, rfl⟩)
    · obtain ⟨p, hp, ho⟩ : ∃ p, (usT its)[k]? = some p ∧ o = some p.1 := by
        rcases hnx with ⟨h, _⟩ | h
        · simp [h] at h2
        · exact h
      subst ho
      have hpl := (List.getElem?_eq_some_iff.1 hp).1
      refine SG.skip ?_
      refine SN.seq ?_
      refine SG.seq ?_
      refine SG.region ?_
      refine SL.val rfl rfl (fun w9 F9 S9 s => R.mv rfl) ?_
      refine SL.val rfl rfl (fun w9 F9 S9 s => R.buildN (l := [.int .i64 p.1, .int .i64 0, .int .i64 0, .int .i64 0]) rfl rfl) ?_
      refine SL.step rfl rfl (CS.alloc [.int .i64 0, .int .i64 0, .int .i64 0, .int .i64 0] rfl) ?_
      rintro _ _ ⟨b8, rfl, rfl⟩
      refine SL.step0 rfl (CS.stA rfl rfl (by repeat (first | exact Sel.keep | exact Sel.here | apply Sel.there)) (by rfl) (by rfl) (by intro u hu; simp only [List.mem_cons, List.not_mem_nil, or_false] at hu; rcases hu with rfl | rfl | rfl | rfl <;> rfl)) ?_
      rintro _ _ rfl
      refine SL.nil ?_
      refine SN.seq ?_
      refine SG.seq ?_
      refine SG.seq ?_
      refine SG.region ?_
      refine SL.val rfl rfl (fun w9 F9 S9 s => R.mv rfl) ?_
      refine SL.val rfl rfl (fun w9 F9 S9 s => R.lenS rfl) ?_
      refine SL.val rfl rfl (fun w9 F9 S9 s => R.mv rfl) ?_
      refine SL.nil ?_
      refine SN.seq ?_
      refine SG.block ?_
      refine SG.loop (X := Nat) (fun i => [(0, .slice a n c), (3, .slice a9 k c9), (4, .int .i64 p.1), (8, .pointer (some ⟨b8, 0, none⟩)), (52, .slice a n c), (53, .int .i64 ((n : Nat) : Int)), (54, .int .i64 ((i : Nat) : Int))]) (fun i => [own 43 4 a9 (k) c9 (uCells (List.take k (usT its))).flatten, blk b8 [.int .i64 p.1, .int .i64 (sv p.1 (List.take i (usR its))).1, .int .i64 (sv p.1 (List.take i (usR its))).2.1, .int .i64 (sv p.1 (List.take i (usR its))).2.2] 43, sh (fun w => ItemsOk w a n its)]) (fun i => i ≤ n) (fun i => n - i) (0) (Sub.cons rfl (Sub.cons rfl (Sub.cons rfl (Sub.cons rfl (Sub.cons rfl (Sub.cons rfl (Sub.cons rfl (Sub.nil _)))))))) ((Imp.sels (by repeat (first | exact Sels.nil | apply Sels.cons | exact Sel.keep | exact Sel.here | apply Sel.there)))) (Nat.zero_le _) ?_
      intro i hi
      show SG _ _ _ _ _ [(0, .slice a n c), (3, .slice a9 k c9), (4, .int .i64 p.1), (8, .pointer (some ⟨b8, 0, none⟩)), (52, .slice a n c), (53, .int .i64 ((n : Nat) : Int)), (54, .int .i64 ((i : Nat) : Int))] [own 43 4 a9 (k) c9 (uCells (List.take k (usT its))).flatten, blk b8 [.int .i64 p.1, .int .i64 (sv p.1 (List.take i (usR its))).1, .int .i64 (sv p.1 (List.take i (usR its))).2.1, .int .i64 (sv p.1 (List.take i (usR its))).2.2] 43, sh (fun w => ItemsOk w a n its)] _
      refine SG.seq ?_
      refine SG.region ?_
      refine SL.val rfl rfl (fun w9 F9 S9 s => R.lss rfl rfl) ?_
      refine SL.nil ?_
      refine SN.seq ?_
      refine SG.seq ?_
      refine SG.condP rfl (fun h3 => ?_) (fun h3 => ?_)
      · obtain ⟨x, hx⟩ : ∃ x, its[i]? = some x := ⟨_, List.getElem?_eq_getElem (by omega)⟩
        refine SG.fact (fun w9 F9 S9 s => items_pt (s.sh (p := fun w => ItemsOk w a n its) (by repeat (first | exact Sel.keep | exact Sel.here | apply Sel.there))) hx) (fun hf9 => ?_)
        obtain ⟨q, hq⟩ := hf9
        refine SG.fact (fun w9 F9 S9 s => (item_at (itemsOk_at (s.sh (p := fun w => ItemsOk w a n its) (by repeat (first | exact Sel.keep | exact Sel.here | apply Sel.there))) hx)).2) (fun hf9 => ?_)
        have hat := hf9; clear hf9
        refine SG.skip ?_
        refine SN.seq ?_
        refine SG.seq ?_
        refine SG.block ?_
        refine SG.seq ?_
        refine SG.region ?_
        refine SL.val rfl rfl (fun w9 F9 S9 s => R.idx rfl rfl (by omega) (by omega) q hq) ?_
        refine SL.val rfl rfl (fun w9 F9 S9 s => R.ldN (vs := x.cells) rfl (items_ld (s.sh (p := fun w => ItemsOk w a n its) (by repeat (first | exact Sel.keep | exact Sel.here | apply Sel.there))) hq hx) rfl) ?_
        refine SL.step rfl rfl (CS.alloc [.int .i64 0, .int .i64 0, .int .i64 0, .int .i64 0, .int .i64 0, .int .i64 0, .int .i64 0, .int .i64 0, .slice none 0 0] rfl) ?_
        rintro _ _ ⟨b10, rfl, rfl⟩
        refine SL.step0 rfl (CS.stA (vs := x.cells) rfl rfl (by repeat (first | exact Sel.keep | exact Sel.here | apply Sel.there)) rfl (by rfl) (ItemV.cells.one x)) ?_
        rintro _ _ rfl
        refine SL.nil ?_
        refine SN.seq ?_
        refine SG.seq ?_
        refine SG.region ?_
        refine SL.val rfl rfl (fun w9 F9 S9 s => R.fld rfl) ?_
        refine SL.val rfl rfl (fun w9 F9 S9 s => R.ldB (v := .int .i64 x.Kind') rfl (s.cel (by repeat (first | exact SelB.blk | exact SelB.fz | apply SelB.there))) (by rfl)) ?_
        refine SL.val rfl rfl (fun w9 F9 S9 s => R.mv rfl) ?_
        refine SL.val rfl rfl (fun w9 F9 S9 s => R.eqI rfl rfl) ?_
        refine SL.nil ?_
        refine SN.seq ?_
        refine SG.condP rfl (fun h4 => ?_) (fun h4 => ?_)
        · have hsv := sv_same hx h4
          refine SG.seq ?_
          refine SG.region ?_
          refine SL.val rfl rfl (fun w9 F9 S9 s => R.fld rfl) ?_
          refine SL.val rfl rfl (fun w9 F9 S9 s => R.ldB (v := .int .i64 (sv p.1 (List.take i (usR its))).1) rfl (s.cel (by repeat (first | exact SelB.blk | exact SelB.fz | apply SelB.there))) (by rfl)) ?_
          refine SL.val rfl rfl (fun w9 F9 S9 s => R.addW rfl rfl (wr ((sv p.1 (List.take i (usR its))).1 + 1)) rfl) ?_
          refine SL.val rfl rfl (fun w9 F9 S9 s => R.fld rfl) ?_
          refine SL.step0 rfl (CS.st rfl rfl (show Sel _ (blk b8 _ _) _ from (by repeat (first | exact Sel.keep | exact Sel.here | apply Sel.there))) (by repeat (first | exact SetAt.here | apply SetAt.there)) rfl) ?_
          rintro _ _ rfl
          refine SL.nil ?_
          refine SN.seq ?_
          refine SG.seq ?_
          refine SG.region ?_
          refine SL.val rfl rfl (fun w9 F9 S9 s => R.fld rfl) ?_
          refine SL.val rfl rfl (fun w9 F9 S9 s => R.ldB (v := .int .i64 (sv p.1 (List.take i (usR its))).2.1) rfl (s.cel (by repeat (first | exact SelB.blk | exact SelB.fz | apply SelB.there))) (by rfl)) ?_
          refine SL.val rfl rfl (fun w9 F9 S9 s => R.fld rfl) ?_
          refine SL.val rfl rfl (fun w9 F9 S9 s => R.ldB (v := .int .i64 x.Length') rfl (s.cel (by repeat (first | exact SelB.blk | exact SelB.fz | apply SelB.there))) (by rfl)) ?_
          refine SL.val rfl rfl (fun w9 F9 S9 s => R.addW rfl rfl (wr ((sv p.1 (List.take i (usR its))).2.1 + x.Length')) rfl) ?_
          refine SL.val rfl rfl (fun w9 F9 S9 s => R.fld rfl) ?_
          refine SL.step0 rfl (CS.st rfl rfl (show Sel _ (blk b8 _ _) _ from (by repeat (first | exact Sel.keep | exact Sel.here | apply Sel.there))) (by repeat (first | exact SetAt.here | apply SetAt.there)) rfl) ?_
          rintro _ _ rfl
          refine SL.nil ?_
          refine SN.seq ?_
          refine SG.seq ?_
          refine SG.region ?_
          refine SL.val rfl rfl (fun w9 F9 S9 s => R.fld rfl) ?_
          refine SL.val rfl rfl (fun w9 F9 S9 s => R.ldB (v := .slice x.At'a x.At'n x.At'c) rfl (s.cel (by repeat (first | exact SelB.blk | exact SelB.fz | apply SelB.there))) (by rfl)) ?_
          refine SL.val rfl rfl (fun w9 F9 S9 s => R.lenS rfl) ?_
          refine SL.val rfl rfl (fun w9 F9 S9 s => R.mv rfl) ?_
          refine SL.nil ?_
          refine SN.imp (Imp.weak (p := fun w => ItemsOk w a n its) (q := fun w => Tab w x.At'a x.At'n 2 (x.At'.map ExtV.cells)) (by repeat (first | exact Sel.keep | exact Sel.here | apply Sel.there)) (fun w h => (item_at (itemsOk_at h hx)).1)) ?_
          refine SN.seq ?_
          refine SG.block ?_
          refine SG.loop (X := Nat) (fun j => [(0, .slice a n c), (3, .slice a9 k c9), (4, .int .i64 p.1), (8, .pointer (some ⟨b8, 0, none⟩)), (52, .slice a n c), (53, .int .i64 ((n : Nat) : Int)), (54, .int .i64 ((i : Nat) : Int)), (73, .slice x.At'a x.At'n x.At'c), (74, .int .i64 ((x.At'n : Nat) : Int)), (75, .int .i64 ((j : Nat) : Int))]) (fun j => [own 43 4 a9 (k) c9 (uCells (List.take k (usT its))).flatten, blk b8 [.int .i64 p.1, .int .i64 (wr ((sv p.1 (List.take i (usR its))).1 + 1)), .int .i64 (wr ((sv p.1 (List.take i (usR its))).2.1 + x.Length')), .int .i64 (fE (sv p.1 (List.take i (usR its))).2.2 (x.At'.take j))] 43, sh (fun w => Tab w x.At'a x.At'n 2 (x.At'.map ExtV.cells)), sh (fun w => ItemsOk w a n its)]) (fun j => j ≤ x.At'n) (fun j => x.At'n - j) (0) (Sub.cons rfl (Sub.cons rfl (Sub.cons rfl (Sub.cons rfl (Sub.cons rfl (Sub.cons rfl (Sub.cons rfl (Sub.cons rfl (Sub.cons rfl (Sub.cons rfl (Sub.nil _))))))))))) ((Imp.sels (by repeat (first | exact Sels.nil | apply Sels.cons | exact Sel.keep | exact Sel.here | apply Sel.there)))) (Nat.zero_le _) ?_
          intro j hj
          show SG _ _ _ _ _ [(0, .slice a n c), (3, .slice a9 k c9), (4, .int .i64 p.1), (8, .pointer (some ⟨b8, 0, none⟩)), (52, .slice a n c), (53, .int .i64 ((n : Nat) : Int)), (54, .int .i64 ((i : Nat) : Int)), (73, .slice x.At'a x.At'n x.At'c), (74, .int .i64 ((x.At'n : Nat) : Int)), (75, .int .i64 ((j : Nat) : Int))] [own 43 4 a9 (k) c9 (uCells (List.take k (usT its))).flatten, blk b8 [.int .i64 p.1, .int .i64 (wr ((sv p.1 (List.take i (usR its))).1 + 1)), .int .i64 (wr ((sv p.1 (List.take i (usR its))).2.1 + x.Length')), .int .i64 (fE (sv p.1 (List.take i (usR its))).2.2 (x.At'.take j))] 43, sh (fun w => Tab w x.At'a x.At'n 2 (x.At'.map ExtV.cells)), sh (fun w => ItemsOk w a n its)] _
          refine SG.seq ?_
          refine SG.region ?_
          refine SL.val rfl rfl (fun w9 F9 S9 s => R.lss rfl rfl) ?_
          refine SL.nil ?_
          refine SN.seq ?_
          refine SG.seq ?_
          refine SG.condP rfl (fun h5 => ?_) (fun h5 => ?_)
          · obtain ⟨e, he⟩ : ∃ e, x.At'[j]? = some e := ⟨_, List.getElem?_eq_getElem (by omega)⟩
            have heR : (x.At'.map ExtV.cells)[j]? = some e.cells := by rw [List.getElem?_map, he]; rfl
            refine SG.fact (fun w9 F9 S9 s => tabR_pt (s.sh (p := fun w => Tab w x.At'a x.At'n 2 (x.At'.map ExtV.cells)) (by repeat (first | exact Sel.keep | exact Sel.here | apply Sel.there))) (by decide) heR) (fun hf9 => ?_)
            obtain ⟨q2, hq2⟩ := hf9
            refine SG.skip ?_
            refine SN.seq ?_
            refine SG.seq ?_
            refine SG.block ?_
            refine SG.seq ?_
            refine SG.region ?_
            refine SL.val rfl rfl (fun w9 F9 S9 s => R.idx rfl rfl (by omega) (by omega) q2 hq2) ?_
            refine SL.val rfl rfl (fun w9 F9 S9 s => R.ldN (vs := e.cells) rfl (tabR_ld (s.sh (p := fun w => Tab w x.At'a x.At'n 2 (x.At'.map ExtV.cells)) (by repeat (first | exact Sel.keep | exact Sel.here | apply Sel.there))) (by decide) hq2 heR) rfl) ?_
            refine SL.step rfl rfl (CS.alloc [.int .i64 0, .int .i64 0] rfl) ?_
            rintro _ _ ⟨b12, rfl, rfl⟩
            refine SL.step0 rfl (CS.stA (vs := e.cells) rfl rfl (by repeat (first | exact Sel.keep | exact Sel.here | apply Sel.there)) rfl (by rfl) (ExtV.cells.one e)) ?_
            rintro _ _ rfl
            refine SL.nil ?_
            refine SN.seq ?_
            refine SG.region ?_
            refine SL.val rfl rfl (fun w9 F9 S9 s => R.fld rfl) ?_
            refine SL.val rfl rfl (fun w9 F9 S9 s => R.ldB (v := .int .i64 (fE (sv p.1 (List.take i (usR its))).2.2 (x.At'.take j))) rfl (s.cel (by repeat (first | exact SelB.blk | exact SelB.fz | apply SelB.there))) (by rfl)) ?_
            refine SL.val rfl rfl (fun w9 F9 S9 s => R.fld rfl) ?_
            refine SL.val rfl rfl (fun w9 F9 S9 s => R.ldB (v := .int .i64 e.N') rfl (s.cel (by repeat (first | exact SelB.blk | exact SelB.fz | apply SelB.there))) (by rfl)) ?_
            refine SL.val rfl rfl (fun w9 F9 S9 s => R.addW rfl rfl (wr (fE (sv p.1 (List.take i (usR its))).2.2 (x.At'.take j) + e.N')) rfl) ?_
            refine SL.val rfl rfl (fun w9 F9 S9 s => R.fld rfl) ?_
            refine SL.step0 rfl (CS.st rfl rfl (show Sel _ (blk b8 _ _) _ from (by repeat (first | exact Sel.keep | exact Sel.here | apply Sel.there))) (by repeat (first | exact SetAt.here | apply SetAt.there)) rfl) ?_
            rintro _ _ rfl
            refine SL.nil ?_
            refine SN.block ?_
            refine SN.seq ?_
            refine SG.region ?_
            refine SL.val rfl rfl (fun w9 F9 S9 s => R.add rfl rfl (by omega)) ?_
            refine SL.val rfl rfl (fun w9 F9 S9 s => R.mv rfl) ?_
            refine SL.nil ?_
            exact SN.again (j + 1) (by show x.At'n - (j + 1) < x.At'n - j; omega) (Sub.cons rfl (Sub.cons rfl (Sub.cons rfl (Sub.cons rfl (Sub.cons rfl (Sub.cons rfl (Sub.cons rfl (Sub.cons rfl (Sub.cons rfl (Sub.cons rfl (Sub.nil _))))))))))) ((show Imp _ _ by rw [fE_step he]; exact (Imp.sels (by repeat (first | exact Sels.nil | apply Sels.cons | exact Sel.keep | exact Sel.here | apply Sel.there))))) (by show j + 1 ≤ x.At'n; omega)
          · rw [List.take_of_length_le (show x.At'.length ≤ j by omega)]
            refine SG.exit _ rfl ?_
            refine SN.block ?_
            refine SN.seq ?_
            refine SG.region ?_
            refine SL.val rfl rfl (fun w9 F9 S9 s => R.add rfl rfl (by omega)) ?_
            refine SL.val rfl rfl (fun w9 F9 S9 s => R.mv rfl) ?_
            refine SL.nil ?_
            exact SN.again (i + 1) (by show n - (i + 1) < n - i; omega) (Sub.cons rfl (Sub.cons rfl (Sub.cons rfl (Sub.cons rfl (Sub.cons rfl (Sub.cons rfl (Sub.cons rfl (Sub.nil _)))))))) ((show Imp _ _ by rw [hsv]; exact (Imp.sels (by repeat (first | exact Sels.nil | apply Sels.cons | exact Sel.keep | exact Sel.here | apply Sel.there))))) (by show i + 1 ≤ n; omega)
        · have hsv := sv_other hx h4
          refine SG.skip ?_
          refine SN.block ?_
          refine SN.seq ?_
          refine SG.region ?_
          refine SL.val rfl rfl (fun w9 F9 S9 s => R.add rfl rfl (by omega)) ?_
          refine SL.val rfl rfl (fun w9 F9 S9 s => R.mv rfl) ?_
          refine SL.nil ?_
          exact SN.again (i + 1) (by show n - (i + 1) < n - i; omega) (Sub.cons rfl (Sub.cons rfl (Sub.cons rfl (Sub.cons rfl (Sub.cons rfl (Sub.cons rfl (Sub.cons rfl (Sub.nil _)))))))) ((show Imp _ _ by rw [hsv]; exact (Imp.sels (by repeat (first | exact Sels.nil | apply Sels.cons | exact Sel.keep | exact Sel.here | apply Sel.there))))) (by show i + 1 ≤ n; omega)
      · obtain rfl : n = i := by omega
        have hpv : sv p.1 (List.take n (usR its)) = p.2 := by rw [List.take_of_length_le (by rw [usR_len]; omega)]; exact (acc_sv hp).symm
        rw [hpv]
        refine SG.exit _ rfl ?_
        refine SN.seq ?_
        refine SG.region ?_
        refine SL.val rfl rfl (fun w9 F9 S9 s => R.mv rfl) ?_
        refine SL.val rfl rfl (fun w9 F9 S9 s => R.ldBN (cs := (us4 p.1 p.2).toArray) rfl (s.cel (show SelB _ b8 (us4 p.1 p.2) _ from (by repeat (first | exact SelB.blk | exact SelB.fz | apply SelB.there)))) rfl) ?_
        refine SL.step rfl rfl (CS.buildA rfl rfl rfl rfl rfl (us4 p.1 p.2) rfl) ?_
        rintro _ _ ⟨b89, rfl, rfl⟩
        refine SL.step rfl rfl (CS.app rfl rfl (show Sel _ (own 43 4 a9 (k) c9 (uCells (List.take k (usT its))).flatten) _ from (by repeat (first | exact Sel.keep | exact Sel.here | apply Sel.there))) (fun w9 F9 S9 s => s.blkC (show Sel _ (blk b89 (us4 p.1 p.2) _) _ from (by repeat (first | exact Sel.keep | exact Sel.here | apply Sel.there)))) rfl (us4_one _ _) (by simp [maxLen]; omega) (by omega)) ?_
        rintro _ _ ⟨a90, c90, rfl, rfl⟩
        refine SL.val rfl rfl (fun w9 F9 S9 s => R.as rfl) ?_
        refine SL.nil ?_
        refine SN.block ?_
        exact SN.again ((k + 1, a90, c90)) (by show (usT its).length - (k + 1) < (usT its).length - k; omega) (Sub.cons rfl (Sub.cons rfl (Sub.nil _))) ((show Imp _ _ by dsimp only; rw [← uCells_take hp]; exact (Imp.sels (by repeat (first | exact Sels.nil | apply Sels.cons | exact Sel.keep | exact Sel.here | apply Sel.there))))) (by show k + 1 ≤ (usT its).length; omega)

end Go.Proofs.YtlhkpakbenghgaaGreat
