/-
  Texts of this claim, put together.
-/
import Derived.Test.YtiiiplhfgblamaaTxnPLz1
/-
  Iterators, and loops over them, by assertions.
-/
set_option linter.unusedVariables false
set_option linter.unusedSimpArgs false
namespace Brv
open Go
theorem Sels.appL : ∀ (H0 H1 : List Asn), Sels (H0 ++ H1) H0 H1
  | [], _ => .nil
  | _ :: H0, H1 => .cons .here (Sels.appL H0 H1)
theorem Sep.split {H0 H1 : List Asn} {F S : List Nat} {w : World} (h : Sep (H0 ++ H1) F S w) : Sep2 H0 H1 F S w := (Sels.appL H0 H1).split h
/-- What a function (with what it has captured, lb) promises when it is ranged over: it yields N times, the k-th time what E k tells. -/
def IterS (P : Program) (gf : FuncId) (lb : List Value) (HI : List Asn) (N : Nat) (E : Nat → List Value → (World → Prop) → Prop) : Prop :=
  ∀ (y : Value) (J Jx : Nat → Asn), (∀ k vs p, k < N → E k vs p → YSpec P y vs [sh p, J k] (fun b H' => H' = [if b then J (k + 1) else Jx (k + 1)])) →
    SpecS P gf (y :: lb) (J 0 :: HI) (fun _ H' => H' = J N :: HI ∨ ∃ k, k ≤ N ∧ H' = Jx k :: HI)

/-- The list of a frame's marks, that is to be taken at its end. -/
def dfr (d : Nat) : Asn where
  P := fun F _ w => F = [d] ∧ w.heap[d]? = some (.deferred (some []))
  ext := fun F S M w w' h he hF _ => ⟨h.1, (he.keep d (Array.getElem?_eq_some_iff.1 h.2).1 (hF d (by rw [h.1]; simp))).trans h.2⟩
inductive Dfrs : List Deferred → List Asn → List Asn → Prop
  | nil {H : List Asn} : Dfrs [] H H
  | cons {d : Nat} {ds : List Deferred} {H H' H'' : List Asn} : Sel H (dfr d) H' → Dfrs ds H' H'' → Dfrs (⟨.collected d, #[]⟩ :: ds) H H''
theorem Dfrs.leave {P : Program} {ds : List Deferred} {H H' : List Asn} (h : Dfrs ds H H') : ∀ {o : Org} {F S : List Nat} {w : World}, St H F S w → From o w F S → ∃ w' F' S', Leave P ds w w' ∧ St H' F' S' w' ∧ From o w' F' S' := by
  induction h with
  | nil => exact fun {o F S w} s f => ⟨w, F, S, rfl, s, f⟩
  | cons hs _ ih =>
    rename_i d ds H H' H'' _
    intro o F S w s f
    obtain ⟨F1, S1, F2, S2, ⟨a, b, c, e⟩, ⟨p, q, r⟩, ⟨hF, hd⟩, hH⟩ := hs.sep s.sep
    subst hF
    have he := Ext.putObj w d (.deferred none)
    obtain ⟨w', F', S', hl, s', f'⟩ := ih (o := o) (F := F2) (S := S2) (w := w.putObj d (.deferred none)) ⟨hH.ext he p.symm q.symm, fun x hx => Nat.lt_of_lt_of_le (s.ltF x (b hx)) he.size, fun x hx => Nat.lt_of_lt_of_le (s.ltS x (e hx)) he.size⟩
      ⟨f.ext.transN he (fun x hx => f.fF x (a hx)), fun x hx => f.fF x (b hx), fun x hx => f.fS x (e hx)⟩
    exact ⟨w', F', S', ⟨d, _, rfl, run_takeDeferred hd, hl⟩, s', f'⟩

def roundS {X Y : Type} (HJ : Nat → X → List Asn) (I : Nat → X → Prop) (HX : Code → Nat → Y → List Asn) (IX : Code → Nat → Y → Prop) (k : Nat) (o : Org) : Exit → Act → World → Prop
  | .normal, _, w' => ∃ x F S, I (k + 1) x ∧ St (HJ (k + 1) x) F S w' ∧ From o w' F S
  | .ret, _, w' => ∃ y F S, IX .ret (k + 1) y ∧ St (HX .ret (k + 1) y) F S w' ∧ From o w' F S
  | .exit id, _, w' => ∃ y F S, IX (.exit id) (k + 1) y ∧ St (HX (.exit id) (k + 1) y) F S w' ∧ From o w' F S
  | .goto t, _, w' => ∃ y F S, IX (.goto t) (k + 1) y ∧ St (HX (.goto t) (k + 1) y) F S w' ∧ From o w' F S
  | _, _, _ => False
def assignS (P : Program) (l : Nat) (W : World) (Hb : List Asn) (RB : Org → Exit → Act → World → Prop) (body : Code) : Exit → Act → World → Prop
  | .normal, a, w₂ => w₂ = W ∧ ∀ wb F S, St Hb F S wb → body.wpIn (fen (some l)) 0 P (RB ⟨wb, F, S⟩) a wb
  | _, _, _ => False

section
variable {P : Program} {B : Exit → Act → World → Prop} {n : Nat} {df : List Deferred} {ks : List K} {ρ : Env} {o : Org} {H : List Asn}
theorem N.roundS {l : Nat} {W : World} {Hb : List Asn} {RB : Org → Exit → Act → World → Prop} {body : Code} (h : ∀ o', SG P (RB o') ⟨n, [], some l⟩ o' [] ρ Hb body) : N P (assignS P l W Hb RB body) ⟨n, [], some l⟩ [] ρ W :=
  N.done fun a ha => ⟨rfl, fun wb F S s => h ⟨wb, F, S⟩ wb F S s (From.refl _ _ _) a ha⟩
section
variable {X Y : Type} {HJ : Nat → X → List Asn} {I : Nat → X → Prop} {HX : Code → Nat → Y → List Asn} {IX : Code → Nat → Y → Prop} {k l : Nat}
theorem SN.next (x : X) (i : Imp H (HJ (k + 1) x)) (h : I (k + 1) x) : SN P (roundS HJ I HX IX k o) ⟨n, [], some l⟩ o [] ρ H := fun _ _ _ s f => N.done fun _ _ => let ⟨F', S', s', f'⟩ := i.at s f; ⟨x, F', S', h, s', f'⟩
end

/-- for .. := range g { body } -/
theorem SG.range {g : Operand} {ps : Array Tmp} {assign body : Code} {gf : FuncId} {lb : List Value} {Nn : Nat} {E : Nat → List Value → (World → Prop) → Prop} {HI : List Asn}
    (hps : ps.toList.all (fun p => Nat.blt p n) = true) (hg : ev ρ g = some (.func (.func gf) #[] lb.toArray)) (eg : ∀ (vs : Array Value) w, (callFunc gf vs).run P w = .ok (.enter gf vs) w)
    (hit : IterS P gf lb HI Nn E) {X Y : Type} (HJ : Nat → X → List Asn) (I : Nat → X → Prop) (HX : Code → Nat → Y → List Asn) (IX : Code → Nat → Y → Prop) (x₀ : X) (i : Imp H (HJ 0 x₀ ++ HI)) (h0 : I 0 x₀)
    (hround : ∀ l k x vs p W, k < Nn → I k x → E k vs p → vs.length = ps.size ∧ G P (assignS P l W (sh p :: HJ k x) (roundS HJ I HX IX k) body) ⟨n, [], some l⟩ [] (bindEnv ps.toList vs ρ) W assign)
    (hdone : ∀ d x, I Nn x → SN P B ⟨n, ⟨.collected d, #[]⟩ :: df, none⟩ o ks ρ (dfr d :: HJ Nn x ++ HI))
    (hstop : ∀ d k c y, k ≤ Nn → IX c k y → SG P B ⟨n, ⟨.collected d, #[]⟩ :: df, none⟩ o ks ρ (dfr d :: HX c k y ++ HI) c) :
    SG P B ⟨n, df, none⟩ o ks ρ H (.rangeFunc g ps assign body) := by
  intro w F₀ S₀ s₀ f₀ a ha
  obtain ⟨Fw, Sw, s, f⟩ := i.at s₀ f₀
  obtain ⟨Fj, Sj, Fi, Si, ⟨a1, a2, a3, a4⟩, ⟨b1, b2, b3⟩, hsj, hsi⟩ := s.sep.split
  refine wpIn_rangeFunc (F := Fence.wide) ?_
  intro fn hfn
  obtain ⟨rec, hrec⟩ : ∃ rec : LoopState → Option Code → Loop, rec = fun st pe => { state := st, pending := pe, fn, tmps := a.tmps, params := ps, assign, body, defers := w.heap.size } := ⟨_, rfl⟩
  obtain ⟨W1, hW1⟩ : ∃ W1, (w.alloc (.deferred (some []))).alloc (.loop (rec .ready none)) = W1 := ⟨_, rfl⟩
  have hL1 : W1.heap[w.heap.size + 1]? = some (.loop (rec .ready none)) := by
    rw [← hW1]; have := World.alloc_heap_new (w.alloc (.deferred (some []))) (.loop (rec .ready none)); rwa [World.size_alloc] at this
  have hK1 : W1.heap[w.heap.size]? = some (.deferred (some [])) := by
    rw [← hW1]; exact ((Ext.alloc (w.alloc (.deferred (some []))) _).keep _ (by simp) (by simp)).trans (World.alloc_heap_new w _)
  have hE1 : Ext [] w W1 := by rw [← hW1]; exact (Ext.alloc w _).trans0 (Ext.alloc _ _)
  have hs1 : W1.heap.size = w.heap.size + 2 := by rw [← hW1]; simp
  obtain ⟨d, hd⟩ : ∃ d, d = w.heap.size := ⟨_, rfl⟩
  obtain ⟨l, hl⟩ : ∃ l, l = w.heap.size + 1 := ⟨_, rfl⟩
  rw [← hl] at hL1
  rw [← hd] at hK1
  -- the consumer's assertions
  let J : Nat → Asn := fun k => ⟨fun F S W => ∃ x F' S', I k x ∧ Sep (HJ k x) F' S' W ∧ (F = l :: d :: F' ∧ S = S') ∧ (l ∉ F' ∧ l ∉ S') ∧ (d ∉ F' ∧ d ∉ S') ∧ W.heap[l]? = some (.loop (rec .ready none)) ∧ W.heap[d]? = some (.deferred (some [])),
    by
      rintro F S M W W' ⟨x, F', S', h1, h2, ⟨rfl, rfl⟩, h3, h4, h5, h6⟩ he hF hS
      refine ⟨x, F', S, h1, h2.ext he (hF.mono (fun z hz => by simp [hz]) (subR _)) hS, ⟨rfl, rfl⟩, h3, h4, ?_, ?_⟩
      · exact (he.keep l (Array.getElem?_eq_some_iff.1 h5).1 (hF l (by simp))).trans h5
      · exact (he.keep d (Array.getElem?_eq_some_iff.1 h6).1 (hF d (by simp))).trans h6⟩
  let Jx : Nat → Asn := fun k => ⟨fun F S W => ∃ c y F' S', IX c k y ∧ Sep (HX c k y) F' S' W ∧ (F = l :: d :: F' ∧ S = S') ∧ (l ∉ F' ∧ l ∉ S') ∧ (d ∉ F' ∧ d ∉ S') ∧ W.heap[l]? = some (.loop (rec .done (some c))) ∧ W.heap[d]? = some (.deferred (some [])),
    by
      rintro F S M W W' ⟨c, y, F', S', h1, h2, ⟨rfl, rfl⟩, h3, h4, h5, h6⟩ he hF hS
      refine ⟨c, y, F', S, h1, h2.ext he (hF.mono (fun z hz => by simp [hz]) (subR _)) hS, ⟨rfl, rfl⟩, h3, h4, ?_, ?_⟩
      · exact (he.keep l (Array.getElem?_eq_some_iff.1 h5).1 (hF l (by simp))).trans h5
      · exact (he.keep d (Array.getElem?_eq_some_iff.1 h6).1 (hF d (by simp))).trans h6⟩
  refine ⟨w.heap.size + 1, [{ target := .collected w.heap.size, args := #[] }], W1, { target := .fn (.func gf) lb.toArray, args := #[.func (.yield (w.heap.size + 1)) #[] #[]] }, W1, gf,
    #[.func (.yield (w.heap.size + 1)) #[] #[]] ++ lb.toArray, W1, ?_, ?_, fun _ _ => trivial, ?_, fun h => (by cases h), ?_⟩
  · rw [← hW1, hrec]; exact run_enterLoop_outer _ _ _ _ _
  · simp only [resolve, ha.eval hg]
    simp [go_sem]
  · simp [invoke, go_sem, eg]
  · have hdl : d ≠ l := by omega
    have newF : ∀ {T : List Nat}, (∀ b ∈ T, b < w.heap.size) → l ∉ T ∧ d ∉ T := fun h => ⟨fun q => by have := h _ q; omega, fun q => by have := h _ q; omega⟩
    have ltj : ∀ b ∈ Fj, b < w.heap.size := fun b hb => s.ltF b (a1 hb)
    have ltsj : ∀ b ∈ Sj, b < w.heap.size := fun b hb => s.ltS b (a3 hb)
    have lti : ∀ b ∈ Fi, b < w.heap.size := fun b hb => s.ltF b (a2 hb)
    have ltsi : ∀ b ∈ Si, b < w.heap.size := fun b hb => s.ltS b (a4 hb)
    have hJ0 : (J 0).P (l :: d :: Fj) Sj W1 := ⟨x₀, Fj, Sj, h0, hsj.ext hE1 (Apart.nilR _) (Apart.nilR _), ⟨rfl, rfl⟩, ⟨(newF ltj).1, (newF ltsj).1⟩, ⟨(newF ltj).2, (newF ltsj).2⟩, hL1, hK1⟩
    have hst : St (J 0 :: HI) (l :: d :: Fj ++ Fi) (Sj ++ Si) W1 := by
      refine ⟨⟨l :: d :: Fj, Sj, Fi, Si, ⟨inL _ _, inR _ _, inL _ _, inR _ _⟩, ⟨?_, ?_, b3⟩, hJ0, hsi.ext hE1 (Apart.nilR _) (Apart.nilR _)⟩, ?_, ?_⟩
      · intro x hx hy
        simp only [List.mem_cons] at hx
        rcases hx with rfl | rfl | hx
        · exact (newF lti).1 hy
        · exact (newF lti).2 hy
        · exact b1 x hx hy
      · intro x hx hy
        simp only [List.mem_cons] at hx
        rcases hx with rfl | rfl | hx
        · exact (newF ltsi).1 hy
        · exact (newF ltsi).2 hy
        · exact b2 x hx hy
      · intro x hx
        simp only [List.cons_append, List.mem_cons, List.mem_append] at hx
        rcases hx with rfl | rfl | hx | hx
        · omega
        · omega
        · have := ltj x hx; omega
        · have := lti x hx; omega
      · intro x hx
        rcases List.mem_append.1 hx with hx | hx
        · have := ltsj x hx; omega
        · have := ltsi x hx; omega
    have hfr : From o W1 (l :: d :: Fj ++ Fi) (Sj ++ Si) := by
      refine ⟨f.ext.trans0 hE1, ?_, ?_⟩
      · intro x hx
        have hz := f.ext.size
        simp only [List.cons_append, List.mem_cons, List.mem_append] at hx
        rcases hx with rfl | rfl | hx | hx
        · exact .inr (by omega)
        · exact .inr (by omega)
        · exact f.fF x (a1 hx)
        · exact f.fF x (a2 hx)
      · intro x hx
        exact (List.mem_append.1 hx).elim (fun h => f.fS x (a3 h)) (fun h => f.fS x (a4 h))
    have hy : ∀ k vs p, k < Nn → E k vs p → YSpec P (.func (.yield l) #[] #[]) vs [Brv.sh p, J k] (fun b H' => H' = [if b then J (k + 1) else Jx (k + 1)]) := by
      intro k vs p hk hE A F S s
      obtain ⟨F1, S1, F2, S2, ⟨c1, c2, c3, c4⟩, ⟨e1, e2, e3⟩, hp, F3, S3, F4, S4, ⟨c1', c2', c3', c4'⟩, _, hJ, _⟩ := s.sep
      obtain ⟨x, F', S', hi, hsep, ⟨rfl, rfl⟩, ⟨l1, l2⟩, ⟨d1, d2⟩, hl', hd'⟩ := hJ
      refine .inl ⟨_, rfl, ?_⟩
      have hlt : l < A.heap.size := (Array.getElem?_eq_some_iff.1 hl').1
      have hltd : d < A.heap.size := (Array.getElem?_eq_some_iff.1 hd').1
      obtain ⟨hlen, hG⟩ := hround l k x vs p A hk hi hE
      have hy := run_yield (P := P) (args := vs.toArray) hl' (by rw [hrec]; simpa using hlen)
      rw [hrec] at hy
      refine ⟨fn, _, assign, body, hy, roundIn_of_wpIn hfn ?_⟩
      have hfr : Fr ⟨n, [], some l⟩ (bindEnv ps.toList vs ρ) { tmps := (ps.toList.zip vs).foldl (fun t (p, v) => t.setIfInBounds p v) a.tmps, defers := [] } :=
        bind_fr (n := ⟨n, [], some l⟩) ps.toList vs (a := { tmps := a.tmps, defers := [] }) ⟨ha.size, rfl, ha.vals⟩ (fun p hp => by simpa [Nat.blt_eq] using List.all_eq_true.1 hps p hp)
      have hz : (ps.zip vs.toArray).foldl (fun t (p, v) => t.setIfInBounds p v) a.tmps = (ps.toList.zip vs).foldl (fun t (p, v) => t.setIfInBounds p v) a.tmps := by
        rw [← Array.foldl_toList, Array.toList_zip]
      rw [hz]
      have hw := hG _ hfr
      refine wpIn_mono (F := Fence.wide.inRound l) (fen_wp (r := some l) hw) ?_
      intro e a₁ w₂ hq
      cases e with
      | normal =>
        obtain ⟨rfl, hq⟩ := hq
        have hbr := run_beginRound (P := P) hl' (by rw [hrec])
        refine ⟨_, hbr, ?_⟩
        have hl3 : (w₂.putObj l (.loop { rec .ready none with state := .busy })).heap[l]? = some (.loop { rec .ready none with state := .busy }) := World.putObj_heap_same hlt
        have hd3 : (w₂.putObj l (.loop { rec .ready none with state := .busy })).heap[d]? = some (.deferred (some [])) := (World.putObj_heap_other hdl).trans hd'
        have hE3 := Ext.putObj w₂ l (.loop { rec .ready none with state := .busy })
        have hlS1 : Apart S1 [l] := fun z hz hz2 => by rw [List.mem_singleton.1 hz2] at hz; exact e3 l hz (c1' (by simp))
        have hsb : St (Brv.sh p :: HJ k x) F' (S1 ++ S3) (w₂.putObj l (.loop { rec .ready none with state := .busy })) := by
          refine ⟨⟨[], S1, F', S3, ⟨by simp, subR _, inL _ _, inR _ _⟩, ⟨Apart.nilL _, Apart.nilL _, e3.mono (subR _) (fun z hz => c1' (by simp [hz]))⟩, (instPersSh p).h _ _ _ ((Brv.sh p).ext _ _ _ _ _ hp hE3 (fun z hz hz2 => by rw [List.mem_singleton.1 hz2] at hz; exact e1 l hz (c1' (by simp))) hlS1), hsep.ext hE3 (fun z hz hz2 => by rw [List.mem_singleton.1 hz2] at hz; exact l1 hz) (fun z hz hz2 => by rw [List.mem_singleton.1 hz2] at hz; exact l2 hz)⟩, ?_, ?_⟩
          · intro z hz; simpa using s.ltF z (c2 (c1' (by simp [hz])))
          · intro z hz
            rcases List.mem_append.1 hz with hz | hz
            · simpa using s.ltS z (c3 hz)
            · simpa using s.ltS z (c4 (c3' hz))
        have hd1 : d ∉ S1 := fun h => e3 d h (c1' (by simp))
        have hl1 : l ∉ S1 := fun h => e3 l h (c1' (by simp))
        have hFl : l ∈ F := c2 (c1' (by simp))
        have hFd : d ∈ F := c2 (c1' (by simp))
        have hFF : ∀ z ∈ F', z ∈ F := fun z hz => c2 (c1' (by simp [hz]))
        refine wpIn_mono (F := Fence.wide.inRound l) (fen_wp (r := some l) (hq _ F' (S1 ++ S3) hsb)) ?_
        have fin : ∀ (jump : Option Code) (W3 : World) (F5 S5 : List Nat), From ⟨w₂.putObj l (.loop { rec .ready none with state := .busy }), F', S1 ++ S3⟩ W3 F5 S5 → (∀ b ∈ F5, b < W3.heap.size) → (∀ b ∈ S5, b < W3.heap.size) →
            (Instr.endRound l jump).run P W3 = .ok (.bool jump.isNone) (W3.putObj l (.loop (rec (if jump.isNone then .ready else .done) jump))) ∧
            (W3.putObj l (.loop (rec (if jump.isNone then .ready else .done) jump))).heap[l]? = some (.loop (rec (if jump.isNone then .ready else .done) jump)) ∧
            (W3.putObj l (.loop (rec (if jump.isNone then .ready else .done) jump))).heap[d]? = some (.deferred (some [])) ∧ (l ∉ F5 ∧ l ∉ S5) ∧ (d ∉ F5 ∧ d ∉ S5) ∧ Ext [l] W3 (W3.putObj l (.loop (rec (if jump.isNone then .ready else .done) jump))) ∧
            From ⟨w₂, F, S⟩ (W3.putObj l (.loop (rec (if jump.isNone then .ready else .done) jump))) (l :: d :: F5) S5 ∧ (∀ b ∈ l :: d :: F5, b < (W3.putObj l (.loop (rec (if jump.isNone then .ready else .done) jump))).heap.size) ∧ (∀ b ∈ S5, b < (W3.putObj l (.loop (rec (if jump.isNone then .ready else .done) jump))).heap.size) := by
          intro jump W3 F5 S5 fr h5 h6
          have hlt2 : l < (w₂.putObj l (.loop { rec .ready none with state := .busy })).heap.size := by simpa using hlt
          have hltd2 : d < (w₂.putObj l (.loop { rec .ready none with state := .busy })).heap.size := by simpa using hltd
          have hl4 : W3.heap[l]? = some (.loop { rec .ready none with state := .busy }) := (fr.ext.keep _ hlt2 l1).trans hl3
          have hd4 : W3.heap[d]? = some (.deferred (some [])) := (fr.ext.keep _ hltd2 d1).trans hd3
          have hlt4 : l < W3.heap.size := (Array.getElem?_eq_some_iff.1 hl4).1
          have hltd4 : d < W3.heap.size := (Array.getElem?_eq_some_iff.1 hd4).1
          have her := run_endRound (P := P) jump hl4
          rw [hrec] at her ⊢
          have hszA : w₂.heap.size ≤ W3.heap.size := by have := fr.ext.size; simpa using this
          have nF : l ∉ F5 ∧ d ∉ F5 := ⟨fun h => (fr.fF _ h).elim l1 (fun h => by simp only [World.putObj, Array.size_setIfInBounds] at h; omega), fun h => (fr.fF _ h).elim d1 (fun h => by simp only [World.putObj, Array.size_setIfInBounds] at h; omega)⟩
          have nS : l ∉ S5 ∧ d ∉ S5 := ⟨fun h => (fr.fS _ h).elim (fun h => (List.mem_append.1 h).elim hl1 l2) (fun h => h.elim l1 (fun h => by simp only [World.putObj, Array.size_setIfInBounds] at h; omega)), fun h => (fr.fS _ h).elim (fun h => (List.mem_append.1 h).elim hd1 d2) (fun h => h.elim d1 (fun h => by simp only [World.putObj, Array.size_setIfInBounds] at h; omega))⟩
          have hx2 := Ext.putObj W3 l (.loop { state := if jump.isNone = true then LoopState.ready else LoopState.done, pending := jump, fn := fn, tmps := a.tmps, params := ps, assign := assign, body := body, defers := w.heap.size })
          have hE4 : Ext F w₂ W3 := (hE3.mono (M' := F) (fun z hz => .inl (by rw [List.mem_singleton.1 hz]; exact hFl))).transN fr.ext (fun z hz => .inl (hFF z hz))
          refine ⟨her, World.putObj_heap_same hlt4, (World.putObj_heap_other hdl).trans hd4, ⟨nF.1, nS.1⟩, ⟨nF.2, nS.2⟩, hx2, ⟨hE4.transN hx2 (fun z hz => .inl (by rw [List.mem_singleton.1 hz]; exact hFl)), ?_, ?_⟩, ?_, ?_⟩
          · intro z hz
            simp only [List.mem_cons] at hz
            rcases hz with rfl | rfl | hz
            · exact .inl hFl
            · exact .inl hFd
            · exact (fr.fF z hz).imp (hFF z) (fun h => by simpa using h)
          · intro z hz
            exact (fr.fS z hz).elim (fun h => .inl ((List.mem_append.1 h).elim (fun h => c3 h) (fun h => c4 (c3' h)))) (fun h => .inr (h.imp (hFF z) (fun h => by simpa using h)))
          · intro z hz
            simp only [List.mem_cons] at hz
            rcases hz with rfl | rfl | hz
            · simpa using hlt4
            · simpa using hltd4
            · simpa using h5 z hz
          · intro z hz; simpa using h6 z hz
        have apl : ∀ {T : List Nat}, l ∉ T → Apart T [l] := fun h z hz hz2 => h (by rw [← List.mem_singleton.1 hz2]; exact hz)
        rintro e a3 W3 hp3
        cases e with
        | normal =>
          obtain ⟨x', F5, S5, hi', s5, fr⟩ := hp3
          obtain ⟨f1, f2, f3, n1, n2, f4, f5, f6, f7⟩ := fin none W3 F5 S5 fr s5.ltF s5.ltS
          refine ⟨_, _, f1, true, rfl, [J (k + 1)], l :: d :: F5, S5, by simp, ⟨⟨l :: d :: F5, S5, [], [], ⟨subR _, by simp, subR _, by simp⟩, ⟨Apart.nilR _, Apart.nilR _, Apart.nilR _⟩, ⟨x', F5, S5, hi', s5.sep.ext f4 (apl n1.1) (apl n1.2), ⟨rfl, rfl⟩, n1, n2, f2, f3⟩, trivial⟩, f6, f7⟩, f5⟩
        | ret =>
          obtain ⟨y', F5, S5, hi', s5, fr⟩ := hp3
          obtain ⟨f1, f2, f3, n1, n2, f4, f5, f6, f7⟩ := fin (some .ret) W3 F5 S5 fr s5.ltF s5.ltS
          refine ⟨_, _, f1, false, rfl, [Jx (k + 1)], l :: d :: F5, S5, by simp, ⟨⟨l :: d :: F5, S5, [], [], ⟨subR _, by simp, subR _, by simp⟩, ⟨Apart.nilR _, Apart.nilR _, Apart.nilR _⟩, ⟨_, y', F5, S5, hi', s5.sep.ext f4 (apl n1.1) (apl n1.2), ⟨rfl, rfl⟩, n1, n2, f2, f3⟩, trivial⟩, f6, f7⟩, f5⟩
        | exit id =>
          obtain ⟨y', F5, S5, hi', s5, fr⟩ := hp3
          obtain ⟨f1, f2, f3, n1, n2, f4, f5, f6, f7⟩ := fin (some (.exit id)) W3 F5 S5 fr s5.ltF s5.ltS
          refine ⟨_, _, f1, false, rfl, [Jx (k + 1)], l :: d :: F5, S5, by simp, ⟨⟨l :: d :: F5, S5, [], [], ⟨subR _, by simp, subR _, by simp⟩, ⟨Apart.nilR _, Apart.nilR _, Apart.nilR _⟩, ⟨_, y', F5, S5, hi', s5.sep.ext f4 (apl n1.1) (apl n1.2), ⟨rfl, rfl⟩, n1, n2, f2, f3⟩, trivial⟩, f6, f7⟩, f5⟩
        | goto t =>
          obtain ⟨y', F5, S5, hi', s5, fr⟩ := hp3
          obtain ⟨f1, f2, f3, n1, n2, f4, f5, f6, f7⟩ := fin (some (.goto t)) W3 F5 S5 fr s5.ltF s5.ltS
          refine ⟨_, _, f1, false, rfl, [Jx (k + 1)], l :: d :: F5, S5, by simp, ⟨⟨l :: d :: F5, S5, [], [], ⟨subR _, by simp, subR _, by simp⟩, ⟨Apart.nilR _, Apart.nilR _, Apart.nilR _⟩, ⟨_, y', F5, S5, hi', s5.sep.ext f4 (apl n1.1) (apl n1.2), ⟨rfl, rfl⟩, n1, n2, f2, f3⟩, trivial⟩, f6, f7⟩, f5⟩
        | panic ch => exact hp3.elim
        | outgrown => exact hp3.elim
      | _ => exact hq.elim
    have hm := hit (.func (.yield l) #[] #[]) J Jx hy W1 _ _ hst
    have e : (Value.func (.yield l) #[] #[] :: lb).toArray = #[.func (.yield l) #[] #[]] ++ lb.toArray := by simp
    unfold Meets at hm
    rw [e] at hm
    rw [← hl]
    refine CallsIn.mono (callsIn_wide.2 hm) ?_
    intro e W2 he
    cases e with
    | returned v =>
      obtain ⟨H', F5, S5, hH, s5, fr⟩ := he
      have fr' := hfr.trans fr
      have apl : ∀ {T : List Nat}, l ∉ T → Apart T [l] := fun h z hz hz2 => h (by rw [← List.mem_singleton.1 hz2]; exact hz)
      have leave : ∀ {HL : List Asn} {F' S' F2 S2 : List Nat} (ob : Obj), (l :: d :: F' ⊆ F5 ∧ F2 ⊆ F5 ∧ S' ⊆ S5 ∧ S2 ⊆ S5) → (Apart (l :: d :: F') F2 ∧ Apart (l :: d :: F') S2 ∧ Apart S' F2) → Sep HL F' S' W2 → Sep HI F2 S2 W2 → (l ∉ F' ∧ l ∉ S') → (d ∉ F' ∧ d ∉ S') → W2.heap[d]? = some (.deferred (some [])) →
          ∃ F6 S6, St (dfr d :: HL ++ HI) F6 S6 (W2.putObj l ob) ∧ From o (W2.putObj l ob) F6 S6 := by
        intro HL F' S' F2 S2 ob ⟨g1, g2, g3, g4⟩ ⟨k1, k2, k3⟩ hh hhi n1 n2 hdd
        have hx := Ext.putObj W2 l ob
        refine ⟨d :: F' ++ F2, S' ++ S2, ⟨⟨[d], [], F' ++ F2, S' ++ S2, ⟨by simp, fun z hz => by simp at hz ⊢; exact .inr hz, by simp, subR _⟩, ⟨?_, ?_, Apart.nilL _⟩, ⟨rfl, (World.putObj_heap_other hdl).trans hdd⟩, ?_⟩, ?_, ?_⟩, ⟨fr'.ext.transN hx (fun z hz => by rw [List.mem_singleton.1 hz]; exact fr'.fF l (g1 (by simp))), ?_, ?_⟩⟩
        · intro z hz hz2
          rw [List.mem_singleton.1 hz] at hz2
          exact (List.mem_append.1 hz2).elim n2.1 (fun h => k1 d (by simp) h)
        · intro z hz hz2
          rw [List.mem_singleton.1 hz] at hz2
          exact (List.mem_append.1 hz2).elim n2.2 (fun h => k2 d (by simp) h)
        · refine Sep.join ⟨F', S', F2, S2, ⟨inL _ _, inR _ _, inL _ _, inR _ _⟩, ⟨k1.mono (fun z hz => by simp [hz]) (subR _), k2.mono (fun z hz => by simp [hz]) (subR _), k3⟩, hh.ext hx (apl n1.1) (apl n1.2), hhi.ext hx (apl (fun h => k1 l (by simp) h)) (apl (fun h => k2 l (by simp) h))⟩
        · intro z hz
          simp only [List.cons_append, List.mem_cons, List.mem_append] at hz
          have : z ∈ F5 := by
            rcases hz with rfl | hz | hz
            · exact g1 (by simp)
            · exact g1 (by simp [hz])
            · exact g2 hz
          simpa using s5.ltF z this
        · intro z hz
          have : z ∈ S5 := (List.mem_append.1 hz).elim (fun h => g3 h) (fun h => g4 h)
          simpa using s5.ltS z this
        · intro z hz
          simp only [List.cons_append, List.mem_cons, List.mem_append] at hz
          refine fr'.fF z ?_
          rcases hz with rfl | hz | hz
          · exact g1 (by simp)
          · exact g1 (by simp [hz])
          · exact g2 hz
        · intro z hz
          exact fr'.fS z ((List.mem_append.1 hz).elim (fun h => g3 h) (fun h => g4 h))
      rcases hH with rfl | ⟨k, hk, rfl⟩
      · obtain ⟨F1, S1, F2, S2, hsub, hap, ⟨x, F', S', hi, hsep, ⟨rfl, rfl⟩, n1, n2, hl', hd'⟩, hHI⟩ := s5.sep
        refine ⟨none, _, by have := run_endLoop (P := P) hl' (by rw [hrec]; simp); rw [hrec] at this; exact this, ?_⟩
        obtain ⟨F6, S6, s6, fr6⟩ := leave _ hsub hap hsep hHI n1 n2 hd'
        exact hdone d x hi _ F6 S6 s6 fr6 _ ⟨ha.size, by simp [ha.defers, hd], ha.vals⟩
      · obtain ⟨F1, S1, F2, S2, hsub, hap, ⟨c, y, F', S', hi, hsep, ⟨rfl, rfl⟩, n1, n2, hl', hd'⟩, hHI⟩ := s5.sep
        refine ⟨some c, _, by have := run_endLoop (P := P) hl' (by rw [hrec]; simp); rw [hrec] at this; exact this, ?_⟩
        obtain ⟨F6, S6, s6, fr6⟩ := leave _ hsub hap hsep hHI n1 n2 hd'
        exact fen_wp (r := none) (hstop d k c y hk hi _ F6 S6 s6 fr6 _ ⟨ha.size, by simp [ha.defers, hd], ha.vals⟩)
    | panicked ch => exact he.elim
    | outgrown => exact he.elim
end
section
variable {P : Program} {n : Fm} {o : Org} {ks : List K} {ρ : Env} {H H1 H' : List Asn} {fn : Func} {Φ : Value → List Asn → Prop}
theorem SG.retM {v : Value} (hl : Dfrs n.df H H1) (hv : ∀ a, Fr n ρ a → ∀ w, (results fn a.tmps).run P w = .ok v w) (i : Imp H1 H') (h : Φ v H') : SG P (Func.base P fn (PostS o Φ)) n o ks ρ H .ret := fun w F S s f => by
  obtain ⟨w', F1, S1, hlv, s1, f1⟩ := hl.leave s f
  exact G.retM hlv (fun a ha => hv a ha w') (post_of i h s1 f1)
theorem SN.endM {v : Value} (hl : Dfrs n.df H H1) (hv : ∀ a, Fr n ρ a → ∀ w, (results fn a.tmps).run P w = .ok v w) (i : Imp H1 H') (h : Φ v H') : SN P (Func.base P fn (PostS o Φ)) n o [] ρ H := fun w F S s f => by
  obtain ⟨w', F1, S1, hlv, s1, f1⟩ := hl.leave s f
  exact N.endM hlv (fun a ha => hv a ha w') (post_of i h s1 f1)
theorem SG.ret1M {t : Nat} {v : Value} (hr : fn.results = #[.tmp t]) (hv : look ρ t = some v) (hl : Dfrs n.df H H1) (i : Imp H1 H') (h : Φ v H') : SG P (Func.base P fn (PostS o Φ)) n o ks ρ H .ret := SG.retM hl (fun _ ha _ => res1 hr hv ha) i h
theorem SG.ret2M {t u : Nat} {v x : Value} (hr : fn.results = #[.tmp t, .tmp u]) (hv : look ρ t = some v) (hx : look ρ u = some x) (hl : Dfrs n.df H H1) (i : Imp H1 H') (h : Φ (.tuple #[v, x]) H') : SG P (Func.base P fn (PostS o Φ)) n o ks ρ H .ret := SG.retM hl (fun _ ha _ => res2 hr hv hx ha) i h
theorem SG.ret3M {t u r : Nat} {v x y : Value} (hr : fn.results = #[.tmp t, .tmp u, .tmp r]) (hv : look ρ t = some v) (hx : look ρ u = some x) (hy : look ρ r = some y) (hl : Dfrs n.df H H1) (i : Imp H1 H') (h : Φ (.tuple #[v, x, y]) H') : SG P (Func.base P fn (PostS o Φ)) n o ks ρ H .ret := SG.retM hl (fun _ ha _ => res3 hr hv hx hy ha) i h
theorem SG.ret0M (hr : fn.results = #[]) (hl : Dfrs n.df H H1) (i : Imp H1 H') (h : Φ (.tuple #[]) H') : SG P (Func.base P fn (PostS o Φ)) n o ks ρ H .ret := SG.retM hl (fun _ _ _ => by rw [results_none hr]) i h
theorem SN.end0M (hr : fn.results = #[]) (hl : Dfrs n.df H H1) (i : Imp H1 H') (h : Φ (.tuple #[]) H') : SN P (Func.base P fn (PostS o Φ)) n o [] ρ H := SN.endM hl (fun _ _ _ => by rw [results_none hr]) i h
end
end Brv
/-
  More on walks over assertions: lists in plain form; iterators that only read.
-/
set_option linter.unusedVariables false
set_option linter.unusedSimpArgs false
namespace Brv
open Go
section
variable {P : Program} {B : Exit → Act → World → Prop} {n : Fm} {o : Org} {ops : List Oper} {ks : List K} {ρ : Env} {H : List Asn} {l : List Oper} {Q : Exit → Act → World → Prop} {σ : List Nat} {π : List (Nat × Oper)} {pend : Pend} {c : Code}
theorem SL.n0 (h : SL P B n o ops ks ρ (H) l) : SL P B n o ops ks ρ ([] ++ H) l := h
theorem SW.n0 (h : SW P n ops Q o σ π pend ρ (H)) : SW P n ops Q o σ π pend ρ ([] ++ H) := h
theorem SN.n0 (h : SN P B n o ks ρ (H)) : SN P B n o ks ρ ([] ++ H) := h
theorem SG.n0 (h : SG P B n o ks ρ (H) c) : SG P B n o ks ρ ([] ++ H) c := h
theorem SL.n1 {A1 : Asn} (h : SL P B n o ops ks ρ (A1 :: H) l) : SL P B n o ops ks ρ ([A1] ++ H) l := h
theorem SW.n1 {A1 : Asn} (h : SW P n ops Q o σ π pend ρ (A1 :: H)) : SW P n ops Q o σ π pend ρ ([A1] ++ H) := h
theorem SN.n1 {A1 : Asn} (h : SN P B n o ks ρ (A1 :: H)) : SN P B n o ks ρ ([A1] ++ H) := h
theorem SG.n1 {A1 : Asn} (h : SG P B n o ks ρ (A1 :: H) c) : SG P B n o ks ρ ([A1] ++ H) c := h
theorem SL.n2 {A1 A2 : Asn} (h : SL P B n o ops ks ρ (A1 :: A2 :: H) l) : SL P B n o ops ks ρ ([A1, A2] ++ H) l := h
theorem SW.n2 {A1 A2 : Asn} (h : SW P n ops Q o σ π pend ρ (A1 :: A2 :: H)) : SW P n ops Q o σ π pend ρ ([A1, A2] ++ H) := h
theorem SN.n2 {A1 A2 : Asn} (h : SN P B n o ks ρ (A1 :: A2 :: H)) : SN P B n o ks ρ ([A1, A2] ++ H) := h
theorem SG.n2 {A1 A2 : Asn} (h : SG P B n o ks ρ (A1 :: A2 :: H) c) : SG P B n o ks ρ ([A1, A2] ++ H) c := h
theorem SL.n3 {A1 A2 A3 : Asn} (h : SL P B n o ops ks ρ (A1 :: A2 :: A3 :: H) l) : SL P B n o ops ks ρ ([A1, A2, A3] ++ H) l := h
theorem SW.n3 {A1 A2 A3 : Asn} (h : SW P n ops Q o σ π pend ρ (A1 :: A2 :: A3 :: H)) : SW P n ops Q o σ π pend ρ ([A1, A2, A3] ++ H) := h
theorem SN.n3 {A1 A2 A3 : Asn} (h : SN P B n o ks ρ (A1 :: A2 :: A3 :: H)) : SN P B n o ks ρ ([A1, A2, A3] ++ H) := h
theorem SG.n3 {A1 A2 A3 : Asn} (h : SG P B n o ks ρ (A1 :: A2 :: A3 :: H) c) : SG P B n o ks ρ ([A1, A2, A3] ++ H) c := h
theorem SL.n4 {A1 A2 A3 A4 : Asn} (h : SL P B n o ops ks ρ (A1 :: A2 :: A3 :: A4 :: H) l) : SL P B n o ops ks ρ ([A1, A2, A3, A4] ++ H) l := h
theorem SW.n4 {A1 A2 A3 A4 : Asn} (h : SW P n ops Q o σ π pend ρ (A1 :: A2 :: A3 :: A4 :: H)) : SW P n ops Q o σ π pend ρ ([A1, A2, A3, A4] ++ H) := h
theorem SN.n4 {A1 A2 A3 A4 : Asn} (h : SN P B n o ks ρ (A1 :: A2 :: A3 :: A4 :: H)) : SN P B n o ks ρ ([A1, A2, A3, A4] ++ H) := h
theorem SG.n4 {A1 A2 A3 A4 : Asn} (h : SG P B n o ks ρ (A1 :: A2 :: A3 :: A4 :: H) c) : SG P B n o ks ρ ([A1, A2, A3, A4] ++ H) c := h
theorem SL.n5 {A1 A2 A3 A4 A5 : Asn} (h : SL P B n o ops ks ρ (A1 :: A2 :: A3 :: A4 :: A5 :: H) l) : SL P B n o ops ks ρ ([A1, A2, A3, A4, A5] ++ H) l := h
theorem SW.n5 {A1 A2 A3 A4 A5 : Asn} (h : SW P n ops Q o σ π pend ρ (A1 :: A2 :: A3 :: A4 :: A5 :: H)) : SW P n ops Q o σ π pend ρ ([A1, A2, A3, A4, A5] ++ H) := h
theorem SN.n5 {A1 A2 A3 A4 A5 : Asn} (h : SN P B n o ks ρ (A1 :: A2 :: A3 :: A4 :: A5 :: H)) : SN P B n o ks ρ ([A1, A2, A3, A4, A5] ++ H) := h
theorem SG.n5 {A1 A2 A3 A4 A5 : Asn} (h : SG P B n o ks ρ (A1 :: A2 :: A3 :: A4 :: A5 :: H) c) : SG P B n o ks ρ ([A1, A2, A3, A4, A5] ++ H) c := h
theorem SN.be {v v' : Value} (d : Nat) (hv : look ρ d = some v) (e : v = v') (h : SN P B n o ks ((d, v') :: ρ) H) : SN P B n o ks ρ H := by
  subst e
  exact fun w F S s f a ha => h w F S s f a (ha.sub (Sub.cons hv (Sub.refl _)))
end
/-- An iterator that reads what is there and stays. -/
def itA (P : Program) (gf : FuncId) (lb : List Value) (N : Nat) (E : Nat → List Value → World → Prop) : Asn where
  P := fun _ S w => ∀ M W, Ext M w W → Apart S M → ∃ Sx, Iter P gf lb W N E Sx S []
  ext := fun F S M w w' h he _ hS M' W he' hS' => h (M ++ M') W ((he.mono (fun x hx => .inl (List.mem_append_left _ hx))).transN he' (fun x hx => .inl (List.mem_append_right _ hx))) (Apart.appR hS hS')
instance (P : Program) (gf : FuncId) (lb : List Value) (N : Nat) (E : Nat → List Value → World → Prop) : Pers (itA P gf lb N E) := ⟨fun _ _ _ h => h⟩
theorem IterS.read {P : Program} {gf : FuncId} {lb : List Value} {N : Nat} {E : Nat → List Value → World → Prop} {E' : Nat → List Value → Prop} (hE : ∀ k vs W, E k vs W → E' k vs) :
    IterS P gf lb [itA P gf lb N E] N (fun k vs p => E' k vs ∧ p = fun _ => True) := by
  intro y J Jx hy w F S s
  obtain ⟨Fj, Sj, Fi, Si, ⟨a1, a2, a3, a4⟩, ⟨b1, b2, b3⟩, hJ, Fi', Si', F3, S3, ⟨c1, c2, c3, c4⟩, _, hit, _⟩ := s.sep
  obtain ⟨Sx, hit'⟩ := hit [] w (Ext.refl _ _) (Apart.nilR _)
  have ltj : ∀ b ∈ Fj, b < w.heap.size := fun b hb => s.ltF b (a1 hb)
  have ltsj : ∀ b ∈ Sj, b < w.heap.size := fun b hb => s.ltS b (a3 hb)
  have ltsi : ∀ b ∈ Si', b < w.heap.size := fun b hb => s.ltS b (a4 (c3 hb))
  have hap : ∀ b ∈ Fj, b ∉ Si' := fun b hb h => b2 b hb (c3 h)
  -- what the consumer keeps
  let KJ : (Nat → Asn) → Nat → List Nat → World → Prop := fun A k D W => ∃ F' S', (A k).P F' S' W ∧ (∀ b ∈ F', b ∈ D) ∧ (∀ b ∈ S', b < W.heap.size ∧ (b ∈ D ∨ b ∈ Sj)) ∧ (∀ b ∈ D, b < W.heap.size ∧ (b ∈ Fj ∨ w.heap.size ≤ b)) ∧ Ext Fj w W
  have hst : ∀ (A : Nat → Asn) k D W₁ W₂ M', KJ A k D W₁ → Ext M' W₁ W₂ → (∀ g ∈ M', g ∉ D ∧ (g ∈ ([] : List Nat) ∨ w.heap.size ≤ g)) → KJ A k D W₂ := by
    rintro A k D W₁ W₂ M' ⟨F', S', h1, h2, h3, h4, h5⟩ he hM
    refine ⟨F', S', (A k).ext _ _ _ _ _ h1 he (fun b hb h => (hM b h).1 (h2 b hb)) (fun b hb h => (h3 b hb).2.elim (hM b h).1 (fun q => by have := (hM b h).2; simp at this; have := ltsj b q; omega)), h2, fun b hb => ⟨Nat.lt_of_lt_of_le (h3 b hb).1 he.size, (h3 b hb).2⟩, fun b hb => ⟨Nat.lt_of_lt_of_le (h4 b hb).1 he.size, (h4 b hb).2⟩, h5.transN he (fun x hx => .inr (by have := (hM x hx).2; simpa using this))⟩
  have hm := hit' y Fj (KJ J) (KJ Jx) w (Ext.refl _ _) (fun g hg => ⟨ltj g hg, hap g hg, by simp⟩) (fun k D W₁ W₂ M' => hst J k D W₁ W₂ M') (fun k D W₁ W₂ M' => hst Jx k D W₁ W₂ M') (by
      rintro k D vs W₁ hk ⟨F', S', h1, h2, h3, h4, h5⟩ hEk hD
      have hys := hy k vs _ hk ⟨hE k vs W₁ hEk, rfl⟩ W₁ F' S' ⟨⟨[], [], F', S', ⟨by simp, subR _, by simp, subR _⟩, ⟨Apart.nilL _, Apart.nilL _, Apart.nilL _⟩, fun _ _ _ _ => trivial, F', S', [], [], ⟨subR _, by simp, subR _, by simp⟩, ⟨Apart.nilR _, Apart.nilR _, Apart.nilR _⟩, h1, trivial⟩, fun b hb => (h4 b (h2 b hb)).1, fun b hb => (h3 b hb).1⟩
      have fin : ∀ b W₂, PostS ⟨W₁, F', S'⟩ (fun _ H' => H' = [if b then J (k + 1) else Jx (k + 1)]) undef W₂ → ∃ D', Ext D W₁ W₂ ∧ (∀ g ∈ D', g < W₂.heap.size ∧ (g ∈ D ∨ W₁.heap.size ≤ g)) ∧ (b = true → KJ J (k + 1) D' W₂) ∧ (b = false → KJ Jx (k + 1) D' W₂) := by
        rintro b W₂ ⟨H', F5, S5, rfl, s5, f5⟩
        have hsz := f5.ext.size
        have hsw := h5.size
        simp only at hsz
        obtain ⟨Fa, Sa, Fb, Sb, ⟨q1, _, q3, _⟩, _, hA, _⟩ := s5.sep
        have hD2 : ∀ g ∈ D ++ (F5 ++ S5).filter (fun g => decide (W₁.heap.size ≤ g)), g < W₂.heap.size ∧ (g ∈ D ∨ W₁.heap.size ≤ g) := by
          intro g hg
          rcases List.mem_append.1 hg with h | h
          · exact ⟨Nat.lt_of_lt_of_le (h4 g h).1 hsz, .inl h⟩
          · obtain ⟨h, hd⟩ := List.mem_filter.1 h
            exact ⟨(List.mem_append.1 h).elim (s5.ltF g) (s5.ltS g), .inr (of_decide_eq_true hd)⟩
        have hE2 : Ext D W₁ W₂ := f5.ext.mono (fun x hx => .inl (h2 x hx))
        have base : ∀ A : Nat → Asn, (A (k + 1)).P Fa Sa W₂ → KJ A (k + 1) (D ++ (F5 ++ S5).filter (fun g => decide (W₁.heap.size ≤ g))) W₂ := fun A hA => by
          refine ⟨Fa, Sa, hA, fun g hg => ?_, fun g hg => ⟨s5.ltS g (q3 hg), ?_⟩, fun g hg => ⟨(hD2 g hg).1, (hD2 g hg).2.elim (fun h => (h4 g h).2) (fun h => .inr (Nat.le_trans hsw h))⟩, h5.transN hE2 (fun x hx => (h4 x hx).2)⟩
          · exact (f5.fF g (q1 hg)).elim (fun h => List.mem_append_left _ (h2 g h)) (fun h => List.mem_append_right _ (List.mem_filter.2 ⟨List.mem_append_left _ (q1 hg), decide_eq_true h⟩))
          · rcases f5.fS g (q3 hg) with h | h | h
            · exact (h3 g h).2.imp (fun h => List.mem_append_left _ h) id
            · exact .inl (List.mem_append_left _ (h2 g h))
            · exact .inl (List.mem_append_right _ (List.mem_filter.2 ⟨List.mem_append_right _ (q3 hg), decide_eq_true h⟩))
        refine ⟨_, hE2, hD2, fun hb => ?_, fun hb => ?_⟩
        · subst hb; exact base J hA
        · subst hb; exact base Jx hA
      rcases hys with ⟨l, rfl, fn, tmps, asv, body, hr, hrd⟩ | ⟨f, first, cap, rfl, hc, hf⟩
      · refine .inl ⟨l, rfl, fn, tmps, asv, body, hr, RoundIn.mono hrd ?_⟩
        rintro e w' ⟨b, rfl, h⟩
        exact ⟨b, rfl, fin b w' h⟩
      · refine .inr ⟨f, first, cap, rfl, hc, hf.mono ?_⟩
        rintro v w' ⟨b, rfl, h⟩
        exact ⟨b, rfl, fin b w' h⟩) ⟨Fj, Sj, hJ, fun b hb => hb, fun b hb => ⟨ltsj b hb, .inr hb⟩, fun b hb => ⟨ltj b hb, .inl hb⟩, Ext.refl _ _⟩
  refine hm.mono ?_
  have out : ∀ (A : Nat → Asn) k D W, KJ A k D W → ∃ F' S', St (A k :: [itA P gf lb N E]) F' S' W ∧ From ⟨w, F, S⟩ W F' S' := by
    rintro A k D W ⟨F', S', h1, h2, h3, h4, h5⟩
    have hsw := h5.size
    refine ⟨F', S' ++ Si', ⟨⟨F', S', [], Si', ⟨subR _, by simp, inL _ _, inR _ _⟩, ⟨Apart.nilR _, fun b hb h => ?_, Apart.nilR _⟩, h1, [], Si', [], [], ⟨by simp, by simp, subR _, by simp⟩, ⟨Apart.nilL _, Apart.nilL _, Apart.nilR _⟩, (itA P gf lb N E).ext _ _ _ _ _ hit h5 (fun b hb h => ?_) (fun b hb h => hap b h hb), trivial⟩, fun b hb => (h4 b (h2 b hb)).1, ?_⟩, ⟨h5.mono (fun x hx => .inl (a1 hx)), fun b hb => (h4 b (h2 b hb)).2.imp (fun h => a1 h) id, ?_⟩⟩
    · exact (h4 b (h2 b hb)).2.elim (fun q => hap b q h) (fun q => by have := ltsi b h; omega)
    · cases hb
    · intro b hb
      exact (List.mem_append.1 hb).elim (fun h => (h3 b h).1) (fun h => Nat.lt_of_lt_of_le (ltsi b h) hsw)
    · intro b hb
      rcases List.mem_append.1 hb with h | h
      · exact (h3 b h).2.elim (fun q => (h4 b q).2.elim (fun q => .inr (.inl (a1 q))) (fun q => .inr (.inr q))) (fun q => .inl (a3 q))
      · exact .inl (a4 (c3 h))
  rintro v W₂ (⟨D, hJN, _⟩ | ⟨k, D, hk, hJx, _⟩)
  · obtain ⟨F', S', s', f'⟩ := out J N D W₂ hJN
    exact ⟨_, F', S', .inl rfl, s', f'⟩
  · obtain ⟨F', S', s', f'⟩ := out Jx k D W₂ hJx
    exact ⟨_, F', S', .inr ⟨k, hk, rfl⟩, s', f'⟩
end Brv
/-
  Contracts over assertions, from contracts over worlds.
-/
set_option linter.unusedVariables false
set_option linter.unusedSimpArgs false
namespace Brv
open Go
theorem St.blkC {H H' : List Asn} {b : Nat} {cs : List Value} {T : TypeId} {F S : List Nat} {w : World} (s : St H F S w) (h : Sel H (Brv.blk b cs T) H') : Cells w (some ⟨b, 0, none⟩) cs :=
  Cells.of_blk (s.blk h) 0 _ (fun j v hj => by simpa using hj)
theorem R.strB {P : Program} {n : Fm} {ρ : Env} {w : World} {d : Nat} {ty : TypeId} {pos : String} {af : Array Edge} {gd : Option (Nat × Bool)} {T S E : TypeId} [t : TyBytes P T E] [s : TyStr P S] {x : Operand} {a : Option Addr} {m c : Nat} {l : List UInt8} (hx : ev ρ x = some (.slice a m c)) (hb : Bs w a m l) :
    Runs P n ρ w ⟨some d, .convert T S x, ty, pos, af, gd⟩ (.string (str l)) w := R.bytesStr hx hb.cells hb.len
/-- A list of one assertion. -/
theorem st_one {A : Asn} {F S : List Nat} {w : World} (h : A.P F S w) (hF : ∀ b ∈ F, b < w.heap.size) (hS : ∀ b ∈ S, b < w.heap.size) : St [A] F S w :=
  ⟨⟨F, S, [], [], ⟨subR _, by simp, subR _, by simp⟩, ⟨Apart.nilR _, Apart.nilR _, Apart.nilR _⟩, h, trivial⟩, hF, hS⟩
section
variable {P : Program} {f : FuncId} {vs : List Value}
/-- A call that makes new blocks and turns nothing. -/
theorem post_new {H : List Asn} {w w' : World} {F S F' S' : List Nat} {A : Asn} {Φ : Value → List Asn → Prop} {v : Value} (st : St H F S w) (he : Ext [] w w') (hA : A.P F' S' w') (hF : ∀ b ∈ F', w.heap.size ≤ b ∧ b < w'.heap.size) (hS : ∀ b ∈ S', w.heap.size ≤ b ∧ b < w'.heap.size) (hΦ : Φ v (A :: H)) : PostS ⟨w, F, S⟩ Φ v w' := by
  obtain ⟨F2, S2, s2, f2⟩ := st.grow (From.refl w F S) he hF (fun b hb => ⟨(hS b hb).2, .inl (hS b hb).1⟩) hA (fun b hb hb' => by have := (hS b hb).1; have := st.ltF b hb'; omega)
  exact ⟨_, F2, S2, hΦ, s2, f2⟩
section
variable {n : Fm} {o : Org} {ρ : Env} {H H0 H1 : List Asn} {d : Option Nat} {ty : TypeId} {pos : String} {af : Array Edge} {gd : Option (Nat × Bool)} {args : Array Operand} {ats : Array TypeId}
theorem CS.callN {φ : Value → Asn → Prop} (hargs : evs ρ args.toList = some vs) (hc : ∀ (vs : Array Value) w, (callFunc f vs).run P w = .ok (.enter f vs) w)
    (hf : ∀ w F S, St H F S w → Meets P f vs w (fun v w' => ∃ A F' S', φ v A ∧ Ext [] w w' ∧ A.P F' S' w' ∧ (∀ b ∈ F', w.heap.size ≤ b ∧ b < w'.heap.size) ∧ (∀ b ∈ S', w.heap.size ≤ b ∧ b < w'.heap.size))) : CS P n o ρ H ⟨d, .call ⟨.value (.func f), args, ats⟩, ty, pos, af, gd⟩ (fun v H' => ∃ A, φ v A ∧ H' = A :: H) :=
  fun w F S s fr => Acts.callV (x := .func f) (first := #[]) (cap := #[]) rfl hargs (by simp) hc ((hf w F S s).mono fun v w' ⟨A, F', S', h1, h2, h3, h4, h5⟩ => by
    obtain ⟨H', F2, S2, q1, q2, q3⟩ := post_new (Φ := fun v H' => ∃ A, φ v A ∧ H' = A :: H) (v := v) s h2 h3 h4 h5 ⟨A, h1, rfl⟩
    exact ⟨H', F2, S2, q1, q2, fr.trans q3⟩)
/-- .. that clones. -/
theorem CS.callC {E size k : Nat} {xs : List Value} (hargs : evs ρ args.toList = some vs) (hc : ∀ (vs : Array Value) w, (callFunc f vs).run P w = .ok (.enter f vs) w)
    (hf : ∀ w F S, St H F S w → Meets P f vs w (Cloned w E size k xs)) : CS P n o ρ H ⟨d, .call ⟨.value (.func f), args, ats⟩, ty, pos, af, gd⟩ (fun v H' => ∃ a c, v = .slice a k c ∧ H' = own E size a k c xs :: H) :=
  (CS.callN (φ := fun v A => ∃ a c, v = .slice a k c ∧ A = own E size a k c xs) hargs hc fun w F S s => (hf w F S s).mono fun v w' ⟨a, c, M, hv, he, ho, hM⟩ => ⟨_, M, [], ⟨a, c, hv, rfl⟩, he, ho, fun b hb => ⟨hM b hb, ho.lt b hb⟩, by simp⟩).mono
    (by rintro v H' ⟨_, ⟨a, c, rfl, rfl⟩, rfl⟩; exact ⟨a, c, rfl, rfl⟩)
theorem CS.buildA {T E size bytes : Nat} {z : Value} [t : TySlice P T E size bytes z] {d len : Nat} {parts : Array (Nat × Operand)} {vs : List (Nat × Value)} (hp : evps ρ parts.toList = some vs) (hl : Nat.ble (len * size) 16777216 = true) (hlen : Nat.beq vs.length len = true) (ho : inOrder 0 vs = true) (hs : vs.all (fun p => Nat.beq p.2.cells.size size) = true)
    (cs : List Value) (hcs : cellsOf vs = cs) : CS P n o ρ H ⟨some d, .buildSlice T len parts, ty, pos, af, gd⟩ (fun v H' => ∃ b, v = .slice (some ⟨b, 0, none⟩) len len ∧ H' = blk b cs E :: H) :=
  CS.mk (fun w => R.buildA hp hl hlen ho hs) (by simpa using hcs)
/-- A block is made of a struct. -/
theorem CS.boxA {T : TypeId} {x : Operand} {cs : List Value} {d : Nat} (hx : ev ρ x = some (.agg cs.toArray)) : CS P n o ρ H ⟨some d, .box T x, ty, pos, af, gd⟩ (fun v H' => ∃ b, v = .pointer (some ⟨b, 0, none⟩) ∧ H' = blk b cs T :: H) :=
  CS.box hx cs (by simp [Value.cells])
end
end
/-- A block that stays as it is. -/
def fz (b : Nat) (cs : List Value) (T : TypeId) : Asn := sh (fun w => Blk w b cs.toArray T (0, 0))
instance (b : Nat) (cs : List Value) (T : TypeId) : Pers (fz b cs T) := ⟨fun _ _ _ h => h⟩
theorem St.fz {H H' : List Asn} {b : Nat} {cs : List Value} {T : TypeId} {F S : List Nat} {w : World} (s : St H F S w) (h : Sel H (Brv.fz b cs T) H') : Blk w b cs.toArray T (0, 0) := s.sh h
theorem Imp.fz {H H' : List Asn} {b : Nat} {cs : List Value} {T : TypeId} (h : Sel H (blk b cs T) H') : Imp H (Brv.fz b cs T :: H') := Imp.blkSh h fun _ h => h
/-- A block among the assertions, owned or frozen. -/
inductive SelB : List Asn → Nat → List Value → TypeId → Prop
  | blk {b : Nat} {cs : List Value} {T : TypeId} {H : List Asn} : SelB (Brv.blk b cs T :: H) b cs T
  | fz {b : Nat} {cs : List Value} {T : TypeId} {H : List Asn} : SelB (Brv.fz b cs T :: H) b cs T
  | there {A : Asn} {b : Nat} {cs : List Value} {T : TypeId} {H : List Asn} : SelB H b cs T → SelB (A :: H) b cs T
theorem SelB.get {H : List Asn} {b : Nat} {cs : List Value} {T : TypeId} (h : SelB H b cs T) : ∀ {F S : List Nat} {w : World}, Sep H F S w → Blk w b cs.toArray T (0, 0) := by
  induction h with
  | blk => exact fun {F S w} ⟨_, _, _, _, _, _, hA, _⟩ => hA.2
  | fz => exact fun {F S w} ⟨_, _, _, _, _, _, hA, _⟩ => hA [] w (Ext.refl _ _) (Apart.nilR _)
  | there _ ih => exact fun {F S w} ⟨_, _, _, _, _, _, _, hH⟩ => ih hH
theorem St.cel {H : List Asn} {b : Nat} {cs : List Value} {T : TypeId} {F S : List Nat} {w : World} (s : St H F S w) (h : SelB H b cs T) : Blk w b cs.toArray T (0, 0) := h.get s.sep
/-- An order of keys and values (its blocks are its own). -/
def mp {κ : Type} [Key κ] (TM TP sv : Nat) (m : Nat) (ps : List (Pr κ)) : Asn where
  P := fun F _ w => MapAt TM TP sv w m ps F
  ext := fun F S M w w' h he hF _ => h.ext he hF
theorem St.mp {κ : Type} [Key κ] {TM TP sv m : Nat} {ps : List (Pr κ)} {H H' : List Asn} {F S : List Nat} {w : World} (s : St H F S w) (h : Sel H (Brv.mp TM TP sv m ps) H') : ∃ S', MapAt TM TP sv w m ps S' := (s.sel h).elim fun F1 h => h.elim fun _ h => ⟨F1, h.2⟩
/-- A call that turns an order. -/
theorem SpecS.ofMap {κ : Type} [Key κ] {P : Program} {f : FuncId} {vs : List Value} {TM TP sv m : Nat} {ps ps' : List (Pr κ)} {φ : Value → Prop} (h : ∀ w S, MapAt TM TP sv w m ps S → Meets P f vs w (fun v w' => φ v ∧ ∃ S', Grown S S' w w' ∧ MapAt TM TP sv w' m ps' S')) :
    SpecS P f vs [mp TM TP sv m ps] (fun v H' => φ v ∧ H' = [mp TM TP sv m ps']) := fun w F S st => by
  obtain ⟨F1, S1, _, _, ⟨a, _, c, _⟩, _, hm, _⟩ := st.sep
  refine (h w F1 hm).mono ?_
  rintro v w' ⟨h1, S', hg, hm'⟩
  exact ⟨_, S', [], ⟨h1, rfl⟩, st_one hm' hm'.lt (by simp), ⟨hg.1.mono (fun x hx => .inl (a hx)), fun x hx => (hg.2 x hx).imp (fun h => a h) id, by simp⟩⟩
theorem SpecS.ofNew {κ : Type} [Key κ] {P : Program} {f : FuncId} {TM TP sv : Nat} (h : ∀ w, Meets P f [] w (fun v w' => ∃ b, v = .pointer (some ⟨b, 0, none⟩) ∧ w.heap.size ≤ b ∧ Ext [] w w' ∧ MapAt (κ := κ) TM TP sv w' b [] [b])) :
    SpecS P f [] [] (fun v H' => ∃ b, v = .pointer (some ⟨b, 0, none⟩) ∧ H' = [mp (κ := κ) TM TP sv b []]) := fun w F S st => (h w).mono fun v w' ⟨b, h1, h2, h3, h4⟩ =>
  ⟨_, [b], [], ⟨b, h1, rfl⟩, st_one h4 h4.lt (by simp), ⟨h3.mono (by simp), fun x hx => .inr (by rw [List.mem_singleton.1 hx]; exact h2), by simp⟩⟩
end Brv
/-
  Laws over assertions: all that is there at the beginning is shared.
-/
set_option linter.unusedVariables false
set_option linter.unusedSimpArgs false
namespace Brv
open Go
class PersL (H : List Asn) : Prop where
  h : ∀ F S w, Sep H F S w → Sep H [] S w
instance : PersL [] := ⟨fun _ _ _ _ => trivial⟩
instance (A : Asn) (H : List Asn) [a : Pers A] [t : PersL H] : PersL (A :: H) := ⟨fun F S w ⟨F1, S1, F2, S2, ⟨p, q, r, s⟩, _, hA, hH⟩ =>
  ⟨[], S1, [], S2, ⟨by simp, by simp, r, s⟩, ⟨Apart.nilL _, Apart.nilL _, Apart.nilR _⟩, a.h _ _ _ hA, t.h _ _ _ hH⟩⟩
def lawO (w : World) : Org := ⟨w, [], List.range w.heap.size⟩
/-- What is true of the old blocks, at a law's beginning. -/
theorem law_nil (w : World) : St [] [] (List.range w.heap.size) w := ⟨trivial, by simp, fun b h => List.mem_range.1 h⟩
theorem law_cons {H : List Asn} {w : World} {p : World → Prop} (hp : ∀ w', Ext [] w w' → p w') (h : St H [] (List.range w.heap.size) w) : St (sh p :: H) [] (List.range w.heap.size) w :=
  ⟨⟨[], List.range w.heap.size, [], List.range w.heap.size, ⟨by simp, by simp, subR _, subR _⟩, ⟨Apart.nilL _, Apart.nilL _, Apart.nilR _⟩, sh_old hp [], h.sep⟩, by simp, fun b h => List.mem_range.1 h⟩
theorem Meets.law {P : Program} {f : FuncId} {fn : Func} {c : Code} {args : List Value} {w : World} {H : List Asn} {x : Value} (hf : P.funcs[f]? = some fn) (hb : fn.body = some c) (n : Nat) (hn : fn.ntmps = n) (hl : args.length ≤ n) (hs : St H [] (List.range w.heap.size) w)
    (h : SG P (Func.base P fn (PostS (lawO w) (fun v _ => v = x))) ⟨n, [], none⟩ (lawO w) [] (argEnv 0 args) H c) : Meets P f args w (fun v w' => v = x ∧ Ext [] w w') :=
  (Meets.enter hf hb n hn hl (h w [] _ hs (From.refl w [] _))).mono fun v w' ⟨_, _, _, hv, _, fr⟩ => ⟨hv, fr.ext⟩
section
variable {P : Program} {n : Fm} {w₀ : World} {ρ : Env} {H H0 H1 : List Asn} {d : Option Nat} {ty : TypeId} {pos : String} {af : Array Edge} {gd : Option (Nat × Bool)} {args : Array Operand} {ats : Array TypeId} {f : FuncId} {vs : List Value}
end
section
variable {P : Program} {n : Fm} {o : Org} {ρ : Env} {H H1 : List Asn} {ty : TypeId} {pos : String} {af : Array Edge} {gd : Option (Nat × Bool)}
end
end Brv
/-
  A return of a struct that lives in a block, and of two plain results.
-/
set_option linter.unusedVariables false
namespace Brv
open Go
section
variable {P : Program} {n : Nat} {ks : List K} {ρ : Env} {w : World} {fn : Func} {Φ : Value → World → Prop}
theorem G.retCTT {t u y : Nat} {T : TypeId} {s b : Nat} [ta : TyAgg P T s] {cs : Array Value} {U : TypeId} {fz : Nat × Nat} {x z : Value} (hr : fn.results = #[.cell t T, .tmp u, .tmp y]) (hv : look ρ t = some (.pointer (some ⟨b, 0, none⟩))) (hx : look ρ u = some x) (hy : look ρ y = some z)
    (hb : Blk w b cs U fz) (hs : cs.size = s) (h : Φ (.tuple #[.agg cs, x, z]) w) : G P (Func.base P fn Φ) ⟨n, [], none⟩ ks ρ w .ret := by
  refine G.retM (n := ⟨n, [], none⟩) rfl (fun a ha => ?_) h
  have e1 := ha.getD hv
  have e2 := ha.getD hx
  have e3 := ha.getD hy
  have hl0 := run_loadN (P := P) (T := T) (s := s) (w := w) (p := ⟨b, 0, none⟩) (vs := cs.toList) hb.cellsAll (by simpa using hs)
  have hl : (loadVar T ⟨b, 0, none⟩).run P w = .ok (.agg cs) w := by simpa [Instr.loadAt, Instr.sureAddr] using hl0
  rw [Array.getD_eq_getD_getElem?] at e1 e2 e3
  simp [results, hr, e1, e2, e3, asAddr, hl]
end
end Brv
/-
  Assertions with something hidden.
-/
set_option linter.unusedVariables false
set_option linter.unusedSimpArgs false
namespace Brv
open Go
/-- A list of assertions, whose parts aren't told. -/
def pk {ι : Type} (A : ι → List Asn) : Asn where
  P := fun F S w => ∃ i, Sep (A i) F S w
  ext := fun _ _ _ _ _ ⟨i, h⟩ he hF hS => ⟨i, h.ext he hF hS⟩
theorem pk_one {ι : Type} {A : ι → List Asn} {F S : List Nat} {w : World} (i : ι) (h : St (A i) F S w) : St [pk A] F S w := st_one ⟨i, h.sep⟩ h.ltF h.ltS
theorem pk_open {ι : Type} {A : ι → List Asn} {F S : List Nat} {w : World} (h : St [pk A] F S w) : ∃ i F1 S1, St (A i) F1 S1 w ∧ F1 ⊆ F ∧ S1 ⊆ S := by
  obtain ⟨F1, S1, _, _, ⟨a, _, c, _⟩, _, ⟨i, hA⟩, _⟩ := h.sep
  exact ⟨i, F1, S1, ⟨hA, fun x hx => h.ltF x (a hx), fun x hx => h.ltS x (c hx)⟩, a, c⟩
theorem From.lift {w w' : World} {F S F1 S1 F' S' : List Nat} (h : From ⟨w, F1, S1⟩ w' F' S') (hF : F1 ⊆ F) (hS : S1 ⊆ S) : From ⟨w, F, S⟩ w' F' S' :=
  ⟨h.ext.mono (fun x hx => .inl (hF hx)), fun b hb => (h.fF b hb).imp (fun q => hF q) id, fun b hb => (h.fS b hb).imp (fun q => hS q) (fun q => q.imp (fun q => hF q) id)⟩
section
variable {P : Program} {f : FuncId} {vs : List Value} {ι κ : Type}
/-- A function on what is hidden. -/
theorem SpecS.pack {A : ι → List Asn} {B : κ → List Asn} {φ : Value → Prop} (h : ∀ i, SpecS P f vs (A i) (fun v H' => φ v ∧ ∃ j, H' = B j)) : SpecS P f vs [pk A] (fun v H' => φ v ∧ H' = [pk B]) := fun w F S st => by
  obtain ⟨i, F1, S1, st1, a, c⟩ := pk_open st
  refine (h i w F1 S1 st1).mono ?_
  rintro v w' ⟨_, F', S', ⟨hφ, j, rfl⟩, st', fr⟩
  exact ⟨_, F', S', ⟨hφ, rfl⟩, pk_one j st', fr.lift a c⟩
/-- A contract over worlds that makes one assertion out of fresh blocks. -/
theorem SpecS.ofFresh {H : List Asn} {φ : Value → Asn → Prop} (hf : ∀ w F S, St H F S w → Meets P f vs w (fun v w' => ∃ A F' S', φ v A ∧ Ext [] w w' ∧ A.P F' S' w' ∧ (∀ b ∈ F', w.heap.size ≤ b ∧ b < w'.heap.size) ∧ (∀ b ∈ S', w.heap.size ≤ b ∧ b < w'.heap.size))) :
    SpecS P f vs H (fun v H' => ∃ A, φ v A ∧ H' = A :: H) := fun w F S s => (hf w F S s).mono fun v w' ⟨A, F', S', h1, h2, h3, h4, h5⟩ => post_new (Φ := fun v H' => ∃ A, φ v A ∧ H' = A :: H) s h2 h3 h4 h5 ⟨A, h1, rfl⟩
end
end Brv
namespace Brv
open Go
section
variable {P : Program} {f : FuncId} {vs : List Value} {ι : Type}
theorem Sels.app : ∀ (H0 H1 : List Asn), Sels (H0 ++ H1) H0 H1
  | [], _ => .nil
  | _ :: H0, H1 => .cons .here (Sels.app H0 H1)
theorem SpecS.opened {A : ι → List Asn} {K : List Asn} {Φ : Value → List Asn → Prop} (h : ∀ i, SpecS P f vs (A i ++ K) Φ) : SpecS P f vs (pk A :: K) Φ := fun w F S st => by
  obtain ⟨F1, S1, F2, S2, hs, hd, ⟨i, hA⟩, hK⟩ := st.sep
  exact h i w F S ⟨Sep.join ⟨F1, S1, F2, S2, hs, hd, hA, hK⟩, st.ltF, st.ltS⟩
theorem Imp.close {A : ι → List Asn} (i : ι) (K : List Asn) : Imp (A i ++ K) (pk A :: K) := fun F S w s =>
  let ⟨F1, S1, F2, S2, hs, hd, h0, h1⟩ := (Sels.app (A i) K).split s.sep
  ⟨F, S, ⟨⟨F1, S1, F2, S2, hs, hd, ⟨i, h0⟩, h1⟩, s.ltF, s.ltS⟩, From.refl _ _ _⟩
theorem Imp.close0 {A : ι → List Asn} (i : ι) : Imp (A i) [pk A] := by
  have := Imp.close (A := A) i []
  rwa [List.append_nil] at this
theorem SpecS.closed {H : List Asn} {Φ Φ' : Value → List Asn → Prop} (h : SpecS P f vs H Φ) (hm : ∀ v H', Φ v H' → ∃ H'', Imp H' H'' ∧ Φ' v H'') : SpecS P f vs H Φ' := fun w F S st => (h w F S st).mono fun v w' ⟨H', F', S', h1, st', fr⟩ => by
  obtain ⟨H'', hi, h2⟩ := hm v H' h1
  obtain ⟨F2, S2, s2, f2⟩ := hi.at st' fr
  exact ⟨H'', F2, S2, h2, s2, f2⟩
end
section
variable {P : Program} {n : Nat} {o : Org} {ks : List K} {ρ : Env} {H H' : List Asn} {fn : Func} {Φ : Value → List Asn → Prop}
theorem SG.retCTT {t u y : Nat} {T : TypeId} {s b : Nat} [ta : TyAgg P T s] {cs : List Value} {U : TypeId} {H1 : List Asn} {x z : Value} (hr : fn.results = #[.cell t T, .tmp u, .tmp y]) (hv : look ρ t = some (.pointer (some ⟨b, 0, none⟩))) (hx : look ρ u = some x) (hy : look ρ y = some z) (hb : Sel H (blk b cs U) H1) (hl : cs.length = s) (i : Imp H H') (h : Φ (.tuple #[.agg cs.toArray, x, z]) H') :
    SG P (Func.base P fn (PostS o Φ)) ⟨n, [], none⟩ o ks ρ H .ret := fun w F S st f => G.retCTT hr hv hx hy (st.blk hb) (by simpa using hl) (post_of i h st f)
end
end Brv
/-
  Tables by rising keys.
-/
set_option linter.unusedVariables false
set_option linter.unusedSimpArgs false
namespace Brv
open Go
section
variable {α β : Type}
def lowT (l : List (Int × α)) (k : Int) : Nat := (l.takeWhile fun p => decide (p.1 < k)).length
def hasT (l : List (Int × α)) (k : Int) : Bool := match l[lowT l k]? with
  | some p => !decide (k < p.1)
  | none => false
def putT (l : List (Int × α)) (k : Int) (v : α) : List (Int × α) := if hasT l k then l.set (lowT l k) (k, v) else l.take (lowT l k) ++ (k, v) :: l.drop (lowT l k)
def delT (l : List (Int × α)) (k : Int) : List (Int × α) := if hasT l k then l.take (lowT l k) ++ l.drop (lowT l k + 1) else l
def getT (l : List (Int × α)) (k : Int) : Option α := if hasT l k then (l[lowT l k]?).map Prod.snd else none
def mapT (g : α → β) (l : List (Int × α)) : List (Int × β) := l.map fun p => (p.1, g p.2)
theorem lowT_map (g : α → β) (l : List (Int × α)) (k : Int) : lowT (mapT g l) k = lowT l k := by
  unfold lowT mapT
  induction l with
  | nil => rfl
  | cons p l ih => simp only [List.map_cons, List.takeWhile_cons]; split <;> simp_all
theorem hasT_map (g : α → β) (l : List (Int × α)) (k : Int) : hasT (mapT g l) k = hasT l k := by
  unfold hasT
  rw [lowT_map, mapT, List.getElem?_map]
  cases l[lowT l k]? <;> rfl
theorem putT_map (g : α → β) (l : List (Int × α)) (k : Int) (v : α) : mapT g (putT l k v) = putT (mapT g l) k (g v) := by
  unfold putT
  rw [hasT_map, lowT_map]
  split <;> simp [mapT, List.map_set, List.map_take, List.map_drop]
theorem delT_map (g : α → β) (l : List (Int × α)) (k : Int) : mapT g (delT l k) = delT (mapT g l) k := by
  unfold delT
  rw [hasT_map, lowT_map]
  split <;> simp [mapT, List.map_take, List.map_drop]
theorem getT_map (g : α → β) (l : List (Int × α)) (k : Int) : getT (mapT g l) k = (getT l k).map g := by
  unfold getT
  rw [hasT_map, lowT_map]
  split
  · simp only [mapT, List.getElem?_map, Option.map_map]; rfl
  · rfl
theorem lowT_eq (ps : List (Pr Int)) (k : Int) : lowT ps k = low ps k := rfl
theorem hasT_eq (ps : List (Pr Int)) (k : Int) : hasT ps k = hasK ps k := by
  unfold hasT hasK
  rw [lowT_eq]
  cases ps[low ps k]? <;> rfl
theorem putT_eq (ps : List (Pr Int)) (k : Int) (v : List Value) : putT ps k v = putK ps k v := by
  unfold putT putK
  rw [hasT_eq, lowT_eq]
theorem delT_eq (ps : List (Pr Int)) (k : Int) : delT ps k = delK ps k := by
  unfold delT delK
  rw [hasT_eq, lowT_eq]
theorem getT_eq (ps : List (Pr Int)) (k : Int) : getT ps k = getK ps k := by
  unfold getT getK
  rw [hasT_eq, lowT_eq]
def Srt (l : List (Int × α)) : Prop := l.Pairwise fun a b => a.1 < b.1
theorem Srt_map (g : α → β) {l : List (Int × α)} : Srt (mapT g l) ↔ Srt l := by unfold Srt mapT; rw [List.pairwise_map]
theorem Srt_eq (ps : List (Pr Int)) : Sorted ps ↔ Srt ps := by
  unfold Sorted Srt
  exact ⟨fun h => h.imp fun h => of_decide_eq_true h, fun h => h.imp fun h => decide_eq_true h⟩
theorem lowT_at {l : List (Int × α)} (hs : Srt l) {i : Nat} {p : Int × α} (hp : l[i]? = some p) : lowT l p.1 = i := by
  unfold Srt at hs
  induction l generalizing i with
  | nil => simp at hp
  | cons q l ih =>
    rw [List.pairwise_cons] at hs
    unfold lowT
    cases i with
    | zero =>
      simp only [List.getElem?_cons_zero, Option.some.injEq] at hp
      subst hp
      rw [List.takeWhile_cons, if_neg (by simp)]; rfl
    | succ i =>
      simp only [List.getElem?_cons_succ] at hp
      have hlt := hs.1 p (List.mem_of_getElem? hp)
      have := ih hs.2 hp
      unfold lowT at this
      rw [List.takeWhile_cons, if_pos (by simpa using hlt), List.length_cons, this]
theorem hasT_at {l : List (Int × α)} (hs : Srt l) {i : Nat} {p : Int × α} (hp : l[i]? = some p) : hasT l p.1 = true := by
  unfold hasT; rw [lowT_at hs hp, hp]; simp
theorem getT_at {l : List (Int × α)} (hs : Srt l) {i : Nat} {p : Int × α} (hp : l[i]? = some p) : getT l p.1 = some p.2 := by
  unfold getT; rw [hasT_at hs hp, lowT_at hs hp, hp]; rfl
theorem putT_at {l : List (Int × α)} (hs : Srt l) {i : Nat} {p : Int × α} (hp : l[i]? = some p) (v : α) : putT l p.1 v = l.set i (p.1, v) := by
  unfold putT; rw [hasT_at hs hp, lowT_at hs hp]; rfl
theorem delT_at {l : List (Int × α)} (hs : Srt l) {i : Nat} {p : Int × α} (hp : l[i]? = some p) : delT l p.1 = l.take i ++ l.drop (i + 1) := by
  unfold delT; rw [hasT_at hs hp, lowT_at hs hp]; rfl
theorem hasT_mem {l : List (Int × α)} {k : Int} (h : hasT l k = true) : ∃ p, l[lowT l k]? = some p ∧ p.1 = k := by
  unfold hasT at h
  cases hl : l[lowT l k]? with
  | none => rw [hl] at h; cases h
  | some p =>
    rw [hl] at h
    refine ⟨p, rfl, ?_⟩
    have h1 : ¬ k < p.1 := by simpa using h
    have h2 : ¬ p.1 < k := by
      unfold lowT at hl
      clear h h1
      induction l with
      | nil => simp at hl
      | cons q l ih =>
        rw [List.takeWhile_cons] at hl
        split at hl
        · exact ih (by simpa using hl)
        · rename_i hq
          simp only [List.length_nil, List.getElem?_cons_zero, Option.some.injEq] at hl
          subst hl; simpa using hq
    omega
theorem hasT_no {l : List (Int × α)} {k : Int} (h : ∀ p ∈ l, p.1 ≠ k) : hasT l k = false := by
  cases hh : hasT l k with
  | false => rfl
  | true => obtain ⟨p, hp, e⟩ := hasT_mem hh; exact (h p (List.mem_of_getElem? hp) e).elim
theorem getT_no {l : List (Int × α)} {k : Int} (h : ∀ p ∈ l, p.1 ≠ k) : getT l k = none := by unfold getT; rw [hasT_no h]; rfl
theorem getT_some {l : List (Int × α)} {k : Int} {v : α} (h : getT l k = some v) : (k, v) ∈ l := by
  unfold getT at h
  split at h
  · rename_i hh
    obtain ⟨p, hp, e⟩ := hasT_mem hh
    rw [hp] at h
    obtain ⟨a, b⟩ := p
    simp only [Option.map_some, Option.some.injEq] at h
    cases h; cases e
    exact List.mem_of_getElem? hp
  · cases h
/-- The greatest key is put at the end. -/
theorem putT_end {l : List (Int × α)} {k : Int} (v : α) (h : ∀ p ∈ l, p.1 < k) : putT l k v = l ++ [(k, v)] := by
  have hl : lowT l k = l.length := by
    unfold lowT
    clear v
    induction l with
    | nil => rfl
    | cons q l ih => rw [List.takeWhile_cons, if_pos (by simpa using h q (by simp)), List.length_cons, ih (fun p hp => h p (by simp [hp])), List.length_cons]
  unfold putT
  rw [hasT_no (fun p hp => by have := h p hp; omega), if_neg (by simp), hl]
  simp
theorem mem_putT {l : List (Int × α)} {k : Int} {v : α} {p : Int × α} (h : p ∈ putT l k v) : p = (k, v) ∨ p ∈ l := by
  unfold putT at h
  split at h
  · exact (List.mem_or_eq_of_mem_set h).symm
  · rcases List.mem_append.1 h with h | h
    · exact .inr (List.mem_of_mem_take h)
    · rcases List.mem_cons.1 h with h | h
      · exact .inl h
      · exact .inr (List.mem_of_mem_drop h)
theorem mem_delT {l : List (Int × α)} {k : Int} {p : Int × α} (h : p ∈ delT l k) : p ∈ l := by
  unfold delT at h
  split at h
  · exact (List.mem_append.1 h).elim List.mem_of_mem_take List.mem_of_mem_drop
  · exact h
/-- What is merged of writes. -/
def mgW (l : List Wr) : List Wr := l.foldl (fun t w => putT t w.1 w.2) []
theorem mgW_toQ (l : List Wr) : (mgW l).map toQ = mergeP [] l := by
  unfold mgW mergeP
  have key : ∀ (l : List Wr) (t : List Wr), (l.foldl (fun t w => putT t w.1 w.2) t).map toQ = l.foldl (fun ps w => putK ps w.1 (vbs w.2)) (t.map toQ) := by
    intro l
    induction l with
    | nil => intro t; rfl
    | cons w l ih =>
      intro t
      simp only [List.foldl_cons]
      rw [ih]
      congr 1
      have := putT_map vbs t w.1 w.2
      rw [putT_eq] at this
      exact this
  exact key l []
theorem mgW_of {l r : List Wr} (h : r.map toQ = mergeP [] l) : r = mgW l := toQ_inj (h.trans (mgW_toQ l).symm)
theorem mgW_sorted (l : List Wr) : Srt (mgW l) := by
  have := mergeP_sorted nil_sorted l
  rw [← mgW_toQ, Srt_eq] at this
  exact (Srt_map vbs).1 this
theorem mgW_again {l : List Wr} (hs : Srt l) : mgW l = l := by
  refine (mgW_of ?_).symm
  rw [mergeP]
  have : ∀ (a b : List Wr), Srt (b ++ a) → (b ++ a).map toQ = a.foldl (fun ps w => putK ps w.1 (vbs w.2)) (b.map toQ) := by
    intro a
    induction a with
    | nil => intro b _; simp
    | cons w a ih =>
      intro b hb
      rw [List.foldl_cons, show b ++ w :: a = (b ++ [w]) ++ a by simp, ih (b ++ [w]) (by rw [List.append_assoc]; exact hb)]
      congr 1
      have hlt : ∀ p ∈ b.map toQ, p.1 < w.1 := by
        intro p hp
        obtain ⟨x, hx, rfl⟩ := List.mem_map.1 hp
        exact (List.pairwise_append.1 hb).2.2 x hx w (by simp)
      have := putT_end (l := b.map toQ) (vbs w.2) hlt
      rw [putT_eq] at this
      rw [this, List.map_append]; rfl
  exact this l [] hs
end
end Brv
/-
  The walks of package record.
-/
set_option linter.unusedVariables false
set_option linter.unusedSimpArgs false
set_option maxRecDepth 4000
namespace Go.Proofs.Ytiiiplhfgblamaa
open Go Brv
theorem mergeF_ok (la : Option Addr) (ln lc : Nat) (rs : List RowW) (w : World) (hL : Cells w la (rs.map RowW.val)) (hln : ln = rs.length) (hR : ∀ r ∈ rs, r.ok w) (htot : (allW rs).length ≤ 50000) (hlb : ln ≤ 2000000) : Meets Try.prog 25 [.slice la ln lc] w (fun v w' => ∃ (a : Option Addr) (n c : Nat) (os : List WriteV), v = .slice a n c ∧ n ≤ c ∧ n = os.length ∧ n ≤ 50000 ∧ (os.map fun o => toQ (wv o)) = mergeP [] ((allW rs).map wv) ∧ Ext [] w w' ∧ ∃ F : List Nat, (∀ g ∈ F, w.heap.size ≤ g ∧ g < w'.heap.size) ∧ ∀ M w'', Ext M w' w'' → (∀ g ∈ F, g ∉ M) → Tab w'' a n 2 (os.map WriteV.cells) ∧ ∀ o ∈ os, o.okW w'') := by
  refine Meets.enter Try.func25 rfl 44 rfl (Nat.le_of_ble_eq_true rfl) ?_
  have E := Ext.refl [] w
  refine G.seq ?_
  refine G.region ?_
  refine L.val rfl rfl (R.as rfl) ?_
  refine L.nil ?_
  refine N.seq ?_
  refine G.seq ?_
  refine G.region ?_
  refine L.callF rfl rfl rfl go73 (onewB_ok _) ?_
  rintro _ w1 ⟨m, rfl, hm, e1, D⟩
  have hS : ∀ y ∈ [m], w.heap.size ≤ y := by simpa using hm
  replace E := E.trans0 e1
  refine L.val rfl rfl (R.as rfl) ?_
  refine L.nil ?_
  refine N.seq ?_
  refine G.seq ?_
  refine G.seq ?_
  refine G.region ?_
  refine L.val rfl rfl (R.mv rfl) ?_
  refine L.val rfl rfl (R.lenS rfl) ?_
  refine L.val rfl rfl (R.mv rfl) ?_
  refine L.nil ?_
  refine N.seq ?_
  refine G.block ?_
  refine G.loop (X := MgSt) (fun s => [(3, .pointer (some ⟨m, 0, none⟩)), (12, .slice la ln lc), (13, .int .i64 (ln : Int)), (14, .int .i64 (s.i : Int))]) (fun s w' => s.i ≤ ln ∧ (s.zs.map fun o => toQ (wv o)) = mergeP [] ((allW (rs.take s.i)).map wv) ∧ s.zs.length ≤ (allW (rs.take s.i)).length ∧ (∀ z ∈ s.zs, z.okW w) ∧ MapAt (κ := Int) 161 165 1 w' m (s.zs.map toP) s.S ∧ (∀ y ∈ s.S, w.heap.size ≤ y) ∧ Ext [] w w') (fun s => ln - s.i) (⟨0, [], [m]⟩) (Sub.cons rfl (Sub.cons rfl (Sub.cons rfl (Sub.cons rfl (Sub.nil _))))) ⟨Nat.zero_le _, rfl, Nat.zero_le _, (by intro z hz; cases hz), D, hS, E⟩ ?_
  rintro ⟨i, zs, S⟩ w2 ⟨hi, hz, hzl, hzk, D, hS, E⟩
  dsimp only at hi hz hzl hzk D hS
  refine G.sub [(3, .pointer (some ⟨m, 0, none⟩)), (12, .slice la ln lc), (13, .int .i64 (ln : Int)), (14, .int .i64 (i : Int))] (Sub.cons rfl (Sub.cons rfl (Sub.cons rfl (Sub.cons rfl (Sub.nil _))))) ?_
  refine G.seq ?_
  refine G.region ?_
  refine L.val rfl rfl (R.lss rfl rfl) ?_
  refine L.nil ?_
  refine N.seq ?_
  refine G.seq ?_
  refine G.condP rfl (fun h0 => ?_) (fun h0 => ?_)
  · obtain ⟨r, hr⟩ : ∃ r, rs[i]? = some r := ⟨_, List.getElem?_eq_getElem (by omega)⟩
    obtain ⟨q, hq, hcq⟩ := hL i r.val (by rw [List.getElem?_map, hr]; rfl)
    obtain ⟨hrc, hrT, hrO⟩ := hR r (List.mem_of_getElem? hr)
    have hrl := hrT.len
    rw [List.length_map] at hrl
    have hal := allW_le hr
    refine G.skip ?_
    refine N.seq ?_
    refine G.seq ?_
    refine G.block ?_
    refine G.seq ?_
    refine G.region ?_
    refine L.val rfl rfl (R.idx rfl rfl (by omega) (by omega) q hq) ?_
    refine L.val rfl rfl (R.ld rfl (v := .slice r.a r.n r.c) (ev_at hcq E)) ?_
    refine L.val rfl rfl (R.as rfl) ?_
    refine L.nil ?_
    refine N.seq ?_
    refine G.seq ?_
    refine G.region ?_
    refine L.val rfl rfl (R.mv rfl) ?_
    refine L.val rfl rfl (R.lenS rfl) ?_
    refine L.val rfl rfl (R.mv rfl) ?_
    refine L.nil ?_
    refine N.seq ?_
    refine G.block ?_
    refine G.loop (X := MgSt) (fun s => [(3, .pointer (some ⟨m, 0, none⟩)), (12, .slice la ln lc), (13, .int .i64 (ln : Int)), (14, .int .i64 (i : Int)), (18, .slice r.a r.n r.c), (19, .int .i64 (r.n : Int)), (20, .int .i64 (s.i : Int))]) (fun s w' => s.i ≤ r.n ∧ (s.zs.map fun o => toQ (wv o)) = mergeP [] ((allW (rs.take i) ++ r.os.take s.i).map wv) ∧ s.zs.length ≤ (allW (rs.take i) ++ r.os.take s.i).length ∧ (∀ z ∈ s.zs, z.okW w) ∧ MapAt (κ := Int) 161 165 1 w' m (s.zs.map toP) s.S ∧ (∀ y ∈ s.S, w.heap.size ≤ y) ∧ Ext [] w w') (fun s => r.n - s.i) (⟨0, zs, S⟩) (Sub.cons rfl (Sub.cons rfl (Sub.cons rfl (Sub.cons rfl (Sub.cons rfl (Sub.cons rfl (Sub.cons rfl (Sub.nil _)))))))) ⟨Nat.zero_le _, by show _ = mergeP [] ((allW (rs.take i) ++ r.os.take 0).map wv); rw [List.take_zero, List.append_nil]; exact hz, by show _ ≤ (allW (rs.take i) ++ r.os.take 0).length; rw [List.take_zero, List.append_nil]; exact hzl, hzk, D, hS, E⟩ ?_
    rintro ⟨j, zs, S⟩ w2 ⟨hj, hz, hzl, hzk, D, hS, E⟩
    dsimp only at hj hz hzl hzk D hS
    refine G.sub [(3, .pointer (some ⟨m, 0, none⟩)), (12, .slice la ln lc), (13, .int .i64 (ln : Int)), (14, .int .i64 (i : Int)), (18, .slice r.a r.n r.c), (19, .int .i64 (r.n : Int)), (20, .int .i64 (j : Int))] (Sub.cons rfl (Sub.cons rfl (Sub.cons rfl (Sub.cons rfl (Sub.cons rfl (Sub.cons rfl (Sub.cons rfl (Sub.nil _)))))))) ?_
    have hDl := D.lt
    have hlj : (allW (rs.take i) ++ r.os.take j).length ≤ 50000 := by rw [List.length_append, List.length_take]; omega
    refine G.seq ?_
    refine G.region ?_
    refine L.val rfl rfl (R.lss rfl rfl) ?_
    refine L.nil ?_
    refine N.seq ?_
    refine G.seq ?_
    refine G.condP rfl (fun h1 => ?_) (fun h1 => ?_)
    · refine G.skip ?_
      refine N.seq ?_
      refine G.seq ?_
      refine G.block ?_
      refine G.seq ?_
      refine G.region ?_
      obtain ⟨q9, hq9, hcl⟩ := hrT.at (by decide) j (by rw [List.length_map]; omega)
      rw [List.getElem_map] at hcl
      have hok := hrO _ (List.getElem_mem (show j < r.os.length by omega))
      generalize hoe : r.os[j]'(by omega) = o at *
      refine L.val rfl rfl (R.idx rfl rfl (by omega) (by omega) q9 hq9) ?_
      refine L.val rfl rfl (R.ldN rfl (hcl.ext0 E) rfl) ?_
      refine L.do rfl rfl (R.alloc) ?_
      rintro _ w2 ⟨b9, rfl, hb9, hs9, e2, B9⟩
      have hEb := E.size
      replace E := E.trans0 e2
      replace D := D.ext0 e2
      have h9S : b9 ∉ S := fun h => by have := hDl _ h; omega
      refine L.set rfl (R.stN rfl rfl B9 rfl (Nat.le_refl 2) (WriteV.cells.one _)) ?_
      rintro w3 ⟨e3, hs3, B9⟩
      replace B9 : Blk w3 b9 o.cells.toArray 40 (0, 0) := B9
      replace E := E.trans e3 (M := []) (by simp) (by intro x hx; rw [List.mem_singleton.1 hx]; exact .inr (by omega))
      replace D := D.ext e3 (fun y hy h => h9S (by rw [← List.mem_singleton.1 h]; exact hy))
      have hjo : r.os[j]? = some o := by rw [List.getElem?_eq_getElem (by omega), hoe]
      have htk : r.os.take (j + 1) = r.os.take j ++ [o] := by rw [List.take_add_one, hjo]; rfl
      refine L.nil ?_
      refine N.seq ?_
      refine G.region ?_
      refine L.val rfl rfl (R.mv rfl) ?_
      refine L.val rfl rfl (R.fld rfl) ?_
      refine L.val rfl rfl (R.ldB (v := .int .i64 o.Block') rfl B9 rfl) ?_
      refine L.val rfl rfl (R.fld rfl) ?_
      refine L.val rfl rfl (R.ldB (v := .slice o.B'a o.B'n o.B'c) rfl B9 rfl) ?_
      refine L.callF rfl rfl rfl go74 (putB_ok m (zs.map toP) S o.Block' o.B'a o.B'n o.B'c _ D (by rw [List.length_map]; omega)) ?_
      rintro _ w5 ⟨rfl, S5, g5, D⟩
      have hE5 := E.size
      replace E := E.fresh g5.1 hS
      replace hS := g5.fresh hS hE5
      rw [← putW_toP] at D
      refine L.nil ?_
      refine N.block ?_
      refine N.seq ?_
      refine G.region ?_
      refine L.val rfl rfl (R.add rfl rfl (by omega)) ?_
      refine L.val rfl rfl (R.mv rfl) ?_
      refine L.nil ?_
      exact N.again (X := MgSt) ⟨j + 1, putW zs o, S5⟩ (by show r.n - (j + 1) < r.n - j; omega) (Sub.cons rfl (Sub.cons rfl (Sub.cons rfl (Sub.cons rfl (Sub.cons rfl (Sub.cons rfl (Sub.cons rfl (Sub.nil _)))))))) ⟨by show j + 1 ≤ r.n; omega, by show _ = mergeP [] ((allW (rs.take i) ++ r.os.take (j + 1)).map wv); rw [putW_toQ, hz, htk, ← List.append_assoc]; exact (merge_snoc _ _).symm, by show _ ≤ (allW (rs.take i) ++ r.os.take (j + 1)).length; rw [htk, ← List.append_assoc, List.length_append]; exact Nat.le_trans (putW_len zs o) (Nat.add_le_add_right hzl 1), fun z hz => (putW_mem hz).elim (fun e => e ▸ hok) (hzk z), D, hS, E⟩
    · obtain rfl : j = r.n := by omega
      have htr : r.os.take r.n = r.os := List.take_of_length_le (by omega)
      rw [htr] at hz hzl
      refine G.exit _ rfl ?_
      refine N.block ?_
      refine N.seq ?_
      refine G.region ?_
      refine L.val rfl rfl (R.add rfl rfl (by omega)) ?_
      refine L.val rfl rfl (R.mv rfl) ?_
      refine L.nil ?_
      exact N.again (X := MgSt) ⟨i + 1, zs, S⟩ (by show ln - (i + 1) < ln - i; omega) (Sub.cons rfl (Sub.cons rfl (Sub.cons rfl (Sub.cons rfl (Sub.nil _))))) ⟨by show i + 1 ≤ ln; omega, by show _ = mergeP [] ((allW (rs.take (i + 1))).map wv); rw [allW_succ hr]; exact hz, by show _ ≤ (allW (rs.take (i + 1))).length; rw [allW_succ hr]; exact hzl, hzk, D, hS, E⟩
  · obtain rfl : ln = i := by omega
    rw [List.take_of_length_le (by omega)] at hz hzl
    refine G.exit _ rfl ?_
    refine N.seq ?_
    refine G.seq ?_
    refine G.region ?_
    refine L.do rfl rfl (R.alloc) ?_
    rintro _ w6 ⟨b8, rfl, hb8, hs8, e6, B8⟩
    have hE5 := E.size
    replace B8 : Blk w6 b8 #[.slice none 0 0] 22 (0, 0) := B8
    replace E := E.trans0 e6
    replace D := D.ext0 e6
    refine L.nil ?_
    refine N.seq ?_
    refine G.seq ?_
    refine G.seq ?_
    refine G.region ?_
    refine L.val rfl rfl (R.mv rfl) ?_
    refine L.callF rfl rfl rfl go75 (oallB_ok m (zs.map toP) S _ D (by rw [List.length_map]; omega)) ?_
    rintro _ w7 ⟨lb, Fp, rfl, e7, hit, hFp⟩
    replace E := E.trans0 e7
    have l8 := B8.lt
    replace B8 := B8.ext0 e7
    have hE7 := E.size
    have hs7 := e7.size
    refine L.nil ?_
    refine N.seq ?_
    refine G.block ?_
    have hD0 : ∀ y ∈ [b8], y < w7.heap.size ∧ y ∉ Fp ∧ y ∉ ([] : List Nat) := by
      intro y hy
      rw [List.mem_singleton] at hy
      subst hy
      exact ⟨B8.lt, fun h => by have := hFp _ h; omega, by simp⟩
    have hI0 : mgI zs 22 40 b8 w 0 [b8] w7 := ⟨none, 0, [], [], [], rfl, B8, Own.nil _ _ _, rfl, by simp, (fun _ _ _ _ o ho => by cases ho), by simp, by simp, by omega, E⟩
    refine G.range (lb := lb) rfl rfl go117 (hit _ (Ext.refl _ _)) (fun _ _ _ h _ => h) [b8] hD0 (fun y h => h.elim (fun h => (hFp y h).2) (by simp)) (mgI zs 22 40 b8 w) (fun _ _ _ _ => False) (fun k D W1 W2 M2 h he hm => mgI_keep hE7 h he hm) (fun _ _ _ _ _ _ h _ _ => h) hI0 ?_ ?_ ?_
    · rintro l k D vs W1 hl2 hlt hlD hDl hk hIk ⟨p, hp, rfl⟩
      replace hp : (zs.map toP)[k]? = some p := hp
      rw [List.getElem?_map] at hp
      obtain ⟨z, hz9, rfl⟩ : ∃ z, zs[k]? = some z ∧ toP z = p := by
        cases h9 : zs[k]? with
        | none => rw [h9] at hp; cases hp
        | some z => rw [h9] at hp; exact ⟨z, rfl, by simpa using hp⟩
      rw [List.length_map] at hk
      have hzo := hzk z (List.mem_of_getElem? hz9)
      refine ⟨rfl, ?_⟩
      refine G.sub [(35, .slice z.B'a z.B'n z.B'c), (34, .int .i64 z.Block'), (8, .pointer (some ⟨b8, 0, none⟩))] (Sub.cons rfl (Sub.cons rfl (Sub.cons rfl (Sub.nil _)))) ?_
      refine G.seq ?_
      refine G.region ?_
      refine L.val rfl rfl (R.as rfl) ?_
      refine L.nil ?_
      refine N.seq ?_
      refine G.region ?_
      refine L.val rfl rfl (R.as rfl) ?_
      refine L.nil ?_
      refine N.round (Ext.refl _ _) (fun wb hb1 hb2 => ?_)
      obtain ⟨a1, c1, MB, CB, os, rfl, B8, o, hol, how, hko, hMC, hdj, h8, E⟩ := hIk
      replace B8 := B8.still hb2
      replace o := o.still hb2
      replace hko := hko.ext hb1 (fun g hg h => hlD (by rw [← List.mem_singleton.1 hg]; simp [h]))
      replace E := E.transN hb1 (fun g hg => .inr (by rw [List.mem_singleton.1 hg]; omega))
      have hEb := E.size
      have l8b := B8.lt
      have hlo := o.lt
      have hsb := hb1.size
      have hn8 : b8 ∉ MB := fun h => (hMC _ (List.mem_append_left _ h)).2.1 rfl
      have hzn : z.B'n = z.B'.length := hzo.2.2.len
      have hzl9 : z.B'.length ≤ 140737488351232 := by rw [← hzn]; exact hzo.2.1
      refine G.block ?_
      refine G.staged [6, 7] [.blocks (MB), .blocks ([b8])] [Ext [] wb, Ext MB wb, fun w' => ∃ a3 c3 M3 o3 MC, Blk w' b8 #[.slice a3 (k + 1) c3] 22 (0, 0) ∧ Own w' 40 2 a3 (k + 1) c3 (cellsW (os ++ [o3])) M3 ∧ (∀ g ∈ M3, g ∈ MB ∨ wb.heap.size ≤ g) ∧ ClV wb.heap.size 5 z o3 MC w' ∧ (∀ g ∈ MC, g ∉ M3) ∧ Ext (b8 :: MB) wb w'] [(6, 39), (6, 40), (6, 41), (7, 39), (7, 40), (7, 41), (7, 42)] (by decide +kernel) (by decide +kernel) rfl rfl rfl (fun _ h => h) ?_
      refine Z.read 0 (by decide +kernel) rfl rfl rfl rfl rfl rfl (fun w8 hJ => R.ldB rfl (B8.ext0 hJ) rfl) ?_
      refine Z.val rfl rfl rfl rfl rfl (fun w8 => R.mv rfl) ?_
      refine Z.val rfl rfl rfl rfl rfl (fun w8 => R.mv rfl) ?_
      refine Z.callR (A := Held [] wb.heap.size 5 1 z.B'n (vbs z.B')) (Lasts.kill (Held.keep _ _ _ _ _ _) (by decide +kernel)) 0 (by decide +kernel) rfl rfl rfl rfl go76 (fun w8 hJ => ⟨_, rfl, (bclone_ok z.B'a z.B'n z.B'c z.B' _ (hzo.2.2.ext0 (E.trans0 hJ)) (by omega)).mono (fun v w9 h => by obtain ⟨a9, c9, M9, rfl, e9, o9, hM9⟩ := h; exact ⟨⟨a9, c9, M9, rfl, o9, fun g hg => .inr (Nat.le_trans hJ.size (hM9 g hg))⟩, e9, hJ.trans0 e9⟩)⟩) ?_
      refine Z.valR (A := IsO wb.heap.size 5 z) (Lasts.kill (IsO.keep _ _ _) (by decide +kernel)) rfl rfl rfl rfl (fun w8 => fun v hv => by obtain ⟨a9, c9, M9, rfl, o9, hM9⟩ := hv; exact ⟨_, R.build (cs := #[.int .i64 z.Block', .slice a9 z.B'n c9]) rfl rfl, ⟨z.Block', a9, z.B'n, c9, z.B'⟩, M9, rfl, rfl, o9, hzn, fun g hg => (hM9 g hg).elim (by simp) id⟩) ?_
      refine Z.new (A := IsS wb.heap.size 5 z) (Lasts.kill (IsS.keep _ _ _) (by decide +kernel)) 0 (by decide +kernel) rfl rfl rfl rfl rfl (fun w8 hJ => fun v hv => by obtain ⟨o9, MC, rfl, hcl⟩ := hv; exact (R.buildA rfl rfl rfl rfl rfl).mono (fun v w1 h => by obtain ⟨g, rfl, _, _, e9, B9⟩ := h; exact ⟨⟨g, o9, MC, rfl, Cells.of_blk B9 0 _ (fun j u hj => by simpa [cellsOf, Value.cells] using hj), hcl.ext e9 (by simp)⟩, e9, hJ.trans0 e9⟩)) ?_
      refine Z.put (A := RowN 40 wb.heap.size 5 k MB os z) (Lasts.kill (RowN.keep _ _ _ _ _ _ _) (by decide +kernel)) 0 (by decide +kernel) rfl rfl rfl rfl rfl rfl rfl (fun w8 hJ => by rintro v ⟨g9, o9, MC, rfl, hc9, hcl9⟩; exact (R.app rfl rfl (o.ext0 hJ) hc9 rfl (fun u hu => WriteV.cells.one o9 u (by simpa using hu)) (by simp [maxLen]; omega) (by omega)).mono (fun v w9 h => by obtain ⟨a3, c3, M3, rfl, e9, hM3, r3⟩ := h; have hq9 := hcl9.2.1.lt; have hsq := hJ.size; exact ⟨⟨a3, c3, M3, o9, MC, rfl, by rw [cellsW_append]; exact (show cellsW [o9] = o9.cells from List.append_nil _) ▸ r3, fun g hg => (hM3 g hg).imp id (fun h => Nat.le_trans hsq h), hcl9.ext e9 (fun g hg hm => by have := hlo g hm; have := hcl9.2.2.2 g hg; omega), fun g hg hm => (hM3 g hm).elim (fun h => by have := hlo g h; have := hcl9.2.2.2 g hg; omega) (fun h => by have := hq9 g hg; omega)⟩, e9, e9.after hJ⟩)) ?_
      refine Z.set 1 (by decide +kernel) rfl rfl rfl rfl rfl rfl (fun w8 hJ => fun v hv => (R.st rfl rfl (B8.ext hJ hn8) (by show 0 < 1; decide) (by obtain ⟨_, _, _, _, _, rfl, _⟩ := hv; rfl)).mono (fun _ h => ⟨h.1, by obtain ⟨a3, c3, M3, o3, MC, rfl, r3, hM3, hcl3, hd3⟩ := hv; have n8 : b8 ∉ M3 := fun hm => (hM3 _ hm).elim hn8 (by omega); exact ⟨a3, c3, M3, o3, MC, h.2.2, r3.ext h.1 (fun g hg hm => n8 (by rw [← List.mem_singleton.1 hm]; exact hg)), hM3, hcl3.ext h.1 (fun g hg hm => by have := hcl3.2.2.2 g hg; rw [List.mem_singleton.1 hm] at this; omega), hd3, (hJ.mono (fun g hg => .inl (List.mem_cons_of_mem _ hg))).transN h.1 (fun g hg => .inl (by rw [List.mem_singleton.1 hg]; simp))⟩⟩)) ?_
      refine Z.nil rfl rfl (fun w8 hJ => ?_)
      obtain ⟨a3, c3, M3, o3, MC, B8n, r3, hM3, hcl3, hd3, X0⟩ := hJ
      replace B8 := B8n
      have hMCl := hcl3.2.1.lt
      have hr3 := r3.lt
      have hsx := X0.size
      have X : Ext (b8 :: (MB ++ CB)) wb _ := X0.mono (fun g hg => .inl (by rcases List.mem_cons.1 hg with h | h <;> simp [h]))
      have how3 : (os ++ [o3]).map wv = (zs.take (k + 1)).map wv := by rw [List.map_append, how, List.take_add_one, hz9, List.map_append]; congr 1; show [wv o3] = [wv z]; rw [hcl3.1]
      have hcx : ∀ g ∈ CB, g ∉ b8 :: MB := fun g hg hm => by
        rcases List.mem_cons.1 hm with h | h
        · exact (hMC g (List.mem_append_right _ hg)).2.1 h
        · exact hdj g h hg
      have hko3 : OkF _ (CB ++ MC) (os ++ [o3]) := fun M9 w9 e9 hm9 x hx => by
        rcases List.mem_append.1 hx with hx | hx
        · exact (hko.ext X0 (fun g hg hc => hcx g hc hg)) M9 w9 e9 (fun g hg hc => hm9 g hg (List.mem_append_left _ hc)) x hx
        · exact (hcl3.okF hzl9) M9 w9 e9 (fun g hg hc => hm9 g hg (List.mem_append_right _ hc)) x hx
      have hMC3 : ∀ g ∈ M3 ++ (CB ++ MC), w.heap.size ≤ g ∧ g ≠ b8 ∧ g < (w8).heap.size := by
        intro g hg
        rcases List.mem_append.1 hg with h | h
        · exact ⟨(hM3 g h).elim (fun h => (hMC g (List.mem_append_left _ h)).1) (fun h => by omega), (hM3 g h).elim (fun h => (hMC g (List.mem_append_left _ h)).2.1) (fun h => by omega), hr3 g h⟩
        · rcases List.mem_append.1 h with h | h
          · have := hMC g (List.mem_append_right _ h); exact ⟨this.1, this.2.1, by omega⟩
          · have := hcl3.2.2.2 g h; exact ⟨by omega, by omega, hMCl g h⟩
      have hdj3 : ∀ g ∈ M3, g ∉ CB ++ MC := by
        intro g hg hc
        rcases List.mem_append.1 hc with hc | hc
        · exact (hM3 g hg).elim (fun h => hdj g h hc) (fun h => by have := (hMC g (List.mem_append_right _ hc)).2.2; omega)
        · exact hd3 g hc hg
      have hD2 : ∀ g ∈ b8 :: (M3 ++ (CB ++ MC)), g < (w8).heap.size ∧ (g ∈ b8 :: (MB ++ CB) ∨ wb.heap.size ≤ g) := by
        intro g hg
        rcases List.mem_cons.1 hg with rfl | hg
        · exact ⟨B8.lt, .inl (by simp)⟩
        · refine ⟨(hMC3 g hg).2.2, ?_⟩
          rcases List.mem_append.1 hg with h | h
          · exact (hM3 g h).imp (fun h => by simp [h]) id
          · rcases List.mem_append.1 h with h | h
            · exact .inl (by simp [h])
            · exact .inr (hcl3.2.2.2 g h)
      replace E := E.transN X0 (fun g hg => .inr ((List.mem_cons.1 hg).elim (fun h => by omega) (fun h => (hMC g (List.mem_append_left _ h)).1)))
      refine N.block ?_
      refine N.done fun _ _ => ?_
      exact ⟨b8 :: (M3 ++ (CB ++ MC)), X, hD2, a3, c3, M3, CB ++ MC, os ++ [o3], rfl, B8, r3, by rw [List.length_append, hol]; rfl, how3, hko3, hMC3, hdj3, h8, E⟩
    · rintro d2 DD W2 hd2 hdD hK ⟨a1, c1, MB, CB, os, rfl, B8, o, hol, how, hko, hMC, hdj, h8, E⟩ _
      have hst := Still.putObj (.deferred none) hK rfl
      rw [List.length_map] at hol
      rw [List.length_map, List.take_length] at how
      rw [List.length_map] at B8 o
      refine N.block ?_
      refine N.seq ?_
      refine G.seq ?_
      refine G.region ?_
      refine L.val rfl rfl (R.ldB rfl B8 rfl) ?_
      refine L.val rfl rfl (R.as rfl) ?_
      refine L.nil ?_
      refine N.seq ?_
      refine G.ret1M rfl rfl (leave1 hK) ?_
      exact ⟨a1, zs.length, c1, os, rfl, o.le, hol.symm, by omega, by rw [← hz]; exact (toQ_map how), E.transN (Ext.putObj _ _ _) (fun g hg => .inr (by rw [List.mem_singleton.1 hg]; omega)), MB ++ CB, (fun g hg => ⟨(hMC g hg).1, Nat.lt_of_lt_of_le (hMC g hg).2.2 (Ext.putObj W2 d2 (.deferred none)).size⟩), fun M w9 e9 hm9 => ⟨tabW ((o.still hst).ext e9 (fun g hg h => hm9 g (List.mem_append_left _ hg) h)).cells hol.symm, fun x hx => hko (d2 :: M) _ (((Ext.putObj _ _ _).mono (fun g hg => .inl (by rw [List.mem_singleton.1 hg]; simp))).transN e9 (fun g hg => .inl (List.mem_cons_of_mem _ hg))) (fun g hg hc => (List.mem_cons.1 hg).elim (fun h => hdD (by rw [← h]; simp [hc])) (fun h => hm9 g (List.mem_append_right _ hc) h)) x hx⟩⟩
    · rintro _ _ _ _ _ _ _ _ _ h _
      exact h.elim

theorem mergeS (la : Option Addr) (ln lc : Nat) (rs : List RowW) (hln : ln = rs.length) (htot : (allW rs).length ≤ 50000) (hlb : ln ≤ 2000000) : SpecS Try.prog 25 [.slice la ln lc] [sh (fun w => Cells w la (rs.map RowW.val) ∧ ∀ r ∈ rs, r.ok w)]
    (fun v H' => ∃ r : RowW, v = .slice r.a r.n r.c ∧ r.os.map wv = mgW ((allW rs).map wv) ∧ r.n ≤ 50000 ∧ r.os.length = r.n ∧ H' = [sh (fun w => r.ok w), sh (fun w => Cells w la (rs.map RowW.val) ∧ ∀ r ∈ rs, r.ok w)]) :=
  (SpecS.ofFresh (φ := fun v A => ∃ r : RowW, v = .slice r.a r.n r.c ∧ r.os.map wv = mgW ((allW rs).map wv) ∧ r.n ≤ 50000 ∧ r.os.length = r.n ∧ A = sh (fun w => r.ok w)) fun w F S s => (mergeF_ok la ln lc rs w (s.sh .here).1 hln (s.sh .here).2 htot hlb).mono fun v w' ⟨a, n, c, os, h1, h2, h3, h4, h5, h6, F', h7, h8⟩ =>
    ⟨_, [], F', ⟨⟨a, n, c, os⟩, h1, mgW_of (by rw [List.map_map]; exact h5), h4, h3.symm, rfl⟩, h6, (fun M w'' he hS => ⟨⟨h2, by show n ≤ _; omega⟩, (h8 M w'' he hS).1, (h8 M w'' he hS).2⟩), by simp, h7⟩).mono fun v H' ⟨A, ⟨r, h1, h2, h3, h4, h5⟩, h6⟩ => ⟨r, h1, h2, h3, h4, by rw [h6, h5]⟩

end Go.Proofs.Ytiiiplhfgblamaa
/-
  The walks of package order.
-/
set_option linter.unusedVariables false
set_option linter.unusedSimpArgs false
set_option maxRecDepth 4000
namespace Go.Proofs.Ytiiiplhfgblamaa
open Go Brv
theorem find1W_ok (p : Pr (Int)) (k : Int) (w : World) : Meets Try.prog 120 [.agg (pcell p).toArray, .int .i64 k] w (fun v w' => v = .int .i64 (cmpF p.1 k) ∧ Ext [] w w') := by
  refine Meets.enter Try.func120 rfl 9 rfl (Nat.le_of_ble_eq_true rfl) ?_
  have E := Ext.refl [] w
  refine G.seq ?_
  refine G.region ?_
  refine L.do rfl rfl (R.box rfl) ?_
  rintro _ w1 ⟨b2, rfl, hb2, hs2, e1, B2⟩
  replace B2 : Blk w1 b2 (pcell p).toArray 176 (0, 0) := B2
  replace E := E.trans0 e1
  refine L.val rfl rfl (R.as rfl) ?_
  refine L.nil ?_
  refine N.seq ?_
  refine G.seq ?_
  refine G.region ?_
  refine L.val rfl rfl (R.fld rfl) ?_
  refine L.val rfl rfl (R.ldB (v := .int .i64 p.1) rfl B2 rfl) ?_
  refine L.val rfl rfl (R.mv rfl) ?_
  refine L.callF rfl rfl rfl go114 (cmpI_ok _ _ _) ?_
  rintro _ _ ⟨rfl, hw⟩
  obtain rfl := hw.symm
  refine L.val rfl rfl (R.as rfl) ?_
  refine L.nil ?_
  refine N.seq ?_
  refine G.ret1 rfl rfl ?_
  exact ⟨rfl, E⟩

theorem bsW_ok (a : Option Addr) (n c : Nat) (ps : List (Pr (Int))) (k : Int) (w : World) (hc : Cells w a (pcells ps)) (hn : n = ps.length) (hok : OkP 1 ps) (hs : Sorted ps) (hnl : n ≤ 1000000) : Meets Try.prog 119 [.slice a n c, .int .i64 k, .func (.func 120) #[] #[]] w (fun v w' => v = .tuple #[.int .i64 (low ps k : Int), .bool (hasK ps k)] ∧ Ext [] w w') := by
  refine Meets.enter Try.func119 rfl 49 rfl (Nat.le_of_ble_eq_true rfl) ?_
  have E := Ext.refl [] w
  have hT := Tab.pairs hc hn hok
  have hlo := low_le ps k
  refine G.seq ?_
  refine G.region ?_
  refine L.val rfl rfl (R.as rfl) ?_
  refine L.val rfl rfl (R.as rfl) ?_
  refine L.nil ?_
  refine N.seq ?_
  refine G.seq ?_
  refine G.region ?_
  refine L.val rfl rfl (R.mv rfl) ?_
  refine L.val rfl rfl (R.lenS rfl) ?_
  refine L.val rfl rfl (R.as rfl) ?_
  refine L.nil ?_
  refine N.seq ?_
  refine G.seq ?_
  refine G.region ?_
  refine L.val rfl rfl (R.mv rfl) ?_
  refine L.val rfl rfl (R.as rfl) ?_
  refine L.val rfl rfl (R.as rfl) ?_
  refine L.nil ?_
  refine N.seq ?_
  refine G.seq ?_
  refine G.block ?_
  refine G.loop (X := Nat × Nat) (fun s => [(0, .slice a n c), (1, .int .i64 k), (2, .func (.func 120) #[] #[]), (8, .int .i64 (n : Int)), (9, .int .i64 (s.1 : Int)), (10, .int .i64 (s.2 : Int))]) (fun s w' => s.1 ≤ s.2 ∧ s.2 ≤ n ∧ s.1 ≤ low ps k ∧ low ps k ≤ s.2 ∧ Ext [] w w') (fun s => s.2 - s.1) ((0, n)) (Sub.cons rfl (Sub.cons rfl (Sub.cons rfl (Sub.cons rfl (Sub.cons rfl (Sub.cons rfl (Sub.nil _))))))) ⟨Nat.zero_le _, Nat.le_refl _, Nat.zero_le _, by show low ps k ≤ n; omega, E⟩ ?_
  rintro ⟨i, j⟩ w1 ⟨hi1, hi2, hi3, hi4, E⟩
  dsimp only at hi1 hi2 hi3 hi4
  refine G.sub [(0, .slice a n c), (1, .int .i64 k), (2, .func (.func 120) #[] #[]), (8, .int .i64 (n : Int)), (9, .int .i64 (i : Int)), (10, .int .i64 (j : Int))] (Sub.cons rfl (Sub.cons rfl (Sub.cons rfl (Sub.cons rfl (Sub.cons rfl (Sub.cons rfl (Sub.nil _))))))) ?_
  refine G.seq ?_
  refine G.seq ?_
  refine G.region ?_
  refine L.val rfl rfl (R.mv rfl) ?_
  refine L.val rfl rfl (R.mv rfl) ?_
  refine L.val rfl rfl (R.lss rfl rfl) ?_
  refine L.nil ?_
  refine N.seq ?_
  refine G.condP rfl (fun h0 => ?_) (fun h0 => ?_)
  · have hij : i < j := by omega
    obtain ⟨hm, hhm⟩ : ∃ hm, hm = (i + j) / 2 := ⟨_, rfl⟩
    have hm1 : i ≤ hm := by omega
    have hm2 : hm < j := by omega
    refine G.skip ?_
    refine N.seq ?_
    refine G.block ?_
    refine G.seq ?_
    refine G.region ?_
    refine L.val rfl rfl (R.mv rfl) ?_
    refine L.val rfl rfl (R.mv rfl) ?_
    refine L.val rfl rfl (R.add rfl rfl (by omega)) ?_
    refine L.val rfl rfl (R.conv rfl ((i + j : Nat) : Int) (by rw [wrap_u64 (by omega)]; omega)) ?_
    refine L.val rfl rfl (R.shrW rfl rfl (by decide) (hm : Int) (by rw [shr1]; omega)) ?_
    refine L.val rfl rfl (R.conv rfl (hm : Int) (wrap_i64 (by omega))) ?_
    refine L.val rfl rfl (R.as rfl) ?_
    refine L.nil ?_
    refine N.seq ?_
    refine G.seq ?_
    refine G.region ?_
    refine L.val rfl rfl (R.mv rfl) ?_
    refine L.val rfl rfl (R.mv rfl) ?_
    refine L.val rfl rfl (R.mv rfl) ?_
    obtain ⟨p1, hp1⟩ : ∃ p, ps[hm]? = some p := ⟨_, List.getElem?_eq_getElem (by omega)⟩
    obtain ⟨qp1, hqp1, hclp1⟩ := hT.at (by decide) hm (by rw [List.length_map]; omega)
    have hep1 : (ps.map pcell)[hm]'(by rw [List.length_map]; omega) = pcell p1 := by rw [List.getElem_map]; exact congrArg pcell (List.getElem?_eq_some_iff.1 hp1).2
    rw [hep1] at hclp1
    have hszp1 : (pcell p1).length = 2 := by show p1.2.length + 1 = _; rw [(hok p1 (List.mem_of_getElem? hp1)).1]
    refine L.val rfl rfl (R.idx rfl rfl (by omega) (by omega) qp1 hqp1) ?_
    refine L.val rfl rfl (R.ldN (vs := pcell p1) rfl (hclp1.ext0 E) hszp1) ?_
    refine L.val rfl rfl (R.mv rfl) ?_
    refine L.callV rfl rfl rfl rfl rfl go120 (find1W_ok p1 k _) ?_
    rintro _ w2 ⟨rfl, e2⟩
    replace E := E.trans0 e2
    refine L.val rfl rfl (R.lss rfl rfl) ?_
    refine L.nil ?_
    refine N.seq ?_
    refine G.condP rfl (fun h1 => ?_) (fun h1 => ?_)
    · have hcmp : cmpF p1.1 k < 0 := h1
      refine G.region ?_
      refine L.val rfl rfl (R.mv rfl) ?_
      refine L.val rfl rfl (R.add rfl rfl (by omega)) ?_
      refine L.val rfl rfl (R.as rfl) ?_
      refine L.nil ?_
      refine N.block ?_
      first
        | exact N.again (hm + 1, j) (by show j - (hm + 1) < j - i; omega) (Sub.cons rfl (Sub.cons rfl (Sub.cons rfl (Sub.cons rfl (Sub.cons rfl (Sub.cons rfl (Sub.nil _))))))) ⟨by show hm + 1 ≤ j; omega, hi2, by show hm + 1 ≤ low ps k; have := (lt_low hs hp1).1 hcmp; omega, hi4, E⟩
        | exact N.again (i, hm) (by show hm - i < j - i; omega) (Sub.cons rfl (Sub.cons rfl (Sub.cons rfl (Sub.cons rfl (Sub.cons rfl (Sub.cons rfl (Sub.nil _))))))) ⟨by show i ≤ hm; omega, by show hm ≤ n; omega, hi3, by show low ps k ≤ hm; have : ¬ hm < low ps k := fun h9 => hcmp ((lt_low hs hp1).2 h9); omega, E⟩
    · have hcmp : ¬ cmpF p1.1 k < 0 := h1
      refine G.region ?_
      refine L.val rfl rfl (R.mv rfl) ?_
      refine L.val rfl rfl (R.as rfl) ?_
      refine L.nil ?_
      refine N.block ?_
      first
        | exact N.again (hm + 1, j) (by show j - (hm + 1) < j - i; omega) (Sub.cons rfl (Sub.cons rfl (Sub.cons rfl (Sub.cons rfl (Sub.cons rfl (Sub.cons rfl (Sub.nil _))))))) ⟨by show hm + 1 ≤ j; omega, hi2, by show hm + 1 ≤ low ps k; have := (lt_low hs hp1).1 hcmp; omega, hi4, E⟩
        | exact N.again (i, hm) (by show hm - i < j - i; omega) (Sub.cons rfl (Sub.cons rfl (Sub.cons rfl (Sub.cons rfl (Sub.cons rfl (Sub.cons rfl (Sub.nil _))))))) ⟨by show i ≤ hm; omega, by show hm ≤ n; omega, hi3, by show low ps k ≤ hm; have : ¬ hm < low ps k := fun h9 => hcmp ((lt_low hs hp1).2 h9); omega, E⟩
  · have hij : i = low ps k := by omega
    refine G.exit _ rfl ?_
    refine N.seq ?_
    refine G.seq ?_
    refine G.region ?_
    refine L.val rfl rfl (R.mv rfl) ?_
    refine L.val rfl rfl (R.mv rfl) ?_
    refine L.val rfl rfl (R.mv rfl) ?_
    refine L.val rfl rfl (R.lss rfl rfl) ?_
    refine L.val rfl rfl (R.mv rfl) ?_
    refine L.caseP 39 rfl (fun hg8_4 => ?_) (fun hg8_4 => ?_)
    · refine L.val rfl rfl (R.mv rfl) ?_
      refine L.val rfl rfl (R.mv rfl) ?_
      refine L.val rfl rfl (R.mv rfl) ?_
      obtain ⟨p2, hp2⟩ : ∃ p, ps[i]? = some p := ⟨_, List.getElem?_eq_getElem (by omega)⟩
      obtain ⟨qp2, hqp2, hclp2⟩ := hT.at (by decide) i (by rw [List.length_map]; omega)
      have hep2 : (ps.map pcell)[i]'(by rw [List.length_map]; omega) = pcell p2 := by rw [List.getElem_map]; exact congrArg pcell (List.getElem?_eq_some_iff.1 hp2).2
      rw [hep2] at hclp2
      have hszp2 : (pcell p2).length = 2 := by show p2.2.length + 1 = _; rw [(hok p2 (List.mem_of_getElem? hp2)).1]
      refine L.val rfl rfl (R.idx rfl rfl (by omega) (by omega) qp2 hqp2) ?_
      refine L.val rfl rfl (R.ldN (vs := pcell p2) rfl (hclp2.ext0 E) hszp2) ?_
      refine L.val rfl rfl (R.mv rfl) ?_
      refine L.callV rfl rfl rfl rfl rfl go120 (find1W_ok p2 k _) ?_
      rintro _ w3 ⟨rfl, e3⟩
      replace E := E.trans0 e3
      refine L.val rfl rfl (R.eqI rfl rfl) ?_
      first | refine L.val rfl rfl (R.pickT rfl rfl) ?_ | refine L.val rfl rfl (R.pickF rfl rfl) ?_
      refine L.val rfl rfl (R.as rfl) ?_
      refine L.val rfl rfl (R.as rfl) ?_
      refine L.nil ?_
      refine N.seq ?_
      refine G.ret2 rfl rfl rfl ?_
      first
        | exact ⟨by rw [hfound, ← hij], E⟩
        | exact ⟨by rw [hasK_at hs (by rw [← hij]; exact hp2), ← hij], E⟩
    · have hfound : hasK ps k = false := hasK_end (by omega)
      refine L.pass rfl rfl ?_
      refine L.pass rfl rfl ?_
      refine L.pass rfl rfl ?_
      refine L.pass rfl rfl ?_
      refine L.pass rfl rfl ?_
      refine L.pass rfl rfl ?_
      refine L.pass rfl rfl ?_
      refine L.pass rfl rfl ?_
      first | refine L.val rfl rfl (R.pickT rfl rfl) ?_ | refine L.val rfl rfl (R.pickF rfl rfl) ?_
      refine L.val rfl rfl (R.as rfl) ?_
      refine L.val rfl rfl (R.as rfl) ?_
      refine L.nil ?_
      refine N.seq ?_
      refine G.ret2 rfl rfl rfl ?_
      first
        | exact ⟨by rw [hfound, ← hij], E⟩
        | exact ⟨by rw [hasK_at hs (by rw [← hij]; exact hp2), ← hij], E⟩

theorem findW_ok (m : Nat) (ps : List (Pr (Int))) (S : List Nat) (k : Int) (w : World) (hd : MapAt (κ := Int) 174 176 1 w m ps S) (hl : ps.length ≤ 100000) : Meets Try.prog 101 [.pointer (some ⟨m, 0, none⟩), .int .i64 k] w (fun v w' => v = .tuple #[.int .i64 (low ps k : Int), .bool (hasK ps k)] ∧ Ext [] w w') := by
  refine Meets.enter Try.func101 rfl 14 rfl (Nat.le_of_ble_eq_true rfl) ?_
  have E := Ext.refl [] w
  obtain ⟨a, c, M, rfl, hm0, Bm, om, hok, hs⟩ := hd
  refine G.seq ?_
  refine G.region ?_
  refine L.val rfl rfl (R.as rfl) ?_
  refine L.val rfl rfl (R.as rfl) ?_
  refine L.nil ?_
  refine N.seq ?_
  refine G.seq ?_
  refine G.region ?_
  refine L.val rfl rfl (R.mv rfl) ?_
  refine L.val rfl rfl (R.nilChk rfl) ?_
  refine L.val rfl rfl (R.fld rfl) ?_
  refine L.val rfl rfl (R.ldB rfl Bm rfl) ?_
  refine L.val rfl rfl (R.mv rfl) ?_
  refine L.callF rfl rfl rfl go119 (bsW_ok _ _ _ ps k _ om.cells rfl hok hs (by omega)) ?_
  rintro _ w1 ⟨rfl, e1⟩
  replace E := E.trans0 e1
  refine L.val rfl rfl (R.ext rfl rfl) ?_
  refine L.val rfl rfl (R.ext rfl rfl) ?_
  refine L.val rfl rfl (R.as rfl) ?_
  refine L.val rfl rfl (R.as rfl) ?_
  refine L.nil ?_
  refine N.seq ?_
  refine G.ret2 rfl rfl rfl ?_
  exact ⟨rfl, E⟩

theorem insW_ok (a : Option Addr) (n c : Nat) (ps : List (Pr (Int))) (M : List Nat) (i : Nat) (p : Pr (Int)) (vb : Nat) (w : World) (ho : Own w 176 (1 + 1) a n c (pcells ps) M) (hn : n = ps.length) (hok : OkP 1 ps) (hi : i ≤ n) (hp : p.2.length = 1 ∧ ∀ u ∈ p.2, u.oneCell' = true) (Bv : Blk w vb (pcell p).toArray 176 (0, 0)) (hvM : vb ∉ M) (hnl : n ≤ 100000) : Meets Try.prog 102 [.slice a n c, .int .i64 (i : Int), .slice (some ⟨vb, 0, none⟩) 1 1] w (fun v w' => ∃ a' c' M', v = .slice a' (n + 1) c' ∧ Ext M w w' ∧ (∀ g ∈ M', g ∈ M ∨ w.heap.size ≤ g) ∧ Own w' 176 (1 + 1) a' (n + 1) c' (pcells (ps.take i ++ p :: ps.drop i)) M') := by
  refine Meets.enter Try.func102 rfl 95 rfl (Nat.le_of_ble_eq_true rfl) ?_
  have hl2 : (pcell p).length = 2 := by show p.2.length + 1 = _; rw [hp.1]
  have hp1 : ∀ u ∈ pcell p, u.oneCell' = true := pcell1 hp.2
  have hoc := ho.le
  have hps := (pcells_take (sv := 1) hok.len i (by omega))
  rw [show 1 + 1 = 2 from rfl] at hps
  have hcd : (pcells (ps.drop i)).length = (n - i) * 2 := by rw [pcells_len (sv := 1) (fun q hq => (hok q (List.mem_of_mem_drop hq)).1), List.length_drop, hn]
  have hci : (pcells (ps.take i)).length = i * 2 := by rw [pcells_len (sv := 1) (fun q hq => (hok q (List.mem_of_mem_take hq)).1), List.length_take, Nat.min_eq_left (by omega)]
  have hone := pcell_one hok
  have hone2 : ∀ u ∈ pcells (ps.drop i), u.oneCell' = true := fun u hu => hone u (by have h9 := hps.2; rw [← h9] at hu; exact List.mem_of_mem_drop hu)
  have Cv : Cells w (some ⟨vb, 0, none⟩) (pcell p) := Cells.of_blk Bv 0 _ (fun j v hj => by simpa using hj)
  refine G.seq ?_
  refine G.region ?_
  refine L.val rfl rfl (R.as rfl) ?_
  refine L.nil ?_
  refine N.seq ?_
  refine G.seq ?_
  refine G.region ?_
  refine L.val rfl rfl (R.mv rfl) ?_
  refine L.val rfl rfl (R.mv rfl) ?_
  refine L.val rfl rfl (R.slL rfl rfl (by omega) (by omega)) ?_
  refine L.nil ?_
  refine N.seq ?_
  refine G.seq ?_
  refine G.region ?_
  refine L.val rfl rfl (R.mv rfl) ?_
  refine L.val rfl rfl (R.lenS rfl) ?_
  refine L.val rfl rfl (R.as rfl) ?_
  refine L.nil ?_
  refine N.seq ?_
  refine G.seq ?_
  refine G.seq ?_
  refine G.region ?_
  refine L.val rfl rfl (R.mv rfl) ?_
  refine L.val rfl rfl (R.eqI rfl rfl) ?_
  refine L.nil ?_
  refine N.seq ?_
  refine G.condP rfl (fun h0 => ?_) (fun h0 => ?_)
  · exfalso; omega
  · refine G.skip ?_
    refine N.seq ?_
    refine G.seq ?_
    refine G.region ?_
    refine L.val rfl rfl (R.mv rfl) ?_
    refine L.val rfl rfl (R.lenS rfl) ?_
    refine L.val rfl rfl (R.as rfl) ?_
    refine L.nil ?_
    refine N.seq ?_
    refine G.seq ?_
    refine G.seq ?_
    refine G.region ?_
    refine L.val rfl rfl (R.mv rfl) ?_
    refine L.val rfl rfl (R.mv rfl) ?_
    refine L.val rfl rfl (R.eqI rfl rfl) ?_
    refine L.nil ?_
    refine N.seq ?_
    refine G.condP rfl (fun h1 => ?_) (fun h1 => ?_)
    · obtain rfl : i = n := by omega
      refine G.seq ?_
      refine G.region ?_
      refine L.val rfl rfl (R.mv rfl) ?_
      refine L.val rfl rfl (R.mv rfl) ?_
      refine L.do rfl rfl (R.app rfl rfl ho Cv (by rw [hl2]) hp1 (by simp [maxLen]; omega) (by omega)) ?_
      rintro _ w1 ⟨a1, c1, M1, rfl, e1, hM1, o1⟩
      refine L.val rfl rfl (R.as rfl) ?_
      refine L.nil ?_
      refine N.seq ?_
      refine G.ret1 rfl rfl ?_
      first
        | (have e9 : pcells ps ++ pcell p = pcells (ps.take i ++ p :: ps.drop i) := by rw [← pcells_ins, List.take_of_length_le (by omega), List.drop_of_length_le (by omega)]; simp [pcells]
           rw [e9] at o1; exact ⟨a1, c1, M1, rfl, e1, hM1, o1⟩)
        | (refine ⟨_, c1, [g1], rfl, n3.mono (by simp), fun x hx => .inr (by rw [List.mem_singleton.1 hx]; exact hg1), ?_⟩
           have hfin := hog.1; rw [pcells_ins, ← Nat.add_one_mul, ← Nat.add_mul, show i + 1 + (n - i) = n + 1 by omega] at hfin
           refine ⟨by rw [pcells_len (sv := 1) (fun q hq => (okIns hok hp q hq).1), List.length_append, List.length_cons, List.length_take, List.length_drop]; congr 1; omega, .inr ⟨g1, _, rfl, rfl, B3, by omega, hx1, ?_, hfin⟩⟩
           rw [← Nat.add_one_mul] at hog; rw [hog.2.2]; exact hz1)
        | (refine ⟨_, c, [g0], rfl, hE5, fun x hx => .inl hx, ?_⟩
           have hfin := hoi.1; rw [pcells_ins, ← Nat.add_one_mul] at hfin
           refine ⟨by rw [pcells_len (sv := 1) (fun q hq => (okIns hok hp q hq).1), List.length_append, List.length_cons, List.length_take, List.length_drop]; congr 1; omega, .inr ⟨g0, _, rfl, rfl, B5, by omega, hx0, ?_, hfin⟩⟩
           rw [hoi.2.2]; exact hz0)
    · have hin : i < n := by omega
      refine G.skip ?_
      refine N.seq ?_
      refine G.seq ?_
      refine G.seq ?_
      refine G.region ?_
      refine L.val rfl rfl (R.mv rfl) ?_
      refine L.val rfl rfl (R.mv rfl) ?_
      refine L.val rfl rfl (R.add rfl rfl (by omega)) ?_
      refine L.val rfl rfl (R.mv rfl) ?_
      refine L.val rfl rfl (R.capS rfl) ?_
      refine L.val rfl rfl (R.gtr rfl rfl) ?_
      refine L.nil ?_
      refine N.seq ?_
      refine G.condP rfl (fun h2 => ?_) (fun h2 => ?_)
      · have hgc : c < n + 1 := by omega
        refine G.seq ?_
        refine G.region ?_
        refine L.val rfl rfl (R.mv rfl) ?_
        refine L.val rfl rfl (R.mv rfl) ?_
        refine L.val rfl rfl (R.slH rfl rfl (by omega) (by omega)) ?_
        refine L.be 34 rfl (show _ = Value.slice a i c by rw [subA_zero, Int.toNat_natCast]) ?_
        refine L.val rfl rfl (R.mv rfl) ?_
        refine L.val rfl rfl (R.mv rfl) ?_
        refine L.val rfl rfl (R.add rfl rfl (by omega)) ?_
        refine L.val rfl rfl (R.mv rfl) ?_
        refine L.val rfl rfl (R.sub' rfl rfl (by omega)) ?_
        refine L.be 39 rfl (show _ = Value.int .i64 ((n + 1 - i : Nat) : Int) by congr 1; omega) ?_
        refine L.do rfl rfl (R.appZN (m := n + 1 - i) rfl rfl (ho.pre (i := i) (by omega)) (by intro u hu; simp [Value.cells] at hu; first | (rcases hu with rfl | rfl <;> rfl) | (rcases hu with rfl | rfl | rfl <;> rfl) | (rcases hu with rfl | rfl | rfl | rfl <;> rfl) | (rcases hu with rfl | rfl | rfl | rfl | rfl <;> rfl)) (by simp [maxLen]; omega) (by omega) (by decide) (by decide) (by omega)) ?_
        rintro _ w1 ⟨a1, c1, M1, rfl, e1, o1, hM1⟩
        rw [show i + (n + 1 - i) = n + 1 by omega] at o1 ⊢
        obtain ⟨g1, cur1, rfl, rfl, B1, hc1, hx1, hz1, ht1⟩ := o1.some (by omega)
        have hg1 := hM1 g1 (by simp)
        have hcu : (cur1.toList.take (i * 2)) = pcells (ps.take i) := by
          have h9 := congrArg (List.take (i * 2)) ht1
          rw [List.take_take, Nat.min_eq_left (Nat.mul_le_mul_right _ (by omega))] at h9
          refine h9.trans ?_
          show List.take (i * 2) (List.take (i * 2) (pcells ps) ++ _) = _
          rw [List.take_append_of_le_length (by rw [hps.1, hci]; exact Nat.le_refl _), List.take_take, Nat.min_self]
          exact hps.1
        have hzz : (n + 1) * 2 ≤ cur1.size := Nat.le_trans (Nat.mul_le_mul_right _ hc1) hz1
        have hog := over_grow (c1 := pcell p) (c2 := pcells (ps.drop i)) (s := 2) (K := (n - i) * 2) hcu (by omega) hl2 hcd (by omega)
        refine L.val rfl rfl (R.as rfl) ?_
        refine L.nil ?_
        refine N.seq ?_
        refine G.seq ?_
        refine G.region ?_
        refine L.val rfl rfl (R.mv rfl) ?_
        refine L.val rfl rfl (R.mv rfl) ?_
        refine L.val rfl rfl (R.slL rfl rfl (by omega) (by omega)) ?_
        refine L.be 43 rfl (show _ = Value.slice (some ⟨g1, i * 2, none⟩) (n + 1 - i) (c1 - i) by rw [Int.toNat_natCast, subA_lit (by omega), Nat.zero_add]) ?_
        refine L.val rfl rfl (R.mv rfl) ?_
        refine L.do rfl rfl (R.copyN (m := 1) rfl rfl B1 (Cv.ext0 e1) (Nat.min_eq_left (by omega)) (by rw [hl2]) (by rw [hl2]; omega) hp1) ?_
        rintro _ w2 ⟨rfl, P2⟩
        obtain ⟨e2, hs2, B2⟩ := P2
        have n2 := e1.news2 e2 hg1
        have Cd : Cells w2 (subA a i c 2) (pcells (ps.drop i)) := by
          have h9 := (ho.cells.ext0 n2).sub i c 2 ((n - i) * 2) (by rw [ho.1, show 1 + 1 = 2 from rfl, ← Nat.add_mul]; exact Nat.mul_le_mul_right _ (by omega)) (by omega)
          rw [hps.2, List.take_of_length_le (by omega)] at h9
          exact h9
        refine L.nil ?_
        refine N.seq ?_
        refine G.seq ?_
        refine G.staged [8] [.blocks ([g1])] [fun w' => Ext [] w2 w', fun w' => Ext [g1] w2 w' ∧ Blk w' g1 (Over (Over cur1 (i * 2) (pcell p)) ((i + 1) * 2) (pcells (ps.drop i))) 176 (0, 0)] [] (by decide +kernel) (by decide +kernel) rfl rfl rfl (fun _ h => h) ?_
        refine Z.val rfl rfl rfl rfl rfl (fun w3 => R.mv rfl) ?_
        refine Z.val rfl rfl rfl rfl rfl (fun w3 => R.mv rfl) ?_
        refine Z.val rfl rfl rfl rfl rfl (fun w3 => R.mv rfl) ?_
        refine Z.val rfl rfl rfl rfl rfl (fun w3 => R.add rfl rfl (by omega)) ?_
        refine Z.val rfl rfl rfl rfl rfl (fun w3 => R.slL rfl rfl (by omega) (by omega)) ?_
        refine Z.be 50 rfl (show _ = Value.slice (some ⟨g1, (i + 1) * 2, none⟩) (n - i) (c1 - (i + 1)) by rw [show ((i : Int) + ((1 : Nat) : Int)).toNat = i + 1 by omega, subA_lit (by omega), Nat.zero_add, show n + 1 - (i + 1) = n - i by omega]) ?_
        refine Z.val rfl rfl rfl rfl rfl (fun w3 => R.mv rfl) ?_
        refine Z.val rfl rfl rfl rfl rfl (fun w3 => R.mv rfl) ?_
        refine Z.val rfl rfl rfl rfl rfl (fun w3 => R.slL rfl rfl (by omega) (by omega)) ?_
        refine Z.be 53 rfl (show _ = Value.slice (subA a i c 2) (n - i) (c - i) by rw [Int.toNat_natCast]) ?_
        refine Z.put (A := fun v _ => True) (Lasts.kill (fun _ _ _ _ h => h) (by decide +kernel)) 0 (by decide +kernel) rfl rfl rfl rfl rfl rfl rfl (fun w3 hJ => (R.copyN (m := n - i) rfl rfl (B2.ext0 hJ) (Cd.ext0 hJ) (Nat.min_self _) hcd (by rw [hcd, hog.2.1]; omega) hone2).mono (fun v w9 h => by obtain ⟨_, h1, h2, h3⟩ := h; exact ⟨trivial, h1, h1.after hJ, h3⟩)) ?_
        refine Z.nil rfl rfl (fun w3 hJ => ?_)
        obtain ⟨e3, B3⟩ := hJ
        intro v54 _
        have n3 := n2.news2 e3 hg1
        refine N.seq ?_
        refine G.seq ?_
        refine G.region ?_
        refine L.val rfl rfl (R.mv rfl) ?_
        refine L.val rfl rfl (R.as rfl) ?_
        refine L.nil ?_
        refine N.seq ?_
        refine G.ret1 rfl rfl ?_
        first
          | (have e9 : pcells ps ++ pcell p = pcells (ps.take i ++ p :: ps.drop i) := by rw [← pcells_ins, List.take_of_length_le (by omega), List.drop_of_length_le (by omega)]; simp [pcells]
             rw [e9] at o1; exact ⟨a1, c1, M1, rfl, e1, hM1, o1⟩)
          | (refine ⟨_, c1, [g1], rfl, n3.mono (by simp), fun x hx => .inr (by rw [List.mem_singleton.1 hx]; exact hg1), ?_⟩
             have hfin := hog.1; rw [pcells_ins, ← Nat.add_one_mul, ← Nat.add_mul, show i + 1 + (n - i) = n + 1 by omega] at hfin
             refine ⟨by rw [pcells_len (sv := 1) (fun q hq => (okIns hok hp q hq).1), List.length_append, List.length_cons, List.length_take, List.length_drop]; congr 1; omega, .inr ⟨g1, _, rfl, rfl, B3, by omega, hx1, ?_, hfin⟩⟩
             rw [← Nat.add_one_mul] at hog; rw [hog.2.2]; exact hz1)
          | (refine ⟨_, c, [g0], rfl, hE5, fun x hx => .inl hx, ?_⟩
             have hfin := hoi.1; rw [pcells_ins, ← Nat.add_one_mul] at hfin
             refine ⟨by rw [pcells_len (sv := 1) (fun q hq => (okIns hok hp q hq).1), List.length_append, List.length_cons, List.length_take, List.length_drop]; congr 1; omega, .inr ⟨g0, _, rfl, rfl, B5, by omega, hx0, ?_, hfin⟩⟩
             rw [hoi.2.2]; exact hz0)
      · have hroom : n + 1 ≤ c := by omega
        obtain ⟨g0, cur0, rfl, rfl, B0, hc0, hx0, hz0, ht0⟩ := ho.some (by omega)
        have hzz : (n + 1) * 2 ≤ cur0.size := Nat.le_trans (Nat.mul_le_mul_right _ hroom) hz0
        have hxl : (pcells ps).length = n * 2 := ho.1
        have hoi := over_insert (s := 2) (A := i * 2) (L := n * 2) ht0 hxl (Nat.mul_le_mul_right _ (by omega)) hl2 (by omega)
        rw [hps.1, hps.2] at hoi
        have hro : i * 2 + 2 + (n - i) * 2 ≤ cur0.size := by
          have h9 : (i + 1 + (n - i)) * 2 ≤ cur0.size := by rw [show i + 1 + (n - i) = n + 1 by omega]; exact hzz
          rwa [Nat.add_mul, Nat.add_mul, Nat.one_mul] at h9
        have Cd : Cells w (some ⟨g0, i * 2, none⟩) (pcells (ps.drop i)) := Cells.of_blk B0 (i * 2) (pcells (ps.drop i)) (fun j v hj => by
          rw [← hps.2, ← ht0, List.drop_take, List.getElem?_take] at hj
          split at hj
          · simpa [List.getElem?_drop] using hj
          · cases hj)
        refine G.skip ?_
        refine N.seq ?_
        refine G.seq ?_
        refine G.region ?_
        refine L.val rfl rfl (R.mv rfl) ?_
        refine L.val rfl rfl (R.mv rfl) ?_
        refine L.val rfl rfl (R.mv rfl) ?_
        refine L.val rfl rfl (R.add rfl rfl (by omega)) ?_
        refine L.val rfl rfl (R.slH rfl rfl (by omega) (by omega)) ?_
        refine L.be 60 rfl (show _ = Value.slice (some ⟨g0, 0, none⟩) (n + 1) c by rw [subA_zero, show ((n : Int) + ((1 : Nat) : Int)).toNat = n + 1 by omega]) ?_
        refine L.val rfl rfl (R.as rfl) ?_
        refine L.nil ?_
        refine N.seq ?_
        refine G.seq ?_
        refine G.seq ?_
        refine G.region ?_
        refine L.val rfl rfl (R.mv rfl) ?_
        refine L.val rfl rfl (R.mv rfl) ?_
        refine L.val rfl rfl (R.mv rfl) ?_
        refine L.val rfl rfl (R.mv rfl) ?_
        refine L.val rfl rfl (R.add rfl rfl (by omega)) ?_
        refine L.val rfl rfl (R.slL rfl rfl (by omega) (by omega)) ?_
        refine L.be 66 rfl (show _ = Value.slice (subA (some ⟨g0, 0, none⟩) (i + 1) c 2) (n + 1 - (i + 1)) (c - (i + 1)) by rw [show ((i : Int) + ((1 : Nat) : Int)).toNat = i + 1 by omega]) ?_
        refine L.be 66 rfl (show _ = Value.slice (some ⟨g0, (i + 1) * 2, none⟩) (n - i) (c - (i + 1)) by rw [subA_lit (by omega), Nat.zero_add, show n + 1 - (i + 1) = n - i by omega]) ?_
        refine L.val rfl rfl (R.overlaps (A := (pcell p).toArray) (B := cur0) Try.func121 (by decide) rfl rfl rfl rfl rfl Bv B0 (by simpa using hvM) (by omega)) ?_
        refine L.val rfl rfl (R.not rfl) ?_
        refine L.nil ?_
        refine N.seq ?_
        refine G.condT rfl ?_
        refine G.seq ?_
        refine G.staged [8] [.blocks ([g0])] [fun w' => Ext [] w w', fun w' => Ext [g0] w w' ∧ Blk w' g0 (Over cur0 (i * 2 + 2) (pcells (ps.drop i))) 176 (0, 0)] [] (by decide +kernel) (by decide +kernel) rfl rfl rfl (fun _ h => h) ?_
        refine Z.val rfl rfl rfl rfl rfl (fun w1 => R.mv rfl) ?_
        refine Z.val rfl rfl rfl rfl rfl (fun w1 => R.mv rfl) ?_
        refine Z.val rfl rfl rfl rfl rfl (fun w1 => R.mv rfl) ?_
        refine Z.val rfl rfl rfl rfl rfl (fun w1 => R.add rfl rfl (by omega)) ?_
        refine Z.val rfl rfl rfl rfl rfl (fun w1 => R.slL rfl rfl (by omega) (by omega)) ?_
        refine Z.be 73 rfl (show _ = Value.slice (some ⟨g0, i * 2 + 2, none⟩) (n - i) (c - (i + 1)) by rw [show ((i : Int) + ((1 : Nat) : Int)).toNat = i + 1 by omega, subA_lit (by omega), Nat.zero_add, show n + 1 - (i + 1) = n - i by omega, Nat.add_mul]) ?_
        refine Z.val rfl rfl rfl rfl rfl (fun w1 => R.mv rfl) ?_
        refine Z.val rfl rfl rfl rfl rfl (fun w1 => R.mv rfl) ?_
        refine Z.val rfl rfl rfl rfl rfl (fun w1 => R.slL rfl rfl (by omega) (by omega)) ?_
        refine Z.be 76 rfl (show _ = Value.slice (some ⟨g0, i * 2, none⟩) (n + 1 - i) (c - i) by rw [Int.toNat_natCast, subA_lit (by omega), Nat.zero_add]) ?_
        refine Z.put (A := fun v _ => True) (Lasts.kill (fun _ _ _ _ h => h) (by decide +kernel)) 0 (by decide +kernel) rfl rfl rfl rfl rfl rfl rfl (fun w1 hJ => (R.copyN (m := n - i) rfl rfl (B0.ext0 hJ) (Cd.ext0 hJ) (Nat.min_eq_right (by omega)) hcd (by rw [hcd]; omega) hone2).mono (fun v w9 h => by obtain ⟨_, h1, h2, h3⟩ := h; exact ⟨trivial, h1, h1.after hJ, h3⟩)) ?_
        refine Z.nil rfl rfl (fun w1 hJ => ?_)
        obtain ⟨e3, B3⟩ := hJ
        intro v77 _
        have hvg : vb ≠ g0 := fun h => hvM (by rw [h]; simp)
        refine N.seq ?_
        refine G.seq ?_
        refine G.region ?_
        refine L.val rfl rfl (R.mv rfl) ?_
        refine L.val rfl rfl (R.mv rfl) ?_
        refine L.val rfl rfl (R.slL rfl rfl (by omega) (by omega)) ?_
        refine L.be 80 rfl (show _ = Value.slice (some ⟨g0, i * 2, none⟩) (n + 1 - i) (c - i) by rw [Int.toNat_natCast, subA_lit (by omega), Nat.zero_add]) ?_
        refine L.val rfl rfl (R.mv rfl) ?_
        refine L.do rfl rfl (R.copyN (m := 1) rfl rfl B3 (Cv.ext e3 (by intro q hq; cases hq; simpa using hvg)) (Nat.min_eq_left (by omega)) (by rw [hl2]) (by rw [hl2, hoi.2.1]; omega) hp1) ?_
        rintro _ w5 ⟨rfl, P5⟩
        obtain ⟨e5, hs5, B5⟩ := P5
        have hE5 := e3.transN e5 (fun x hx => .inl hx)
        refine L.nil ?_
        refine N.seq ?_
        refine G.seq ?_
        refine G.region ?_
        refine L.val rfl rfl (R.mv rfl) ?_
        refine L.val rfl rfl (R.as rfl) ?_
        refine L.nil ?_
        refine N.seq ?_
        refine G.ret1 rfl rfl ?_
        first
          | (have e9 : pcells ps ++ pcell p = pcells (ps.take i ++ p :: ps.drop i) := by rw [← pcells_ins, List.take_of_length_le (by omega), List.drop_of_length_le (by omega)]; simp [pcells]
             rw [e9] at o1; exact ⟨a1, c1, M1, rfl, e1, hM1, o1⟩)
          | (refine ⟨_, c1, [g1], rfl, n3.mono (by simp), fun x hx => .inr (by rw [List.mem_singleton.1 hx]; exact hg1), ?_⟩
             have hfin := hog.1; rw [pcells_ins, ← Nat.add_one_mul, ← Nat.add_mul, show i + 1 + (n - i) = n + 1 by omega] at hfin
             refine ⟨by rw [pcells_len (sv := 1) (fun q hq => (okIns hok hp q hq).1), List.length_append, List.length_cons, List.length_take, List.length_drop]; congr 1; omega, .inr ⟨g1, _, rfl, rfl, B3, by omega, hx1, ?_, hfin⟩⟩
             rw [← Nat.add_one_mul] at hog; rw [hog.2.2]; exact hz1)
          | (refine ⟨_, c, [g0], rfl, hE5, fun x hx => .inl hx, ?_⟩
             have hfin := hoi.1; rw [pcells_ins, ← Nat.add_one_mul] at hfin
             refine ⟨by rw [pcells_len (sv := 1) (fun q hq => (okIns hok hp q hq).1), List.length_append, List.length_cons, List.length_take, List.length_drop]; congr 1; omega, .inr ⟨g0, _, rfl, rfl, B5, by omega, hx0, ?_, hfin⟩⟩
             rw [hoi.2.2]; exact hz0)

end Go.Proofs.Ytiiiplhfgblamaa
/-
  The walks of package order.
-/
set_option linter.unusedVariables false
set_option linter.unusedSimpArgs false
set_option maxRecDepth 4000
namespace Go.Proofs.Ytiiiplhfgblamaa
open Go Brv
theorem scW_ok (a : Option Addr) (n c : Nat) (xs : List Value) (w : World) (hb : Cells w a xs) (hl : n * (1 + 1) = xs.length) (hone : ∀ u ∈ xs, u.oneCell' = true) (hn : n ≤ 1000000) : Meets Try.prog 125 [.slice a n c] w (Cloned w 176 (1 + 1) n xs) := by
  refine Meets.enter Try.func125 rfl 8 rfl (Nat.le_of_ble_eq_true rfl) ?_
  refine G.seq ?_
  refine G.region ?_
  refine L.val rfl rfl (R.as rfl) ?_
  refine L.nil ?_
  refine N.seq ?_
  refine G.seq ?_
  refine G.seq ?_
  refine G.region ?_
  refine L.val rfl rfl (R.mv rfl) ?_
  refine L.val rfl rfl (R.eqNilS rfl rfl) ?_
  refine L.nil ?_
  refine N.seq ?_
  refine G.condB rfl (fun h0 => ?_) (fun h0 => ?_)
  · obtain rfl : a = none := by simpa using h0
    obtain rfl := cells_none hb
    obtain rfl : n = 0 := by simp at hl; omega
    refine G.seq ?_
    refine G.region ?_
    refine L.val rfl rfl (R.as rfl) ?_
    refine L.nil ?_
    refine N.seq ?_
    refine G.ret1 rfl rfl ?_
    exact ⟨none, 0, [], rfl, Ext.refl _ _, Own.nil _ _ _, by simp⟩
  · refine G.skip ?_
    refine N.seq ?_
    refine G.seq ?_
    refine G.region ?_
    refine L.do rfl rfl (R.buildS rfl (by decide) rfl) ?_
    rintro _ w1 ⟨b5, rfl, hb5, hs5, e1, B5⟩
    have hb := hb.ext0 e1
    have o0 := Own.blk (n := 0) (size := 1 + 1) B5 (by simp) (by simp [maxLen])
    refine L.val rfl rfl (R.mv rfl) ?_
    refine L.do rfl rfl (R.app rfl rfl o0 hb hl.symm hone (by simp [maxLen]; omega) (by omega)) ?_
    rintro _ w2 ⟨a1, c1, M1, rfl, e2, hM1, o1⟩
    refine L.val rfl rfl (R.as rfl) ?_
    refine L.nil ?_
    refine N.seq ?_
    refine G.ret1 rfl rfl ?_
    exact ⟨a1, c1, M1, by rw [Nat.zero_add] , e1.trans e2 (by simp) (by simp; omega), by simpa using o1, by intro g hg; have := hM1 g hg; have := e1.size; simp at *; omega⟩

theorem onewW_ok  (w : World) : Meets Try.prog 77 [] w (fun v w' => ∃ b, v = .pointer (some ⟨b, 0, none⟩) ∧ w.heap.size ≤ b ∧ Ext [] w w' ∧ MapAt (κ := Int) 174 176 1 w' b [] [b]) := by
  refine Meets.enter Try.func77 rfl 3 rfl (Nat.le_of_ble_eq_true rfl) ?_
  have E := Ext.refl [] w
  refine G.seq ?_
  refine G.region ?_
  refine L.val rfl rfl (R.as rfl) ?_
  refine L.nil ?_
  refine N.seq ?_
  refine G.seq ?_
  refine G.region ?_
  refine L.val rfl rfl (R.build (cs := #[.slice none 0 0]) rfl rfl) ?_
  refine L.do rfl rfl (R.box rfl) ?_
  rintro _ w1 ⟨b, rfl, hb2, hs2, e1, B2⟩
  replace E := E.trans0 e1
  refine L.val rfl rfl (R.as rfl) ?_
  refine L.nil ?_
  refine N.seq ?_
  refine G.ret1 rfl rfl ?_
  exact ⟨b, rfl, by omega, E, MapAt.mk (M := []) (by simp) B2 rfl (Own.nil _ _ _) (by intro p hp; cases hp) List.Pairwise.nil⟩

theorem olenW_ok (m : Nat) (ps : List (Pr (Int))) (S : List Nat) (w : World) (hd : MapAt (κ := Int) 174 176 1 w m ps S) (hl : ps.length ≤ 99999) : Meets Try.prog 78 [.pointer (some ⟨m, 0, none⟩)] w (fun v w' => v = .int .i64 (ps.length : Int) ∧ w' = w) := by
  refine Meets.enter Try.func78 rfl 10 rfl (Nat.le_of_ble_eq_true rfl) ?_
  have hd0 := hd
  obtain ⟨a, c, M, rfl, hm0, Bm, om, hok, hs⟩ := hd
  refine G.seq ?_
  refine G.region ?_
  refine L.val rfl rfl (R.as rfl) ?_
  refine L.nil ?_
  refine N.seq ?_
  refine G.seq ?_
  refine G.seq ?_
  refine G.region ?_
  refine L.val rfl rfl (R.mv rfl) ?_
  refine L.val rfl rfl (R.eqNilP rfl rfl) ?_
  refine L.nil ?_
  refine N.seq ?_
  refine G.condF rfl ?_
  refine G.skip ?_
  refine N.seq ?_
  refine G.seq ?_
  refine G.region ?_
  refine L.val rfl rfl (R.mv rfl) ?_
  refine L.val rfl rfl (R.nilChk rfl) ?_
  refine L.val rfl rfl (R.fld rfl) ?_
  refine L.val rfl rfl (R.ldB rfl Bm rfl) ?_
  refine L.val rfl rfl (R.lenS rfl) ?_
  refine L.val rfl rfl (R.as rfl) ?_
  refine L.nil ?_
  refine N.seq ?_
  refine G.ret1 rfl rfl ?_
  exact ⟨rfl, rfl⟩

theorem putW_ok (m : Nat) (ps : List (Pr (Int))) (S : List Nat) (k : Int) (ua : Option Addr) (un uc : Nat) (w : World) (hd : MapAt (κ := Int) 174 176 1 w m ps S) (hl : ps.length ≤ 99999) : Meets Try.prog 79 [.pointer (some ⟨m, 0, none⟩), .int .i64 k, .slice ua un uc] w (fun v w' => v = .bool (!hasK ps k) ∧ ∃ S', Grown S S' w w' ∧ MapAt (κ := Int) 174 176 1 w' m (putK ps k [.slice ua un uc]) S') := by
  refine Meets.enter Try.func79 rfl 39 rfl (Nat.le_of_ble_eq_true rfl) ?_
  have E := Ext.refl [] w
  have hd0 := hd
  obtain ⟨a, c, M, rfl, hm0, Bm, om, hok, hs⟩ := hd
  have hone : ∀ u ∈ ([.slice ua un uc] : List Value), u.oneCell' = true := by intro x hx; rw [List.mem_singleton.1 hx]; rfl
  refine G.seq ?_
  refine G.region ?_
  refine L.val rfl rfl (R.as rfl) ?_
  refine L.nil ?_
  refine N.seq ?_
  refine G.seq ?_
  refine G.seq ?_
  refine G.region ?_
  refine L.val rfl rfl (R.mv rfl) ?_
  refine L.val rfl rfl (R.eqNilP rfl rfl) ?_
  refine L.nil ?_
  refine N.seq ?_
  refine G.condF rfl ?_
  refine G.skip ?_
  refine N.seq ?_
  refine G.seq ?_
  refine G.region ?_
  refine L.val rfl rfl (R.mv rfl) ?_
  refine L.val rfl rfl (R.mv rfl) ?_
  refine L.callF rfl rfl rfl go101 (findW_ok m ps (m :: M) k _ hd0 (by omega)) ?_
  rintro _ w1 ⟨rfl, e1⟩
  replace E := E.trans0 e1
  replace Bm := Bm.ext0 e1
  replace om := om.ext0 e1
  refine L.val rfl rfl (R.mv rfl) ?_
  refine L.val rfl rfl (R.ext rfl rfl) ?_
  refine L.val rfl rfl (R.ext rfl rfl) ?_
  refine L.val rfl rfl (R.as rfl) ?_
  refine L.val rfl rfl (R.as rfl) ?_
  refine L.nil ?_
  refine N.seq ?_
  refine G.seq ?_
  refine G.seq ?_
  refine G.region ?_
  refine L.val rfl rfl (R.mv rfl) ?_
  refine L.nil ?_
  refine N.seq ?_
  refine G.condB rfl (fun h1 => ?_) (fun h1 => ?_)
  · have hk : hasK ps k = true := h1
    have hlt := hasK_lt hk
    obtain ⟨g, cur, rfl, rfl, Bg, hnc, hcm, hcs, ht⟩ := om.some (by omega)
    have hgm : m ≠ g := fun h => hm0 (by simp [h])
    have hsz : low ps k * 2 + 2 ≤ cur.size := by
      have h9 : (low ps k + 1) * 2 ≤ c * 2 := Nat.mul_le_mul_right _ (by omega)
      rw [Nat.add_mul, Nat.one_mul] at h9
      exact Nat.le_trans h9 hcs
    refine G.seq ?_
    refine G.region ?_
    refine L.val rfl rfl (R.mv rfl) ?_
    refine L.val rfl rfl (R.nilChk rfl) ?_
    refine L.val rfl rfl (R.fld rfl) ?_
    refine L.val rfl rfl (R.ldB rfl Bm rfl) ?_
    refine L.val rfl rfl (R.mv rfl) ?_
    refine L.val rfl rfl (R.mv rfl) ?_
    refine L.val rfl rfl (R.idx rfl rfl (by omega) (by omega) _ rfl) ?_
    refine L.be 24 rfl (show _ = Value.pointer (some ⟨g, low ps k * 2, none⟩) by rw [Int.toNat_natCast, Go.Addr.add_lit, Nat.zero_add]) ?_
    refine L.val rfl rfl (R.fld rfl) ?_
    refine L.set rfl (R.st rfl rfl Bg (by omega) rfl) ?_
    rintro w2 ⟨e2, hs2, Bg⟩
    rw [set_at (by omega)] at Bg
    replace Bm := Bm.ext e2 (by simpa using hgm)
    have o2 := own_set (v := [.slice ua un uc]) rfl hok hs hk rfl hnc hcm hcs ht Bg
    have X := e2.after E
    refine L.nil ?_
    refine N.seq ?_
    refine G.seq ?_
    refine G.region ?_
    refine L.val rfl rfl (R.as rfl) ?_
    refine L.nil ?_
    refine N.seq ?_
    refine G.ret1 rfl rfl ?_
    first
      | exact ⟨by rw [hk]; rfl, [m, g], ⟨X.mono (fun x hx => .inl (List.mem_cons_of_mem _ hx)), fun x hx => .inl hx⟩, MapAt.mk hm0 Bm (by rw [put_len, if_pos hk]) o2 (hok.put ⟨rfl, hone⟩) (sorted_put hs _ _)⟩
      | exact ⟨by rw [hk]; rfl, m :: M3, ⟨X, fun x hx => (List.mem_cons.1 hx).elim (fun h => .inl (by simp [h])) (fun h => (hM3 x h).elim (fun h => .inl (List.mem_cons_of_mem _ h)) (fun h => .inr (by omega)))⟩, MapAt.mk hm3 Bm (by rw [put_len, if_neg (by simp [hk])]) (by rw [putK_no hk]; exact o4) (hok.put ⟨rfl, hone⟩) (sorted_put hs _ _)⟩
  · have hk : hasK ps k = false := h1
    have hio := low_le ps k
    have hMl := om.lt
    have hml := Bm.lt
    refine G.skip ?_
    refine N.seq ?_
    refine G.seq ?_
    refine G.region ?_
    refine L.val rfl rfl (R.mv rfl) ?_
    refine L.val rfl rfl (R.mv rfl) ?_
    refine L.val rfl rfl (R.nilChk rfl) ?_
    refine L.val rfl rfl (R.fld rfl) ?_
    refine L.val rfl rfl (R.ldB rfl Bm rfl) ?_
    refine L.val rfl rfl (R.mv rfl) ?_
    refine L.val rfl rfl (R.mv rfl) ?_
    refine L.val rfl rfl (R.mv rfl) ?_
    refine L.val rfl rfl (R.build (cs := #[.int .i64 k, .slice ua un uc]) rfl rfl) ?_
    refine L.do rfl rfl (R.buildA rfl rfl rfl rfl rfl) ?_
    rintro _ w2 ⟨vb, rfl, hvb, hs2, e2, Bv⟩
    replace Bv : Blk w2 vb (pcell ((k, [.slice ua un uc]) : Pr (Int))).toArray 176 (0, 0) := Bv
    replace E := E.trans0 e2
    replace Bm := Bm.ext0 e2
    replace om := om.ext0 e2
    have hvM : vb ∉ M := fun h => by have := hMl vb h; omega
    have hE2 := E.size
    have hws := e2.size
    refine L.callF rfl rfl rfl go102 (insW_ok a ps.length c ps M (low ps k) ((k, [.slice ua un uc]) : Pr (Int)) vb _ om rfl hok hio ⟨rfl, hone⟩ Bv hvM (by omega)) ?_
    rintro _ w3 ⟨a3, c3, M3, rfl, e3, hM3, o3⟩
    replace Bm := Bm.ext e3 hm0
    have hm3 : m ∉ M3 := fun h => (hM3 m h).elim hm0 (by omega)
    refine L.val rfl rfl (R.nilChk rfl) ?_
    refine L.val rfl rfl (R.fld rfl) ?_
    refine L.set rfl (R.st rfl rfl Bm (by show 0 < 1; decide) rfl) ?_
    rintro w4 ⟨e4, hs4, Bm⟩
    replace Bm : Blk w4 m #[.slice a3 (ps.length + 1) c3] 174 (0, 0) := Bm
    have o4 := o3.ext e4 (by intro g hg h; rw [List.mem_singleton.1 h] at hg; exact hm3 hg)
    have X : Ext (m :: M) w w4 := ((e3.after E).mono (fun x hx => .inl (List.mem_cons_of_mem _ hx))).transN e4 (fun x hx => .inl (by rw [List.mem_singleton.1 hx]; simp))
    refine L.nil ?_
    refine N.seq ?_
    refine G.seq ?_
    refine G.region ?_
    refine L.val rfl rfl (R.as rfl) ?_
    refine L.nil ?_
    refine N.seq ?_
    refine G.ret1 rfl rfl ?_
    first
      | exact ⟨by rw [hk]; rfl, [m, g], ⟨X.mono (fun x hx => .inl (List.mem_cons_of_mem _ hx)), fun x hx => .inl hx⟩, MapAt.mk hm0 Bm (by rw [put_len, if_pos hk]) o2 (hok.put ⟨rfl, hone⟩) (sorted_put hs _ _)⟩
      | exact ⟨by rw [hk]; rfl, m :: M3, ⟨X, fun x hx => (List.mem_cons.1 hx).elim (fun h => .inl (by simp [h])) (fun h => (hM3 x h).elim (fun h => .inl (List.mem_cons_of_mem _ h)) (fun h => .inr (by omega)))⟩, MapAt.mk hm3 Bm (by rw [put_len, if_neg (by simp [hk])]) (by rw [putK_no hk]; exact o4) (hok.put ⟨rfl, hone⟩) (sorted_put hs _ _)⟩

theorem getW_ok (m : Nat) (ps : List (Pr (Int))) (S : List Nat) (k : Int) (w : World) (hd : MapAt (κ := Int) 174 176 1 w m ps S) (hl : ps.length ≤ 99999) : Meets Try.prog 103 [.pointer (some ⟨m, 0, none⟩), .int .i64 k] w (fun v w' => v = .tuple #[gv1 (.slice none 0 0) (getK ps k), .bool (hasK ps k)] ∧ Ext [] w w') := by
  refine Meets.enter Try.func103 rfl 29 rfl (Nat.le_of_ble_eq_true rfl) ?_
  have E := Ext.refl [] w
  have hd0 := hd
  obtain ⟨a, c, M, rfl, hm0, Bm, om, hok, hs⟩ := hd
  refine G.seq ?_
  refine G.region ?_
  refine L.val rfl rfl (R.as rfl) ?_
  refine L.val rfl rfl (R.as rfl) ?_
  refine L.nil ?_
  refine N.seq ?_
  refine G.seq ?_
  refine G.region ?_
  refine L.val rfl rfl (R.as rfl) ?_
  refine L.nil ?_
  refine N.seq ?_
  refine G.seq ?_
  refine G.seq ?_
  refine G.region ?_
  refine L.val rfl rfl (R.mv rfl) ?_
  refine L.val rfl rfl (R.eqNilP rfl rfl) ?_
  refine L.nil ?_
  refine N.seq ?_
  refine G.condF rfl ?_
  refine G.skip ?_
  refine N.seq ?_
  refine G.seq ?_
  refine G.region ?_
  refine L.val rfl rfl (R.mv rfl) ?_
  refine L.val rfl rfl (R.mv rfl) ?_
  refine L.callF rfl rfl rfl go101 (findW_ok m ps (m :: M) k _ hd0 (by omega)) ?_
  rintro _ w1 ⟨rfl, e1⟩
  replace E := E.trans0 e1
  replace Bm := Bm.ext0 e1
  replace om := om.ext0 e1
  refine L.val rfl rfl (R.mv rfl) ?_
  refine L.val rfl rfl (R.ext rfl rfl) ?_
  refine L.val rfl rfl (R.ext rfl rfl) ?_
  refine L.val rfl rfl (R.as rfl) ?_
  refine L.val rfl rfl (R.as rfl) ?_
  refine L.nil ?_
  refine N.seq ?_
  refine G.seq ?_
  refine G.seq ?_
  refine G.region ?_
  refine L.val rfl rfl (R.mv rfl) ?_
  refine L.val rfl rfl (R.not rfl) ?_
  refine L.nil ?_
  refine N.seq ?_
  refine G.condB rfl (fun h1 => ?_) (fun h1 => ?_)
  · have hk : hasK ps k = false := by simpa using h1
    refine G.seq ?_
    refine G.region ?_
    refine L.val rfl rfl (R.mv rfl) ?_
    refine L.val rfl rfl (R.as rfl) ?_
    refine L.val rfl rfl (R.as rfl) ?_
    refine L.nil ?_
    refine N.seq ?_
    refine G.ret2 rfl rfl rfl ?_
    first
      | (rw [getK_no hk, hk]; exact ⟨rfl, E⟩)
      | (rw [getK_yes hk hp, hk, hx]; exact ⟨rfl, E⟩)
  · have hk : hasK ps k = true := by simpa using h1
    have hlt := hasK_lt hk
    obtain ⟨g, cur, rfl, rfl, Bg, hnc, hcm, hcs, ht⟩ := om.some (by omega)
    have hgm : m ≠ g := fun h => hm0 (by simp [h])
    have hsz : low ps k * 2 + 2 ≤ cur.size := by
      have h9 : (low ps k + 1) * 2 ≤ c * 2 := Nat.mul_le_mul_right _ (by omega)
      rw [Nat.add_mul, Nat.one_mul] at h9
      exact Nat.le_trans h9 hcs
    obtain ⟨p, hp⟩ : ∃ p, ps[low ps k]? = some p := ⟨_, List.getElem?_eq_getElem hlt⟩
    obtain ⟨x, hx⟩ := List.length_eq_one_iff.1 (hok p (List.mem_of_getElem? hp)).1
    have hcx : cur[low ps k * 2 + 1]? = some x := row_at ht hok hp (by show (Key.val p.1 :: p.2)[1]? = _; rw [hx]; rfl)
    refine G.skip ?_
    refine N.seq ?_
    refine G.seq ?_
    refine G.region ?_
    refine L.val rfl rfl (R.mv rfl) ?_
    refine L.val rfl rfl (R.nilChk rfl) ?_
    refine L.val rfl rfl (R.fld rfl) ?_
    refine L.val rfl rfl (R.ldB rfl Bm rfl) ?_
    refine L.val rfl rfl (R.mv rfl) ?_
    refine L.val rfl rfl (R.idx rfl rfl (by omega) (by omega) _ rfl) ?_
    refine L.be 26 rfl (show _ = Value.pointer (some ⟨g, low ps k * 2, none⟩) by rw [Int.toNat_natCast, Go.Addr.add_lit, Nat.zero_add]) ?_
    refine L.val rfl rfl (R.fld rfl) ?_
    refine L.val rfl rfl (R.ldB rfl Bg hcx) ?_
    refine L.val rfl rfl (R.as rfl) ?_
    refine L.val rfl rfl (R.as rfl) ?_
    refine L.nil ?_
    refine N.seq ?_
    refine G.ret2 rfl rfl rfl ?_
    first
      | (rw [getK_no hk, hk]; exact ⟨rfl, E⟩)
      | (rw [getK_yes hk hp, hk, hx]; exact ⟨rfl, E⟩)

end Go.Proofs.Ytiiiplhfgblamaa
/-
  The walks of package order.
-/
set_option linter.unusedVariables false
set_option linter.unusedSimpArgs false
set_option maxRecDepth 4000
namespace Go.Proofs.Ytiiiplhfgblamaa
open Go Brv
end Go.Proofs.Ytiiiplhfgblamaa
/-
  The walks of package order.
-/
set_option linter.unusedVariables false
set_option linter.unusedSimpArgs false
set_option maxRecDepth 4000
namespace Go.Proofs.Ytiiiplhfgblamaa
open Go Brv
theorem pallW_ok (a : Option Addr) (n c : Nat) (w : World) : Meets Try.prog 124 [.slice a n c] w (fun v w' => ∃ b0, v = .func (.func 131) #[] #[.pointer (some ⟨b0, 0, none⟩)] ∧ Ext [] w w' ∧ Blk w' b0 #[.slice a n c] 172 (0, 0) ∧ w.heap.size ≤ b0) := by
  refine Meets.enter Try.func124 rfl 4 rfl (Nat.le_of_ble_eq_true rfl) ?_
  have E := Ext.refl [] w
  refine G.seq ?_
  refine G.region ?_
  refine L.do rfl rfl (R.box rfl) ?_
  rintro _ w1 ⟨b0, rfl, hb1, hs1, e1, B1⟩
  replace E := E.trans0 e1
  refine L.val rfl rfl (R.as rfl) ?_
  refine L.nil ?_
  refine N.seq ?_
  refine G.seq ?_
  refine G.region ?_
  refine L.val rfl rfl (R.mkFunc rfl rfl) ?_
  refine L.val rfl rfl (R.as rfl) ?_
  refine L.nil ?_
  refine N.seq ?_
  refine G.ret1 rfl rfl ?_
  exact ⟨b0, rfl, E, B1, by omega⟩

theorem pall1W_ok (y : Value) (b0 : Nat) (a : Option Addr) (n c : Nat) (ps : List (Pr (Int))) (Ma : List Nat) (D₀ : List Nat) (J Jx : Nat → List Nat → World → Prop) (w : World) (hB0 : Blk w b0 #[.slice a n c] 172 (0, 0)) (ho : Own w 176 (1 + 1) a n c (pcells ps) Ma) (hn : n = ps.length) (hok : OkP 1 ps) (hnl : n ≤ 1000000) (hD : ∀ g ∈ D₀, g < w.heap.size ∧ g ∉ b0 :: Ma ∧ g ∉ ([] : List Nat)) (hJ : ∀ k D W₁ W₂ M', J k D W₁ → Ext M' W₁ W₂ → (∀ g ∈ M', g ∉ D ∧ (g ∈ ([] : List Nat) ∨ w.heap.size ≤ g)) → J k D W₂) (hJx : ∀ k D W₁ W₂ M', Jx k D W₁ → Ext M' W₁ W₂ → (∀ g ∈ M', g ∉ D ∧ (g ∈ ([] : List Nat) ∨ w.heap.size ≤ g)) → Jx k D W₂) (hY : ∀ k D vs W₁, k < n → J k D W₁ → prE (fun k => ps[k]?) k vs W₁ → (∀ g ∈ D, g < W₁.heap.size) → YCall Try.prog y vs W₁ fun b W₂ => ∃ D', Ext D W₁ W₂ ∧ (∀ g ∈ D', g < W₂.heap.size ∧ (g ∈ D ∨ W₁.heap.size ≤ g)) ∧ (b = true → J (k + 1) D' W₂) ∧ (b = false → Jx (k + 1) D' W₂)) (h0 : J 0 D₀ w) : Meets Try.prog 131 [y, .pointer (some ⟨b0, 0, none⟩)] w (fun _ W₂ => (∃ D, J n D W₂ ∧ True) ∨ ∃ k D, k ≤ n ∧ Jx k D W₂ ∧ True) := by
  refine Meets.enter Try.func131 rfl 18 rfl (Nat.le_of_ble_eq_true rfl) ?_
  have hb0D : b0 ∉ D₀ := fun h => (hD _ h).2.1 (by simp)
  have hMD : ∀ g ∈ Ma, g ∉ D₀ := fun g hg h => (hD _ h).2.1 (by simp [hg])
  refine G.seq ?_
  refine G.region ?_
  refine L.val rfl rfl (R.ldB rfl hB0 rfl) ?_
  refine L.val rfl rfl (R.lenS rfl) ?_
  refine L.val rfl rfl (R.mv rfl) ?_
  refine L.nil ?_
  refine N.seq ?_
  refine G.block ?_
  refine G.loop (X := Nat) (fun i => [(0, y), (5, .slice a n c), (6, .int .i64 (n : Int)), (7, .int .i64 (i : Int))]) (fun i w' => i ≤ n ∧ (∃ D, J i D w' ∧ ∀ g ∈ D, g < w'.heap.size ∧ (g ∈ D₀ ∨ w.heap.size ≤ g)) ∧ Ext D₀ w w') (fun i => n - i) (0) (Sub.cons rfl (Sub.cons rfl (Sub.cons rfl (Sub.cons rfl (Sub.nil _))))) ⟨Nat.zero_le _, ⟨D₀, h0, fun g hg => ⟨(hD g hg).1, .inl hg⟩⟩, Ext.refl _ _⟩ ?_
  rintro i w1 ⟨hi, ⟨D, hJi, hDD⟩, e1⟩
  have ho1 := ho.ext e1 hMD
  have B0 := hB0.ext e1 hb0D
  refine G.seq ?_
  refine G.region ?_
  refine L.val rfl rfl (R.lss rfl rfl) ?_
  refine L.nil ?_
  refine N.seq ?_
  refine G.seq ?_
  refine G.condP rfl (fun h0 => ?_) (fun h0 => ?_)
  · have hil : i < n := by omega
    have hes := e1.size
    obtain ⟨p, hp⟩ : ∃ p, ps[i]? = some p := ⟨_, List.getElem?_eq_getElem (by omega)⟩
    obtain ⟨q, hq, hcl⟩ := (Tab.pairs ho1.cells hn hok).at (by decide) i (by rw [List.length_map]; omega)
    have he : (ps.map pcell)[i]'(by rw [List.length_map]; omega) = pcell p := by rw [List.getElem_map]; exact congrArg pcell (List.getElem?_eq_some_iff.1 hp).2
    rw [he] at hcl
    have hsz : (pcell p).length = 2 := by show p.2.length + 1 = _; rw [(hok p (List.mem_of_getElem? hp)).1]
    have hsA : (pcell p).toArray.size = 2 := by rw [List.size_toArray]; exact hsz
    have h1c : ∀ u ∈ (pcell p).toArray.toList, u.oneCell' = true := pcell1 (hok p (List.mem_of_getElem? hp)).2
    refine G.skip ?_
    refine N.seq ?_
    refine G.seq ?_
    refine G.block ?_
    refine G.seq ?_
    refine G.region ?_
    refine L.val rfl rfl (R.mv rfl) ?_
    refine L.val rfl rfl (R.idx rfl rfl (by omega) (by omega) q hq) ?_
    refine L.val rfl rfl (R.ldN (vs := pcell p) rfl hcl hsz) ?_
    refine L.do rfl rfl (R.alloc) ?_
    rintro _ w2 ⟨b4, rfl, hb4, hs4, e2, B4⟩
    have hDb : ∀ g ∈ D, g < b4 := fun g hg => by have := (hDD g hg).1; omega
    replace B4 : Blk w2 b4 (.agg #[.int .i64 0, .slice none 0 0] : Value).cells 176 (0, 0) := B4
    replace hJi := hJ _ D w1 w2 [] hJi e2 (by simp)
    replace hDD := fun g hg => And.intro (Nat.lt_of_lt_of_le (hDD g hg).1 e2.size) (hDD g hg).2
    replace e1 := e1.trans0 e2
    have hws := e1.size
    refine L.val rfl rfl (R.as rfl) ?_
    refine L.set rfl (R.stN rfl rfl B4 hsA (by show 0 + (pcell p).toArray.size ≤ 2; omega) h1c) ?_
    rintro w3 ⟨e3, hs3, B4⟩
    rw [over_all (show (.agg #[.int .i64 0, .slice none 0 0] : Value).cells.size = (pcell p).toArray.size from hsA.symm)] at B4
    replace hJi := hJ _ D w2 w3 [b4] hJi e3 (fun g hg => by rw [List.mem_singleton.1 hg]; exact ⟨fun h => by have := hDb _ h; omega, .inr (by omega)⟩)
    replace hDD := fun g hg => And.intro (Nat.lt_of_lt_of_le (hDD g hg).1 e3.size) (hDD g hg).2
    replace e1 := e1.transN e3 (fun g hg => .inr (by rw [List.mem_singleton.1 hg]; omega))
    refine L.nil ?_
    refine N.seq ?_
    refine G.seq ?_
    refine G.region ?_
    refine L.val rfl rfl (R.mv rfl) ?_
    refine L.val rfl rfl (R.mv rfl) ?_
    refine L.val rfl rfl (R.ldBN rfl B4 hsA) ?_
    refine L.ycall rfl rfl rfl rfl (hY i D _ _ hil hJi ⟨p, _, hp, rfl⟩ (fun g hg => (hDD g hg).1)) ?_
    rintro bb w4 ⟨D2, eD, hD2, hT, hF⟩
    refine L.val rfl rfl (R.not rfl) ?_
    refine L.nil ?_
    refine N.seq ?_
    refine G.condB rfl (fun h1 => ?_) (fun h1 => ?_)
    · obtain rfl : bb = false := by simpa using h1
      refine G.ret0 rfl ?_
      exact .inr ⟨i + 1, D2, by omega, hF rfl, trivial⟩
    · obtain rfl : bb = true := by simpa using h1
      refine G.skip ?_
      refine N.block ?_
      refine N.seq ?_
      refine G.region ?_
      refine L.val rfl rfl (R.add rfl rfl (by omega)) ?_
      refine L.val rfl rfl (R.mv rfl) ?_
      refine L.nil ?_
      exact N.again (i + 1) (by omega) (Sub.cons rfl (Sub.cons rfl (Sub.cons rfl (Sub.cons rfl (Sub.nil _))))) ⟨by omega, ⟨D2, hT rfl, fun g hg => ⟨(hD2 g hg).1, (hD2 g hg).2.elim (fun h => (hDD g h).2) (fun h => .inr (Nat.le_trans e1.size h))⟩⟩, e1.transN eD (fun g hg => (hDD g hg).2)⟩
  · refine G.exit _ rfl ?_
    refine N.end0 rfl ?_
    obtain rfl : i = n := by omega
    exact .inl ⟨D, hJi, trivial⟩

theorem pallW_iter (b0 : Nat) (a : Option Addr) (n c : Nat) (ps : List (Pr (Int))) (Ma : List Nat) (w : World) (hB0 : Blk w b0 #[.slice a n c] 172 (0, 0)) (ho : Own w 176 (1 + 1) a n c (pcells ps) Ma) (hn : n = ps.length) (hok : OkP 1 ps) (hnl : n ≤ 1000000) : Iter Try.prog 131 [.pointer (some ⟨b0, 0, none⟩)] w n (prE (fun k => ps[k]?)) (fun _ _ => True) (b0 :: Ma) [] := by
  intro y D₀ J Jx W hE hD hJ hJx hY h0
  exact pall1W_ok y b0 a n c ps Ma D₀ J Jx W (hB0.ext0 hE) (ho.ext0 hE) hn hok hnl hD (fun k D W₁ W₂ M' h he hm => hJ k D W₁ W₂ M' h he (fun g hg => ⟨(hm g hg).1, (hm g hg).2.imp id (Nat.le_trans hE.size)⟩)) (fun k D W₁ W₂ M' h he hm => hJx k D W₁ W₂ M' h he (fun g hg => ⟨(hm g hg).1, (hm g hg).2.imp id (Nat.le_trans hE.size)⟩)) hY h0

theorem walkW_ok (gf : FuncId) (lb : List Value) (w : World) : Meets Try.prog 123 [.func (.func gf) #[] lb.toArray] w (fun v w' => ∃ b1, v = .func (.func 130) #[] #[.pointer (some ⟨b1, 0, none⟩)] ∧ Ext [] w w' ∧ Blk w' b1 #[.func (.func gf) #[] lb.toArray] 200 (0, 0) ∧ w.heap.size ≤ b1) := by
  refine Meets.enter Try.func123 rfl 4 rfl (Nat.le_of_ble_eq_true rfl) ?_
  have E := Ext.refl [] w
  refine G.seq ?_
  refine G.region ?_
  refine L.do rfl rfl (R.box rfl) ?_
  rintro _ w1 ⟨b1, rfl, hb1, hs1, e1, B1⟩
  replace E := E.trans0 e1
  refine L.val rfl rfl (R.as rfl) ?_
  refine L.nil ?_
  refine N.seq ?_
  refine G.seq ?_
  refine G.region ?_
  refine L.val rfl rfl (R.mkFunc rfl rfl) ?_
  refine L.val rfl rfl (R.as rfl) ?_
  refine L.nil ?_
  refine N.seq ?_
  refine G.ret1 rfl rfl ?_
  exact ⟨b1, rfl, E, B1, by omega⟩

theorem walk1W_ok (y : Value) (b1 : Nat) (gf : FuncId) (lb : List Value) (Nn : Nat) (q : Nat → Option (Pr (Int))) (F : List Nat) (D₀ : List Nat) (J Jx : Nat → List Nat → World → Prop) (w : World) (hB1 : Blk w b1 #[.func (.func gf) #[] lb.toArray] 200 (0, 0)) (eg : ∀ (vs : Array Value) w, (callFunc gf vs).run Try.prog w = .ok (.enter gf vs) w) (hit : ∀ W, Ext [] w W → Iter Try.prog gf lb W Nn (prE q) (fun _ _ => True) F []) (hF : ∀ x ∈ F, x < w.heap.size) (hq : ∀ k (p : Pr (Int)), q k = some p → p.2.length = 1 ∧ ∀ u ∈ p.2, u.oneCell' = true) (hD : ∀ g ∈ D₀, g < w.heap.size ∧ g ∉ b1 :: F ∧ g ∉ ([] : List Nat)) (hJ : ∀ k D W₁ W₂ M', J k D W₁ → Ext M' W₁ W₂ → (∀ g ∈ M', g ∉ D ∧ (g ∈ ([] : List Nat) ∨ w.heap.size ≤ g)) → J k D W₂) (hJx : ∀ k D W₁ W₂ M', Jx k D W₁ → Ext M' W₁ W₂ → (∀ g ∈ M', g ∉ D ∧ (g ∈ ([] : List Nat) ∨ w.heap.size ≤ g)) → Jx k D W₂) (hY : ∀ k D vs W₁, k < Nn → J k D W₁ → (kvE gv1' q) k vs W₁ → (∀ g ∈ D, g < W₁.heap.size) → YCall Try.prog y vs W₁ fun b W₂ => ∃ D', Ext D W₁ W₂ ∧ (∀ g ∈ D', g < W₂.heap.size ∧ (g ∈ D ∨ W₁.heap.size ≤ g)) ∧ (b = true → J (k + 1) D' W₂) ∧ (b = false → Jx (k + 1) D' W₂)) (h0 : J 0 D₀ w) : Meets Try.prog 130 [y, .pointer (some ⟨b1, 0, none⟩)] w (fun _ W₂ => (∃ D, J Nn D W₂ ∧ True) ∨ ∃ k D, k ≤ Nn ∧ Jx k D W₂ ∧ True) := by
  refine Meets.enter Try.func130 rfl 15 rfl (Nat.le_of_ble_eq_true rfl) ?_
  refine G.seq ?_
  refine G.region ?_
  refine L.do rfl rfl (R.box rfl) ?_
  rintro _ w1 ⟨b2, rfl, hb2, hs2, e1, B2⟩
  have hw1 := e1.size
  refine L.nil ?_
  refine N.seq ?_
  refine G.seq ?_
  refine G.region ?_
  refine L.val rfl rfl (R.ldB rfl (hB1.ext0 e1) rfl) ?_
  refine L.nil ?_
  refine N.seq ?_
  refine G.block ?_
  have hD0 : ∀ g ∈ b2 :: D₀, g < w1.heap.size ∧ g ∉ F ∧ g ∉ ([] : List Nat) := by
    intro g hg
    rcases List.mem_cons.1 hg with rfl | hg
    · exact ⟨by omega, fun h => by have := hF _ h; omega, by simp⟩
    · exact ⟨Nat.lt_of_lt_of_le (hD g hg).1 hw1, fun h => (hD g hg).2.1 (List.mem_cons_of_mem _ h), by simp⟩
  have hI0 : wkI J b2 138 y 0 (b2 :: D₀) w1 := ⟨D₀, rfl, fun h => by have := (hD _ h).1; omega, hJ 0 D₀ w w1 [] h0 e1 (by simp), B2⟩
  refine G.range (lb := lb) rfl rfl eg (hit _ e1) (fun _ _ _ h _ => h) (b2 :: D₀) hD0 (fun x h => h.elim (fun h => Nat.lt_of_lt_of_le (hF x h) hw1) (by simp)) (wkI J b2 138 y) (wkX Jx b2) ?_ ?_ hI0 ?_ ?_ ?_
  · rintro k DD W1 W2 M2 ⟨D, rfl, hn2, hj, hb⟩ he hm
    exact ⟨D, rfl, hn2, hJ k D W1 W2 M2 hj he (fun g hg => ⟨fun h => (hm g hg).1 (List.mem_cons_of_mem _ h), (hm g hg).2.imp id (Nat.le_trans hw1)⟩), hb.ext he (fun h => (hm _ h).1 (by simp))⟩
  · rintro c k DD W1 W2 M2 ⟨hc, D, rfl, hn2, hj⟩ he hm
    exact ⟨hc, D, rfl, hn2, hJx k D W1 W2 M2 hj he (fun g hg => ⟨fun h => (hm g hg).1 (List.mem_cons_of_mem _ h), (hm g hg).2.imp id (Nat.le_trans hw1)⟩)⟩
  · rintro l k DD vs W1 hl2 hlt hlD hDl hk ⟨D, rfl, hn2, hj, B2⟩ ⟨p, v0, hp, rfl⟩
    refine ⟨rfl, ?_⟩
    refine G.sub [(7, .agg (pcell p).toArray), (2, .pointer (some ⟨b2, 0, none⟩))] (Sub.cons rfl (Sub.cons rfl (Sub.nil _))) ?_
    have hpl := hq k p hp
    have hsz : (pcell p).length = 2 := by show p.2.length + 1 = _; rw [hpl.1]
    have hsA : (pcell p).toArray.size = 2 := by rw [List.size_toArray]; exact hsz
    have h1c : ∀ u ∈ (pcell p).toArray.toList, u.oneCell' = true := pcell1 hpl.2
    have l2 := B2.lt
    refine G.region ?_
    refine L.do rfl rfl (R.alloc) ?_
    rintro _ w2 ⟨b4, rfl, hb4, hs4, e2, B4⟩
    replace B4 : Blk w2 b4 (.agg #[.int .i64 0, .slice none 0 0] : Value).cells 176 (0, 0) := B4
    refine L.set rfl (R.stN rfl rfl B4 hsA (by show 0 + (pcell p).toArray.size ≤ 2; omega) h1c) ?_
    rintro w3 ⟨e3, hs3, B4⟩
    rw [over_all (show (.agg #[.int .i64 0, .slice none 0 0] : Value).cells.size = (pcell p).toArray.size from hsA.symm)] at B4
    have hEW := e2.news2 e3 (by omega)
    refine L.nil ?_
    refine N.round (hEW) (fun wb hb1 hb2 => ?_)
    replace B4 := B4.still hb2
    replace B2 := (B2.ext0 hEW).still hb2
    have hjw := hJ k D _ wb [l] (hJ k D W1 _ [] hj hEW (by simp)) hb1 (fun g hg => by rw [List.mem_singleton.1 hg]; exact ⟨fun h => hlD (List.mem_cons_of_mem _ h), .inr (by omega)⟩)
    have hDw : ∀ g ∈ D, g < wb.heap.size := fun g hg => Nat.lt_of_lt_of_le (hDl g (List.mem_cons_of_mem _ hg)) (Nat.le_trans hEW.size hb1.size)
    have l2b := B2.lt
    obtain ⟨x, hx⟩ := List.length_eq_one_iff.1 hpl.1
    have hyc := hY k D [.int .i64 p.1, x] wb hk hjw ⟨p, hp, by rw [hx]; rfl⟩ hDw
    have hcy : y.cells = #[y] := by rcases hyc with ⟨l9, rfl, _⟩ | ⟨f9, u9, c9, rfl, _⟩ <;> rfl
    rw [hcy] at B2
    refine G.block ?_
    refine G.seq ?_
    refine G.region ?_
    refine L.val rfl rfl (R.ldB rfl B2 rfl) ?_
    refine L.val rfl rfl (R.fld rfl) ?_
    refine L.val rfl rfl (R.ldB (v := .int .i64 p.1) rfl B4 rfl) ?_
    refine L.val rfl rfl (R.fld rfl) ?_
    refine L.val rfl rfl (R.ldB (v := x) rfl B4 (by show (Key.val p.1 :: p.2).toArray[1]? = _; rw [hx]; rfl)) ?_
    refine L.ycall rfl rfl rfl rfl hyc ?_
    rintro bb w7 ⟨D2, eD, hD2, hT, hFl⟩
    have X : Ext (b2 :: D) wb w7 := eD.mono (fun g hg => .inl (List.mem_cons_of_mem _ hg))
    have hn3 : b2 ∉ D2 := fun h => (hD2 b2 h).2.elim hn2 (fun h => by omega)
    have hDD : ∀ g ∈ b2 :: D2, g < w7.heap.size ∧ (g ∈ b2 :: D ∨ wb.heap.size ≤ g) := by
      intro g hg
      rcases List.mem_cons.1 hg with rfl | hg
      · exact ⟨Nat.lt_of_lt_of_le l2b eD.size, .inl (by simp)⟩
      · exact ⟨(hD2 g hg).1, (hD2 g hg).2.imp (fun h => List.mem_cons_of_mem _ h) id⟩
    refine L.val rfl rfl (R.not rfl) ?_
    refine L.nil ?_
    refine N.seq ?_
    refine G.condB rfl (fun h0 => ?_) (fun h0 => ?_)
    · obtain rfl : bb = false := by simpa using h0
      refine G.ret fun _ _ => ?_
      exact ⟨b2 :: D2, X, hDD, rfl, D2, rfl, hn3, hFl rfl⟩
    · obtain rfl : bb = true := by simpa using h0
      refine G.skip ?_
      refine N.block ?_
      refine N.done fun _ _ => ?_
      exact ⟨b2 :: D2, X, hDD, D2, rfl, hn3, hT rfl, by rw [hcy]; exact B2.ext eD hn2⟩
  · rintro d DD W2 hd hdD hK ⟨D, rfl, hn2, hj, B2⟩ _
    refine N.block ?_
    refine N.end0M rfl (leave1 hK) ?_
    exact .inl ⟨D, hJ Nn D W2 _ [d] hj (Ext.putObj _ _ _) (fun g hg => by rw [List.mem_singleton.1 hg]; exact ⟨fun h => hdD (List.mem_cons_of_mem _ h), .inr (by omega)⟩), trivial⟩
  · rintro d DD k c W2 hd hdD hK hk ⟨rfl, D, rfl, hn2, hj⟩ _
    refine G.ret0M rfl (leave1 hK) ?_
    exact .inr ⟨k, D, hk, hJx k D W2 _ [d] hj (Ext.putObj _ _ _) (fun g hg => by rw [List.mem_singleton.1 hg]; exact ⟨fun h => hdD (List.mem_cons_of_mem _ h), .inr (by omega)⟩), trivial⟩

theorem walkW_iter (b1 : Nat) (gf : FuncId) (lb : List Value) (Nn : Nat) (q : Nat → Option (Pr (Int))) (F : List Nat) (w : World) (hB1 : Blk w b1 #[.func (.func gf) #[] lb.toArray] 200 (0, 0)) (eg : ∀ (vs : Array Value) w, (callFunc gf vs).run Try.prog w = .ok (.enter gf vs) w) (hit : ∀ W, Ext [] w W → Iter Try.prog gf lb W Nn (prE q) (fun _ _ => True) F []) (hF : ∀ x ∈ F, x < w.heap.size) (hq : ∀ k (p : Pr (Int)), q k = some p → p.2.length = 1 ∧ ∀ u ∈ p.2, u.oneCell' = true) : Iter Try.prog 130 [.pointer (some ⟨b1, 0, none⟩)] w Nn (kvE gv1' q) (fun _ _ => True) (b1 :: F) [] := by
  intro y D₀ J Jx W hE hD hJ hJx hY h0
  exact walk1W_ok y b1 gf lb Nn q F D₀ J Jx W (hB1.ext0 hE) eg (fun W' h => hit W' (hE.trans0 h)) (fun x hx => Nat.lt_of_lt_of_le (hF x hx) hE.size) hq hD (fun k D W₁ W₂ M' h he hm => hJ k D W₁ W₂ M' h he (fun g hg => ⟨(hm g hg).1, (hm g hg).2.imp id (Nat.le_trans hE.size)⟩)) (fun k D W₁ W₂ M' h he hm => hJx k D W₁ W₂ M' h he (fun g hg => ⟨(hm g hg).1, (hm g hg).2.imp id (Nat.le_trans hE.size)⟩)) hY h0

end Go.Proofs.Ytiiiplhfgblamaa
/-
  The walks of package order.
-/
set_option linter.unusedVariables false
set_option linter.unusedSimpArgs false
set_option maxRecDepth 4000
namespace Go.Proofs.Ytiiiplhfgblamaa
open Go Brv
theorem oallW_ok (m : Nat) (ps : List (Pr (Int))) (S : List Nat) (w : World) (hd : MapAt (κ := Int) 174 176 1 w m ps S) (hl : ps.length ≤ 99999) : Meets Try.prog 105 [.pointer (some ⟨m, 0, none⟩)] w (fun v w' => ∃ lb F, v = .func (.func 130) #[] (lb : List Value).toArray ∧ Ext [] w w' ∧ (∀ W, Ext [] w' W → Iter Try.prog 130 lb W ps.length (kvE gv1' (fun k => ps[k]?)) (fun _ _ => True) F []) ∧ ∀ x ∈ F, w.heap.size ≤ x ∧ x < w'.heap.size) := by
  refine Meets.enter Try.func105 rfl 15 rfl (Nat.le_of_ble_eq_true rfl) ?_
  have E := Ext.refl [] w
  have hd0 := hd
  obtain ⟨a, c, M, rfl, hm0, Bm, om, hok, hs⟩ := hd
  refine G.seq ?_
  refine G.region ?_
  refine L.val rfl rfl (R.as rfl) ?_
  refine L.nil ?_
  refine N.seq ?_
  refine G.seq ?_
  refine G.seq ?_
  refine G.region ?_
  refine L.val rfl rfl (R.mv rfl) ?_
  refine L.val rfl rfl (R.eqNilP rfl rfl) ?_
  refine L.nil ?_
  refine N.seq ?_
  refine G.condF rfl ?_
  refine G.skip ?_
  refine N.seq ?_
  refine G.seq ?_
  refine G.region ?_
  refine L.val rfl rfl (R.mv rfl) ?_
  refine L.val rfl rfl (R.nilChk rfl) ?_
  refine L.val rfl rfl (R.fld rfl) ?_
  refine L.val rfl rfl (R.ldB rfl Bm rfl) ?_
  refine L.callF rfl rfl rfl go125 (scW_ok _ _ _ _ _ om.cells (by rw [om.1]) (pcell_one hok) (by omega)) ?_
  rintro _ w1 ⟨a1, c1, M1, rfl, e1, o1, hM1⟩
  have hE0 := E.size
  replace E := E.trans0 e1
  have hl1 := o1.lt
  have hE1 := E.size
  refine L.callF rfl rfl rfl go124 (pallW_ok a1 ps.length c1 _) ?_
  rintro _ w2 ⟨b0, rfl, e2, B0, hb0⟩
  have hE2 := E.size
  replace E := E.trans0 e2
  replace o1 := o1.ext0 e2
  have l0 := B0.lt
  have hE3 := E.size
  refine L.callF rfl rfl rfl go123 (walkW_ok 131 [.pointer (some ⟨b0, 0, none⟩)] _) ?_
  rintro _ w3 ⟨b1, rfl, e3, B1, hb1⟩
  replace E := E.trans0 e3
  replace o1 := o1.ext0 e3
  replace B0 := B0.ext0 e3
  have l1 := B1.lt
  have hs3 := e3.size
  have hs2 := e2.size
  have hFl : ∀ y ∈ b1 :: b0 :: M1, w.heap.size ≤ y ∧ y < w3.heap.size := by
    intro y hy
    simp only [List.mem_cons] at hy
    rcases hy with rfl | rfl | hy
    · exact ⟨by omega, l1⟩
    · exact ⟨by omega, by omega⟩
    · have := hl1 y hy; have := hM1 y hy; exact ⟨by omega, by omega⟩
  refine L.val rfl rfl (R.as rfl) ?_
  refine L.nil ?_
  refine N.seq ?_
  refine G.ret1 rfl rfl ?_
  exact ⟨[.pointer (some ⟨b1, 0, none⟩)], b1 :: b0 :: M1, rfl, E, fun W hW => walkW_iter b1 131 [.pointer (some ⟨b0, 0, none⟩)] ps.length (fun k => ps[k]?) (b0 :: M1) W (B1.ext0 hW) go131 (fun W' h => pallW_iter b0 a1 ps.length c1 ps M1 W' (B0.ext0 (hW.trans0 h)) (o1.ext0 (hW.trans0 h)) (by simp) hok (by omega)) (fun y hy => Nat.lt_of_lt_of_le (hFl y (List.mem_cons_of_mem _ hy)).2 hW.size) (fun k p hp => hok p (List.mem_of_getElem? hp)), hFl⟩

theorem okeysW_ok (m : Nat) (ps : List (Pr (Int))) (S : List Nat) (w : World) (hd : MapAt (κ := Int) 174 176 1 w m ps S) (hl : ps.length ≤ 99999) : Meets Try.prog 83 [.pointer (some ⟨m, 0, none⟩)] w (Cloned w 3 1 ps.length (ps.map fun p => Key.val p.1)) := by
  refine Meets.enter Try.func83 rfl 14 rfl (Nat.le_of_ble_eq_true rfl) ?_
  have E := Ext.refl [] w
  refine G.seq ?_
  refine G.region ?_
  refine L.val rfl rfl (R.as rfl) ?_
  refine L.nil ?_
  refine N.seq ?_
  refine G.seq ?_
  refine G.region ?_
  refine L.do rfl rfl (R.alloc) ?_
  rintro _ w1 ⟨b3, rfl, hb3, hs3, e1, B3⟩
  replace B3 : Blk w1 b3 #[.slice none 0 0] 67 (0, 0) := B3
  replace E := E.trans0 e1
  refine L.nil ?_
  refine N.seq ?_
  refine G.seq ?_
  refine G.seq ?_
  refine G.region ?_
  refine L.val rfl rfl (R.mv rfl) ?_
  refine L.callF rfl rfl rfl go105 (oallW_ok m ps S _ (hd.ext0 E) hl) ?_
  rintro _ w2 ⟨lb, Fp, rfl, e2, hit, hFp⟩
  have hE1 := E.size
  replace E := E.trans0 e2
  have l3 := B3.lt
  replace B3 := B3.ext0 e2
  have hE2 := E.size
  have hFn : b3 ∉ Fp := fun h => by have := hFp _ h; omega
  refine L.nil ?_
  refine N.seq ?_
  refine G.block ?_
  have hD0 : ∀ y ∈ [b3], y < w2.heap.size ∧ y ∉ Fp ∧ y ∉ ([] : List Nat) := by
    intro y hy
    rw [List.mem_singleton] at hy
    subst hy
    exact ⟨B3.lt, hFn, by simp⟩
  have hI0 : keysI ps 67 3 b3 w 0 [b3] w2 := ⟨none, 0, [], rfl, B3, Own.nil _ _ _, by simp, by omega, E⟩
  refine G.range (lb := lb) rfl rfl go130 (hit _ (Ext.refl _ _)) (fun _ _ _ h _ => h) [b3] hD0 (fun y h => h.elim (fun h => (hFp y h).2) (by simp)) (keysI ps 67 3 b3 w) (fun _ _ _ _ => False) (fun k D W1 W2 M2 h he hm => keysI_keep hE2 h he hm) (fun _ _ _ _ _ _ h _ _ => h) hI0 ?_ ?_ ?_
  · rintro l k D vs W1 hl2 hlt hlD hDl hk hIk ⟨p, hp, rfl⟩
    refine ⟨rfl, ?_⟩
    refine G.sub [(7, .int .i64 p.1), (3, .pointer (some ⟨b3, 0, none⟩))] (Sub.cons rfl (Sub.cons rfl (Sub.nil _))) ?_
    refine G.region ?_
    refine L.val rfl rfl (R.as rfl) ?_
    refine L.nil ?_
    refine N.round (Ext.refl _ _) (fun wb hb1 hb2 => ?_)
    obtain ⟨a1, c1, MB, rfl, B3, o, hMB, h3, E⟩ := hIk
    replace B3 := B3.still hb2
    replace o := o.still hb2
    replace E := E.transN hb1 (fun g hg => .inr (by rw [List.mem_singleton.1 hg]; omega))
    have hEb := E.size
    have l3 := B3.lt
    have hlo := o.lt
    have hn3 : b3 ∉ MB := fun h => (hMB _ h).2 rfl
    refine G.block ?_
    refine G.region ?_
    refine L.val rfl rfl (R.ldB rfl B3 rfl) ?_
    refine L.val rfl rfl (R.mv rfl) ?_
    refine L.do rfl rfl (R.buildA rfl rfl rfl rfl rfl) ?_
    rintro _ w6 ⟨b11, rfl, hb11, hs6, e6, B11⟩
    replace B11 : Blk w6 b11 #[.int .i64 p.1] 3 (0, 0) := B11
    have X6 : Ext (b3 :: MB) wb w6 := e6.mono (by simp)
    replace E := E.trans0 e6
    replace B3 := B3.ext0 e6
    replace o := o.ext0 e6
    have hs6e := e6.size
    refine L.do rfl rfl (R.app rfl rfl o (Cells.of_blk B11 0 [.int .i64 p.1] (fun j v hj => by simpa using hj)) rfl (by intro u hu; rw [List.mem_singleton.1 hu]; rfl) (by simp [maxLen]; omega) (by omega)) ?_
    rintro _ w7 ⟨a3, c3, M3, rfl, e7, hM3, o3⟩
    replace B3 := B3.ext e7 hn3
    replace E : Ext [] w w7 := E.trans e7 (by simp) (fun g hg => .inr (hMB g hg).1)
    have hs7 := e7.size
    replace o3 : Own w7 3 1 a3 (k + 1) c3 ((ps.take (k + 1)).map fun p => Key.val p.1) M3 := by rw [← keys_succ hp]; exact o3
    have hM4 : ∀ g ∈ M3, w.heap.size ≤ g ∧ g ≠ b3 := fun g hg => (hM3 g hg).elim (hMB g) (fun h => ⟨by omega, by omega⟩)
    refine L.set rfl (R.st rfl rfl B3 (by show 0 < 1; decide) rfl) ?_
    rintro w8 ⟨e8, hs8, B3⟩
    replace B3 : Blk w8 b3 #[.slice a3 (k + 1) c3] 67 (0, 0) := B3
    replace o3 := o3.ext e8 (by intro g hg h; exact (hM4 g hg).2 (List.mem_singleton.1 h))
    replace E : Ext [] w w8 := E.trans e8 (by simp) (fun g hg => .inr (by rw [List.mem_singleton.1 hg]; exact h3))
    have hlo3 := o3.lt
    have X : Ext (b3 :: MB) wb w8 := (X6.transN e7 (fun g hg => .inl (List.mem_cons_of_mem _ hg))).transN e8 (fun g hg => .inl (by rw [List.mem_singleton.1 hg]; simp))
    have hD2 : ∀ g ∈ b3 :: M3, g < w8.heap.size ∧ (g ∈ b3 :: MB ∨ wb.heap.size ≤ g) := by
      intro g hg
      rcases List.mem_cons.1 hg with rfl | hg
      · exact ⟨B3.lt, .inl (by simp)⟩
      · exact ⟨hlo3 g hg, (hM3 g hg).imp (fun h => List.mem_cons_of_mem _ h) (fun h => by omega)⟩
    refine L.nil ?_
    refine N.block ?_
    refine N.done fun _ _ => ?_
    exact ⟨b3 :: M3, X, hD2, a3, c3, M3, rfl, B3, o3, hM4, h3, E⟩
  · rintro d2 D W2 hd2 hdD hK ⟨a1, c1, MB, rfl, B3, o, hMB, h3, E⟩ _
    have hst := Still.putObj (.deferred none) hK rfl
    rw [List.take_length] at o
    refine N.block ?_
    refine N.seq ?_
    refine G.seq ?_
    refine G.region ?_
    refine L.val rfl rfl (R.ldB rfl B3 rfl) ?_
    refine L.val rfl rfl (R.as rfl) ?_
    refine L.nil ?_
    refine N.seq ?_
    refine G.ret1M rfl rfl (leave1 hK) ?_
    exact ⟨a1, c1, MB, rfl, E.transN (Ext.putObj _ _ _) (fun g hg => .inr (by rw [List.mem_singleton.1 hg]; omega)), o.still hst, fun g hg => (hMB g hg).1⟩
  · rintro _ _ _ _ _ _ _ _ _ h _
    exact h.elim

end Go.Proofs.Ytiiiplhfgblamaa
/-
  The walks of package order.
-/
set_option linter.unusedVariables false
set_option linter.unusedSimpArgs false
set_option maxRecDepth 4000
namespace Go.Proofs.Ytiiiplhfgblamaa
open Go Brv
theorem delW_ok (a : Option Addr) (n c : Nat) (ps : List (Pr (Int))) (M : List Nat) (i : Nat) (w : World) (ho : Own w 176 (1 + 1) a n c (pcells ps) M) (hn : n = ps.length) (hok : OkP 1 ps) (hi : i < n) (hnl : n ≤ 1000000) : Meets Try.prog 104 [.slice a n c, .int .i64 (i : Int), .int .i64 ((i : Int) + 1)] w (fun v w' => v = .slice a (n - 1) c ∧ Ext M w w' ∧ Own w' 176 (1 + 1) a (n - 1) c (pcells (ps.take i ++ ps.drop (i + 1))) M) := by
  refine Meets.enter Try.func104 rfl 33 rfl (Nat.le_of_ble_eq_true rfl) ?_
  obtain ⟨g0, cur0, rfl, rfl, B0, hc0, hx0, hz0, ht0⟩ := ho.some (by omega)
  have hps := (pcells_take (sv := 1) hok.len i (by omega)).1
  have hpd := (pcells_take (sv := 1) hok.len (i + 1) (by omega)).2
  have hcd : (pcells (ps.drop (i + 1))).length = (n - 1 - i) * (1 + 1) := by rw [pcells_len (sv := 1) (fun q hq => (hok q (List.mem_of_mem_drop hq)).1), List.length_drop, hn]; congr 1; omega
  have hone : ∀ u ∈ (pcells (ps.drop (i + 1))), u.oneCell' = true := fun u hu => pcell_one hok u (by rw [← hpd] at hu; exact List.mem_of_mem_drop hu)
  have hCd : Cells w (subA (some ⟨g0, 0, none⟩) (i + 1) c 2) (pcells (ps.drop (i + 1))) := by
    by_cases h9 : i + 1 < c
    · have h8 := (ho.cells).sub (i + 1) c 2 ((n - 1 - i) * 2) (by rw [ho.1, show 1 + 1 = 2 from rfl, ← Nat.add_mul]; exact Nat.mul_le_mul_right _ (by omega)) (by omega)
      rw [show (2 : Nat) = 1 + 1 from rfl, hpd, List.take_of_length_le (by rw [hcd]; exact Nat.le_refl _)] at h8
      exact h8
    · have h8 : (pcells (ps.drop (i + 1))) = [] := List.eq_nil_of_length_eq_zero (by rw [hcd, show n - 1 - i = 0 by omega, Nat.zero_mul])
      rw [h8]
      intro j v hj
      cases hj
  refine G.seq ?_
  refine G.region ?_
  refine L.val rfl rfl (R.as rfl) ?_
  refine L.nil ?_
  refine N.seq ?_
  refine G.seq ?_
  refine G.region ?_
  refine L.val rfl rfl (R.mv rfl) ?_
  refine L.val rfl rfl (R.mv rfl) ?_
  refine L.val rfl rfl (R.mv rfl) ?_
  refine L.val rfl rfl (R.mv rfl) ?_
  refine L.val rfl rfl (R.lenS rfl) ?_
  refine L.val rfl rfl (R.slLHM rfl rfl rfl rfl (by omega) (by omega) (by omega) (by omega)) ?_
  refine L.nil ?_
  refine N.seq ?_
  refine G.seq ?_
  refine G.seq ?_
  refine G.region ?_
  refine L.val rfl rfl (R.mv rfl) ?_
  refine L.val rfl rfl (R.mv rfl) ?_
  refine L.val rfl rfl (R.eqI rfl rfl) ?_
  refine L.nil ?_
  refine N.seq ?_
  refine G.condP rfl (fun h0 => ?_) (fun h0 => ?_)
  · exfalso; omega
  · refine G.skip ?_
    refine N.seq ?_
    refine G.seq ?_
    refine G.region ?_
    refine L.val rfl rfl (R.mv rfl) ?_
    refine L.val rfl rfl (R.lenS rfl) ?_
    refine L.val rfl rfl (R.as rfl) ?_
    refine L.nil ?_
    refine N.seq ?_
    refine G.seq ?_
    refine G.staged [6] [.blocks ([g0])] [fun w' => Ext [] w w', fun w' => Ext [g0] w w' ∧ Own w' 176 (1 + 1) (some ⟨g0, 0, none⟩) (n - 1) c (pcells (ps.take i ++ ps.drop (i + 1))) [g0]] [] (by decide +kernel) (by decide +kernel) rfl rfl rfl (fun _ h => h) ?_
    refine Z.val rfl rfl rfl rfl rfl (fun w1 => R.mv rfl) ?_
    refine Z.val rfl rfl rfl rfl rfl (fun w1 => R.mv rfl) ?_
    refine Z.val rfl rfl rfl rfl rfl (fun w1 => R.slH rfl rfl (by omega) (by omega)) ?_
    refine Z.be 22 rfl (show _ = Value.slice (some ⟨g0, 0, none⟩) i c by rw [subA_zero, Int.toNat_natCast]) ?_
    refine Z.val rfl rfl rfl rfl rfl (fun w1 => R.mv rfl) ?_
    refine Z.val rfl rfl rfl rfl rfl (fun w1 => R.mv rfl) ?_
    refine Z.val rfl rfl rfl rfl rfl (fun w1 => R.slL rfl rfl (by omega) (by omega)) ?_
    refine Z.be 25 rfl (show _ = Value.slice (subA (some ⟨g0, 0, none⟩) (i + 1) c 2) (n - 1 - i) (c - (i + 1)) by rw [show ((i : Int) + 1).toNat = i + 1 by omega, show n - (i + 1) = n - 1 - i by omega]) ?_
    refine Z.put (A := fun v _ => v = .slice (some ⟨g0, 0, none⟩) (n - 1) c) (Lasts.kill (fun _ _ _ _ h => h) (by decide +kernel)) 0 (by decide +kernel) rfl rfl rfl rfl rfl rfl rfl (fun w1 hJ => (R.app2 rfl rfl ((ho.pre (i := i) (by omega)).ext0 hJ) (hCd.ext0 hJ) hcd hone (by simp [maxLen]; omega) (by omega)).mono (fun v w9 h => by
      obtain ⟨a9, c9, M9, rfl, e9, _, o9, hin⟩ := h
      obtain ⟨rfl, rfl, rfl⟩ := hin (by omega)
      rw [hps, ← pcells_append, show i + (n - 1 - i) = n - 1 by omega] at o9
      exact ⟨by rw [show i + (n - 1 - i) = n - 1 by omega], e9, e9.after hJ, o9⟩)) ?_
    refine Z.valR (A := fun v _ => v = .slice (some ⟨g0, 0, none⟩) (n - 1) c) (Lasts.kill (fun _ _ _ _ h => h) (by decide +kernel)) rfl rfl rfl rfl (fun w1 => fun v hv => ⟨v, R.as rfl, hv⟩) ?_
    refine Z.nil rfl rfl (fun w1 hJ => ?_)
    obtain ⟨e3, o3⟩ := hJ
    rintro _ rfl _ rfl
    obtain ⟨cur3, _, B3, hc3, hx3, hz3, ht3⟩ := o3.inv
    have hzz : (n - 1) * 2 + 1 * 2 ≤ cur3.size := by
      have h9 : (n - 1 + 1) * 2 ≤ c * 2 := Nat.mul_le_mul_right _ (by omega)
      rw [Nat.add_mul] at h9
      exact Nat.le_trans h9 hz3
    refine N.seq ?_
    refine G.seq ?_
    refine G.region ?_
    refine L.val rfl rfl (R.mv rfl) ?_
    refine L.val rfl rfl (R.mv rfl) ?_
    refine L.val rfl rfl (R.lenS rfl) ?_
    refine L.val rfl rfl (R.mv rfl) ?_
    refine L.val rfl rfl (R.slLH rfl rfl rfl (by omega) (by omega) (by omega)) ?_
    refine L.be 31 rfl (show _ = Value.slice (some ⟨g0, (n - 1) * 2, none⟩) (0 + 1) (c - (n - 1)) by rw [Int.toNat_natCast, Int.toNat_natCast, subA_lit (by omega), Nat.zero_add, show n - (n - 1) = 0 + 1 by omega]) ?_
    refine L.do0 rfl (R.clearN (m := 0) rfl B3 (by omega) (by decide) (by intro u hu; simp [Value.cells] at hu; first | (rcases hu with rfl | rfl <;> rfl) | (rcases hu with rfl | rfl | rfl <;> rfl) | (rcases hu with rfl | rfl | rfl | rfl <;> rfl) | (rcases hu with rfl | rfl | rfl | rfl | rfl <;> rfl))) ?_
    rintro _ w4 P4
    obtain ⟨e4, hs4, B4⟩ := P4
    have X := e3.transN e4 (fun x hx => .inl hx)
    refine L.nil ?_
    refine N.seq ?_
    refine G.seq ?_
    refine G.region ?_
    refine L.val rfl rfl (R.mv rfl) ?_
    refine L.val rfl rfl (R.as rfl) ?_
    refine L.nil ?_
    refine N.seq ?_
    refine G.ret1 rfl rfl ?_
    exact ⟨rfl, X, own_over o3.1 B4 (by rw [Array.length_toList, size_zeroCells]; exact hzz) hc3 hx3 hz3 ht3⟩

theorem odelW_ok (m : Nat) (ps : List (Pr (Int))) (S : List Nat) (k : Int) (w : World) (hd : MapAt (κ := Int) 174 176 1 w m ps S) (hl : ps.length ≤ 99999) : Meets Try.prog 82 [.pointer (some ⟨m, 0, none⟩), .int .i64 k] w (fun v w' => v = .bool (hasK ps k) ∧ ∃ S', Grown S S' w w' ∧ MapAt (κ := Int) 174 176 1 w' m (delK ps k) S') := by
  refine Meets.enter Try.func82 rfl 28 rfl (Nat.le_of_ble_eq_true rfl) ?_
  have E := Ext.refl [] w
  have hd0 := hd
  obtain ⟨a, c, M, rfl, hm0, Bm, om, hok, hs⟩ := hd
  refine G.seq ?_
  refine G.region ?_
  refine L.val rfl rfl (R.as rfl) ?_
  refine L.nil ?_
  refine N.seq ?_
  refine G.seq ?_
  refine G.seq ?_
  refine G.region ?_
  refine L.val rfl rfl (R.mv rfl) ?_
  refine L.val rfl rfl (R.eqNilP rfl rfl) ?_
  refine L.nil ?_
  refine N.seq ?_
  refine G.condF rfl ?_
  refine G.skip ?_
  refine N.seq ?_
  refine G.seq ?_
  refine G.region ?_
  refine L.val rfl rfl (R.mv rfl) ?_
  refine L.val rfl rfl (R.mv rfl) ?_
  refine L.callF rfl rfl rfl go101 (findW_ok m ps (m :: M) k _ hd0 (by omega)) ?_
  rintro _ w1 ⟨rfl, e1⟩
  replace E := E.trans0 e1
  replace Bm := Bm.ext0 e1
  replace om := om.ext0 e1
  refine L.val rfl rfl (R.mv rfl) ?_
  refine L.val rfl rfl (R.ext rfl rfl) ?_
  refine L.val rfl rfl (R.ext rfl rfl) ?_
  refine L.val rfl rfl (R.as rfl) ?_
  refine L.val rfl rfl (R.as rfl) ?_
  refine L.nil ?_
  refine N.seq ?_
  refine G.seq ?_
  refine G.seq ?_
  refine G.region ?_
  refine L.val rfl rfl (R.mv rfl) ?_
  refine L.nil ?_
  refine N.seq ?_
  refine G.condB rfl (fun h1 => ?_) (fun h1 => ?_)
  · have hk : hasK ps k = true := h1
    have hlt := hasK_lt hk
    have hdl : (delK ps k).length = ps.length - 1 := by rw [delK_yes hk, List.length_append, List.length_take, List.length_drop]; omega
    refine G.region ?_
    refine L.val rfl rfl (R.mv rfl) ?_
    refine L.val rfl rfl (R.mv rfl) ?_
    refine L.val rfl rfl (R.nilChk rfl) ?_
    refine L.val rfl rfl (R.fld rfl) ?_
    refine L.val rfl rfl (R.ldB rfl Bm rfl) ?_
    refine L.val rfl rfl (R.mv rfl) ?_
    refine L.val rfl rfl (R.mv rfl) ?_
    refine L.val rfl rfl (R.add rfl rfl (by omega)) ?_
    refine L.callF rfl rfl rfl go104 (delW_ok a ps.length c ps M (low ps k) _ om rfl hok hlt (by omega)) ?_
    rintro _ w2 ⟨rfl, e2, o2⟩
    replace Bm := Bm.ext e2 hm0
    refine L.val rfl rfl (R.nilChk rfl) ?_
    refine L.val rfl rfl (R.fld rfl) ?_
    refine L.set rfl (R.st rfl rfl Bm (by show 0 < 1; decide) rfl) ?_
    rintro w4 ⟨e4, hs4, Bm⟩
    replace Bm : Blk w4 m #[.slice a (ps.length - 1) c] 174 (0, 0) := Bm
    have o4 := o2.ext e4 (by intro g hg h; rw [List.mem_singleton.1 h] at hg; exact hm0 hg)
    have X : Ext (m :: M) w w4 := ((e2.after E).mono (fun x hx => .inl (List.mem_cons_of_mem _ hx))).transN e4 (fun x hx => .inl (by rw [List.mem_singleton.1 hx]; simp))
    refine L.nil ?_
    refine N.seq ?_
    refine G.seq ?_
    refine G.region ?_
    refine L.val rfl rfl (R.mv rfl) ?_
    refine L.val rfl rfl (R.as rfl) ?_
    refine L.nil ?_
    refine N.seq ?_
    refine G.ret1 rfl rfl ?_
    first
      | exact ⟨by rw [hk]; rfl, m :: M, ⟨X, fun x hx => .inl hx⟩, MapAt.mk hm0 Bm hdl.symm (by rw [delK_yes hk]; exact o4) hok.del (sorted_del hs _)⟩
      | exact ⟨by rw [hk]; rfl, m :: M, ⟨E.mono (by simp), fun x hx => .inl hx⟩, by rw [delK_no hk]; exact MapAt.mk hm0 Bm rfl om hok hs⟩
  · have hk : hasK ps k = false := h1
    refine G.skip ?_
    refine N.seq ?_
    refine G.seq ?_
    refine G.region ?_
    refine L.val rfl rfl (R.mv rfl) ?_
    refine L.val rfl rfl (R.as rfl) ?_
    refine L.nil ?_
    refine N.seq ?_
    refine G.ret1 rfl rfl ?_
    first
      | exact ⟨by rw [hk]; rfl, m :: M, ⟨X, fun x hx => .inl hx⟩, MapAt.mk hm0 Bm hdl.symm (by rw [delK_yes hk]; exact o4) hok.del (sorted_del hs _)⟩
      | exact ⟨by rw [hk]; rfl, m :: M, ⟨E.mono (by simp), fun x hx => .inl hx⟩, by rw [delK_no hk]; exact MapAt.mk hm0 Bm rfl om hok hs⟩

end Go.Proofs.Ytiiiplhfgblamaa
/-
  The walks of package txn.
-/
set_option linter.unusedVariables false
set_option linter.unusedSimpArgs false
set_option maxRecDepth 4000
namespace Go.Proofs.Ytiiiplhfgblamaa
open Go Brv
def rowZ : RowW := ⟨none, 0, 0, []⟩
theorem rowZ_ok (w : World) : RowW.ok w rowZ := ⟨⟨Nat.le_refl _, by decide⟩, ⟨fun j v hj => (by cases hj), rfl, (by intro x hx; cases hx)⟩, (by intro o ho; cases ho)⟩
def psT (txs : List (Int × RowW)) : List (Pr Int) := mapT (fun r => [RowW.val r]) txs
def absT (txs : List (Int × RowW)) : List (Int × List Wr) := mapT (fun r => r.os.map wv) txs
theorem rowB2 {H H1 H2 : List Asn} {b : Nat} {cs : List Value} {T : TypeId} {p : World → Prop} (os : List WriteV) (hb : Sel H (blk b cs T) H1) (hcs : cs = cellsW os) (hs : Sel H1 (sh p) H2) (hp : ∀ w, p w → ∀ o ∈ os, o.okW w) (hl : os.length ≤ 1000) : Imp H (sh (fun w => RowW.ok w ⟨some ⟨b, 0, none⟩, os.length, os.length, os⟩) :: H2) :=
  (Imp.turn hb (B := sh (fun w => Cells w (some ⟨b, 0, none⟩) (cellsW os))) (fun F S w hA => by
    obtain ⟨F', S', h⟩ := (⟨[], F ++ S, .inl ⟨fun M w' he hS => Cells.of_blk (hA.2.ext he (hS b (by rw [hA.1]; simp))) 0 _ (fun j v hj => by rw [← hcs] at hj; simpa using hj), by simp, subR _, Apart.nilL _⟩⟩ : ∃ F' S', (sh (fun w => Cells w (some ⟨b, 0, none⟩) (cellsW os))).P F' S' w ∧ F' ⊆ F ∧ S' ⊆ F ++ S ∧ Apart F' S' ∨ (sh (fun w => Cells w (some ⟨b, 0, none⟩) (cellsW os))).P F S w)
    exact ⟨F', S', h⟩)).trans ((Imp.both .here hs).trans (Imp.weak .here fun w h => ⟨⟨Nat.le_refl _, by show os.length ≤ _; omega⟩, tabW h.1 rfl, hp w h.2⟩))
theorem psT_len (txs : List (Int × RowW)) : (psT txs).length = txs.length := by simp [psT, mapT]
theorem absT_len (txs : List (Int × RowW)) : (absT txs).length = txs.length := by simp [absT, mapT]
theorem psT_put (txs : List (Int × RowW)) (h : Int) (r : RowW) : putK (psT txs) h [.slice r.a r.n r.c] = psT (putT txs h r) := by
  unfold psT; rw [putT_map, putT_eq]; rfl
theorem psT_del (txs : List (Int × RowW)) (h : Int) : delK (psT txs) h = psT (delT txs h) := by
  unfold psT; rw [delT_map, delT_eq]
def ofV (txs : List (Int × RowW)) (h : Int) : RowW := (getT txs h).getD rowZ
def ofE {α : Type} (M : List (Int × α)) (h : Int) : Int := if hasT M h then 0 else 40
def inB (B k : Int) : Bool := decide (0 ≤ k ∧ k < B)
theorem hasT_get {α : Type} {l : List (Int × α)} {k : Int} (h : hasT l k = true) : ∃ v, getT l k = some v := by
  obtain ⟨p, hp, _⟩ := hasT_mem h
  exact ⟨p.2, by unfold getT; rw [h, hp]; rfl⟩
theorem getT_not {α : Type} {l : List (Int × α)} {k : Int} (h : hasT l k = false) : getT l k = none := by unfold getT; rw [h]; rfl
theorem ofV_val (txs : List (Int × RowW)) (h : Int) : gv1 (.slice none 0 0) (getK (psT txs) h) = (ofV txs h).val := by
  unfold psT ofV
  rw [← getT_eq, getT_map]
  cases getT txs h <;> rfl
theorem ofV_ok {txs : List (Int × RowW)} {w : World} (hk : ∀ t ∈ txs, RowW.ok w t.2) (h : Int) : RowW.ok w (ofV txs h) := by
  unfold ofV
  cases hg : getT txs h with
  | none => exact rowZ_ok w
  | some r => exact hk _ (getT_some hg)
theorem ofV_abs (txs : List (Int × RowW)) (h : Int) : (ofV txs h).os.map wv = (getT (absT txs) h).getD [] := by
  unfold ofV absT
  rw [getT_map]
  cases getT txs h <;> rfl
theorem hasT_abs (txs : List (Int × RowW)) (h : Int) : hasT (absT txs) h = hasT txs h := hasT_map _ _ _
theorem ofE_abs (txs : List (Int × RowW)) (h : Int) : ofE (absT txs) h = ofE txs h := by unfold ofE; rw [hasT_abs]
theorem ofE_zero {α : Type} {M : List (Int × α)} {h : Int} (e : ¬ ofE M h ≠ 0) : hasT M h = true := by
  unfold ofE at e
  cases hh : hasT M h with
  | true => rfl
  | false => rw [hh] at e; exact (e (by decide)).elim
theorem ofE_no {α : Type} {M : List (Int × α)} {h : Int} (e : ofE M h ≠ 0) : hasT M h = false ∧ ofE M h = 40 := by
  unfold ofE at e ⊢
  cases hh : hasT M h with
  | true => rw [hh] at e; exact (e rfl).elim
  | false => exact ⟨rfl, rfl⟩
theorem getTx (m : Nat) (txs : List (Int × RowW)) (h : Int) (S : List Nat) (w : World) (hm : MapAt (κ := Int) 174 176 1 w m (psT txs) S) (hl : txs.length ≤ 99999) : Meets Try.prog 103 [.pointer (some ⟨m, 0, none⟩), .int .i64 h] w (fun v w' => v = .tuple #[(ofV txs h).val, .bool (hasT txs h)] ∧ Ext [] w w') :=
  (getW_ok m (psT txs) S h w hm (by rw [psT_len]; exact hl)).mono fun v w' ⟨h1, h2⟩ => ⟨by rw [h1, ofV_val, ← hasT_eq]; unfold psT; rw [hasT_map], h2⟩
theorem olenTx (m : Nat) (txs : List (Int × RowW)) (S : List Nat) (w : World) (hm : MapAt (κ := Int) 174 176 1 w m (psT txs) S) (hl : txs.length ≤ 99999) : Meets Try.prog 78 [.pointer (some ⟨m, 0, none⟩)] w (fun v w' => v = .int .i64 (txs.length : Int) ∧ Ext [] w w') :=
  (olenW_ok m (psT txs) S w hm (by rw [psT_len]; exact hl)).mono fun v w' ⟨h1, h2⟩ => ⟨by rw [h1, psT_len], h2 ▸ Ext.refl _ _⟩
theorem putTx (m : Nat) (txs : List (Int × RowW)) (h : Int) (r : RowW) (hl : txs.length ≤ 99999) : SpecS Try.prog 79 [.pointer (some ⟨m, 0, none⟩), .int .i64 h, .slice r.a r.n r.c] [mp (κ := Int) 174 176 1 m (psT txs)] (fun v H' => v = .bool (!hasK (psT txs) h) ∧ H' = [mp (κ := Int) 174 176 1 m (psT (putT txs h r))]) := by
  have := SpecS.ofMap (φ := fun v => v = .bool (!hasK (psT txs) h)) (fun w S hm => putW_ok m (psT txs) S h r.a r.n r.c w hm (by rw [psT_len]; exact hl))
  rw [psT_put] at this
  exact this
theorem delTx (m : Nat) (txs : List (Int × RowW)) (h : Int) (hl : txs.length ≤ 99999) : SpecS Try.prog 82 [.pointer (some ⟨m, 0, none⟩), .int .i64 h] [mp (κ := Int) 174 176 1 m (psT txs)] (fun v H' => v = .bool (hasK (psT txs) h) ∧ H' = [mp (κ := Int) 174 176 1 m (psT (delT txs h))]) := by
  have := SpecS.ofMap (φ := fun v => v = .bool (hasK (psT txs) h)) (fun w S hm => odelW_ok m (psT txs) S h w hm (by rw [psT_len]; exact hl))
  rw [psT_del] at this
  exact this
theorem keysTx (m : Nat) (txs : List (Int × RowW)) (S : List Nat) (w : World) (hm : MapAt (κ := Int) 174 176 1 w m (psT txs) S) (hl : txs.length ≤ 99999) : Meets Try.prog 83 [.pointer (some ⟨m, 0, none⟩)] w (Cloned w 3 1 txs.length (txs.map fun t => .int .i64 t.1)) := by
  have := okeysW_ok m (psT txs) S w hm (by rw [psT_len]; exact hl)
  rw [psT_len, show ((psT txs).map fun p => Key.val p.1) = txs.map fun t => .int .i64 t.1 by simp [psT, mapT, Function.comp_def, Key.val]] at this
  exact this

theorem txof_ok (b m : Nat) (B L : Int) (txs : List (Int × RowW)) (h : Int) (hl : txs.length ≤ 1000) : SpecS Try.prog 80 [.pointer (some ⟨b, 0, none⟩), .int .i64 h] [blk b [.int .i64 B, .int .i64 L, .pointer (some ⟨m, 0, none⟩)] 137, mp (κ := Int) 174 176 1 m (psT txs), sh (fun w => ∀ t ∈ txs, RowW.ok w t.2)] (fun v H' => v = .tuple #[(ofV txs h).val, .int .i64 (ofE txs h)] ∧ H' = [blk b [.int .i64 B, .int .i64 L, .pointer (some ⟨m, 0, none⟩)] 137, mp (κ := Int) 174 176 1 m (psT txs), sh (fun w => ∀ t ∈ txs, RowW.ok w t.2)]) := by
  refine SpecS.enter Try.func80 rfl 22 rfl (Nat.le_of_ble_eq_true rfl) (fun o => ?_)
  refine SG.seq ?_
  refine SG.region ?_
  refine SL.val rfl rfl (fun w9 F9 S9 s => R.as rfl) ?_
  refine SL.val rfl rfl (fun w9 F9 S9 s => R.as rfl) ?_
  refine SL.nil ?_
  refine SN.seq ?_
  refine SG.seq ?_
  refine SG.seq ?_
  refine SG.region ?_
  refine SL.val rfl rfl (fun w9 F9 S9 s => R.mv rfl) ?_
  refine SL.val rfl rfl (fun w9 F9 S9 s => R.eqNilP rfl rfl) ?_
  refine SL.nil ?_
  refine SN.seq ?_
  refine SG.condF rfl ?_
  refine SG.skip ?_
  refine SN.seq ?_
  refine SG.seq ?_
  refine SG.region ?_
  refine SL.val rfl rfl (fun w9 F9 S9 s => R.mv rfl) ?_
  refine SL.val rfl rfl (fun w9 F9 S9 s => R.nilChk rfl) ?_
  refine SL.val rfl rfl (fun w9 F9 S9 s => R.fld rfl) ?_
  refine SL.val rfl rfl (fun w9 F9 S9 s => R.ldB rfl (s.cel (by repeat (first | exact SelB.blk | exact SelB.fz | apply SelB.there))) (by rfl)) ?_
  refine SL.val rfl rfl (fun w9 F9 S9 s => R.mv rfl) ?_
  refine SL.step rfl rfl (CS.callR rfl go103 (fun w9 F9 S9 s => (s.mp (show Sel _ (mp (κ := Int) 174 176 1 m (psT txs)) _ from (by repeat (first | exact Sel.keep | exact Sel.here | apply Sel.there)))).elim fun S9 h9 => getTx m txs h S9 w9 h9 (by omega))) ?_
  rintro _ _ ⟨rfl, rfl⟩
  refine SL.val rfl rfl (fun w9 F9 S9 s => R.mv rfl) ?_
  refine SL.val rfl rfl (fun w9 F9 S9 s => R.ext rfl rfl) ?_
  refine SL.val rfl rfl (fun w9 F9 S9 s => R.ext rfl rfl) ?_
  refine SL.val rfl rfl (fun w9 F9 S9 s => R.as rfl) ?_
  refine SL.val rfl rfl (fun w9 F9 S9 s => R.as rfl) ?_
  refine SL.nil ?_
  refine SN.seq ?_
  refine SG.seq ?_
  refine SG.seq ?_
  refine SG.region ?_
  refine SL.val rfl rfl (fun w9 F9 S9 s => R.mv rfl) ?_
  refine SL.val rfl rfl (fun w9 F9 S9 s => R.not rfl) ?_
  refine SL.nil ?_
  refine SN.seq ?_
  refine SG.condB rfl (fun h1 => ?_) (fun h1 => ?_)
  · refine SG.seq ?_
    refine SG.region ?_
    refine SL.val rfl rfl (fun w9 F9 S9 s => R.as rfl) ?_
    refine SL.val rfl rfl (fun w9 F9 S9 s => R.as rfl) ?_
    refine SL.nil ?_
    refine SN.seq ?_
    exact SG.ret2 rfl rfl rfl ((Imp.sels (by repeat (first | exact Sels.nil | apply Sels.cons | exact Sel.keep | exact Sel.here | apply Sel.there)))) (⟨by unfold ofE ofV; rw [getT_not (by simpa using h1), show hasT txs h = false by simpa using h1]; rfl, rfl⟩)
  · refine SG.skip ?_
    refine SN.seq ?_
    refine SG.seq ?_
    refine SG.region ?_
    refine SL.val rfl rfl (fun w9 F9 S9 s => R.mv rfl) ?_
    refine SL.val rfl rfl (fun w9 F9 S9 s => R.as rfl) ?_
    refine SL.val rfl rfl (fun w9 F9 S9 s => R.as rfl) ?_
    refine SL.nil ?_
    refine SN.seq ?_
    exact SG.ret2 rfl rfl rfl ((Imp.sels (by repeat (first | exact Sels.nil | apply Sels.cons | exact Sel.keep | exact Sel.here | apply Sel.there)))) (⟨by unfold ofE; rw [show hasT txs h = true by simpa using h1]; rfl, rfl⟩)

theorem txthere_ok (b : Nat) (B L : Int) (x : Value) (k : Int) : SpecS Try.prog 81 [.pointer (some ⟨b, 0, none⟩), .int .i64 k] [blk b [.int .i64 B, .int .i64 L, x] 137] (fun v H' => v = .bool (inB B k) ∧ H' = [blk b [.int .i64 B, .int .i64 L, x] 137]) := by
  refine SpecS.enter Try.func81 rfl 15 rfl (Nat.le_of_ble_eq_true rfl) (fun o => ?_)
  refine SG.seq ?_
  refine SG.region ?_
  refine SL.val rfl rfl (fun w9 F9 S9 s => R.as rfl) ?_
  refine SL.nil ?_
  refine SN.seq ?_
  refine SG.seq ?_
  refine SG.region ?_
  refine SL.val rfl rfl (fun w9 F9 S9 s => R.mv rfl) ?_
  refine SL.val rfl rfl (fun w9 F9 S9 s => R.geq rfl rfl) ?_
  refine SL.val rfl rfl (fun w9 F9 S9 s => R.mv rfl) ?_
  refine SL.caseP 7 rfl (fun hg1_2 => ?_) (fun hg1_2 => ?_)
  · refine SL.val rfl rfl (fun w9 F9 S9 s => R.mv rfl) ?_
    refine SL.val rfl rfl (fun w9 F9 S9 s => R.mv rfl) ?_
    refine SL.val rfl rfl (fun w9 F9 S9 s => R.nilChk rfl) ?_
    refine SL.val rfl rfl (fun w9 F9 S9 s => R.fld rfl) ?_
    refine SL.val rfl rfl (fun w9 F9 S9 s => R.ldB rfl (s.cel (by repeat (first | exact SelB.blk | exact SelB.fz | apply SelB.there))) (by rfl)) ?_
    refine SL.val rfl rfl (fun w9 F9 S9 s => R.lss rfl rfl) ?_
    first | refine SL.val rfl rfl (fun w9 F9 S9 s => R.pickT rfl rfl) ?_ | refine SL.val rfl rfl (fun w9 F9 S9 s => R.pickF rfl rfl) ?_
    refine SL.val rfl rfl (fun w9 F9 S9 s => R.as rfl) ?_
    refine SL.nil ?_
    refine SN.seq ?_
    exact SG.ret1 rfl rfl ((Imp.sels (by repeat (first | exact Sels.nil | apply Sels.cons | exact Sel.keep | exact Sel.here | apply Sel.there)))) (⟨congrArg Value.bool (by unfold inB; simp [hg1_2]), rfl⟩)
  · refine SL.pass rfl rfl ?_
    refine SL.pass rfl rfl ?_
    refine SL.pass rfl rfl ?_
    refine SL.pass rfl rfl ?_
    refine SL.pass rfl rfl ?_
    refine SL.pass rfl rfl ?_
    first | refine SL.val rfl rfl (fun w9 F9 S9 s => R.pickT rfl rfl) ?_ | refine SL.val rfl rfl (fun w9 F9 S9 s => R.pickF rfl rfl) ?_
    refine SL.val rfl rfl (fun w9 F9 S9 s => R.as rfl) ?_
    refine SL.nil ?_
    refine SN.seq ?_
    exact SG.ret1 rfl rfl ((Imp.sels (by repeat (first | exact Sels.nil | apply Sels.cons | exact Sel.keep | exact Sel.here | apply Sel.there)))) (⟨congrArg Value.bool (by unfold inB; simp [hg1_2]), rfl⟩)

end Go.Proofs.Ytiiiplhfgblamaa
/-
  The walks of package txn.
-/
set_option linter.unusedVariables false
set_option linter.unusedSimpArgs false
set_option maxRecDepth 4000
namespace Go.Proofs.Ytiiiplhfgblamaa
open Go Brv
def wrE {α : Type} (B : Int) (M : List (Int × α)) (h k : Int) (n : Nat) : Int := if hasT M h then (if inB B k then (if n = 64 then 0 else 42) else 41) else 40
def wrM (B : Int) (M : List (Int × List Wr)) (h k : Int) (d : List UInt8) : List (Int × List Wr) := if wrE B M h k d.length = 0 then putT M h (mgW ((getT M h).getD [] ++ [(k, d)])) else M
theorem wrE_abs (B : Int) (txs : List (Int × RowW)) (h k : Int) (n : Nat) : wrE B (absT txs) h k n = wrE B txs h k n := by unfold wrE; rw [hasT_abs]
theorem put_ok2 {txs : List (Int × RowW)} {h : Int} {r : RowW} {w : World} (h1 : ∀ t ∈ txs, RowW.ok w t.2) (h2 : RowW.ok w r) : ∀ t ∈ putT txs h r, RowW.ok w t.2 := fun t ht => (mem_putT ht).elim (fun e => by rw [e]; exact h2) (h1 t)
theorem del_ok2 {txs : List (Int × RowW)} {h : Int} {w : World} (h1 : ∀ t ∈ txs, RowW.ok w t.2) : ∀ t ∈ delT txs h, RowW.ok w t.2 := fun t ht => h1 t (mem_delT ht)
theorem ofV_len {txs : List (Int × RowW)} {k : Nat} (h : ∀ t ∈ txs, t.2.os.length ≤ k) (x : Int) : (ofV txs x).os.length ≤ k := by
  unfold ofV
  cases hg : getT txs x with
  | none => exact Nat.zero_le _
  | some r => exact h _ (getT_some hg)
theorem wrM_put {B : Int} {txs : List (Int × RowW)} {h k : Int} {d : List UInt8} {r : RowW} (he : wrE B txs h k d.length = 0) (hr : r.os.map wv = mgW ((ofV txs h).os.map wv ++ [(k, d)])) : absT (putT txs h r) = wrM B (absT txs) h k d := by
  unfold wrM
  rw [wrE_abs, if_pos he, ← ofV_abs, ← hr]
  exact putT_map _ _ _ _

theorem txwrite_ok (b m : Nat) (B L : Int) (txs : List (Int × RowW)) (h k : Int) (a : Option Addr) (n c : Nat) (d : List UInt8) (hl : txs.length ≤ 1000) (hol : ∀ t ∈ txs, t.2.os.length ≤ 1000) (hnc : n ≤ c) (hc : c ≤ 140737488351232) (hnd : n = d.length) : SpecS Try.prog 30 [.pointer (some ⟨b, 0, none⟩), .int .i64 h, .int .i64 k, .slice a n c] [blk b [.int .i64 B, .int .i64 L, .pointer (some ⟨m, 0, none⟩)] 137, mp (κ := Int) 174 176 1 m (psT txs), sh (fun w => ∀ t ∈ txs, RowW.ok w t.2), bs a n d] (fun v H' => ∃ txs', v = .int .i64 (wrE B txs h k d.length) ∧ absT txs' = wrM B (absT txs) h k d ∧ H' = [blk b [.int .i64 B, .int .i64 L, .pointer (some ⟨m, 0, none⟩)] 137, mp (κ := Int) 174 176 1 m (psT txs'), sh (fun w => ∀ t ∈ txs', RowW.ok w t.2)]) := by
  refine SpecS.enter Try.func30 rfl 43 rfl (Nat.le_of_ble_eq_true rfl) (fun o => ?_)
  refine SG.seq ?_
  refine SG.region ?_
  refine SL.val rfl rfl (fun w9 F9 S9 s => R.as rfl) ?_
  refine SL.nil ?_
  refine SN.seq ?_
  refine SG.seq ?_
  refine SG.region ?_
  refine SL.val rfl rfl (fun w9 F9 S9 s => R.mv rfl) ?_
  refine SL.val rfl rfl (fun w9 F9 S9 s => R.mv rfl) ?_
  refine SL.step rfl rfl (CS.call rfl go80 (txof_ok b m B L txs h hl) (by repeat (first | exact Sels.nil | apply Sels.cons | exact Sel.keep | exact Sel.here | apply Sel.there))) ?_
  rintro _ _ ⟨_, ⟨rfl, rfl⟩, rfl⟩
  refine SL.n3 ?_
  refine SL.val rfl rfl (fun w9 F9 S9 s => R.mv rfl) ?_
  refine SL.val rfl rfl (fun w9 F9 S9 s => R.ext rfl rfl) ?_
  refine SL.val rfl rfl (fun w9 F9 S9 s => R.ext rfl rfl) ?_
  refine SL.val rfl rfl (fun w9 F9 S9 s => R.as rfl) ?_
  refine SL.val rfl rfl (fun w9 F9 S9 s => R.as rfl) ?_
  refine SL.nil ?_
  refine SN.seq ?_
  refine SG.seq ?_
  refine SG.block ?_
  refine SG.seq ?_
  refine SG.region ?_
  refine SL.val rfl rfl (fun w9 F9 S9 s => R.mv rfl) ?_
  refine SL.val rfl rfl (fun w9 F9 S9 s => R.neI rfl rfl) ?_
  refine SL.val rfl rfl (fun w9 F9 S9 s => R.as rfl) ?_
  refine SL.nil ?_
  refine SN.seq ?_
  refine SG.condP rfl (fun h0 => ?_) (fun h0 => ?_)
  · obtain ⟨hno, hE⟩ := ofE_no h0
    have hwE : wrE B txs h k d.length = 40 := by unfold wrE; rw [hno]; rfl
    rw [hE]
    refine SG.seq ?_
    refine SG.region ?_
    refine SL.val rfl rfl (fun w9 F9 S9 s => R.mv rfl) ?_
    refine SL.val rfl rfl (fun w9 F9 S9 s => R.as rfl) ?_
    refine SL.nil ?_
    refine SN.seq ?_
    exact SG.ret1 rfl rfl ((Imp.sels (by repeat (first | exact Sels.nil | apply Sels.cons | exact Sel.keep | exact Sel.here | apply Sel.there)))) (⟨txs, congrArg (Value.int .i64) hwE.symm, by unfold wrM; rw [wrE_abs, if_neg (by rw [hwE]; decide)], rfl⟩)
  · have hhas := ofE_zero h0
    refine SG.seq ?_
    refine SG.region ?_
    refine SL.val rfl rfl (fun w9 F9 S9 s => R.mv rfl) ?_
    refine SL.val rfl rfl (fun w9 F9 S9 s => R.mv rfl) ?_
    refine SL.step rfl rfl (CS.call rfl go81 (txthere_ok b B L (.pointer (some ⟨m, 0, none⟩)) k) (by repeat (first | exact Sels.nil | apply Sels.cons | exact Sel.keep | exact Sel.here | apply Sel.there))) ?_
    rintro _ _ ⟨_, ⟨rfl, rfl⟩, rfl⟩
    refine SL.n1 ?_
    refine SL.val rfl rfl (fun w9 F9 S9 s => R.not rfl) ?_
    refine SL.val rfl rfl (fun w9 F9 S9 s => R.as rfl) ?_
    refine SL.nil ?_
    refine SN.seq ?_
    refine SG.condB rfl (fun h1 => ?_) (fun h1 => ?_)
    · have hwE : wrE B txs h k d.length = 41 := by unfold wrE; rw [hhas, show inB B k = false by simpa using h1]; rfl
      refine SG.seq ?_
      refine SG.region ?_
      refine SL.val rfl rfl (fun w9 F9 S9 s => R.as rfl) ?_
      refine SL.nil ?_
      refine SN.seq ?_
      exact SG.ret1 rfl rfl ((Imp.sels (by repeat (first | exact Sels.nil | apply Sels.cons | exact Sel.keep | exact Sel.here | apply Sel.there)))) (⟨txs, congrArg (Value.int .i64) hwE.symm, by unfold wrM; rw [wrE_abs, if_neg (by rw [hwE]; decide)], rfl⟩)
    · refine SG.seq ?_
      refine SG.region ?_
      refine SL.val rfl rfl (fun w9 F9 S9 s => R.mv rfl) ?_
      refine SL.val rfl rfl (fun w9 F9 S9 s => R.lenS rfl) ?_
      refine SL.val rfl rfl (fun w9 F9 S9 s => R.neI rfl rfl) ?_
      refine SL.val rfl rfl (fun w9 F9 S9 s => R.as rfl) ?_
      refine SL.nil ?_
      refine SN.seq ?_
      refine SG.condP rfl (fun h2 => ?_) (fun h2 => ?_)
      · have hwE : wrE B txs h k d.length = 42 := by unfold wrE; rw [hhas, show inB B k = true by simpa using h1, if_pos rfl, if_pos rfl, if_neg (by omega)]
        refine SG.seq ?_
        refine SG.region ?_
        refine SL.val rfl rfl (fun w9 F9 S9 s => R.as rfl) ?_
        refine SL.nil ?_
        refine SN.seq ?_
        exact SG.ret1 rfl rfl ((Imp.sels (by repeat (first | exact Sels.nil | apply Sels.cons | exact Sel.keep | exact Sel.here | apply Sel.there)))) (⟨txs, congrArg (Value.int .i64) hwE.symm, by unfold wrM; rw [wrE_abs, if_neg (by rw [hwE]; decide)], rfl⟩)
      · have hwE : wrE B txs h k d.length = 0 := by unfold wrE; rw [hhas, show inB B k = true by simpa using h1, if_pos rfl, if_pos rfl, if_pos (by omega)]
        have hvl := ofV_len hol h
        refine SG.skip ?_
        refine SN.block ?_
        refine SN.seq ?_
        refine SG.seq ?_
        refine SG.draw [9, 10, 11, 12] [0, 1, 2, 3, 4, 5, 6, 7, 8, 9, 10, 11, 12] (by decide +kernel) rfl ?_
        refine SW.pure rfl rfl rfl rfl (fun w9 => R.mv rfl) ?_
        refine SW.pure rfl rfl rfl rfl (fun w9 => R.nilChk rfl) ?_
        refine SW.pure rfl rfl rfl rfl (fun w9 => R.fld rfl) ?_
        refine SW.read rfl rfl rfl rfl (fun w9 F9 S9 s => R.ldB rfl (s.cel (by repeat (first | exact SelB.blk | exact SelB.fz | apply SelB.there))) (by rfl)) ?_
        refine SW.pure rfl rfl rfl rfl (fun w9 => R.mv rfl) ?_
        refine SW.pure rfl rfl rfl rfl (fun w9 => R.mv rfl) ?_
        refine SW.pure rfl rfl rfl rfl (fun w9 => R.mv rfl) ?_
        refine SW.pure rfl rfl rfl rfl (fun w9 => R.mv rfl) ?_
        refine SW.pure rfl rfl rfl rfl (fun w9 => R.build (cs := (WriteV.cells (⟨k, a, n, c, d⟩ : WriteV)).toArray) rfl rfl) ?_
        refine SW.step rfl rfl rfl rfl (CS.buildA rfl rfl rfl rfl rfl (WriteV.cells (⟨k, a, n, c, d⟩ : WriteV)) rfl) ?_
        rintro _ _ ⟨b39, rfl, rfl⟩
        refine ⟨⟨.inr (fun w9 F9 S9 s => R.ldB rfl (s.cel (by repeat (first | exact SelB.blk | exact SelB.fz | apply SelB.there))) (by rfl)), trivial⟩, ?_⟩
        refine SW.step rfl rfl rfl rfl (CS.imp (rowB2 [(⟨k, a, n, c, d⟩ : WriteV)] (show Sel _ (blk b39 (WriteV.cells (⟨k, a, n, c, d⟩ : WriteV)) 40) _ from (by repeat (first | exact Sel.keep | exact Sel.here | apply Sel.there))) rfl (show Sel _ (sh (fun w => Bs w a n d)) _ from (by repeat (first | exact Sel.keep | exact Sel.here | apply Sel.there))) (fun w h o ho => by rw [List.mem_singleton.1 ho]; exact ⟨hnc, by show n ≤ _; omega, h⟩) (by simp)) (CS.buildA rfl rfl rfl rfl rfl ([ofV txs h, (⟨some ⟨b39, 0, none⟩, 1, 1, [(⟨k, a, n, c, d⟩ : WriteV)]⟩ : RowW)].map RowW.val) rfl)) ?_
        rintro _ _ ⟨b40, rfl, rfl⟩
        refine ⟨⟨.inr (fun w9 F9 S9 s => R.ldB rfl (s.cel (by repeat (first | exact SelB.blk | exact SelB.fz | apply SelB.there))) (by rfl)), trivial⟩, ?_⟩
        refine SW.step rfl rfl rfl rfl (CS.imp (Imp.blkSh (p := fun w => Cells w (some ⟨b40, 0, none⟩) ([ofV txs h, (⟨some ⟨b39, 0, none⟩, 1, 1, [(⟨k, a, n, c, d⟩ : WriteV)]⟩ : RowW)].map RowW.val)) (show Sel _ (blk b40 ([ofV txs h, (⟨some ⟨b39, 0, none⟩, 1, 1, [(⟨k, a, n, c, d⟩ : WriteV)]⟩ : RowW)].map RowW.val) _) _ from (by repeat (first | exact Sel.keep | exact Sel.here | apply Sel.there))) (fun w h => Cells.of_blk h 0 _ (fun j v hj => by simpa using hj))) (CS.imp (Imp.both (p := fun w => ∀ t ∈ txs, RowW.ok w t.2) (q := fun w => RowW.ok w (⟨some ⟨b39, 0, none⟩, 1, 1, [(⟨k, a, n, c, d⟩ : WriteV)]⟩ : RowW)) (by repeat (first | exact Sel.keep | exact Sel.here | apply Sel.there)) (by repeat (first | exact Sel.keep | exact Sel.here | apply Sel.there))) (CS.imp (Imp.both (p := fun w => Cells w (some ⟨b40, 0, none⟩) ([ofV txs h, (⟨some ⟨b39, 0, none⟩, 1, 1, [(⟨k, a, n, c, d⟩ : WriteV)]⟩ : RowW)].map RowW.val)) (q := fun w => (∀ t ∈ txs, RowW.ok w t.2) ∧ RowW.ok w (⟨some ⟨b39, 0, none⟩, 1, 1, [(⟨k, a, n, c, d⟩ : WriteV)]⟩ : RowW)) (by repeat (first | exact Sel.keep | exact Sel.here | apply Sel.there)) (by repeat (first | exact Sel.keep | exact Sel.here | apply Sel.there))) (CS.imp (Imp.weak (p := fun w => Cells w (some ⟨b40, 0, none⟩) ([ofV txs h, (⟨some ⟨b39, 0, none⟩, 1, 1, [(⟨k, a, n, c, d⟩ : WriteV)]⟩ : RowW)].map RowW.val) ∧ (∀ t ∈ txs, RowW.ok w t.2) ∧ RowW.ok w (⟨some ⟨b39, 0, none⟩, 1, 1, [(⟨k, a, n, c, d⟩ : WriteV)]⟩ : RowW)) (q := fun w => Cells w (some ⟨b40, 0, none⟩) ([ofV txs h, (⟨some ⟨b39, 0, none⟩, 1, 1, [(⟨k, a, n, c, d⟩ : WriteV)]⟩ : RowW)].map RowW.val) ∧ ∀ r ∈ [ofV txs h, (⟨some ⟨b39, 0, none⟩, 1, 1, [(⟨k, a, n, c, d⟩ : WriteV)]⟩ : RowW)], r.ok w) (by repeat (first | exact Sel.keep | exact Sel.here | apply Sel.there)) (fun w hw => ⟨hw.1, fun r hr => by simp only [List.mem_cons, List.not_mem_nil, or_false] at hr; rcases hr with rfl | rfl; exact ofV_ok hw.2.1 h; exact hw.2.2⟩)) (CS.call rfl go25 (mergeS (some ⟨b40, 0, none⟩) 2 2 [ofV txs h, (⟨some ⟨b39, 0, none⟩, 1, 1, [(⟨k, a, n, c, d⟩ : WriteV)]⟩ : RowW)] rfl (by simp [allW]; omega) (by decide)) (by repeat (first | exact Sels.nil | apply Sels.cons | exact Sel.keep | exact Sel.here | apply Sel.there))))))) ?_
        rintro _ _ ⟨_, ⟨r9, rfl, hr9, hr9n, hr9l, rfl⟩, rfl⟩
        refine ⟨⟨.inr (fun w9 F9 S9 s => R.ldB rfl (s.cel (by repeat (first | exact SelB.blk | exact SelB.fz | apply SelB.there))) (by rfl)), trivial⟩, ?_⟩
        refine SW.n2 ?_
        refine SW.step rfl rfl rfl rfl (CS.call rfl go79 (putTx m txs h r9 (by omega)) (by repeat (first | exact Sels.nil | apply Sels.cons | exact Sel.keep | exact Sel.here | apply Sel.there))) ?_
        rintro _ _ ⟨_, ⟨rfl, rfl⟩, rfl⟩
        refine ⟨⟨.inl (by decide +kernel), trivial⟩, ?_⟩
        refine SW.n1 ?_
        refine SW.nil ?_
        refine SN.imp (Imp.both (p := fun w => ∀ t ∈ txs, RowW.ok w t.2) (q := fun w => r9.ok w) (by repeat (first | exact Sel.keep | exact Sel.here | apply Sel.there)) (by repeat (first | exact Sel.keep | exact Sel.here | apply Sel.there))) ?_
        refine SN.imp (Imp.weak (p := fun w => (∀ t ∈ txs, RowW.ok w t.2) ∧ r9.ok w) (q := fun w => ∀ t ∈ putT txs h r9, RowW.ok w t.2) (by repeat (first | exact Sel.keep | exact Sel.here | apply Sel.there)) (fun w hw => put_ok2 hw.1 hw.2)) ?_
        refine SN.seq ?_
        refine SG.seq ?_
        refine SG.region ?_
        refine SL.val rfl rfl (fun w9 F9 S9 s => R.as rfl) ?_
        refine SL.nil ?_
        refine SN.seq ?_
        exact SG.ret1 rfl rfl ((Imp.sels (by repeat (first | exact Sels.nil | apply Sels.cons | exact Sel.keep | exact Sel.here | apply Sel.there)))) (⟨putT txs h r9, congrArg (Value.int .i64) hwE.symm, wrM_put hwE (by rw [hr9]; simp [allW, wv]), rfl⟩)

end Go.Proofs.Ytiiiplhfgblamaa
/-
  The walks of package txn.
-/
set_option linter.unusedVariables false
set_option linter.unusedSimpArgs false
set_option maxRecDepth 4000
namespace Go.Proofs.Ytiiiplhfgblamaa
open Go Brv
/-- What is read of a block. -/
def rdV (B : Int) (M : List (Int × List Wr)) (h k : Int) : Option (List UInt8) := if hasT M h then (if inB B k then (((getT M h).getD []).find? (fun x => x.1 == k)).map Prod.snd else none) else none
def rdE {α : Type} (B : Int) (M : List (Int × α)) (h k : Int) : Int := if hasT M h then (if inB B k then 0 else 41) else 40
theorem rd_no {B : Int} {txs : List (Int × RowW)} {h k : Int} (hh : hasT txs h = false) : rdV B (absT txs) h k = none ∧ rdE B (absT txs) h k = 40 := by
  unfold rdV rdE; rw [hasT_abs, hh]; exact ⟨rfl, rfl⟩
theorem rd_out {B : Int} {txs : List (Int × RowW)} {h k : Int} (hh : hasT txs h = true) (hb : inB B k = false) : rdV B (absT txs) h k = none ∧ rdE B (absT txs) h k = 41 := by
  unfold rdV rdE; rw [hasT_abs, hh, hb]; exact ⟨rfl, rfl⟩
theorem rd_in {B : Int} {txs : List (Int × RowW)} {h k : Int} (hh : hasT txs h = true) (hb : inB B k = true) : rdV B (absT txs) h k = (((ofV txs h).os.map wv).find? (fun x => x.1 == k)).map Prod.snd ∧ rdE B (absT txs) h k = 0 := by
  unfold rdV rdE; rw [hasT_abs, hh, hb, ofV_abs]; exact ⟨rfl, rfl⟩
theorem find_at {os : List WriteV} {k : Int} {i : Nat} {z : WriteV} (hz : os[i]? = some z) (hk : z.Block' = k) (hb : ∀ j y, j < i → os[j]? = some y → y.Block' ≠ k) : ((os.map wv).find? (fun x => x.1 == k)).map Prod.snd = some z.B' := by
  induction os generalizing i with
  | nil => simp at hz
  | cons y os ih =>
    rw [List.map_cons, List.find?_cons]
    cases i with
    | zero =>
      simp only [List.getElem?_cons_zero, Option.some.injEq] at hz
      subst hz
      have : ((wv y).1 == k) = true := by simp [wv, hk]
      rw [this]; rfl
    | succ i =>
      have : ((wv y).1 == k) = false := by have := hb 0 y (by omega) rfl; simp [wv, this]
      rw [this]
      exact ih (by simpa using hz) fun j x hj hx => hb (j + 1) x (by omega) (by simpa using hx)
theorem find_no {os : List WriteV} {k : Int} (hb : ∀ j y, j < os.length → os[j]? = some y → y.Block' ≠ k) : ((os.map wv).find? (fun x => x.1 == k)).map Prod.snd = none := by
  rw [List.find?_eq_none.2, Option.map_none]
  intro x hx
  obtain ⟨y, hy, rfl⟩ := List.mem_map.1 hx
  obtain ⟨j, hj⟩ := List.getElem?_of_mem hy
  have := hb j y (List.getElem?_eq_some_iff.1 hj).1 hj
  simp [wv, this]
theorem rowz {r : RowW} {j : Nat} (hj : j < r.os.length) : ∃ z, r.os[j]? = some z := ⟨_, List.getElem?_eq_getElem hj⟩
theorem _root_.Brv.St.row2 {H H' : List Asn} {r : RowW} {F S : List Nat} {w : World} (s : St H F S w) (h : Sel H (sh (fun w => RowW.ok w r)) H') : RowW.ok w r := s.sh h
theorem rdPost {o x : Option (List UInt8)} {e e' : Int} {a : Option Addr} {n c : Nat} {L R : List Asn} (h1 : x = o) (h2 : e' = e) (hn : n ≤ 140737488351232) (hL : L = bs a n (o.getD []) :: R) :
    ∃ a' n' c', Value.tuple #[.slice a n c, .bool o.isSome, .int .i64 e] = .tuple #[.slice a' n' c', .bool x.isSome, .int .i64 e'] ∧ n' ≤ 140737488351232 ∧ L = bs a' n' (x.getD []) :: R := by
  subst h1; subst h2; exact ⟨a, n, c, rfl, hn, hL⟩
theorem rowlen {r : RowW} {w : World} (h : r.ok w) : r.os.length = r.n := by have := h.2.1.len; simpa using this.symm
theorem rowpt {r : RowW} {w : World} {j : Nat} {z : WriteV} (h : r.ok w) (hz : r.os[j]? = some z) : ∃ q, r.a = some q := by
  obtain ⟨hi, _⟩ := List.getElem?_eq_some_iff.1 hz
  obtain ⟨q, hq, _⟩ := h.2.1.at (by decide) j (by simpa using hi)
  exact ⟨q, hq⟩
theorem rowcells {r : RowW} {w : World} {j : Nat} {z : WriteV} {p : Addr} (h : r.ok w) (hp : r.a = some p) (hz : r.os[j]? = some z) : Cells w (some (p.add ((j : Int).toNat * 2))) (WriteV.cells z) := by
  obtain ⟨hi, rfl⟩ := List.getElem?_eq_some_iff.1 hz
  obtain ⟨q, hq, hc⟩ := h.2.1.at (by decide) j (by simpa using hi)
  rw [hp] at hq; cases hq
  simpa [Int.toNat_natCast] using hc

theorem txread_ok (b m : Nat) (B L : Int) (txs : List (Int × RowW)) (h k : Int) (hl : txs.length ≤ 1000) (hol : ∀ t ∈ txs, t.2.os.length ≤ 1000) : SpecS Try.prog 31 [.pointer (some ⟨b, 0, none⟩), .int .i64 h, .int .i64 k] [blk b [.int .i64 B, .int .i64 L, .pointer (some ⟨m, 0, none⟩)] 137, mp (κ := Int) 174 176 1 m (psT txs), sh (fun w => ∀ t ∈ txs, RowW.ok w t.2)] (fun v H' => ∃ a n c, v = .tuple #[.slice a n c, .bool (rdV B (absT txs) h k).isSome, .int .i64 (rdE B (absT txs) h k)] ∧ n ≤ 140737488351232 ∧ H' = [bs a n ((rdV B (absT txs) h k).getD []), blk b [.int .i64 B, .int .i64 L, .pointer (some ⟨m, 0, none⟩)] 137, mp (κ := Int) 174 176 1 m (psT txs), sh (fun w => ∀ t ∈ txs, RowW.ok w t.2)]) := by
  refine SpecS.enter Try.func31 rfl 42 rfl (Nat.le_of_ble_eq_true rfl) (fun o => ?_)
  refine SG.seq ?_
  refine SG.region ?_
  refine SL.val rfl rfl (fun w9 F9 S9 s => R.as rfl) ?_
  refine SL.val rfl rfl (fun w9 F9 S9 s => R.as rfl) ?_
  refine SL.val rfl rfl (fun w9 F9 S9 s => R.as rfl) ?_
  refine SL.nil ?_
  refine SN.seq ?_
  refine SG.seq ?_
  refine SG.region ?_
  refine SL.val rfl rfl (fun w9 F9 S9 s => R.mv rfl) ?_
  refine SL.val rfl rfl (fun w9 F9 S9 s => R.mv rfl) ?_
  refine SL.step rfl rfl (CS.call rfl go80 (txof_ok b m B L txs h hl) (by repeat (first | exact Sels.nil | apply Sels.cons | exact Sel.keep | exact Sel.here | apply Sel.there))) ?_
  rintro _ _ ⟨_, ⟨rfl, rfl⟩, rfl⟩
  refine SL.n3 ?_
  refine SL.val rfl rfl (fun w9 F9 S9 s => R.mv rfl) ?_
  refine SL.val rfl rfl (fun w9 F9 S9 s => R.ext rfl rfl) ?_
  refine SL.val rfl rfl (fun w9 F9 S9 s => R.ext rfl rfl) ?_
  refine SL.val rfl rfl (fun w9 F9 S9 s => R.as rfl) ?_
  refine SL.val rfl rfl (fun w9 F9 S9 s => R.as rfl) ?_
  refine SL.nil ?_
  refine SN.seq ?_
  refine SG.seq ?_
  refine SG.block ?_
  refine SG.seq ?_
  refine SG.region ?_
  refine SL.val rfl rfl (fun w9 F9 S9 s => R.mv rfl) ?_
  refine SL.val rfl rfl (fun w9 F9 S9 s => R.neI rfl rfl) ?_
  refine SL.val rfl rfl (fun w9 F9 S9 s => R.as rfl) ?_
  refine SL.nil ?_
  refine SN.seq ?_
  refine SG.condP rfl (fun h0 => ?_) (fun h0 => ?_)
  · obtain ⟨hno, hE⟩ := ofE_no h0
    have hrd := rd_no (B := B) (k := k) hno
    rw [hE]
    refine SG.seq ?_
    refine SG.region ?_
    refine SL.val rfl rfl (fun w9 F9 S9 s => R.mv rfl) ?_
    refine SL.val rfl rfl (fun w9 F9 S9 s => R.as rfl) ?_
    refine SL.val rfl rfl (fun w9 F9 S9 s => R.as rfl) ?_
    refine SL.val rfl rfl (fun w9 F9 S9 s => R.as rfl) ?_
    refine SL.nil ?_
    refine SN.seq ?_
    exact SG.ret3 rfl rfl rfl rfl ((Imp.pure (p := fun w => Bs w none 0 []) (fun w => Bs.nil w)).trans (Imp.sels (by repeat (first | exact Sels.nil | apply Sels.cons | exact Sel.keep | exact Sel.here | apply Sel.there)))) (rdPost (o := none) hrd.1 hrd.2 (by decide) rfl)
  · have hhas := ofE_zero h0
    refine SG.seq ?_
    refine SG.region ?_
    refine SL.val rfl rfl (fun w9 F9 S9 s => R.mv rfl) ?_
    refine SL.val rfl rfl (fun w9 F9 S9 s => R.mv rfl) ?_
    refine SL.step rfl rfl (CS.call rfl go81 (txthere_ok b B L (.pointer (some ⟨m, 0, none⟩)) k) (by repeat (first | exact Sels.nil | apply Sels.cons | exact Sel.keep | exact Sel.here | apply Sel.there))) ?_
    rintro _ _ ⟨_, ⟨rfl, rfl⟩, rfl⟩
    refine SL.n1 ?_
    refine SL.val rfl rfl (fun w9 F9 S9 s => R.not rfl) ?_
    refine SL.val rfl rfl (fun w9 F9 S9 s => R.as rfl) ?_
    refine SL.nil ?_
    refine SN.seq ?_
    refine SG.condB rfl (fun h1 => ?_) (fun h1 => ?_)
    · have hrd := rd_out hhas (show inB B k = false by simpa using h1)
      refine SG.seq ?_
      refine SG.region ?_
      refine SL.val rfl rfl (fun w9 F9 S9 s => R.as rfl) ?_
      refine SL.val rfl rfl (fun w9 F9 S9 s => R.as rfl) ?_
      refine SL.val rfl rfl (fun w9 F9 S9 s => R.as rfl) ?_
      refine SL.nil ?_
      refine SN.seq ?_
      exact SG.ret3 rfl rfl rfl rfl ((Imp.pure (p := fun w => Bs w none 0 []) (fun w => Bs.nil w)).trans (Imp.sels (by repeat (first | exact Sels.nil | apply Sels.cons | exact Sel.keep | exact Sel.here | apply Sel.there)))) (rdPost (o := none) hrd.1 hrd.2 (by decide) rfl)
    · have hrd := rd_in hhas (show inB B k = true by simpa using h1)
      refine SG.imp (Imp.weak (p := fun w => ∀ t ∈ txs, RowW.ok w t.2) (q := fun w => RowW.ok w (ofV txs h)) (by repeat (first | exact Sel.keep | exact Sel.here | apply Sel.there)) (fun w hw => ofV_ok hw h)) ?_
      refine SG.fact (fun w9 F9 S9 s => rowlen (s.row2 (show Sel _ (sh (fun w => RowW.ok w (ofV txs h))) _ from (by repeat (first | exact Sel.keep | exact Sel.here | apply Sel.there))))) (fun hf9 => ?_)
      have hln := hf9; clear hf9
      refine SG.fact (fun w9 F9 S9 s => (s.row2 (show Sel _ (sh (fun w => RowW.ok w (ofV txs h))) _ from (by repeat (first | exact Sel.keep | exact Sel.here | apply Sel.there)))).1) (fun hf9 => ?_)
      have hrn := hf9; clear hf9
      refine SG.skip ?_
      refine SN.block ?_
      refine SN.seq ?_
      refine SG.seq ?_
      refine SG.seq ?_
      refine SG.region ?_
      refine SL.val rfl rfl (fun w9 F9 S9 s => R.mv rfl) ?_
      refine SL.val rfl rfl (fun w9 F9 S9 s => R.lenS rfl) ?_
      refine SL.val rfl rfl (fun w9 F9 S9 s => R.mv rfl) ?_
      refine SL.nil ?_
      refine SN.seq ?_
      refine SG.block ?_
      refine SG.loop (X := Nat) (fun i => [(0, .pointer (some ⟨b, 0, none⟩)), (2, .int .i64 k), (28, .slice (ofV txs h).a (ofV txs h).n (ofV txs h).c), (29, .int .i64 ((ofV txs h).n : Int)), (30, .int .i64 (i : Int))]) (fun i => [blk b [.int .i64 B, .int .i64 L, .pointer (some ⟨m, 0, none⟩)] 137, mp (κ := Int) 174 176 1 m (psT txs), sh (fun w => ∀ t ∈ txs, RowW.ok w t.2), sh (fun w => RowW.ok w (ofV txs h))]) (fun i => i ≤ (ofV txs h).n ∧ ∀ j y, j < i → (ofV txs h).os[j]? = some y → y.Block' ≠ k) (fun i => (ofV txs h).n - i) (0) (Sub.cons rfl (Sub.cons rfl (Sub.cons rfl (Sub.cons rfl (Sub.cons rfl (Sub.nil _)))))) ((Imp.sels (by repeat (first | exact Sels.nil | apply Sels.cons | exact Sel.keep | exact Sel.here | apply Sel.there)))) (⟨Nat.zero_le _, fun j y hj => by omega⟩) ?_
      rintro i ⟨hi, hall⟩
      show SG _ _ _ _ _ [(0, .pointer (some ⟨b, 0, none⟩)), (2, .int .i64 k), (28, .slice (ofV txs h).a (ofV txs h).n (ofV txs h).c), (29, .int .i64 ((ofV txs h).n : Int)), (30, .int .i64 (i : Int))] [blk b [.int .i64 B, .int .i64 L, .pointer (some ⟨m, 0, none⟩)] 137, mp (κ := Int) 174 176 1 m (psT txs), sh (fun w => ∀ t ∈ txs, RowW.ok w t.2), sh (fun w => RowW.ok w (ofV txs h))] _
      refine SG.seq ?_
      refine SG.region ?_
      refine SL.val rfl rfl (fun w9 F9 S9 s => R.lss rfl rfl) ?_
      refine SL.nil ?_
      refine SN.seq ?_
      refine SG.seq ?_
      refine SG.condP rfl (fun h2 => ?_) (fun h2 => ?_)
      · obtain ⟨z, hz⟩ := rowz (r := ofV txs h) (j := i) (by omega)
        refine SG.fact (fun w9 F9 S9 s => rowpt (s.row2 (by repeat (first | exact Sel.keep | exact Sel.here | apply Sel.there))) hz) (fun hf9 => ?_)
        obtain ⟨q, hq⟩ := hf9
        refine SG.imp (Imp.weak (p := fun w => RowW.ok w (ofV txs h)) (q := fun w => Bs w z.B'a z.B'n z.B') (by repeat (first | exact Sel.keep | exact Sel.here | apply Sel.there)) (fun w hw => (hw.2.2 z (List.mem_of_getElem? hz)).2.2)) ?_
        refine SG.fact (fun w9 F9 S9 s => ((s.row2 (show Sel _ (sh (fun w => RowW.ok w (ofV txs h))) _ from (by repeat (first | exact Sel.keep | exact Sel.here | apply Sel.there)))).2.2 z (List.mem_of_getElem? hz)).2.1) (fun hf9 => ?_)
        have hzc := hf9; clear hf9
        refine SG.skip ?_
        refine SN.seq ?_
        refine SG.seq ?_
        refine SG.block ?_
        refine SG.seq ?_
        refine SG.region ?_
        refine SL.val rfl rfl (fun w9 F9 S9 s => R.idx rfl rfl (by omega) (by omega) q hq) ?_
        refine SL.val rfl rfl (fun w9 F9 S9 s => R.ldN (vs := WriteV.cells z) rfl (rowcells (s.row2 (by repeat (first | exact Sel.keep | exact Sel.here | apply Sel.there))) hq hz) rfl) ?_
        refine SL.step rfl rfl (CS.alloc [.int .i64 0, .slice none 0 0] rfl) ?_
        rintro _ _ ⟨b12, rfl, rfl⟩
        refine SL.step0 rfl (CS.stA (vs := WriteV.cells z) rfl rfl (by repeat (first | exact Sel.keep | exact Sel.here | apply Sel.there)) (by rfl) (by rfl) (by intro u hu; exact WriteV.cells.one _ u (by simpa using hu))) ?_
        rintro _ _ rfl
        refine SL.nil ?_
        refine SN.seq ?_
        refine SG.seq ?_
        refine SG.region ?_
        refine SL.val rfl rfl (fun w9 F9 S9 s => R.fld rfl) ?_
        refine SL.val rfl rfl (fun w9 F9 S9 s => R.ldB (v := .int .i64 z.Block') rfl (s.cel (by repeat (first | exact SelB.blk | exact SelB.fz | apply SelB.there))) (by rfl)) ?_
        refine SL.val rfl rfl (fun w9 F9 S9 s => R.mv rfl) ?_
        refine SL.val rfl rfl (fun w9 F9 S9 s => R.eqI rfl rfl) ?_
        refine SL.nil ?_
        refine SN.seq ?_
        refine SG.condP rfl (fun h3 => ?_) (fun h3 => ?_)
        · refine SG.seq ?_
          refine SG.region ?_
          refine SL.val rfl rfl (fun w9 F9 S9 s => R.fld rfl) ?_
          refine SL.val rfl rfl (fun w9 F9 S9 s => R.ldB (v := .slice z.B'a z.B'n z.B'c) rfl (s.cel (by repeat (first | exact SelB.blk | exact SelB.fz | apply SelB.there))) (by rfl)) ?_
          refine SL.step rfl rfl (CS.callC rfl go76 (fun w9 F9 S9 s => bclone_ok z.B'a z.B'n z.B'c z.B' w9 (s.sh (p := fun w => Bs w z.B'a z.B'n z.B') (by repeat (first | exact Sel.keep | exact Sel.here | apply Sel.there))) (by omega))) ?_
          rintro _ _ ⟨a40, c40, rfl, rfl⟩
          refine SL.val rfl rfl (fun w9 F9 S9 s => R.as rfl) ?_
          refine SL.val rfl rfl (fun w9 F9 S9 s => R.as rfl) ?_
          refine SL.val rfl rfl (fun w9 F9 S9 s => R.as rfl) ?_
          refine SL.nil ?_
          refine SN.seq ?_
          refine SG.fact (fun w9 F9 S9 s => (s.sh (p := fun w => Bs w z.B'a z.B'n z.B') (by repeat (first | exact Sel.keep | exact Sel.here | apply Sel.there))).len) (fun hf9 => ?_)
          have hzl := hf9; clear hf9
          have hfd := find_at hz h3 hall
          rw [hfd] at hrd
          exact SG.ret3 rfl rfl rfl rfl ((Imp.ownBs (l := z.B') (show Sel _ (own 5 1 a40 z.B'n c40 (vbs z.B')) _ from (by repeat (first | exact Sel.keep | exact Sel.here | apply Sel.there)))).trans (Imp.sels (by repeat (first | exact Sels.nil | apply Sels.cons | exact Sel.keep | exact Sel.here | apply Sel.there)))) (rdPost (o := some z.B') hrd.1 hrd.2 hzc rfl)
        · refine SG.skip ?_
          refine SN.block ?_
          refine SN.seq ?_
          refine SG.region ?_
          refine SL.val rfl rfl (fun w9 F9 S9 s => R.add rfl rfl (by omega)) ?_
          refine SL.val rfl rfl (fun w9 F9 S9 s => R.mv rfl) ?_
          refine SL.nil ?_
          exact SN.again (i + 1) (by show (ofV txs h).n - (i + 1) < (ofV txs h).n - i; omega) (Sub.cons rfl (Sub.cons rfl (Sub.cons rfl (Sub.cons rfl (Sub.cons rfl (Sub.nil _)))))) ((Imp.sels (by repeat (first | exact Sels.nil | apply Sels.cons | exact Sel.keep | exact Sel.here | apply Sel.there)))) (⟨by show i + 1 ≤ (ofV txs h).n; omega, fun j y hj hy => by
            by_cases hji : j = i
            · subst hji; rw [hz] at hy; cases hy; exact h3
            · exact hall j y (by omega) hy⟩)
      · obtain rfl : i = (ofV txs h).n := by omega
        have hfd := find_no (k := k) (os := (ofV txs h).os) (fun j y hj hy => hall j y (by omega) hy)
        rw [hfd] at hrd
        refine SG.exit _ rfl ?_
        refine SN.seq ?_
        refine SG.seq ?_
        refine SG.region ?_
        refine SL.val rfl rfl (fun w9 F9 S9 s => R.as rfl) ?_
        refine SL.val rfl rfl (fun w9 F9 S9 s => R.as rfl) ?_
        refine SL.val rfl rfl (fun w9 F9 S9 s => R.as rfl) ?_
        refine SL.nil ?_
        refine SN.seq ?_
        exact SG.ret3 rfl rfl rfl rfl ((Imp.pure (p := fun w => Bs w none 0 []) (fun w => Bs.nil w)).trans (Imp.sels (by repeat (first | exact Sels.nil | apply Sels.cons | exact Sel.keep | exact Sel.here | apply Sel.there)))) (rdPost (o := none) hrd.1 hrd.2 (by decide) rfl)

end Go.Proofs.Ytiiiplhfgblamaa
/-
  The walks of package txn.
-/
set_option linter.unusedVariables false
set_option linter.unusedSimpArgs false
set_option maxRecDepth 4000
namespace Go.Proofs.Ytiiiplhfgblamaa
open Go Brv
def bgE {α : Type} (M : List α) : Int := if 8 ≤ M.length then 32 else 0
def bgH {α : Type} (L : Int) (M : List α) : Int := if 8 ≤ M.length then 0 else L + 1
def bgL {α : Type} (L : Int) (M : List α) : Int := if 8 ≤ M.length then L else L + 1
def bgM {α : Type} (z : α) (L : Int) (M : List (Int × α)) : List (Int × α) := if 8 ≤ M.length then M else putT M (L + 1) z
theorem bg_many {txs : List (Int × RowW)} {L : Int} (h : 8 ≤ txs.length) : bgE (absT txs) = 32 ∧ bgH L (absT txs) = 0 ∧ bgL L (absT txs) = L ∧ bgM [] L (absT txs) = absT txs := by
  have h2 : 8 ≤ (absT txs).length := by rw [absT_len]; exact h
  exact ⟨if_pos h2, if_pos h2, if_pos h2, if_pos h2⟩
theorem bg_one {txs : List (Int × RowW)} {L : Int} (h : ¬ 8 ≤ txs.length) : bgE (absT txs) = 0 ∧ bgH L (absT txs) = L + 1 ∧ bgL L (absT txs) = L + 1 ∧ bgM [] L (absT txs) = absT (putT txs (L + 1) rowZ) := by
  have h2 : ¬ 8 ≤ (absT txs).length := by rw [absT_len]; exact h
  exact ⟨if_neg h2, if_neg h2, if_neg h2, by unfold bgM; rw [if_neg h2]; exact (putT_map (fun r : RowW => r.os.map wv) txs (L + 1) rowZ).symm⟩
theorem bgPost {M : List (Int × List Wr)} {b m : Nat} {B L x y z : Int} {txs' : List (Int × RowW)} {K : List Asn} {A : Int → List (Int × RowW) → List Asn} (h : bgE M = y ∧ bgH L M = x ∧ bgL L M = z ∧ bgM [] L M = absT txs') (hK : K = A z txs') :
    ∃ txs', Value.tuple #[.int .i64 x, .int .i64 y] = .tuple #[.int .i64 (bgH L M), .int .i64 (bgE M)] ∧ absT txs' = bgM [] L M ∧ K = A (bgL L M) txs' := by
  obtain ⟨h1, h2, h3, h4⟩ := h
  subst h1; subst h2; subst h3
  exact ⟨txs', rfl, h4.symm, hK⟩

theorem txbegin_ok (b m : Nat) (B L : Int) (txs : List (Int × RowW)) (hl : txs.length ≤ 1000) (hL0 : 0 ≤ L) (hL : L ≤ 1000000) : SpecS Try.prog 29 [.pointer (some ⟨b, 0, none⟩)] [blk b [.int .i64 B, .int .i64 L, .pointer (some ⟨m, 0, none⟩)] 137, mp (κ := Int) 174 176 1 m (psT txs), sh (fun w => ∀ t ∈ txs, RowW.ok w t.2)] (fun v H' => ∃ txs', v = .tuple #[.int .i64 (bgH L (absT txs)), .int .i64 (bgE (absT txs))] ∧ absT txs' = bgM [] L (absT txs) ∧ H' = [blk b [.int .i64 B, .int .i64 (bgL L (absT txs)), .pointer (some ⟨m, 0, none⟩)] 137, mp (κ := Int) 174 176 1 m (psT txs'), sh (fun w => ∀ t ∈ txs', RowW.ok w t.2)]) := by
  refine SpecS.enter Try.func29 rfl 34 rfl (Nat.le_of_ble_eq_true rfl) (fun o => ?_)
  refine SG.seq ?_
  refine SG.region ?_
  refine SL.val rfl rfl (fun w9 F9 S9 s => R.as rfl) ?_
  refine SL.val rfl rfl (fun w9 F9 S9 s => R.as rfl) ?_
  refine SL.nil ?_
  refine SN.seq ?_
  refine SG.seq ?_
  refine SG.block ?_
  refine SG.seq ?_
  refine SG.region ?_
  refine SL.val rfl rfl (fun w9 F9 S9 s => R.mv rfl) ?_
  refine SL.val rfl rfl (fun w9 F9 S9 s => R.eqNilP rfl rfl) ?_
  refine SL.val rfl rfl (fun w9 F9 S9 s => R.as rfl) ?_
  refine SL.nil ?_
  refine SN.seq ?_
  refine SG.condF rfl ?_
  refine SG.seq ?_
  refine SG.region ?_
  refine SL.val rfl rfl (fun w9 F9 S9 s => R.mv rfl) ?_
  refine SL.val rfl rfl (fun w9 F9 S9 s => R.nilChk rfl) ?_
  refine SL.val rfl rfl (fun w9 F9 S9 s => R.fld rfl) ?_
  refine SL.val rfl rfl (fun w9 F9 S9 s => R.ldB rfl (s.cel (by repeat (first | exact SelB.blk | exact SelB.fz | apply SelB.there))) (by rfl)) ?_
  refine SL.step rfl rfl (CS.callR rfl go78 (fun w9 F9 S9 s => (s.mp (show Sel _ (mp (κ := Int) 174 176 1 m (psT txs)) _ from (by repeat (first | exact Sel.keep | exact Sel.here | apply Sel.there)))).elim fun S9 h9 => olenTx m txs S9 w9 h9 (by omega))) ?_
  rintro _ _ ⟨rfl, rfl⟩
  refine SL.val rfl rfl (fun w9 F9 S9 s => R.geq rfl rfl) ?_
  refine SL.val rfl rfl (fun w9 F9 S9 s => R.as rfl) ?_
  refine SL.nil ?_
  refine SN.seq ?_
  refine SG.condP rfl (fun h1 => ?_) (fun h1 => ?_)
  · have hbg := bg_many (txs := txs) (L := L) (by omega)
    refine SG.seq ?_
    refine SG.region ?_
    refine SL.val rfl rfl (fun w9 F9 S9 s => R.as rfl) ?_
    refine SL.val rfl rfl (fun w9 F9 S9 s => R.as rfl) ?_
    refine SL.nil ?_
    refine SN.seq ?_
    exact SG.ret2 rfl rfl rfl ((Imp.sels (by repeat (first | exact Sels.nil | apply Sels.cons | exact Sel.keep | exact Sel.here | apply Sel.there)))) (bgPost (b := b) (m := m) (B := B) (txs' := txs) (A := (fun z txs => [blk b [.int .i64 B, .int .i64 z, .pointer (some ⟨m, 0, none⟩)] 137, mp (κ := Int) 174 176 1 m (psT txs), sh (fun w => ∀ t ∈ txs, RowW.ok w t.2)])) hbg rfl)
  · have hbg := bg_one (txs := txs) (L := L) (by omega)
    refine SG.skip ?_
    refine SN.block ?_
    refine SN.seq ?_
    refine SG.seq ?_
    refine SG.region ?_
    refine SL.val rfl rfl (fun w9 F9 S9 s => R.mv rfl) ?_
    refine SL.val rfl rfl (fun w9 F9 S9 s => R.nilChk rfl) ?_
    refine SL.val rfl rfl (fun w9 F9 S9 s => R.fld rfl) ?_
    refine SL.val rfl rfl (fun w9 F9 S9 s => R.ldB rfl (s.cel (by repeat (first | exact SelB.blk | exact SelB.fz | apply SelB.there))) (by rfl)) ?_
    refine SL.val rfl rfl (fun w9 F9 S9 s => R.add rfl rfl (by omega)) ?_
    refine SL.val rfl rfl (fun w9 F9 S9 s => R.nilChk rfl) ?_
    refine SL.val rfl rfl (fun w9 F9 S9 s => R.fld rfl) ?_
    refine SL.step0 rfl (CS.st rfl rfl (by repeat (first | exact Sel.keep | exact Sel.here | apply Sel.there)) (by repeat (first | exact SetAt.here | apply SetAt.there)) rfl) ?_
    rintro _ _ rfl
    refine SL.nil ?_
    refine SN.seq ?_
    refine SG.seq ?_
    refine SG.draw [8] [0, 1, 2, 3, 4, 5, 6, 7, 8] (by decide +kernel) rfl ?_
    refine SW.pure rfl rfl rfl rfl (fun w9 => R.mv rfl) ?_
    refine SW.pure rfl rfl rfl rfl (fun w9 => R.nilChk rfl) ?_
    refine SW.pure rfl rfl rfl rfl (fun w9 => R.fld rfl) ?_
    refine SW.read rfl rfl rfl rfl (fun w9 F9 S9 s => R.ldB rfl (s.cel (by repeat (first | exact SelB.blk | exact SelB.fz | apply SelB.there))) (by rfl)) ?_
    refine SW.pure rfl rfl rfl rfl (fun w9 => R.mv rfl) ?_
    refine SW.pure rfl rfl rfl rfl (fun w9 => R.nilChk rfl) ?_
    refine SW.pure rfl rfl rfl rfl (fun w9 => R.fld rfl) ?_
    refine SW.read rfl rfl rfl rfl (fun w9 F9 S9 s => R.ldB rfl (s.cel (by repeat (first | exact SelB.blk | exact SelB.fz | apply SelB.there))) (by rfl)) ?_
    refine SW.step rfl rfl rfl rfl (CS.call rfl go79 (putTx m txs (L + 1) rowZ (by omega)) (by repeat (first | exact Sels.nil | apply Sels.cons | exact Sel.keep | exact Sel.here | apply Sel.there))) ?_
    rintro _ _ ⟨_, ⟨rfl, rfl⟩, rfl⟩
    refine ⟨⟨.inl (by decide +kernel), ⟨.inl (by decide +kernel), trivial⟩⟩, ?_⟩
    refine SW.n1 ?_
    refine SW.nil ?_
    refine SN.imp (Imp.weak (p := fun w => ∀ t ∈ txs, RowW.ok w t.2) (q := fun w => ∀ t ∈ putT txs (L + 1) rowZ, RowW.ok w t.2) (by repeat (first | exact Sel.keep | exact Sel.here | apply Sel.there)) (fun w hw => put_ok2 hw (rowZ_ok w))) ?_
    refine SN.seq ?_
    refine SG.seq ?_
    refine SG.region ?_
    refine SL.val rfl rfl (fun w9 F9 S9 s => R.mv rfl) ?_
    refine SL.val rfl rfl (fun w9 F9 S9 s => R.nilChk rfl) ?_
    refine SL.val rfl rfl (fun w9 F9 S9 s => R.fld rfl) ?_
    refine SL.val rfl rfl (fun w9 F9 S9 s => R.ldB rfl (s.cel (by repeat (first | exact SelB.blk | exact SelB.fz | apply SelB.there))) (by rfl)) ?_
    refine SL.val rfl rfl (fun w9 F9 S9 s => R.as rfl) ?_
    refine SL.val rfl rfl (fun w9 F9 S9 s => R.as rfl) ?_
    refine SL.nil ?_
    refine SN.seq ?_
    exact SG.ret2 rfl rfl rfl ((Imp.sels (by repeat (first | exact Sels.nil | apply Sels.cons | exact Sel.keep | exact Sel.here | apply Sel.there)))) (bgPost (b := b) (m := m) (B := B) (txs' := (putT txs (L + 1) rowZ)) (A := (fun z txs => [blk b [.int .i64 B, .int .i64 z, .pointer (some ⟨m, 0, none⟩)] 137, mp (κ := Int) 174 176 1 m (psT txs), sh (fun w => ∀ t ∈ txs, RowW.ok w t.2)])) hbg rfl)

theorem txwrites_ok (b m : Nat) (B L : Int) (txs : List (Int × RowW)) (h : Int) (hl : txs.length ≤ 1000) (hol : ∀ t ∈ txs, t.2.os.length ≤ 1000) : SpecS Try.prog 32 [.pointer (some ⟨b, 0, none⟩), .int .i64 h] [blk b [.int .i64 B, .int .i64 L, .pointer (some ⟨m, 0, none⟩)] 137, mp (κ := Int) 174 176 1 m (psT txs), sh (fun w => ∀ t ∈ txs, RowW.ok w t.2)] (fun v H' => ∃ r : RowW, v = .tuple #[.slice r.a r.n r.c, .int .i64 (ofE (absT txs) h)] ∧ r.os.map wv = mgW ((getT (absT txs) h).getD []) ∧ H' = [sh (fun w => r.ok w), blk b [.int .i64 B, .int .i64 L, .pointer (some ⟨m, 0, none⟩)] 137, mp (κ := Int) 174 176 1 m (psT txs), sh (fun w => ∀ t ∈ txs, RowW.ok w t.2)]) := by
  refine SpecS.enter Try.func32 rfl 18 rfl (Nat.le_of_ble_eq_true rfl) (fun o => ?_)
  refine SG.seq ?_
  refine SG.region ?_
  refine SL.val rfl rfl (fun w9 F9 S9 s => R.as rfl) ?_
  refine SL.val rfl rfl (fun w9 F9 S9 s => R.as rfl) ?_
  refine SL.nil ?_
  refine SN.seq ?_
  refine SG.seq ?_
  refine SG.region ?_
  refine SL.val rfl rfl (fun w9 F9 S9 s => R.mv rfl) ?_
  refine SL.val rfl rfl (fun w9 F9 S9 s => R.mv rfl) ?_
  refine SL.step rfl rfl (CS.call rfl go80 (txof_ok b m B L txs h hl) (by repeat (first | exact Sels.nil | apply Sels.cons | exact Sel.keep | exact Sel.here | apply Sel.there))) ?_
  rintro _ _ ⟨_, ⟨rfl, rfl⟩, rfl⟩
  refine SL.n3 ?_
  refine SL.val rfl rfl (fun w9 F9 S9 s => R.mv rfl) ?_
  refine SL.val rfl rfl (fun w9 F9 S9 s => R.ext rfl rfl) ?_
  refine SL.val rfl rfl (fun w9 F9 S9 s => R.ext rfl rfl) ?_
  refine SL.val rfl rfl (fun w9 F9 S9 s => R.as rfl) ?_
  refine SL.val rfl rfl (fun w9 F9 S9 s => R.as rfl) ?_
  refine SL.nil ?_
  refine SN.seq ?_
  refine SG.seq ?_
  refine SG.region ?_
  refine SL.val rfl rfl (fun w9 F9 S9 s => R.mv rfl) ?_
  refine SL.step rfl rfl (CS.buildA rfl rfl rfl rfl rfl ([ofV txs h].map RowW.val) rfl) ?_
  rintro _ _ ⟨b15, rfl, rfl⟩
  have hvl := ofV_len hol h
  refine SL.imp (Imp.blkSh (p := fun w => Cells w (some ⟨b15, 0, none⟩) ([ofV txs h].map RowW.val)) (show Sel _ (blk b15 ([ofV txs h].map RowW.val) _) _ from (by repeat (first | exact Sel.keep | exact Sel.here | apply Sel.there))) (fun w h => Cells.of_blk h 0 _ (fun j v hj => by simpa using hj))) ?_
  refine SL.imp (Imp.both (p := fun w => Cells w (some ⟨b15, 0, none⟩) ([ofV txs h].map RowW.val)) (q := fun w => ∀ t ∈ txs, RowW.ok w t.2) (by repeat (first | exact Sel.keep | exact Sel.here | apply Sel.there)) (by repeat (first | exact Sel.keep | exact Sel.here | apply Sel.there))) ?_
  refine SL.imp (Imp.weak (p := fun w => Cells w (some ⟨b15, 0, none⟩) ([ofV txs h].map RowW.val) ∧ ∀ t ∈ txs, RowW.ok w t.2) (q := fun w => Cells w (some ⟨b15, 0, none⟩) ([ofV txs h].map RowW.val) ∧ ∀ r ∈ [ofV txs h], r.ok w) (by repeat (first | exact Sel.keep | exact Sel.here | apply Sel.there)) (fun w hw => ⟨hw.1, fun r hr => by rw [List.mem_singleton.1 hr]; exact ofV_ok hw.2 h⟩)) ?_
  refine SL.step rfl rfl (CS.call rfl go25 (mergeS (some ⟨b15, 0, none⟩) 1 1 [ofV txs h] rfl (by simp [allW]; omega) (by decide)) (by repeat (first | exact Sels.nil | apply Sels.cons | exact Sel.keep | exact Sel.here | apply Sel.there))) ?_
  rintro _ _ ⟨_, ⟨r9, rfl, hr9, hr9n, hr9l, rfl⟩, rfl⟩
  refine SL.n2 ?_
  refine SL.val rfl rfl (fun w9 F9 S9 s => R.mv rfl) ?_
  refine SL.val rfl rfl (fun w9 F9 S9 s => R.as rfl) ?_
  refine SL.val rfl rfl (fun w9 F9 S9 s => R.as rfl) ?_
  refine SL.nil ?_
  refine SN.seq ?_
  exact SG.ret2 rfl rfl rfl ((Imp.sels (by repeat (first | exact Sels.nil | apply Sels.cons | exact Sel.keep | exact Sel.here | apply Sel.there)))) (⟨r9, by rw [ofE_abs]; rfl, by rw [hr9, ← ofV_abs]; simp [allW], rfl⟩)

theorem txend_ok (b m : Nat) (B L : Int) (txs : List (Int × RowW)) (h : Int) (hl : txs.length ≤ 1000) : SpecS Try.prog 33 [.pointer (some ⟨b, 0, none⟩), .int .i64 h] [blk b [.int .i64 B, .int .i64 L, .pointer (some ⟨m, 0, none⟩)] 137, mp (κ := Int) 174 176 1 m (psT txs), sh (fun w => ∀ t ∈ txs, RowW.ok w t.2)] (fun v H' => ∃ txs', v = .int .i64 (ofE (absT txs) h) ∧ absT txs' = delT (absT txs) h ∧ H' = [blk b [.int .i64 B, .int .i64 L, .pointer (some ⟨m, 0, none⟩)] 137, mp (κ := Int) 174 176 1 m (psT txs'), sh (fun w => ∀ t ∈ txs', RowW.ok w t.2)]) := by
  refine SpecS.enter Try.func33 rfl 22 rfl (Nat.le_of_ble_eq_true rfl) (fun o => ?_)
  refine SG.seq ?_
  refine SG.region ?_
  refine SL.val rfl rfl (fun w9 F9 S9 s => R.as rfl) ?_
  refine SL.nil ?_
  refine SN.seq ?_
  refine SG.seq ?_
  refine SG.seq ?_
  refine SG.region ?_
  refine SL.val rfl rfl (fun w9 F9 S9 s => R.mv rfl) ?_
  refine SL.val rfl rfl (fun w9 F9 S9 s => R.mv rfl) ?_
  refine SL.step rfl rfl (CS.call rfl go80 (txof_ok b m B L txs h hl) (by repeat (first | exact Sels.nil | apply Sels.cons | exact Sel.keep | exact Sel.here | apply Sel.there))) ?_
  rintro _ _ ⟨_, ⟨rfl, rfl⟩, rfl⟩
  refine SL.n3 ?_
  refine SL.val rfl rfl (fun w9 F9 S9 s => R.mv rfl) ?_
  refine SL.val rfl rfl (fun w9 F9 S9 s => R.ext rfl rfl) ?_
  refine SL.val rfl rfl (fun w9 F9 S9 s => R.ext rfl rfl) ?_
  refine SL.val rfl rfl (fun w9 F9 S9 s => R.as rfl) ?_
  refine SL.val rfl rfl (fun w9 F9 S9 s => R.as rfl) ?_
  refine SL.nil ?_
  refine SN.seq ?_
  refine SG.seq ?_
  refine SG.region ?_
  refine SL.val rfl rfl (fun w9 F9 S9 s => R.mv rfl) ?_
  refine SL.val rfl rfl (fun w9 F9 S9 s => R.neI rfl rfl) ?_
  refine SL.nil ?_
  refine SN.seq ?_
  refine SG.condP rfl (fun h0 => ?_) (fun h0 => ?_)
  · obtain ⟨hno, hE⟩ := ofE_no h0
    have hdl : delT txs h = txs := by unfold delT; rw [hno]; rfl
    refine SG.seq ?_
    refine SG.region ?_
    refine SL.val rfl rfl (fun w9 F9 S9 s => R.mv rfl) ?_
    refine SL.val rfl rfl (fun w9 F9 S9 s => R.as rfl) ?_
    refine SL.nil ?_
    refine SN.seq ?_
    exact SG.ret1 rfl rfl ((Imp.sels (by repeat (first | exact Sels.nil | apply Sels.cons | exact Sel.keep | exact Sel.here | apply Sel.there)))) (⟨txs, by rw [ofE_abs]; rfl, by rw [← hdl]; exact (delT_map _ _ _).trans (by unfold absT; rw [hdl]), rfl⟩)
  · have hhas := ofE_zero h0
    have hE : ofE txs h = 0 := by unfold ofE; rw [hhas]; rfl
    refine SG.skip ?_
    refine SN.seq ?_
    refine SG.seq ?_
    refine SG.region ?_
    refine SL.val rfl rfl (fun w9 F9 S9 s => R.mv rfl) ?_
    refine SL.val rfl rfl (fun w9 F9 S9 s => R.nilChk rfl) ?_
    refine SL.val rfl rfl (fun w9 F9 S9 s => R.fld rfl) ?_
    refine SL.val rfl rfl (fun w9 F9 S9 s => R.ldB rfl (s.cel (by repeat (first | exact SelB.blk | exact SelB.fz | apply SelB.there))) (by rfl)) ?_
    refine SL.val rfl rfl (fun w9 F9 S9 s => R.mv rfl) ?_
    refine SL.step rfl rfl (CS.call rfl go82 (delTx m txs h (by omega)) (by repeat (first | exact Sels.nil | apply Sels.cons | exact Sel.keep | exact Sel.here | apply Sel.there))) ?_
    rintro _ _ ⟨_, ⟨rfl, rfl⟩, rfl⟩
    refine SL.n1 ?_
    refine SL.nil ?_
    refine SN.imp (Imp.weak (p := fun w => ∀ t ∈ txs, RowW.ok w t.2) (q := fun w => ∀ t ∈ delT txs h, RowW.ok w t.2) (by repeat (first | exact Sel.keep | exact Sel.here | apply Sel.there)) (fun w hw => del_ok2 hw)) ?_
    refine SN.seq ?_
    refine SG.seq ?_
    refine SG.region ?_
    refine SL.val rfl rfl (fun w9 F9 S9 s => R.as rfl) ?_
    refine SL.nil ?_
    refine SN.seq ?_
    exact SG.ret1 rfl rfl ((Imp.sels (by repeat (first | exact Sels.nil | apply Sels.cons | exact Sel.keep | exact Sel.here | apply Sel.there)))) (⟨delT txs h, congrArg (Value.int .i64) ((ofE_abs txs h).trans hE).symm, delT_map _ _ _, rfl⟩)

theorem txopen_ok (b m : Nat) (B L : Int) (txs : List (Int × RowW)) (hl : txs.length ≤ 1000) : SpecS Try.prog 35 [.pointer (some ⟨b, 0, none⟩)] [blk b [.int .i64 B, .int .i64 L, .pointer (some ⟨m, 0, none⟩)] 137, mp (κ := Int) 174 176 1 m (psT txs), sh (fun w => ∀ t ∈ txs, RowW.ok w t.2)] (fun v H' => ∃ a c, v = .slice a txs.length c ∧ H' = [own 3 1 a txs.length c (txs.map fun t => .int .i64 t.1), blk b [.int .i64 B, .int .i64 L, .pointer (some ⟨m, 0, none⟩)] 137, mp (κ := Int) 174 176 1 m (psT txs), sh (fun w => ∀ t ∈ txs, RowW.ok w t.2)]) := by
  refine SpecS.enter Try.func35 rfl 10 rfl (Nat.le_of_ble_eq_true rfl) (fun o => ?_)
  refine SG.seq ?_
  refine SG.region ?_
  refine SL.val rfl rfl (fun w9 F9 S9 s => R.as rfl) ?_
  refine SL.nil ?_
  refine SN.seq ?_
  refine SG.seq ?_
  refine SG.seq ?_
  refine SG.region ?_
  refine SL.val rfl rfl (fun w9 F9 S9 s => R.mv rfl) ?_
  refine SL.val rfl rfl (fun w9 F9 S9 s => R.eqNilP rfl rfl) ?_
  refine SL.nil ?_
  refine SN.seq ?_
  refine SG.condF rfl ?_
  refine SG.skip ?_
  refine SN.seq ?_
  refine SG.seq ?_
  refine SG.region ?_
  refine SL.val rfl rfl (fun w9 F9 S9 s => R.mv rfl) ?_
  refine SL.val rfl rfl (fun w9 F9 S9 s => R.nilChk rfl) ?_
  refine SL.val rfl rfl (fun w9 F9 S9 s => R.fld rfl) ?_
  refine SL.val rfl rfl (fun w9 F9 S9 s => R.ldB rfl (s.cel (by repeat (first | exact SelB.blk | exact SelB.fz | apply SelB.there))) (by rfl)) ?_
  refine SL.step rfl rfl (CS.callC rfl go83 (fun w9 F9 S9 s => (s.mp (show Sel _ (mp (κ := Int) 174 176 1 m (psT txs)) _ from (by repeat (first | exact Sel.keep | exact Sel.here | apply Sel.there)))).elim fun S9 h9 => keysTx m txs S9 w9 h9 (by omega))) ?_
  rintro _ _ ⟨a9, c9, rfl, rfl⟩
  refine SL.val rfl rfl (fun w9 F9 S9 s => R.as rfl) ?_
  refine SL.nil ?_
  refine SN.seq ?_
  exact SG.ret1 rfl rfl ((Imp.sels (by repeat (first | exact Sels.nil | apply Sels.cons | exact Sel.keep | exact Sel.here | apply Sel.there)))) (⟨a9, c9, rfl, rfl⟩)

theorem txclear_ok (b m : Nat) (B L : Int) (txs : List (Int × RowW)) : SpecS Try.prog 34 [.pointer (some ⟨b, 0, none⟩)] [blk b [.int .i64 B, .int .i64 L, .pointer (some ⟨m, 0, none⟩)] 137, mp (κ := Int) 174 176 1 m (psT txs), sh (fun w => ∀ t ∈ txs, RowW.ok w t.2)] (fun v H' => ∃ m', v = .tuple #[] ∧ H' = [blk b [.int .i64 B, .int .i64 L, .pointer (some ⟨m', 0, none⟩)] 137, mp (κ := Int) 174 176 1 m' (psT []), sh (fun w => ∀ t ∈ ([] : List (Int × RowW)), RowW.ok w t.2)]) := by
  refine SpecS.enter Try.func34 rfl 8 rfl (Nat.le_of_ble_eq_true rfl) (fun o => ?_)
  refine SG.seq ?_
  refine SG.region ?_
  refine SL.val rfl rfl (fun w9 F9 S9 s => R.mv rfl) ?_
  refine SL.val rfl rfl (fun w9 F9 S9 s => R.neNilP rfl rfl) ?_
  refine SL.nil ?_
  refine SN.seq ?_
  refine SG.condT rfl ?_
  refine SG.region ?_
  refine SL.val rfl rfl (fun w9 F9 S9 s => R.mv rfl) ?_
  refine SL.step rfl rfl (CS.call rfl go77 (SpecS.ofNew (fun w => onewW_ok w)) (by repeat (first | exact Sels.nil | apply Sels.cons | exact Sel.keep | exact Sel.here | apply Sel.there))) ?_
  rintro _ _ ⟨_, ⟨m2, rfl, rfl⟩, rfl⟩
  refine SL.n1 ?_
  refine SL.imp (Imp.pure (p := fun w => ∀ t ∈ ([] : List (Int × RowW)), RowW.ok w t.2) (fun w t ht => by cases ht)) ?_
  refine SL.val rfl rfl (fun w9 F9 S9 s => R.nilChk rfl) ?_
  refine SL.val rfl rfl (fun w9 F9 S9 s => R.fld rfl) ?_
  refine SL.step0 rfl (CS.st rfl rfl (by repeat (first | exact Sel.keep | exact Sel.here | apply Sel.there)) (by repeat (first | exact SetAt.here | apply SetAt.there)) rfl) ?_
  rintro _ _ rfl
  refine SL.nil ?_
  exact SN.end0 rfl ((Imp.sels (by repeat (first | exact Sels.nil | apply Sels.cons | exact Sel.keep | exact Sel.here | apply Sel.there)))) (⟨m2, rfl, rfl⟩)

theorem txnew_ok (B : Int) (h1 : 1 ≤ B) (h2 : B ≤ 64) : SpecS Try.prog 28 [.int .i64 B] [] (fun v H' => ∃ b m', v = .tuple #[.pointer (some ⟨b, 0, none⟩), .int .i64 0] ∧ H' = [blk b [.int .i64 B, .int .i64 0, .pointer (some ⟨m', 0, none⟩)] 137, mp (κ := Int) 174 176 1 m' (psT []), sh (fun w => ∀ t ∈ ([] : List (Int × RowW)), RowW.ok w t.2)]) := by
  refine SpecS.enter Try.func28 rfl 14 rfl (Nat.le_of_ble_eq_true rfl) (fun o => ?_)
  refine SG.seq ?_
  refine SG.region ?_
  refine SL.val rfl rfl (fun w9 F9 S9 s => R.as rfl) ?_
  refine SL.val rfl rfl (fun w9 F9 S9 s => R.as rfl) ?_
  refine SL.nil ?_
  refine SN.seq ?_
  refine SG.seq ?_
  refine SG.seq ?_
  refine SG.region ?_
  refine SL.val rfl rfl (fun w9 F9 S9 s => R.mv rfl) ?_
  refine SL.val rfl rfl (fun w9 F9 S9 s => R.lss rfl rfl) ?_
  refine SL.val rfl rfl (fun w9 F9 S9 s => R.mv rfl) ?_
  refine SL.caseP 6 rfl (fun hg1_2 => ?_) (fun hg1_2 => ?_)
  · exfalso; omega
  · refine SL.val rfl rfl (fun w9 F9 S9 s => R.mv rfl) ?_
    refine SL.val rfl rfl (fun w9 F9 S9 s => R.gtr rfl rfl) ?_
    first | refine SL.val rfl rfl (fun w9 F9 S9 s => R.pickT rfl rfl) ?_ | refine SL.val rfl rfl (fun w9 F9 S9 s => R.pickF rfl rfl) ?_
    refine SL.nil ?_
    refine SN.seq ?_
    refine SG.condP rfl (fun h0 => ?_) (fun h0 => ?_)
    · exfalso; omega
    · refine SG.skip ?_
      refine SN.seq ?_
      refine SG.seq ?_
      refine SG.region ?_
      refine SL.val rfl rfl (fun w9 F9 S9 s => R.mv rfl) ?_
      refine SL.step rfl rfl (CS.call rfl go77 (SpecS.ofNew (fun w => onewW_ok w)) (by repeat (first | exact Sels.nil | apply Sels.cons | exact Sel.keep | exact Sel.here | apply Sel.there))) ?_
      rintro _ _ ⟨_, ⟨m2, rfl, rfl⟩, rfl⟩
      refine SL.n1 ?_
      refine SL.imp (Imp.pure (p := fun w => ∀ t ∈ ([] : List (Int × RowW)), RowW.ok w t.2) (fun w t ht => by cases ht)) ?_
      refine SL.val rfl rfl (fun w9 F9 S9 s => R.build rfl rfl) ?_
      refine SL.step rfl rfl (CS.boxA rfl) ?_
      rintro _ _ ⟨b13, rfl, rfl⟩
      refine SL.val rfl rfl (fun w9 F9 S9 s => R.as rfl) ?_
      refine SL.val rfl rfl (fun w9 F9 S9 s => R.as rfl) ?_
      refine SL.nil ?_
      refine SN.seq ?_
      exact SG.ret2 rfl rfl rfl ((Imp.sels (by repeat (first | exact Sels.nil | apply Sels.cons | exact Sel.keep | exact Sel.here | apply Sel.there)))) (⟨b13, m2, rfl, rfl⟩)

end Go.Proofs.Ytiiiplhfgblamaa
/-
  The walks of package txn.
-/
set_option linter.unusedVariables false
set_option linter.unusedSimpArgs false
set_option maxRecDepth 4000
namespace Go.Proofs.Ytiiiplhfgblamaa
open Go Brv
def bk (b : Nat) (B L : Int) (M : List (Int × List Wr)) : Asn := pk (fun i : {i : Nat × List (Int × RowW) // absT i.2 = M} => [blk b [.int .i64 B, .int .i64 L, .pointer (some ⟨i.1.1, 0, none⟩)] 137, mp (κ := Int) 174 176 1 i.1.1 (psT i.1.2), sh (fun w => ∀ t ∈ i.1.2, RowW.ok w t.2)])
theorem abs_len {txs : List (Int × RowW)} {k : Nat} (h : ∀ e ∈ absT txs, e.2.length ≤ k) : ∀ t ∈ txs, t.2.os.length ≤ k := fun t ht => by
  have := h (t.1, t.2.os.map wv) (List.mem_map.2 ⟨t, ht, rfl⟩)
  simpa using this
theorem bk_close {b m : Nat} {B L : Int} {txs : List (Int × RowW)} {M : List (Int × List Wr)} (h : absT txs = M) : Imp [blk b [.int .i64 B, .int .i64 L, .pointer (some ⟨m, 0, none⟩)] 137, mp (κ := Int) 174 176 1 m (psT txs), sh (fun w => ∀ t ∈ txs, RowW.ok w t.2)] [bk b B L M] := Imp.close0 (A := fun i : {i : Nat × List (Int × RowW) // absT i.2 = M} => [blk b [.int .i64 B, .int .i64 L, .pointer (some ⟨i.1.1, 0, none⟩)] 137, mp (κ := Int) 174 176 1 i.1.1 (psT i.1.2), sh (fun w => ∀ t ∈ i.1.2, RowW.ok w t.2)]) ⟨⟨m, txs⟩, h⟩

theorem beginS (b : Nat) (B L : Int) (M : List (Int × List Wr)) (hl : M.length ≤ 1000) (hL0 : 0 ≤ L) (hL : L ≤ 1000000) : SpecS Try.prog 29 [.pointer (some ⟨b, 0, none⟩)] (bk b B L M :: []) (fun v H' => v = .tuple #[.int .i64 (bgH L M), .int .i64 (bgE M)] ∧ H' = [bk b B (bgL L M) (bgM [] L M)]) :=
  SpecS.opened fun ⟨⟨m, txs⟩, hM⟩ => by
    subst hM
    have hl' : txs.length ≤ 1000 := by rw [← absT_len]; exact hl
    exact SpecS.closed (txbegin_ok b m B L txs hl' hL0 hL) fun v H' ⟨txs', h1, h2, h3⟩ => ⟨_, by rw [h3]; exact bk_close h2, h1, rfl⟩

theorem writeS (b : Nat) (B L : Int) (M : List (Int × List Wr)) (h k : Int) (a : Option Addr) (n c : Nat) (d : List UInt8) (hl : M.length ≤ 1000) (hw : ∀ e ∈ M, e.2.length ≤ 1000) (hnc : n ≤ c) (hc : c ≤ 140737488351232) (hnd : n = d.length) : SpecS Try.prog 30 [.pointer (some ⟨b, 0, none⟩), .int .i64 h, .int .i64 k, .slice a n c] (bk b B L M :: [bs a n d]) (fun v H' => v = .int .i64 (wrE B M h k d.length) ∧ H' = [bk b B L (wrM B M h k d)]) :=
  SpecS.opened fun ⟨⟨m, txs⟩, hM⟩ => by
    subst hM
    have hl' : txs.length ≤ 1000 := by rw [← absT_len]; exact hl
    have hol := abs_len hw
    exact SpecS.closed (txwrite_ok b m B L txs h k a n c d hl' hol hnc hc hnd) fun v H' ⟨txs', h1, h2, h3⟩ => ⟨_, by rw [h3]; exact bk_close h2, by rw [wrE_abs]; exact h1, rfl⟩

theorem readS (b : Nat) (B L : Int) (M : List (Int × List Wr)) (h k : Int) (hl : M.length ≤ 1000) (hw : ∀ e ∈ M, e.2.length ≤ 1000) : SpecS Try.prog 31 [.pointer (some ⟨b, 0, none⟩), .int .i64 h, .int .i64 k] (bk b B L M :: []) (fun v H' => ∃ a n c, v = .tuple #[.slice a n c, .bool (rdV B M h k).isSome, .int .i64 (rdE B M h k)] ∧ n ≤ 140737488351232 ∧ H' = [bs a n ((rdV B M h k).getD []), bk b B L M]) :=
  SpecS.opened fun ⟨⟨m, txs⟩, hM⟩ => by
    subst hM
    have hl' : txs.length ≤ 1000 := by rw [← absT_len]; exact hl
    have hol := abs_len hw
    exact SpecS.closed (txread_ok b m B L txs h k hl' hol) fun v H' ⟨a, n, c, h1, h2, h3⟩ => ⟨_, by rw [h3]; exact Imp.under (bk_close rfl), a, n, c, h1, h2, rfl⟩

theorem writesS (b : Nat) (B L : Int) (M : List (Int × List Wr)) (h : Int) (hl : M.length ≤ 1000) (hw : ∀ e ∈ M, e.2.length ≤ 1000) : SpecS Try.prog 32 [.pointer (some ⟨b, 0, none⟩), .int .i64 h] (bk b B L M :: []) (fun v H' => ∃ r : RowW, v = .tuple #[.slice r.a r.n r.c, .int .i64 (ofE M h)] ∧ r.os.map wv = mgW ((getT M h).getD []) ∧ H' = [sh (fun w => r.ok w), bk b B L M]) :=
  SpecS.opened fun ⟨⟨m, txs⟩, hM⟩ => by
    subst hM
    have hl' : txs.length ≤ 1000 := by rw [← absT_len]; exact hl
    have hol := abs_len hw
    exact SpecS.closed (txwrites_ok b m B L txs h hl' hol) fun v H' ⟨r, h1, h2, h3⟩ => ⟨_, by rw [h3]; exact Imp.under (bk_close rfl), r, h1, h2, rfl⟩

theorem endS (b : Nat) (B L : Int) (M : List (Int × List Wr)) (h : Int) (hl : M.length ≤ 1000) : SpecS Try.prog 33 [.pointer (some ⟨b, 0, none⟩), .int .i64 h] (bk b B L M :: []) (fun v H' => v = .int .i64 (ofE M h) ∧ H' = [bk b B L (delT M h)]) :=
  SpecS.opened fun ⟨⟨m, txs⟩, hM⟩ => by
    subst hM
    have hl' : txs.length ≤ 1000 := by rw [← absT_len]; exact hl
    exact SpecS.closed (txend_ok b m B L txs h hl') fun v H' ⟨txs', h1, h2, h3⟩ => ⟨_, by rw [h3]; exact bk_close h2, h1, rfl⟩

theorem openS (b : Nat) (B L : Int) (M : List (Int × List Wr)) (hl : M.length ≤ 1000) : SpecS Try.prog 35 [.pointer (some ⟨b, 0, none⟩)] (bk b B L M :: []) (fun v H' => ∃ a c, v = .slice a M.length c ∧ H' = [own 3 1 a M.length c (M.map fun e => .int .i64 e.1), bk b B L M]) :=
  SpecS.opened fun ⟨⟨m, txs⟩, hM⟩ => by
    subst hM
    have hl' : txs.length ≤ 1000 := by rw [← absT_len]; exact hl
    exact SpecS.closed (txopen_ok b m B L txs hl') fun v H' ⟨a, c, h1, h3⟩ => ⟨[own 3 1 a txs.length c (txs.map fun t => .int .i64 t.1), bk b B L (absT txs)], by rw [h3]; exact Imp.under (bk_close rfl), a, c, by rw [h1, absT_len], by simp [absT, mapT, Function.comp_def]⟩

theorem clearS (b : Nat) (B L : Int) (M : List (Int × List Wr)) : SpecS Try.prog 34 [.pointer (some ⟨b, 0, none⟩)] (bk b B L M :: []) (fun v H' => v = .tuple #[] ∧ H' = [bk b B L []]) :=
  SpecS.opened fun ⟨⟨m, txs⟩, hM⟩ => by
    subst hM
    exact SpecS.closed (txclear_ok b m B L txs) fun v H' ⟨m', h1, h3⟩ => ⟨_, by rw [h3]; exact bk_close (txs := []) rfl, h1, rfl⟩

theorem newS (B : Int) (h1 : 1 ≤ B) (h2 : B ≤ 64) : SpecS Try.prog 28 [.int .i64 B] [] (fun v H' => ∃ b, v = .tuple #[.pointer (some ⟨b, 0, none⟩), .int .i64 0] ∧ H' = [bk b B 0 []]) :=
  SpecS.closed (txnew_ok B h1 h2) fun v H' ⟨b, m', h1, h3⟩ => ⟨_, by rw [h3]; exact bk_close (txs := []) rfl, b, h1, rfl⟩

theorem txnew_no (B : Int) (h : B < 1 ∨ 64 < B) : SpecS Try.prog 28 [.int .i64 B] [] (fun v H' => v = .tuple #[.pointer none, .int .i64 2] ∧ H' = []) := by
  refine SpecS.enter Try.func28 rfl 14 rfl (Nat.le_of_ble_eq_true rfl) (fun o => ?_)
  refine SG.seq ?_
  refine SG.region ?_
  refine SL.val rfl rfl (fun w9 F9 S9 s => R.as rfl) ?_
  refine SL.val rfl rfl (fun w9 F9 S9 s => R.as rfl) ?_
  refine SL.nil ?_
  refine SN.seq ?_
  refine SG.seq ?_
  refine SG.seq ?_
  refine SG.region ?_
  refine SL.val rfl rfl (fun w9 F9 S9 s => R.mv rfl) ?_
  refine SL.val rfl rfl (fun w9 F9 S9 s => R.lss rfl rfl) ?_
  refine SL.val rfl rfl (fun w9 F9 S9 s => R.mv rfl) ?_
  refine SL.caseP 6 rfl (fun hg1_2 => ?_) (fun hg1_2 => ?_)
  · refine SL.pass rfl rfl ?_
    refine SL.pass rfl rfl ?_
    first | refine SL.val rfl rfl (fun w9 F9 S9 s => R.pickT rfl rfl) ?_ | refine SL.val rfl rfl (fun w9 F9 S9 s => R.pickF rfl rfl) ?_
    refine SL.nil ?_
    refine SN.seq ?_
    refine SG.condT rfl ?_
    refine SG.seq ?_
    refine SG.region ?_
    refine SL.val rfl rfl (fun w9 F9 S9 s => R.as rfl) ?_
    refine SL.val rfl rfl (fun w9 F9 S9 s => R.as rfl) ?_
    refine SL.nil ?_
    refine SN.seq ?_
    exact SG.ret2 rfl rfl rfl ((Imp.sels (by repeat (first | exact Sels.nil | apply Sels.cons | exact Sel.keep | exact Sel.here | apply Sel.there)))) (⟨rfl, rfl⟩)
  · refine SL.val rfl rfl (fun w9 F9 S9 s => R.mv rfl) ?_
    refine SL.val rfl rfl (fun w9 F9 S9 s => R.gtr rfl rfl) ?_
    first | refine SL.val rfl rfl (fun w9 F9 S9 s => R.pickT rfl rfl) ?_ | refine SL.val rfl rfl (fun w9 F9 S9 s => R.pickF rfl rfl) ?_
    refine SL.nil ?_
    refine SN.seq ?_
    refine SG.condP rfl (fun h0 => ?_) (fun h0 => ?_)
    · refine SG.seq ?_
      refine SG.region ?_
      refine SL.val rfl rfl (fun w9 F9 S9 s => R.as rfl) ?_
      refine SL.val rfl rfl (fun w9 F9 S9 s => R.as rfl) ?_
      refine SL.nil ?_
      refine SN.seq ?_
      exact SG.ret2 rfl rfl rfl ((Imp.sels (by repeat (first | exact Sels.nil | apply Sels.cons | exact Sel.keep | exact Sel.here | apply Sel.there)))) (⟨rfl, rfl⟩)
    · exfalso; omega

theorem begin_nil  : SpecS Try.prog 29 [.pointer none] [] (fun v H' => v = .tuple #[.int .i64 0, .int .i64 1] ∧ H' = []) := by
  refine SpecS.enter Try.func29 rfl 34 rfl (Nat.le_of_ble_eq_true rfl) (fun o => ?_)
  refine SG.seq ?_
  refine SG.region ?_
  refine SL.val rfl rfl (fun w9 F9 S9 s => R.as rfl) ?_
  refine SL.val rfl rfl (fun w9 F9 S9 s => R.as rfl) ?_
  refine SL.nil ?_
  refine SN.seq ?_
  refine SG.seq ?_
  refine SG.block ?_
  refine SG.seq ?_
  refine SG.region ?_
  refine SL.val rfl rfl (fun w9 F9 S9 s => R.mv rfl) ?_
  refine SL.val rfl rfl (fun w9 F9 S9 s => R.eqNilP rfl rfl) ?_
  refine SL.val rfl rfl (fun w9 F9 S9 s => R.as rfl) ?_
  refine SL.nil ?_
  refine SN.seq ?_
  refine SG.condT rfl ?_
  refine SG.seq ?_
  refine SG.region ?_
  refine SL.val rfl rfl (fun w9 F9 S9 s => R.as rfl) ?_
  refine SL.val rfl rfl (fun w9 F9 S9 s => R.as rfl) ?_
  refine SL.nil ?_
  refine SN.seq ?_
  exact SG.ret2 rfl rfl rfl ((Imp.sels (by repeat (first | exact Sels.nil | apply Sels.cons | exact Sel.keep | exact Sel.here | apply Sel.there)))) (⟨rfl, rfl⟩)

theorem of_nil (h : Int) : SpecS Try.prog 80 [.pointer none, .int .i64 h] [] (fun v H' => v = .tuple #[.slice none 0 0, .int .i64 1] ∧ H' = []) := by
  refine SpecS.enter Try.func80 rfl 22 rfl (Nat.le_of_ble_eq_true rfl) (fun o => ?_)
  refine SG.seq ?_
  refine SG.region ?_
  refine SL.val rfl rfl (fun w9 F9 S9 s => R.as rfl) ?_
  refine SL.val rfl rfl (fun w9 F9 S9 s => R.as rfl) ?_
  refine SL.nil ?_
  refine SN.seq ?_
  refine SG.seq ?_
  refine SG.seq ?_
  refine SG.region ?_
  refine SL.val rfl rfl (fun w9 F9 S9 s => R.mv rfl) ?_
  refine SL.val rfl rfl (fun w9 F9 S9 s => R.eqNilP rfl rfl) ?_
  refine SL.nil ?_
  refine SN.seq ?_
  refine SG.condT rfl ?_
  refine SG.seq ?_
  refine SG.region ?_
  refine SL.val rfl rfl (fun w9 F9 S9 s => R.as rfl) ?_
  refine SL.val rfl rfl (fun w9 F9 S9 s => R.as rfl) ?_
  refine SL.nil ?_
  refine SN.seq ?_
  exact SG.ret2 rfl rfl rfl ((Imp.sels (by repeat (first | exact Sels.nil | apply Sels.cons | exact Sel.keep | exact Sel.here | apply Sel.there)))) (⟨rfl, rfl⟩)

theorem write_nil (h k : Int) (a : Option Addr) (n c : Nat) : SpecS Try.prog 30 [.pointer none, .int .i64 h, .int .i64 k, .slice a n c] [] (fun v H' => v = .int .i64 1 ∧ H' = []) := by
  refine SpecS.enter Try.func30 rfl 43 rfl (Nat.le_of_ble_eq_true rfl) (fun o => ?_)
  refine SG.seq ?_
  refine SG.region ?_
  refine SL.val rfl rfl (fun w9 F9 S9 s => R.as rfl) ?_
  refine SL.nil ?_
  refine SN.seq ?_
  refine SG.seq ?_
  refine SG.region ?_
  refine SL.val rfl rfl (fun w9 F9 S9 s => R.mv rfl) ?_
  refine SL.val rfl rfl (fun w9 F9 S9 s => R.mv rfl) ?_
  refine SL.step rfl rfl (CS.call rfl go80 (of_nil h) (by repeat (first | exact Sels.nil | apply Sels.cons | exact Sel.keep | exact Sel.here | apply Sel.there))) ?_
  rintro _ _ ⟨_, ⟨rfl, rfl⟩, rfl⟩
  refine SL.n0 ?_
  refine SL.val rfl rfl (fun w9 F9 S9 s => R.mv rfl) ?_
  refine SL.val rfl rfl (fun w9 F9 S9 s => R.ext rfl rfl) ?_
  refine SL.val rfl rfl (fun w9 F9 S9 s => R.ext rfl rfl) ?_
  refine SL.val rfl rfl (fun w9 F9 S9 s => R.as rfl) ?_
  refine SL.val rfl rfl (fun w9 F9 S9 s => R.as rfl) ?_
  refine SL.nil ?_
  refine SN.seq ?_
  refine SG.seq ?_
  refine SG.block ?_
  refine SG.seq ?_
  refine SG.region ?_
  refine SL.val rfl rfl (fun w9 F9 S9 s => R.mv rfl) ?_
  refine SL.val rfl rfl (fun w9 F9 S9 s => R.neI rfl rfl) ?_
  refine SL.val rfl rfl (fun w9 F9 S9 s => R.as rfl) ?_
  refine SL.nil ?_
  refine SN.seq ?_
  refine SG.condT rfl ?_
  refine SG.seq ?_
  refine SG.region ?_
  refine SL.val rfl rfl (fun w9 F9 S9 s => R.mv rfl) ?_
  refine SL.val rfl rfl (fun w9 F9 S9 s => R.as rfl) ?_
  refine SL.nil ?_
  refine SN.seq ?_
  exact SG.ret1 rfl rfl ((Imp.sels (by repeat (first | exact Sels.nil | apply Sels.cons | exact Sel.keep | exact Sel.here | apply Sel.there)))) (⟨rfl, rfl⟩)

theorem end_nil (h : Int) : SpecS Try.prog 33 [.pointer none, .int .i64 h] [] (fun v H' => v = .int .i64 1 ∧ H' = []) := by
  refine SpecS.enter Try.func33 rfl 22 rfl (Nat.le_of_ble_eq_true rfl) (fun o => ?_)
  refine SG.seq ?_
  refine SG.region ?_
  refine SL.val rfl rfl (fun w9 F9 S9 s => R.as rfl) ?_
  refine SL.nil ?_
  refine SN.seq ?_
  refine SG.seq ?_
  refine SG.seq ?_
  refine SG.region ?_
  refine SL.val rfl rfl (fun w9 F9 S9 s => R.mv rfl) ?_
  refine SL.val rfl rfl (fun w9 F9 S9 s => R.mv rfl) ?_
  refine SL.step rfl rfl (CS.call rfl go80 (of_nil h) (by repeat (first | exact Sels.nil | apply Sels.cons | exact Sel.keep | exact Sel.here | apply Sel.there))) ?_
  rintro _ _ ⟨_, ⟨rfl, rfl⟩, rfl⟩
  refine SL.n0 ?_
  refine SL.val rfl rfl (fun w9 F9 S9 s => R.mv rfl) ?_
  refine SL.val rfl rfl (fun w9 F9 S9 s => R.ext rfl rfl) ?_
  refine SL.val rfl rfl (fun w9 F9 S9 s => R.ext rfl rfl) ?_
  refine SL.val rfl rfl (fun w9 F9 S9 s => R.as rfl) ?_
  refine SL.val rfl rfl (fun w9 F9 S9 s => R.as rfl) ?_
  refine SL.nil ?_
  refine SN.seq ?_
  refine SG.seq ?_
  refine SG.region ?_
  refine SL.val rfl rfl (fun w9 F9 S9 s => R.mv rfl) ?_
  refine SL.val rfl rfl (fun w9 F9 S9 s => R.neI rfl rfl) ?_
  refine SL.nil ?_
  refine SN.seq ?_
  refine SG.condT rfl ?_
  refine SG.seq ?_
  refine SG.region ?_
  refine SL.val rfl rfl (fun w9 F9 S9 s => R.mv rfl) ?_
  refine SL.val rfl rfl (fun w9 F9 S9 s => R.as rfl) ?_
  refine SL.nil ?_
  refine SN.seq ?_
  exact SG.ret1 rfl rfl ((Imp.sels (by repeat (first | exact Sels.nil | apply Sels.cons | exact Sel.keep | exact Sel.here | apply Sel.there)))) (⟨rfl, rfl⟩)

theorem open_nil  : SpecS Try.prog 35 [.pointer none] [] (fun v H' => v = .slice none 0 0 ∧ H' = []) := by
  refine SpecS.enter Try.func35 rfl 10 rfl (Nat.le_of_ble_eq_true rfl) (fun o => ?_)
  refine SG.seq ?_
  refine SG.region ?_
  refine SL.val rfl rfl (fun w9 F9 S9 s => R.as rfl) ?_
  refine SL.nil ?_
  refine SN.seq ?_
  refine SG.seq ?_
  refine SG.seq ?_
  refine SG.region ?_
  refine SL.val rfl rfl (fun w9 F9 S9 s => R.mv rfl) ?_
  refine SL.val rfl rfl (fun w9 F9 S9 s => R.eqNilP rfl rfl) ?_
  refine SL.nil ?_
  refine SN.seq ?_
  refine SG.condT rfl ?_
  refine SG.seq ?_
  refine SG.region ?_
  refine SL.val rfl rfl (fun w9 F9 S9 s => R.as rfl) ?_
  refine SL.nil ?_
  refine SN.seq ?_
  exact SG.ret1 rfl rfl ((Imp.sels (by repeat (first | exact Sels.nil | apply Sels.cons | exact Sel.keep | exact Sel.here | apply Sel.there)))) (⟨rfl, rfl⟩)

theorem clear_nil  : SpecS Try.prog 34 [.pointer none] [] (fun v H' => v = .tuple #[] ∧ H' = []) := by
  refine SpecS.enter Try.func34 rfl 8 rfl (Nat.le_of_ble_eq_true rfl) (fun o => ?_)
  refine SG.seq ?_
  refine SG.region ?_
  refine SL.val rfl rfl (fun w9 F9 S9 s => R.mv rfl) ?_
  refine SL.val rfl rfl (fun w9 F9 S9 s => R.neNilP rfl rfl) ?_
  refine SL.nil ?_
  refine SN.seq ?_
  refine SG.condF rfl ?_
  refine SG.skip ?_
  exact SN.end0 rfl ((Imp.sels (by repeat (first | exact Sels.nil | apply Sels.cons | exact Sel.keep | exact Sel.here | apply Sel.there)))) (⟨rfl, rfl⟩)

theorem writes_nil (h : Int) : SpecS Try.prog 32 [.pointer none, .int .i64 h] [] (fun v H' => ∃ r : RowW, v = .tuple #[.slice r.a r.n r.c, .int .i64 1] ∧ H' = []) := by
  refine SpecS.enter Try.func32 rfl 18 rfl (Nat.le_of_ble_eq_true rfl) (fun o => ?_)
  refine SG.seq ?_
  refine SG.region ?_
  refine SL.val rfl rfl (fun w9 F9 S9 s => R.as rfl) ?_
  refine SL.val rfl rfl (fun w9 F9 S9 s => R.as rfl) ?_
  refine SL.nil ?_
  refine SN.seq ?_
  refine SG.seq ?_
  refine SG.region ?_
  refine SL.val rfl rfl (fun w9 F9 S9 s => R.mv rfl) ?_
  refine SL.val rfl rfl (fun w9 F9 S9 s => R.mv rfl) ?_
  refine SL.step rfl rfl (CS.call rfl go80 (of_nil h) (by repeat (first | exact Sels.nil | apply Sels.cons | exact Sel.keep | exact Sel.here | apply Sel.there))) ?_
  rintro _ _ ⟨_, ⟨rfl, rfl⟩, rfl⟩
  refine SL.n0 ?_
  refine SL.val rfl rfl (fun w9 F9 S9 s => R.mv rfl) ?_
  refine SL.val rfl rfl (fun w9 F9 S9 s => R.ext rfl rfl) ?_
  refine SL.val rfl rfl (fun w9 F9 S9 s => R.ext rfl rfl) ?_
  refine SL.val rfl rfl (fun w9 F9 S9 s => R.as rfl) ?_
  refine SL.val rfl rfl (fun w9 F9 S9 s => R.as rfl) ?_
  refine SL.nil ?_
  refine SN.seq ?_
  refine SG.seq ?_
  refine SG.region ?_
  refine SL.val rfl rfl (fun w9 F9 S9 s => R.mv rfl) ?_
  refine SL.step rfl rfl (CS.buildA rfl rfl rfl rfl rfl ([rowZ].map RowW.val) rfl) ?_
  rintro _ _ ⟨b15, rfl, rfl⟩
  refine SL.imp (Imp.blkSh (p := fun w => Cells w (some ⟨b15, 0, none⟩) ([rowZ].map RowW.val)) (show Sel _ (blk b15 ([rowZ].map RowW.val) _) _ from (by repeat (first | exact Sel.keep | exact Sel.here | apply Sel.there))) (fun w h => Cells.of_blk h 0 _ (fun j v hj => by simpa using hj))) ?_
  refine SL.imp (Imp.weak (p := fun w => Cells w (some ⟨b15, 0, none⟩) ([rowZ].map RowW.val)) (q := fun w => Cells w (some ⟨b15, 0, none⟩) ([rowZ].map RowW.val) ∧ ∀ r ∈ [rowZ], r.ok w) (by repeat (first | exact Sel.keep | exact Sel.here | apply Sel.there)) (fun w hw => ⟨hw, fun r hr => by rw [List.mem_singleton.1 hr]; exact rowZ_ok w⟩)) ?_
  refine SL.step rfl rfl (CS.call rfl go25 (mergeS (some ⟨b15, 0, none⟩) 1 1 [rowZ] rfl (by simp [allW, rowZ]) (by decide)) (by repeat (first | exact Sels.nil | apply Sels.cons | exact Sel.keep | exact Sel.here | apply Sel.there))) ?_
  rintro _ _ ⟨_, ⟨r9, rfl, hr9, hr9n, hr9l, rfl⟩, rfl⟩
  refine SL.n2 ?_
  refine SL.val rfl rfl (fun w9 F9 S9 s => R.mv rfl) ?_
  refine SL.val rfl rfl (fun w9 F9 S9 s => R.as rfl) ?_
  refine SL.val rfl rfl (fun w9 F9 S9 s => R.as rfl) ?_
  refine SL.nil ?_
  refine SN.seq ?_
  exact SG.ret2 rfl rfl rfl (Imp.sels Sels.nil) (⟨r9, rfl, rfl⟩)

end Go.Proofs.Ytiiiplhfgblamaa
/-
  The walks of package txn.
-/
set_option linter.unusedVariables false
set_option linter.unusedSimpArgs false
set_option maxRecDepth 4000
namespace Go.Proofs.Ytiiiplhfgblamaa
open Go Brv
def txC (t : Int × RowW) : List Value := [.int .i64 t.1, t.2.val]
def txCs (ts : List (Int × RowW)) : List Value := (ts.map txC).flatten
structure DkOk (w : World) (a : Option Addr) (n c : Nat) (ts : List (Int × RowW)) : Prop where
  len : n = ts.length
  cap : n ≤ c
  cells : Cells w a (txCs ts)
  ok : ∀ t ∈ ts, RowW.ok w t.2
theorem txCs_len (ts : List (Int × RowW)) : (txCs ts).length = ts.length * 2 := by
  induction ts with
  | nil => rfl
  | cons t ts ih => unfold txCs at ih ⊢; simp only [List.map_cons, List.flatten_cons, List.length_append, ih, txC, List.length_cons, List.length_nil]; omega
theorem txCs_one (ts : List (Int × RowW)) : ∀ u ∈ txCs ts, u.oneCell' = true := by
  intro u hu
  obtain ⟨l, hl, hu⟩ := List.mem_flatten.1 hu
  obtain ⟨t, _, rfl⟩ := List.mem_map.1 hl
  simp only [txC, List.mem_cons, List.not_mem_nil, or_false] at hu
  rcases hu with rfl | rfl <;> rfl
theorem txCs_get {ts : List (Int × RowW)} {i : Nat} {t : Int × RowW} (h : ts[i]? = some t) : (txCs ts)[i * 2]? = some (.int .i64 t.1) ∧ (txCs ts)[i * 2 + 1]? = some t.2.val := by
  induction ts generalizing i with
  | nil => simp at h
  | cons y ts ih =>
    have e : txCs (y :: ts) = .int .i64 y.1 :: y.2.val :: txCs ts := rfl
    rw [e]
    cases i with
    | zero => simp only [List.getElem?_cons_zero, Option.some.injEq] at h; subst h; exact ⟨rfl, rfl⟩
    | succ i =>
      have := ih (i := i) (by simpa using h)
      rw [show (i + 1) * 2 = i * 2 + 1 + 1 by omega]
      simpa using this
theorem txCs_set {ts : List (Int × RowW)} {i : Nat} {t : Int × RowW} (h : ts[i]? = some t) (r : RowW) : (txCs ts).set (i * 2 + 1) r.val = txCs (ts.set i (t.1, r)) := by
  induction ts generalizing i with
  | nil => simp at h
  | cons y ts ih =>
    have e : ∀ y ts, txCs (y :: ts) = .int .i64 y.1 :: y.2.val :: txCs ts := fun _ _ => rfl
    cases i with
    | zero =>
      simp only [List.getElem?_cons_zero, Option.some.injEq] at h; subst h
      simp [e]
    | succ i =>
      have := ih (i := i) (by simpa using h)
      rw [show (i + 1) * 2 + 1 = (i * 2 + 1) + 1 + 1 by omega, e, List.set_cons_succ, List.set_cons_succ, this, List.set_cons_succ, e]
theorem txCs_append (a b : List (Int × RowW)) : txCs (a ++ b) = txCs a ++ txCs b := by simp [txCs]
theorem dk_pt {w : World} {a : Option Addr} {n c : Nat} {ts : List (Int × RowW)} {i : Nat} {t : Int × RowW} (h : DkOk w a n c ts) (ht : ts[i]? = some t) : ∃ q, a = some q :=
  let ⟨q, hq, _⟩ := h.cells _ _ (txCs_get ht).1; ⟨q, hq⟩
theorem dk_cells {w : World} {a : Option Addr} {n c : Nat} {ts : List (Int × RowW)} {i : Nat} {t : Int × RowW} {q : Addr} (h : DkOk w a n c ts) (hq : a = some q) (ht : ts[i]? = some t) : Cells w (some (q.add ((i : Int).toNat * 2))) (txC t) := by
  intro j v hj
  refine ⟨_, rfl, ?_⟩
  have h1 := txCs_get ht
  rw [Int.toNat_natCast]
  match j, hj with
  | 0, hj =>
    cases hj
    obtain ⟨p, hp, hc⟩ := h.cells _ _ h1.1
    rw [hq] at hp; cases hp; exact hc
  | 1, hj =>
    cases hj
    obtain ⟨p, hp, hc⟩ := h.cells _ _ h1.2
    rw [hq] at hp; cases hp
    rw [add_add]; exact hc
  | j + 2, hj => simp [txC] at hj
theorem dk_row {w : World} {a : Option Addr} {n c : Nat} {ts : List (Int × RowW)} {i : Nat} {t : Int × RowW} {q : Addr} (h : DkOk w a n c ts) (hq : a = some q) (ht : ts[i]? = some t) : w.cell? ((q.add ((i : Int).toNat * 2)).add 1) = some t.2.val := (dk_cells h hq ht).load (j := 1) rfl
def AtR (ts : List (Int × RowW)) (h x : Int) : Prop := (x = -1 ∧ ∀ t ∈ ts, t.1 ≠ h) ∨ ∃ (i : Nat) (t : Int × RowW), x = (i : Int) ∧ ts[i]? = some t ∧ t.1 = h
theorem at_no {ts : List (Int × RowW)} {h x : Int} (ha : AtR ts h x) (hx : x < 0) : hasT (absT ts) h = false ∧ getT (absT ts) h = none := by
  rcases ha with ⟨_, hn⟩ | ⟨i, t, rfl, _⟩
  · rw [hasT_abs]; unfold absT; rw [getT_map]; exact ⟨hasT_no hn, by rw [getT_no hn]; rfl⟩
  · omega
theorem at_yes {ts : List (Int × RowW)} {h x : Int} (hs : Srt (absT ts)) (ha : AtR ts h x) (hx : ¬ x < 0) : ∃ (i : Nat) (t : Int × RowW), x = (i : Int) ∧ ts[i]? = some t ∧ t.1 = h ∧ i < ts.length ∧ hasT (absT ts) h = true ∧ getT (absT ts) h = some (t.2.os.map wv) := by
  rcases ha with ⟨rfl, _⟩ | ⟨i, t, rfl, ht, rfl⟩
  · omega
  · have hs' := (Srt_map (fun r : RowW => r.os.map wv)).1 hs
    refine ⟨i, t, rfl, ht, rfl, (List.getElem?_eq_some_iff.1 ht).1, ?_, ?_⟩
    · rw [hasT_abs]; exact hasT_at hs' ht
    · unfold absT; rw [getT_map, getT_at hs' ht]; rfl

theorem txat_ok (B L : Int) (a : Option Addr) (n c : Nat) (ts : List (Int × RowW)) (h : Int) (hl : ts.length ≤ 1000) : SpecS Try.prog 84 [.agg #[.int .i64 B, .int .i64 L, .slice a n c], .int .i64 h] [sh (fun w => DkOk w a n c ts)] (fun v H' => ∃ x : Int, v = .int .i64 x ∧ AtR ts h x ∧ H' = [sh (fun w => DkOk w a n c ts)]) := by
  refine SpecS.enter Try.func84 rfl 21 rfl (Nat.le_of_ble_eq_true rfl) (fun o => ?_)
  refine SG.fact (fun w9 F9 S9 s => (s.sh (p := fun w => DkOk w a n c ts) (by repeat (first | exact Sel.keep | exact Sel.here | apply Sel.there))).len) (fun hf9 => ?_)
  have hln := hf9; clear hf9
  refine SG.seq ?_
  refine SG.region ?_
  refine SL.step rfl rfl (CS.boxA rfl) ?_
  rintro _ _ ⟨b2, rfl, rfl⟩
  refine SL.val rfl rfl (fun w9 F9 S9 s => R.as rfl) ?_
  refine SL.nil ?_
  refine SN.seq ?_
  refine SG.seq ?_
  refine SG.seq ?_
  refine SG.region ?_
  refine SL.val rfl rfl (fun w9 F9 S9 s => R.fld rfl) ?_
  refine SL.val rfl rfl (fun w9 F9 S9 s => R.ldB (v := .slice a n c) rfl (s.cel (by repeat (first | exact SelB.blk | exact SelB.fz | apply SelB.there))) (by rfl)) ?_
  refine SL.val rfl rfl (fun w9 F9 S9 s => R.lenS rfl) ?_
  refine SL.val rfl rfl (fun w9 F9 S9 s => R.mv rfl) ?_
  refine SL.nil ?_
  refine SN.seq ?_
  refine SG.block ?_
  refine SG.loop (X := Nat) (fun i => [(1, .int .i64 h), (8, .slice a n c), (9, .int .i64 (n : Int)), (10, .int .i64 (i : Int))]) (fun i => [sh (fun w => DkOk w a n c ts)]) (fun i => i ≤ n ∧ ∀ j t, j < i → ts[j]? = some t → t.1 ≠ h) (fun i => n - i) (0) (Sub.cons rfl (Sub.cons rfl (Sub.cons rfl (Sub.cons rfl (Sub.nil _))))) ((Imp.sels (by repeat (first | exact Sels.nil | apply Sels.cons | exact Sel.keep | exact Sel.here | apply Sel.there)))) (⟨Nat.zero_le _, fun j t hj => by omega⟩) ?_
  rintro i ⟨hi, hall⟩
  show SG _ _ _ _ _ [(1, .int .i64 h), (8, .slice a n c), (9, .int .i64 (n : Int)), (10, .int .i64 (i : Int))] [sh (fun w => DkOk w a n c ts)] _
  refine SG.seq ?_
  refine SG.region ?_
  refine SL.val rfl rfl (fun w9 F9 S9 s => R.lss rfl rfl) ?_
  refine SL.nil ?_
  refine SN.seq ?_
  refine SG.seq ?_
  refine SG.condP rfl (fun h0 => ?_) (fun h0 => ?_)
  · obtain ⟨t, ht⟩ : ∃ t, ts[i]? = some t := ⟨_, List.getElem?_eq_getElem (by omega)⟩
    refine SG.fact (fun w9 F9 S9 s => dk_pt (s.sh (p := fun w => DkOk w a n c ts) (by repeat (first | exact Sel.keep | exact Sel.here | apply Sel.there))) ht) (fun hf9 => ?_)
    obtain ⟨q, hq⟩ := hf9
    refine SG.skip ?_
    refine SN.seq ?_
    refine SG.seq ?_
    refine SG.block ?_
    refine SG.seq ?_
    refine SG.region ?_
    refine SL.val rfl rfl (fun w9 F9 S9 s => R.mv rfl) ?_
    refine SL.val rfl rfl (fun w9 F9 S9 s => R.idx rfl rfl (by omega) (by omega) q hq) ?_
    refine SL.val rfl rfl (fun w9 F9 S9 s => R.ldN (vs := txC t) rfl (dk_cells (s.sh (p := fun w => DkOk w a n c ts) (by repeat (first | exact Sel.keep | exact Sel.here | apply Sel.there))) hq ht) rfl) ?_
    refine SL.step rfl rfl (CS.alloc [.int .i64 0, .slice none 0 0] rfl) ?_
    rintro _ _ ⟨b6, rfl, rfl⟩
    refine SL.val rfl rfl (fun w9 F9 S9 s => R.as rfl) ?_
    refine SL.step0 rfl (CS.stA (vs := txC t) rfl rfl (by repeat (first | exact Sel.keep | exact Sel.here | apply Sel.there)) (by rfl) (by rfl) (by intro u hu; exact txCs_one [t] u (by simpa [txCs] using hu))) ?_
    rintro _ _ rfl
    refine SL.nil ?_
    refine SN.seq ?_
    refine SG.seq ?_
    refine SG.region ?_
    refine SL.val rfl rfl (fun w9 F9 S9 s => R.fld rfl) ?_
    refine SL.val rfl rfl (fun w9 F9 S9 s => R.ldB (v := .int .i64 t.1) rfl (s.cel (by repeat (first | exact SelB.blk | exact SelB.fz | apply SelB.there))) (by rfl)) ?_
    refine SL.val rfl rfl (fun w9 F9 S9 s => R.mv rfl) ?_
    refine SL.val rfl rfl (fun w9 F9 S9 s => R.eqI rfl rfl) ?_
    refine SL.nil ?_
    refine SN.seq ?_
    refine SG.condP rfl (fun h1 => ?_) (fun h1 => ?_)
    · refine SG.seq ?_
      refine SG.region ?_
      refine SL.val rfl rfl (fun w9 F9 S9 s => R.mv rfl) ?_
      refine SL.val rfl rfl (fun w9 F9 S9 s => R.as rfl) ?_
      refine SL.nil ?_
      refine SN.seq ?_
      exact SG.ret1 rfl rfl ((Imp.sels (by repeat (first | exact Sels.nil | apply Sels.cons | exact Sel.keep | exact Sel.here | apply Sel.there)))) (⟨(i : Int), rfl, .inr ⟨i, t, rfl, ht, h1⟩, rfl⟩)
    · refine SG.skip ?_
      refine SN.block ?_
      refine SN.seq ?_
      refine SG.region ?_
      refine SL.val rfl rfl (fun w9 F9 S9 s => R.add rfl rfl (by omega)) ?_
      refine SL.val rfl rfl (fun w9 F9 S9 s => R.mv rfl) ?_
      refine SL.nil ?_
      exact SN.again (i + 1) (by show n - (i + 1) < n - i; omega) (Sub.cons rfl (Sub.cons rfl (Sub.cons rfl (Sub.cons rfl (Sub.nil _))))) ((Imp.sels (by repeat (first | exact Sels.nil | apply Sels.cons | exact Sel.keep | exact Sel.here | apply Sel.there)))) (⟨by show i + 1 ≤ n; omega, fun j y hj hy => by
        by_cases hji : j = i
        · subst hji; rw [ht] at hy; cases hy; exact h1
        · exact hall j y (by omega) hy⟩)
  · obtain rfl : i = n := by omega
    refine SG.exit _ rfl ?_
    refine SN.seq ?_
    refine SG.seq ?_
    refine SG.region ?_
    refine SL.val rfl rfl (fun w9 F9 S9 s => R.as rfl) ?_
    refine SL.nil ?_
    refine SN.seq ?_
    exact SG.ret1 rfl rfl ((Imp.sels (by repeat (first | exact Sels.nil | apply Sels.cons | exact Sel.keep | exact Sel.here | apply Sel.there)))) (⟨-1, rfl, .inl ⟨rfl, fun t ht => (List.getElem?_of_mem ht).elim fun j hj => hall j t (by have := (List.getElem?_eq_some_iff.1 hj).1; omega) hj⟩, rfl⟩)

theorem dwPost {M : List (Int × List Wr)} {h e : Int} {r : RowW} {K : List Asn} (h1 : ofE M h = e) (h2 : (getT M h).getD [] = r.os.map wv) (hK : K = [sh (fun w => r.ok w)]) : ∃ r' : RowW, Value.tuple #[.slice r.a r.n r.c, .int .i64 e] = .tuple #[.slice r'.a r'.n r'.c, .int .i64 (ofE M h)] ∧ r'.os.map wv = (getT M h).getD [] ∧ K = [sh (fun w => r'.ok w)] := ⟨r, by rw [h1], h2.symm, hK⟩

theorem dwrites_ok (B L : Int) (a : Option Addr) (n c : Nat) (ts : List (Int × RowW)) (h : Int) (hs : Srt (absT ts)) (hl : ts.length ≤ 1000) : SpecS Try.prog 39 [.agg #[.int .i64 B, .int .i64 L, .slice a n c], .int .i64 h] [sh (fun w => DkOk w a n c ts)] (fun v H' => ∃ r : RowW, v = .tuple #[.slice r.a r.n r.c, .int .i64 (ofE (absT ts) h)] ∧ r.os.map wv = (getT (absT ts) h).getD [] ∧ H' = [sh (fun w => r.ok w)]) := by
  refine SpecS.enter Try.func39 rfl 18 rfl (Nat.le_of_ble_eq_true rfl) (fun o => ?_)
  refine SG.seq ?_
  refine SG.region ?_
  refine SL.step rfl rfl (CS.boxA rfl) ?_
  rintro _ _ ⟨b2, rfl, rfl⟩
  refine SL.val rfl rfl (fun w9 F9 S9 s => R.as rfl) ?_
  refine SL.val rfl rfl (fun w9 F9 S9 s => R.as rfl) ?_
  refine SL.nil ?_
  refine SN.seq ?_
  refine SG.seq ?_
  refine SG.region ?_
  refine SL.val rfl rfl (fun w9 F9 S9 s => R.ldBN rfl (s.cel (by repeat (first | exact SelB.blk | exact SelB.fz | apply SelB.there))) (by rfl)) ?_
  refine SL.val rfl rfl (fun w9 F9 S9 s => R.mv rfl) ?_
  refine SL.step rfl rfl (CS.call rfl go84 (txat_ok B L a n c ts h hl) (by repeat (first | exact Sels.nil | apply Sels.cons | exact Sel.keep | exact Sel.here | apply Sel.there))) ?_
  rintro _ _ ⟨_, ⟨x, rfl, hx, rfl⟩, rfl⟩
  refine SL.n1 ?_
  refine SL.val rfl rfl (fun w9 F9 S9 s => R.as rfl) ?_
  refine SL.nil ?_
  refine SN.seq ?_
  refine SG.seq ?_
  refine SG.seq ?_
  refine SG.region ?_
  refine SL.val rfl rfl (fun w9 F9 S9 s => R.mv rfl) ?_
  refine SL.val rfl rfl (fun w9 F9 S9 s => R.lss rfl rfl) ?_
  refine SL.nil ?_
  refine SN.seq ?_
  refine SG.condP rfl (fun h0 => ?_) (fun h0 => ?_)
  · obtain ⟨hno, hgt⟩ := at_no hx h0
    refine SG.seq ?_
    refine SG.region ?_
    refine SL.val rfl rfl (fun w9 F9 S9 s => R.as rfl) ?_
    refine SL.val rfl rfl (fun w9 F9 S9 s => R.as rfl) ?_
    refine SL.nil ?_
    refine SN.seq ?_
    exact SG.ret2 rfl rfl rfl ((Imp.pure (p := fun w => RowW.ok w rowZ) rowZ_ok).trans (Imp.sels (by repeat (first | exact Sels.nil | apply Sels.cons | exact Sel.keep | exact Sel.here | apply Sel.there)))) (dwPost (r := rowZ) (by unfold ofE; rw [hno]; rfl) (by rw [hgt]; rfl) rfl)
  · obtain ⟨i, t, rfl, ht, hth, hil, hhas, hgt⟩ := at_yes hs hx h0
    refine SG.fact (fun w9 F9 S9 s => dk_pt (s.sh (p := fun w => DkOk w a n c ts) (by repeat (first | exact Sel.keep | exact Sel.here | apply Sel.there))) ht) (fun hf9 => ?_)
    obtain ⟨q, hq⟩ := hf9
    refine SG.fact (fun w9 F9 S9 s => (s.sh (p := fun w => DkOk w a n c ts) (by repeat (first | exact Sel.keep | exact Sel.here | apply Sel.there))).len) (fun hf9 => ?_)
    have hln := hf9; clear hf9
    refine SG.skip ?_
    refine SN.seq ?_
    refine SG.seq ?_
    refine SG.region ?_
    refine SL.val rfl rfl (fun w9 F9 S9 s => R.fld rfl) ?_
    refine SL.val rfl rfl (fun w9 F9 S9 s => R.ldB (v := .slice a n c) rfl (s.cel (by repeat (first | exact SelB.blk | exact SelB.fz | apply SelB.there))) (by rfl)) ?_
    refine SL.val rfl rfl (fun w9 F9 S9 s => R.mv rfl) ?_
    refine SL.val rfl rfl (fun w9 F9 S9 s => R.idx rfl rfl (by omega) (by omega) q hq) ?_
    refine SL.val rfl rfl (fun w9 F9 S9 s => R.fldA rfl) ?_
    refine SL.val rfl rfl (fun w9 F9 S9 s => R.ld (v := t.2.val) rfl (dk_row (s.sh (p := fun w => DkOk w a n c ts) (by repeat (first | exact Sel.keep | exact Sel.here | apply Sel.there))) hq ht)) ?_
    refine SL.val rfl rfl (fun w9 F9 S9 s => R.as rfl) ?_
    refine SL.val rfl rfl (fun w9 F9 S9 s => R.as rfl) ?_
    refine SL.nil ?_
    refine SN.seq ?_
    exact SG.ret2 rfl rfl rfl ((Imp.weak (p := fun w => DkOk w a n c ts) (q := fun w => RowW.ok w t.2) (by repeat (first | exact Sel.keep | exact Sel.here | apply Sel.there)) (fun w hw => hw.ok t (List.mem_of_getElem? ht))).trans (Imp.sels (by repeat (first | exact Sels.nil | apply Sels.cons | exact Sel.keep | exact Sel.here | apply Sel.there)))) (dwPost (r := t.2) (by unfold ofE; rw [hhas]; rfl) (by rw [hgt]; rfl) rfl)

end Go.Proofs.Ytiiiplhfgblamaa
/-
  The walks of package txn.
-/
set_option linter.unusedVariables false
set_option linter.unusedSimpArgs false
set_option maxRecDepth 4000
namespace Go.Proofs.Ytiiiplhfgblamaa
open Go Brv
theorem inB_lo {B k : Int} (h : k < 0) : inB B k = false := by unfold inB; simp; omega
theorem inB_hi {B k : Int} (h : B ≤ k) : inB B k = false := by unfold inB; simp; omega
theorem inB_in {B k : Int} (h : ¬ k < 0) (h2 : ¬ B ≤ k) : inB B k = true := by unfold inB; simp; omega
theorem drd_no {B : Int} {M : List (Int × List Wr)} {h k : Int} (hh : hasT M h = false) : rdV B M h k = none ∧ rdE B M h k = 40 := by
  unfold rdV rdE; rw [hh]; exact ⟨rfl, rfl⟩
theorem drd_out {B : Int} {M : List (Int × List Wr)} {h k : Int} (hh : hasT M h = true) (hb : inB B k = false) : rdV B M h k = none ∧ rdE B M h k = 41 := by
  unfold rdV rdE; rw [hh, hb]; exact ⟨rfl, rfl⟩
theorem drd_in {B : Int} {M : List (Int × List Wr)} {h k : Int} {x : List Wr} (hh : hasT M h = true) (hb : inB B k = true) (hg : getT M h = some x) : rdV B M h k = (x.find? (fun x => x.1 == k)).map Prod.snd ∧ rdE B M h k = 0 := by
  unfold rdV rdE; rw [hh, hb, hg]; exact ⟨rfl, rfl⟩
theorem drdPost {x o : Option (List UInt8)} {e e' : Int} {K : List Asn} (h1 : x = o) (h2 : e' = e) (hK : K = []) : Value.tuple #[.string (str (o.getD [])), .bool o.isSome, .int .i64 e] = .tuple #[.string (str (x.getD [])), .bool x.isSome, .int .i64 e'] ∧ K = [] := by
  subst h1; subst h2; exact ⟨rfl, hK⟩

theorem dread_ok (B L : Int) (a : Option Addr) (n c : Nat) (ts : List (Int × RowW)) (h k : Int) (hs : Srt (absT ts)) (hl : ts.length ≤ 1000) : SpecS Try.prog 38 [.agg #[.int .i64 B, .int .i64 L, .slice a n c], .int .i64 h, .int .i64 k] [sh (fun w => DkOk w a n c ts)] (fun v H' => v = .tuple #[.string (str ((rdV B (absT ts) h k).getD [])), .bool (rdV B (absT ts) h k).isSome, .int .i64 (rdE B (absT ts) h k)] ∧ H' = []) := by
  refine SpecS.enter Try.func38 rfl 44 rfl (Nat.le_of_ble_eq_true rfl) (fun o => ?_)
  refine SG.seq ?_
  refine SG.region ?_
  refine SL.step rfl rfl (CS.boxA rfl) ?_
  rintro _ _ ⟨b3, rfl, rfl⟩
  refine SL.val rfl rfl (fun w9 F9 S9 s => R.as rfl) ?_
  refine SL.val rfl rfl (fun w9 F9 S9 s => R.as rfl) ?_
  refine SL.val rfl rfl (fun w9 F9 S9 s => R.as rfl) ?_
  refine SL.nil ?_
  refine SN.seq ?_
  refine SG.seq ?_
  refine SG.region ?_
  refine SL.val rfl rfl (fun w9 F9 S9 s => R.ldBN rfl (s.cel (by repeat (first | exact SelB.blk | exact SelB.fz | apply SelB.there))) (by rfl)) ?_
  refine SL.val rfl rfl (fun w9 F9 S9 s => R.mv rfl) ?_
  refine SL.step rfl rfl (CS.call rfl go84 (txat_ok B L a n c ts h hl) (by repeat (first | exact Sels.nil | apply Sels.cons | exact Sel.keep | exact Sel.here | apply Sel.there))) ?_
  rintro _ _ ⟨_, ⟨x, rfl, hx, rfl⟩, rfl⟩
  refine SL.n1 ?_
  refine SL.val rfl rfl (fun w9 F9 S9 s => R.as rfl) ?_
  refine SL.nil ?_
  refine SN.seq ?_
  refine SG.seq ?_
  refine SG.seq ?_
  refine SG.region ?_
  refine SL.val rfl rfl (fun w9 F9 S9 s => R.mv rfl) ?_
  refine SL.val rfl rfl (fun w9 F9 S9 s => R.lss rfl rfl) ?_
  refine SL.nil ?_
  refine SN.seq ?_
  refine SG.condP rfl (fun h0 => ?_) (fun h0 => ?_)
  · obtain ⟨hno, hgt⟩ := at_no hx h0
    have hrd := drd_no (B := B) (k := k) hno
    refine SG.seq ?_
    refine SG.region ?_
    refine SL.val rfl rfl (fun w9 F9 S9 s => R.as rfl) ?_
    refine SL.val rfl rfl (fun w9 F9 S9 s => R.as rfl) ?_
    refine SL.val rfl rfl (fun w9 F9 S9 s => R.as rfl) ?_
    refine SL.nil ?_
    refine SN.seq ?_
    exact SG.ret3 rfl rfl rfl rfl ((Imp.sels (by repeat (first | exact Sels.nil | apply Sels.cons | exact Sel.keep | exact Sel.here | apply Sel.there)))) (drdPost (o := none) hrd.1 hrd.2 rfl)
  · obtain ⟨i, t, rfl, ht, hth, hil, hhas, hgt⟩ := at_yes hs hx h0
    refine SG.fact (fun w9 F9 S9 s => dk_pt (s.sh (p := fun w => DkOk w a n c ts) (by repeat (first | exact Sel.keep | exact Sel.here | apply Sel.there))) ht) (fun hf9 => ?_)
    obtain ⟨q, hq⟩ := hf9
    refine SG.fact (fun w9 F9 S9 s => (s.sh (p := fun w => DkOk w a n c ts) (by repeat (first | exact Sel.keep | exact Sel.here | apply Sel.there))).len) (fun hf9 => ?_)
    have hln := hf9; clear hf9
    refine SG.skip ?_
    refine SN.seq ?_
    refine SG.seq ?_
    refine SG.seq ?_
    refine SG.region ?_
    refine SL.val rfl rfl (fun w9 F9 S9 s => R.mv rfl) ?_
    refine SL.val rfl rfl (fun w9 F9 S9 s => R.lss rfl rfl) ?_
    refine SL.val rfl rfl (fun w9 F9 S9 s => R.mv rfl) ?_
    refine SL.caseP 19 rfl (fun hg4_2 => ?_) (fun hg4_2 => ?_)
    · have hrd := drd_out hhas (inB_lo (B := B) hg4_2)
      refine SL.pass rfl rfl ?_
      refine SL.pass rfl rfl ?_
      refine SL.pass rfl rfl ?_
      refine SL.pass rfl rfl ?_
      first | refine SL.val rfl rfl (fun w9 F9 S9 s => R.pickT rfl rfl) ?_ | refine SL.val rfl rfl (fun w9 F9 S9 s => R.pickF rfl rfl) ?_
      refine SL.nil ?_
      refine SN.seq ?_
      refine SG.condT rfl ?_
      refine SG.seq ?_
      refine SG.region ?_
      refine SL.val rfl rfl (fun w9 F9 S9 s => R.as rfl) ?_
      refine SL.val rfl rfl (fun w9 F9 S9 s => R.as rfl) ?_
      refine SL.val rfl rfl (fun w9 F9 S9 s => R.as rfl) ?_
      refine SL.nil ?_
      refine SN.seq ?_
      exact SG.ret3 rfl rfl rfl rfl ((Imp.sels (by repeat (first | exact Sels.nil | apply Sels.cons | exact Sel.keep | exact Sel.here | apply Sel.there)))) (drdPost (o := none) hrd.1 hrd.2 rfl)
    · refine SL.val rfl rfl (fun w9 F9 S9 s => R.mv rfl) ?_
      refine SL.val rfl rfl (fun w9 F9 S9 s => R.fld rfl) ?_
      refine SL.val rfl rfl (fun w9 F9 S9 s => R.ldB (v := .int .i64 B) rfl (s.cel (by repeat (first | exact SelB.blk | exact SelB.fz | apply SelB.there))) (by rfl)) ?_
      refine SL.val rfl rfl (fun w9 F9 S9 s => R.geq rfl rfl) ?_
      first | refine SL.val rfl rfl (fun w9 F9 S9 s => R.pickT rfl rfl) ?_ | refine SL.val rfl rfl (fun w9 F9 S9 s => R.pickF rfl rfl) ?_
      refine SL.nil ?_
      refine SN.seq ?_
      refine SG.condP rfl (fun h1 => ?_) (fun h1 => ?_)
      · have hrd := drd_out hhas (inB_hi h1)
        refine SG.seq ?_
        refine SG.region ?_
        refine SL.val rfl rfl (fun w9 F9 S9 s => R.as rfl) ?_
        refine SL.val rfl rfl (fun w9 F9 S9 s => R.as rfl) ?_
        refine SL.val rfl rfl (fun w9 F9 S9 s => R.as rfl) ?_
        refine SL.nil ?_
        refine SN.seq ?_
        exact SG.ret3 rfl rfl rfl rfl ((Imp.sels (by repeat (first | exact Sels.nil | apply Sels.cons | exact Sel.keep | exact Sel.here | apply Sel.there)))) (drdPost (o := none) hrd.1 hrd.2 rfl)
      · have hrd := drd_in hhas (inB_in hg4_2 h1) hgt
        refine SG.imp (Imp.weak (p := fun w => DkOk w a n c ts) (q := fun w => RowW.ok w t.2) (by repeat (first | exact Sel.keep | exact Sel.here | apply Sel.there)) (fun w hw => hw.ok t (List.mem_of_getElem? ht))) ?_
        refine SG.fact (fun w9 F9 S9 s => rowlen (s.row2 (show Sel _ (sh (fun w => RowW.ok w t.2)) _ from (by repeat (first | exact Sel.keep | exact Sel.here | apply Sel.there))))) (fun hf9 => ?_)
        have hrl := hf9; clear hf9
        refine SG.fact (fun w9 F9 S9 s => (s.row2 (show Sel _ (sh (fun w => RowW.ok w t.2)) _ from (by repeat (first | exact Sel.keep | exact Sel.here | apply Sel.there)))).1) (fun hf9 => ?_)
        have hrn := hf9; clear hf9
        refine SG.skip ?_
        refine SN.seq ?_
        refine SG.seq ?_
        refine SG.seq ?_
        refine SG.region ?_
        refine SL.val rfl rfl (fun w9 F9 S9 s => R.fld rfl) ?_
        refine SL.val rfl rfl (fun w9 F9 S9 s => R.ldB (v := .slice a n c) rfl (s.cel (by repeat (first | exact SelB.blk | exact SelB.fz | apply SelB.there))) (by rfl)) ?_
        refine SL.val rfl rfl (fun w9 F9 S9 s => R.mv rfl) ?_
        refine SL.val rfl rfl (fun w9 F9 S9 s => R.idx rfl rfl (by omega) (by omega) q hq) ?_
        refine SL.val rfl rfl (fun w9 F9 S9 s => R.fldA rfl) ?_
        refine SL.val rfl rfl (fun w9 F9 S9 s => R.ld (v := .slice t.2.a t.2.n t.2.c) rfl (dk_row (s.sh (p := fun w => DkOk w a n c ts) (by repeat (first | exact Sel.keep | exact Sel.here | apply Sel.there))) hq ht)) ?_
        refine SL.val rfl rfl (fun w9 F9 S9 s => R.lenS rfl) ?_
        refine SL.val rfl rfl (fun w9 F9 S9 s => R.mv rfl) ?_
        refine SL.nil ?_
        refine SN.seq ?_
        refine SG.block ?_
        refine SG.loop (X := Nat) (fun j => [(2, .int .i64 k), (30, .slice t.2.a t.2.n t.2.c), (31, .int .i64 (t.2.n : Int)), (32, .int .i64 (j : Int))]) (fun j => [sh (fun w => RowW.ok w t.2)]) (fun j => j ≤ t.2.n ∧ ∀ i y, i < j → t.2.os[i]? = some y → y.Block' ≠ k) (fun j => t.2.n - j) (0) (Sub.cons rfl (Sub.cons rfl (Sub.cons rfl (Sub.cons rfl (Sub.nil _))))) ((Imp.sels (by repeat (first | exact Sels.nil | apply Sels.cons | exact Sel.keep | exact Sel.here | apply Sel.there)))) (⟨Nat.zero_le _, fun i y hi => by omega⟩) ?_
        rintro j ⟨hj, hall⟩
        show SG _ _ _ _ _ [(2, .int .i64 k), (30, .slice t.2.a t.2.n t.2.c), (31, .int .i64 (t.2.n : Int)), (32, .int .i64 (j : Int))] [sh (fun w => RowW.ok w t.2)] _
        refine SG.seq ?_
        refine SG.region ?_
        refine SL.val rfl rfl (fun w9 F9 S9 s => R.lss rfl rfl) ?_
        refine SL.nil ?_
        refine SN.seq ?_
        refine SG.seq ?_
        refine SG.condP rfl (fun h2 => ?_) (fun h2 => ?_)
        · obtain ⟨z, hz⟩ := rowz (r := t.2) (j := j) (by omega)
          refine SG.fact (fun w9 F9 S9 s => rowpt (s.row2 (show Sel _ (sh (fun w => RowW.ok w t.2)) _ from (by repeat (first | exact Sel.keep | exact Sel.here | apply Sel.there)))) hz) (fun hf9 => ?_)
          obtain ⟨p, hp⟩ := hf9
          refine SG.imp (Imp.weak (p := fun w => RowW.ok w t.2) (q := fun w => Bs w z.B'a z.B'n z.B') (by repeat (first | exact Sel.keep | exact Sel.here | apply Sel.there)) (fun w hw => (hw.2.2 z (List.mem_of_getElem? hz)).2.2)) ?_
          refine SG.skip ?_
          refine SN.seq ?_
          refine SG.seq ?_
          refine SG.block ?_
          refine SG.seq ?_
          refine SG.region ?_
          refine SL.val rfl rfl (fun w9 F9 S9 s => R.idx rfl rfl (by omega) (by omega) p hp) ?_
          refine SL.val rfl rfl (fun w9 F9 S9 s => R.ldN (vs := WriteV.cells z) rfl (rowcells (s.row2 (show Sel _ (sh (fun w => RowW.ok w t.2)) _ from (by repeat (first | exact Sel.keep | exact Sel.here | apply Sel.there)))) hp hz) rfl) ?_
          refine SL.step rfl rfl (CS.alloc [.int .i64 0, .slice none 0 0] rfl) ?_
          rintro _ _ ⟨b11, rfl, rfl⟩
          refine SL.step0 rfl (CS.stA (vs := WriteV.cells z) rfl rfl (by repeat (first | exact Sel.keep | exact Sel.here | apply Sel.there)) (by rfl) (by rfl) (by intro u hu; exact WriteV.cells.one _ u (by simpa using hu))) ?_
          rintro _ _ rfl
          refine SL.nil ?_
          refine SN.seq ?_
          refine SG.seq ?_
          refine SG.region ?_
          refine SL.val rfl rfl (fun w9 F9 S9 s => R.fld rfl) ?_
          refine SL.val rfl rfl (fun w9 F9 S9 s => R.ldB (v := .int .i64 z.Block') rfl (s.cel (by repeat (first | exact SelB.blk | exact SelB.fz | apply SelB.there))) (by rfl)) ?_
          refine SL.val rfl rfl (fun w9 F9 S9 s => R.mv rfl) ?_
          refine SL.val rfl rfl (fun w9 F9 S9 s => R.eqI rfl rfl) ?_
          refine SL.nil ?_
          refine SN.seq ?_
          refine SG.condP rfl (fun h3 => ?_) (fun h3 => ?_)
          · refine SG.seq ?_
            refine SG.region ?_
            refine SL.val rfl rfl (fun w9 F9 S9 s => R.fld rfl) ?_
            refine SL.val rfl rfl (fun w9 F9 S9 s => R.ldB (v := .slice z.B'a z.B'n z.B'c) rfl (s.cel (by repeat (first | exact SelB.blk | exact SelB.fz | apply SelB.there))) (by rfl)) ?_
            refine SL.val rfl rfl (fun w9 F9 S9 s => R.strB rfl (s.sh (p := fun w => Bs w z.B'a z.B'n z.B') (by repeat (first | exact Sel.keep | exact Sel.here | apply Sel.there)))) ?_
            refine SL.val rfl rfl (fun w9 F9 S9 s => R.as rfl) ?_
            refine SL.val rfl rfl (fun w9 F9 S9 s => R.as rfl) ?_
            refine SL.val rfl rfl (fun w9 F9 S9 s => R.as rfl) ?_
            refine SL.nil ?_
            refine SN.seq ?_
            have hfd := find_at hz h3 hall
            rw [hfd] at hrd
            exact SG.ret3 rfl rfl rfl rfl ((Imp.sels (by repeat (first | exact Sels.nil | apply Sels.cons | exact Sel.keep | exact Sel.here | apply Sel.there)))) (drdPost (o := some z.B') hrd.1 hrd.2 rfl)
          · refine SG.skip ?_
            refine SN.block ?_
            refine SN.seq ?_
            refine SG.region ?_
            refine SL.val rfl rfl (fun w9 F9 S9 s => R.add rfl rfl (by omega)) ?_
            refine SL.val rfl rfl (fun w9 F9 S9 s => R.mv rfl) ?_
            refine SL.nil ?_
            exact SN.again (j + 1) (by show t.2.n - (j + 1) < t.2.n - j; omega) (Sub.cons rfl (Sub.cons rfl (Sub.cons rfl (Sub.cons rfl (Sub.nil _))))) ((Imp.sels (by repeat (first | exact Sels.nil | apply Sels.cons | exact Sel.keep | exact Sel.here | apply Sel.there)))) (⟨by show j + 1 ≤ t.2.n; omega, fun i y hi hy => by
              by_cases hij : i = j
              · subst hij; rw [hz] at hy; cases hy; exact h3
              · exact hall i y (by omega) hy⟩)
        · obtain rfl : j = t.2.n := by omega
          have hfd := find_no (k := k) (os := t.2.os) (fun j y hj hy => hall j y (by omega) hy)
          rw [hfd] at hrd
          refine SG.exit _ rfl ?_
          refine SN.seq ?_
          refine SG.seq ?_
          refine SG.region ?_
          refine SL.val rfl rfl (fun w9 F9 S9 s => R.as rfl) ?_
          refine SL.val rfl rfl (fun w9 F9 S9 s => R.as rfl) ?_
          refine SL.val rfl rfl (fun w9 F9 S9 s => R.as rfl) ?_
          refine SL.nil ?_
          refine SN.seq ?_
          exact SG.ret3 rfl rfl rfl rfl ((Imp.sels (by repeat (first | exact Sels.nil | apply Sels.cons | exact Sel.keep | exact Sel.here | apply Sel.there)))) (drdPost (o := none) hrd.1 hrd.2 rfl)

end Go.Proofs.Ytiiiplhfgblamaa
