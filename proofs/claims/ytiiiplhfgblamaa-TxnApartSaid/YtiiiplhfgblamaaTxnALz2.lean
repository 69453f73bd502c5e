/-
  Texts of this claim, put together.
-/
import Derived.Test.YtiiiplhfgblamaaTxnALz1
/-
  Iterators, and loops over them, by assertions.
-/
set_option linter.unusedVariables false
set_option linter.unusedSimpArgs false
namespace Brv
open Go
theorem Sels.appL : ∀ (H0 H1 : List Asn), Sels (H0 ++ H1) H0 H1
  | [], _ => .nil
  | _ :: H0, H1 => .cons .here (Sels.appL H0 H1)
theorem Sep.split {H0 H1 : List Asn} {F S : List Nat} {w : World} (h : Sep (H0 ++ H1) F S w) : Sep2 H0 H1 F S w := (Sels.appL H0 H1).split h
/-- What a function (with what it has captured, lb) promises when it is ranged over: it yields N times, the k-th time what E k tells. -/
def IterS (P : Program) (gf : FuncId) (lb : List Value) (HI : List Asn) (N : Nat) (E : Nat → List Value → (World → Prop) → Prop) : Prop :=
  ∀ (y : Value) (J Jx : Nat → Asn), (∀ k vs p, k < N → E k vs p → YSpec P y vs [sh p, J k] (fun b H' => H' = [if b then J (k + 1) else Jx (k + 1)])) →
    SpecS P gf (y :: lb) (J 0 :: HI) (fun _ H' => H' = J N :: HI ∨ ∃ k, k ≤ N ∧ H' = Jx k :: HI)

/-- The list of a frame's marks, that is to be taken at its end. -/
def dfr (d : Nat) : Asn where
  P := fun F _ w => F = [d] ∧ w.heap[d]? = some (.deferred (some []))
  ext := fun F S M w w' h he hF _ => ⟨h.1, (he.keep d (Array.getElem?_eq_some_iff.1 h.2).1 (hF d (by rw [h.1]; simp))).trans h.2⟩
inductive Dfrs : List Deferred → List Asn → List Asn → Prop
  | nil {H : List Asn} : Dfrs [] H H
  | cons {d : Nat} {ds : List Deferred} {H H' H'' : List Asn} : Sel H (dfr d) H' → Dfrs ds H' H'' → Dfrs (⟨.collected d, #[]⟩ :: ds) H H''
theorem Dfrs.leave {P : Program} {ds : List Deferred} {H H' : List Asn} (h : Dfrs ds H H') : ∀ {o : Org} {F S : List Nat} {w : World}, St H F S w → From o w F S → ∃ w' F' S', Leave P ds w w' ∧ St H' F' S' w' ∧ From o w' F' S' := by
  induction h with
  | nil => exact fun {o F S w} s f => ⟨w, F, S, rfl, s, f⟩
  | cons hs _ ih =>
    rename_i d ds H H' H'' _
    intro o F S w s f
    obtain ⟨F1, S1, F2, S2, ⟨a, b, c, e⟩, ⟨p, q, r⟩, ⟨hF, hd⟩, hH⟩ := hs.sep s.sep
    subst hF
    have he := Ext.putObj w d (.deferred none)
    obtain ⟨w', F', S', hl, s', f'⟩ := ih (o := o) (F := F2) (S := S2) (w := w.putObj d (.deferred none)) ⟨hH.ext he p.symm q.symm, fun x hx => Nat.lt_of_lt_of_le (s.ltF x (b hx)) he.size, fun x hx => Nat.lt_of_lt_of_le (s.ltS x (e hx)) he.size⟩
      ⟨f.ext.transN he (fun x hx => f.fF x (a hx)), fun x hx => f.fF x (b hx), fun x hx => f.fS x (e hx)⟩
    exact ⟨w', F', S', ⟨d, _, rfl, run_takeDeferred hd, hl⟩, s', f'⟩

def roundS {X Y : Type} (HJ : Nat → X → List Asn) (I : Nat → X → Prop) (HX : Code → Nat → Y → List Asn) (IX : Code → Nat → Y → Prop) (k : Nat) (o : Org) : Exit → Act → World → Prop
  | .normal, _, w' => ∃ x F S, I (k + 1) x ∧ St (HJ (k + 1) x) F S w' ∧ From o w' F S
  | .ret, _, w' => ∃ y F S, IX .ret (k + 1) y ∧ St (HX .ret (k + 1) y) F S w' ∧ From o w' F S
  | .exit id, _, w' => ∃ y F S, IX (.exit id) (k + 1) y ∧ St (HX (.exit id) (k + 1) y) F S w' ∧ From o w' F S
  | .goto t, _, w' => ∃ y F S, IX (.goto t) (k + 1) y ∧ St (HX (.goto t) (k + 1) y) F S w' ∧ From o w' F S
  | _, _, _ => False
def assignS (P : Program) (l : Nat) (W : World) (Hb : List Asn) (RB : Org → Exit → Act → World → Prop) (body : Code) : Exit → Act → World → Prop
  | .normal, a, w₂ => w₂ = W ∧ ∀ wb F S, St Hb F S wb → body.wpIn (fen (some l)) 0 P (RB ⟨wb, F, S⟩) a wb
  | _, _, _ => False

section
variable {P : Program} {B : Exit → Act → World → Prop} {n : Nat} {df : List Deferred} {ks : List K} {ρ : Env} {o : Org} {H : List Asn}
theorem N.roundS {l : Nat} {W : World} {Hb : List Asn} {RB : Org → Exit → Act → World → Prop} {body : Code} (h : ∀ o', SG P (RB o') ⟨n, [], some l⟩ o' [] ρ Hb body) : N P (assignS P l W Hb RB body) ⟨n, [], some l⟩ [] ρ W :=
  N.done fun a ha => ⟨rfl, fun wb F S s => h ⟨wb, F, S⟩ wb F S s (From.refl _ _ _) a ha⟩
section
variable {X Y : Type} {HJ : Nat → X → List Asn} {I : Nat → X → Prop} {HX : Code → Nat → Y → List Asn} {IX : Code → Nat → Y → Prop} {k l : Nat}
theorem SN.next (x : X) (i : Imp H (HJ (k + 1) x)) (h : I (k + 1) x) : SN P (roundS HJ I HX IX k o) ⟨n, [], some l⟩ o [] ρ H := fun _ _ _ s f => N.done fun _ _ => let ⟨F', S', s', f'⟩ := i.at s f; ⟨x, F', S', h, s', f'⟩
end

/-- for .. := range g { body } -/
theorem SG.range {g : Operand} {ps : Array Tmp} {assign body : Code} {gf : FuncId} {lb : List Value} {Nn : Nat} {E : Nat → List Value → (World → Prop) → Prop} {HI : List Asn}
    (hps : ps.toList.all (fun p => Nat.blt p n) = true) (hg : ev ρ g = some (.func (.func gf) #[] lb.toArray)) (eg : ∀ (vs : Array Value) w, (callFunc gf vs).run P w = .ok (.enter gf vs) w)
    (hit : IterS P gf lb HI Nn E) {X Y : Type} (HJ : Nat → X → List Asn) (I : Nat → X → Prop) (HX : Code → Nat → Y → List Asn) (IX : Code → Nat → Y → Prop) (x₀ : X) (i : Imp H (HJ 0 x₀ ++ HI)) (h0 : I 0 x₀)
    (hround : ∀ l k x vs p W, k < Nn → I k x → E k vs p → vs.length = ps.size ∧ G P (assignS P l W (sh p :: HJ k x) (roundS HJ I HX IX k) body) ⟨n, [], some l⟩ [] (bindEnv ps.toList vs ρ) W assign)
    (hdone : ∀ d x, I Nn x → SN P B ⟨n, ⟨.collected d, #[]⟩ :: df, none⟩ o ks ρ (dfr d :: HJ Nn x ++ HI))
    (hstop : ∀ d k c y, k ≤ Nn → IX c k y → SG P B ⟨n, ⟨.collected d, #[]⟩ :: df, none⟩ o ks ρ (dfr d :: HX c k y ++ HI) c) :
    SG P B ⟨n, df, none⟩ o ks ρ H (.rangeFunc g ps assign body) := by
  intro w F₀ S₀ s₀ f₀ a ha
  obtain ⟨Fw, Sw, s, f⟩ := i.at s₀ f₀
  obtain ⟨Fj, Sj, Fi, Si, ⟨a1, a2, a3, a4⟩, ⟨b1, b2, b3⟩, hsj, hsi⟩ := s.sep.split
  refine wpIn_rangeFunc (F := Fence.wide) ?_
  intro fn hfn
  obtain ⟨rec, hrec⟩ : ∃ rec : LoopState → Option Code → Loop, rec = fun st pe => { state := st, pending := pe, fn, tmps := a.tmps, params := ps, assign, body, defers := w.heap.size } := ⟨_, rfl⟩
  obtain ⟨W1, hW1⟩ : ∃ W1, (w.alloc (.deferred (some []))).alloc (.loop (rec .ready none)) = W1 := ⟨_, rfl⟩
  have hL1 : W1.heap[w.heap.size + 1]? = some (.loop (rec .ready none)) := by
    rw [← hW1]; have := World.alloc_heap_new (w.alloc (.deferred (some []))) (.loop (rec .ready none)); rwa [World.size_alloc] at this
  have hK1 : W1.heap[w.heap.size]? = some (.deferred (some [])) := by
    rw [← hW1]; exact ((Ext.alloc (w.alloc (.deferred (some []))) _).keep _ (by simp) (by simp)).trans (World.alloc_heap_new w _)
  have hE1 : Ext [] w W1 := by rw [← hW1]; exact (Ext.alloc w _).trans0 (Ext.alloc _ _)
  have hs1 : W1.heap.size = w.heap.size + 2 := by rw [← hW1]; simp
  obtain ⟨d, hd⟩ : ∃ d, d = w.heap.size := ⟨_, rfl⟩
  obtain ⟨l, hl⟩ : ∃ l, l = w.heap.size + 1 := ⟨_, rfl⟩
  rw [← hl] at hL1
  rw [← hd] at hK1
  -- the consumer's assertions
  let J : Nat → Asn := fun k => ⟨fun F S W => ∃ x F' S', I k x ∧ Sep (HJ k x) F' S' W ∧ (F = l :: d :: F' ∧ S = S') ∧ (l ∉ F' ∧ l ∉ S') ∧ (d ∉ F' ∧ d ∉ S') ∧ W.heap[l]? = some (.loop (rec .ready none)) ∧ W.heap[d]? = some (.deferred (some [])),
    by
      rintro F S M W W' ⟨x, F', S', h1, h2, ⟨rfl, rfl⟩, h3, h4, h5, h6⟩ he hF hS
      refine ⟨x, F', S, h1, h2.ext he (hF.mono (fun z hz => by simp [hz]) (subR _)) hS, ⟨rfl, rfl⟩, h3, h4, ?_, ?_⟩
      · exact (he.keep l (Array.getElem?_eq_some_iff.1 h5).1 (hF l (by simp))).trans h5
      · exact (he.keep d (Array.getElem?_eq_some_iff.1 h6).1 (hF d (by simp))).trans h6⟩
  let Jx : Nat → Asn := fun k => ⟨fun F S W => ∃ c y F' S', IX c k y ∧ Sep (HX c k y) F' S' W ∧ (F = l :: d :: F' ∧ S = S') ∧ (l ∉ F' ∧ l ∉ S') ∧ (d ∉ F' ∧ d ∉ S') ∧ W.heap[l]? = some (.loop (rec .done (some c))) ∧ W.heap[d]? = some (.deferred (some [])),
    by
      rintro F S M W W' ⟨c, y, F', S', h1, h2, ⟨rfl, rfl⟩, h3, h4, h5, h6⟩ he hF hS
      refine ⟨c, y, F', S, h1, h2.ext he (hF.mono (fun z hz => by simp [hz]) (subR _)) hS, ⟨rfl, rfl⟩, h3, h4, ?_, ?_⟩
      · exact (he.keep l (Array.getElem?_eq_some_iff.1 h5).1 (hF l (by simp))).trans h5
      · exact (he.keep d (Array.getElem?_eq_some_iff.1 h6).1 (hF d (by simp))).trans h6⟩
  refine ⟨w.heap.size + 1, [{ target := .collected w.heap.size, args := #[] }], W1, { target := .fn (.func gf) lb.toArray, args := #[.func (.yield (w.heap.size + 1)) #[] #[]] }, W1, gf,
    #[.func (.yield (w.heap.size + 1)) #[] #[]] ++ lb.toArray, W1, ?_, ?_, fun _ _ => trivial, ?_, fun h => (by cases h), ?_⟩
  · rw [← hW1, hrec]; exact run_enterLoop_outer _ _ _ _ _
  · simp only [resolve, ha.eval hg]
    simp [go_sem]
  · simp [invoke, go_sem, eg]
  · have hdl : d ≠ l := by omega
    have newF : ∀ {T : List Nat}, (∀ b ∈ T, b < w.heap.size) → l ∉ T ∧ d ∉ T := fun h => ⟨fun q => by have := h _ q; omega, fun q => by have := h _ q; omega⟩
    have ltj : ∀ b ∈ Fj, b < w.heap.size := fun b hb => s.ltF b (a1 hb)
    have ltsj : ∀ b ∈ Sj, b < w.heap.size := fun b hb => s.ltS b (a3 hb)
    have lti : ∀ b ∈ Fi, b < w.heap.size := fun b hb => s.ltF b (a2 hb)
    have ltsi : ∀ b ∈ Si, b < w.heap.size := fun b hb => s.ltS b (a4 hb)
    have hJ0 : (J 0).P (l :: d :: Fj) Sj W1 := ⟨x₀, Fj, Sj, h0, hsj.ext hE1 (Apart.nilR _) (Apart.nilR _), ⟨rfl, rfl⟩, ⟨(newF ltj).1, (newF ltsj).1⟩, ⟨(newF ltj).2, (newF ltsj).2⟩, hL1, hK1⟩
    have hst : St (J 0 :: HI) (l :: d :: Fj ++ Fi) (Sj ++ Si) W1 := by
      refine ⟨⟨l :: d :: Fj, Sj, Fi, Si, ⟨inL _ _, inR _ _, inL _ _, inR _ _⟩, ⟨?_, ?_, b3⟩, hJ0, hsi.ext hE1 (Apart.nilR _) (Apart.nilR _)⟩, ?_, ?_⟩
      · intro x hx hy
        simp only [List.mem_cons] at hx
        rcases hx with rfl | rfl | hx
        · exact (newF lti).1 hy
        · exact (newF lti).2 hy
        · exact b1 x hx hy
      · intro x hx hy
        simp only [List.mem_cons] at hx
        rcases hx with rfl | rfl | hx
        · exact (newF ltsi).1 hy
        · exact (newF ltsi).2 hy
        · exact b2 x hx hy
      · intro x hx
        simp only [List.cons_append, List.mem_cons, List.mem_append] at hx
        rcases hx with rfl | rfl | hx | hx
        · omega
        · omega
        · have := ltj x hx; omega
        · have := lti x hx; omega
      · intro x hx
        rcases List.mem_append.1 hx with hx | hx
        · have := ltsj x hx; omega
        · have := ltsi x hx; omega
    have hfr : From o W1 (l :: d :: Fj ++ Fi) (Sj ++ Si) := by
      refine ⟨f.ext.trans0 hE1, ?_, ?_⟩
      · intro x hx
        have hz := f.ext.size
        simp only [List.cons_append, List.mem_cons, List.mem_append] at hx
        rcases hx with rfl | rfl | hx | hx
        · exact .inr (by omega)
        · exact .inr (by omega)
        · exact f.fF x (a1 hx)
        · exact f.fF x (a2 hx)
      · intro x hx
        exact (List.mem_append.1 hx).elim (fun h => f.fS x (a3 h)) (fun h => f.fS x (a4 h))
    have hy : ∀ k vs p, k < Nn → E k vs p → YSpec P (.func (.yield l) #[] #[]) vs [Brv.sh p, J k] (fun b H' => H' = [if b then J (k + 1) else Jx (k + 1)]) := by
      intro k vs p hk hE A F S s
      obtain ⟨F1, S1, F2, S2, ⟨c1, c2, c3, c4⟩, ⟨e1, e2, e3⟩, hp, F3, S3, F4, S4, ⟨c1', c2', c3', c4'⟩, _, hJ, _⟩ := s.sep
      obtain ⟨x, F', S', hi, hsep, ⟨rfl, rfl⟩, ⟨l1, l2⟩, ⟨d1, d2⟩, hl', hd'⟩ := hJ
      refine .inl ⟨_, rfl, ?_⟩
      have hlt : l < A.heap.size := (Array.getElem?_eq_some_iff.1 hl').1
      have hltd : d < A.heap.size := (Array.getElem?_eq_some_iff.1 hd').1
      obtain ⟨hlen, hG⟩ := hround l k x vs p A hk hi hE
      have hy := run_yield (P := P) (args := vs.toArray) hl' (by rw [hrec]; simpa using hlen)
      rw [hrec] at hy
      refine ⟨fn, _, assign, body, hy, roundIn_of_wpIn hfn ?_⟩
      have hfr : Fr ⟨n, [], some l⟩ (bindEnv ps.toList vs ρ) { tmps := (ps.toList.zip vs).foldl (fun t (p, v) => t.setIfInBounds p v) a.tmps, defers := [] } :=
        bind_fr (n := ⟨n, [], some l⟩) ps.toList vs (a := { tmps := a.tmps, defers := [] }) ⟨ha.size, rfl, ha.vals⟩ (fun p hp => by simpa [Nat.blt_eq] using List.all_eq_true.1 hps p hp)
      have hz : (ps.zip vs.toArray).foldl (fun t (p, v) => t.setIfInBounds p v) a.tmps = (ps.toList.zip vs).foldl (fun t (p, v) => t.setIfInBounds p v) a.tmps := by
        rw [← Array.foldl_toList, Array.toList_zip]
      rw [hz]
      have hw := hG _ hfr
      refine wpIn_mono (F := Fence.wide.inRound l) (fen_wp (r := some l) hw) ?_
      intro e a₁ w₂ hq
      cases e with
      | normal =>
        obtain ⟨rfl, hq⟩ := hq
        have hbr := run_beginRound (P := P) hl' (by rw [hrec])
        refine ⟨_, hbr, ?_⟩
        have hl3 : (w₂.putObj l (.loop { rec .ready none with state := .busy })).heap[l]? = some (.loop { rec .ready none with state := .busy }) := World.putObj_heap_same hlt
        have hd3 : (w₂.putObj l (.loop { rec .ready none with state := .busy })).heap[d]? = some (.deferred (some [])) := (World.putObj_heap_other hdl).trans hd'
        have hE3 := Ext.putObj w₂ l (.loop { rec .ready none with state := .busy })
        have hlS1 : Apart S1 [l] := fun z hz hz2 => by rw [List.mem_singleton.1 hz2] at hz; exact e3 l hz (c1' (by simp))
        have hsb : St (Brv.sh p :: HJ k x) F' (S1 ++ S3) (w₂.putObj l (.loop { rec .ready none with state := .busy })) := by
          refine ⟨⟨[], S1, F', S3, ⟨by simp, subR _, inL _ _, inR _ _⟩, ⟨Apart.nilL _, Apart.nilL _, e3.mono (subR _) (fun z hz => c1' (by simp [hz]))⟩, (instPersSh p).h _ _ _ ((Brv.sh p).ext _ _ _ _ _ hp hE3 (fun z hz hz2 => by rw [List.mem_singleton.1 hz2] at hz; exact e1 l hz (c1' (by simp))) hlS1), hsep.ext hE3 (fun z hz hz2 => by rw [List.mem_singleton.1 hz2] at hz; exact l1 hz) (fun z hz hz2 => by rw [List.mem_singleton.1 hz2] at hz; exact l2 hz)⟩, ?_, ?_⟩
          · intro z hz; simpa using s.ltF z (c2 (c1' (by simp [hz])))
          · intro z hz
            rcases List.mem_append.1 hz with hz | hz
            · simpa using s.ltS z (c3 hz)
            · simpa using s.ltS z (c4 (c3' hz))
        have hd1 : d ∉ S1 := fun h => e3 d h (c1' (by simp))
        have hl1 : l ∉ S1 := fun h => e3 l h (c1' (by simp))
        have hFl : l ∈ F := c2 (c1' (by simp))
        have hFd : d ∈ F := c2 (c1' (by simp))
        have hFF : ∀ z ∈ F', z ∈ F := fun z hz => c2 (c1' (by simp [hz]))
        refine wpIn_mono (F := Fence.wide.inRound l) (fen_wp (r := some l) (hq _ F' (S1 ++ S3) hsb)) ?_
        have fin : ∀ (jump : Option Code) (W3 : World) (F5 S5 : List Nat), From ⟨w₂.putObj l (.loop { rec .ready none with state := .busy }), F', S1 ++ S3⟩ W3 F5 S5 → (∀ b ∈ F5, b < W3.heap.size) → (∀ b ∈ S5, b < W3.heap.size) →
            (Instr.endRound l jump).run P W3 = .ok (.bool jump.isNone) (W3.putObj l (.loop (rec (if jump.isNone then .ready else .done) jump))) ∧
            (W3.putObj l (.loop (rec (if jump.isNone then .ready else .done) jump))).heap[l]? = some (.loop (rec (if jump.isNone then .ready else .done) jump)) ∧
            (W3.putObj l (.loop (rec (if jump.isNone then .ready else .done) jump))).heap[d]? = some (.deferred (some [])) ∧ (l ∉ F5 ∧ l ∉ S5) ∧ (d ∉ F5 ∧ d ∉ S5) ∧ Ext [l] W3 (W3.putObj l (.loop (rec (if jump.isNone then .ready else .done) jump))) ∧
            From ⟨w₂, F, S⟩ (W3.putObj l (.loop (rec (if jump.isNone then .ready else .done) jump))) (l :: d :: F5) S5 ∧ (∀ b ∈ l :: d :: F5, b < (W3.putObj l (.loop (rec (if jump.isNone then .ready else .done) jump))).heap.size) ∧ (∀ b ∈ S5, b < (W3.putObj l (.loop (rec (if jump.isNone then .ready else .done) jump))).heap.size) := by
          intro jump W3 F5 S5 fr h5 h6
          have hlt2 : l < (w₂.putObj l (.loop { rec .ready none with state := .busy })).heap.size := by simpa using hlt
          have hltd2 : d < (w₂.putObj l (.loop { rec .ready none with state := .busy })).heap.size := by simpa using hltd
          have hl4 : W3.heap[l]? = some (.loop { rec .ready none with state := .busy }) := (fr.ext.keep _ hlt2 l1).trans hl3
          have hd4 : W3.heap[d]? = some (.deferred (some [])) := (fr.ext.keep _ hltd2 d1).trans hd3
          have hlt4 : l < W3.heap.size := (Array.getElem?_eq_some_iff.1 hl4).1
          have hltd4 : d < W3.heap.size := (Array.getElem?_eq_some_iff.1 hd4).1
          have her := run_endRound (P := P) jump hl4
          rw [hrec] at her ⊢
          have hszA : w₂.heap.size ≤ W3.heap.size := by have := fr.ext.size; simpa using this
          have nF : l ∉ F5 ∧ d ∉ F5 := ⟨fun h => (fr.fF _ h).elim l1 (fun h => by simp only [World.putObj, Array.size_setIfInBounds] at h; omega), fun h => (fr.fF _ h).elim d1 (fun h => by simp only [World.putObj, Array.size_setIfInBounds] at h; omega)⟩
          have nS : l ∉ S5 ∧ d ∉ S5 := ⟨fun h => (fr.fS _ h).elim (fun h => (List.mem_append.1 h).elim hl1 l2) (fun h => h.elim l1 (fun h => by simp only [World.putObj, Array.size_setIfInBounds] at h; omega)), fun h => (fr.fS _ h).elim (fun h => (List.mem_append.1 h).elim hd1 d2) (fun h => h.elim d1 (fun h => by simp only [World.putObj, Array.size_setIfInBounds] at h; omega))⟩
          have hx2 := Ext.putObj W3 l (.loop { state := if jump.isNone = true then LoopState.ready else LoopState.done, pending := jump, fn := fn, tmps := a.tmps, params := ps, assign := assign, body := body, defers := w.heap.size })
          have hE4 : Ext F w₂ W3 := (hE3.mono (M' := F) (fun z hz => .inl (by rw [List.mem_singleton.1 hz]; exact hFl))).transN fr.ext (fun z hz => .inl (hFF z hz))
          refine ⟨her, World.putObj_heap_same hlt4, (World.putObj_heap_other hdl).trans hd4, ⟨nF.1, nS.1⟩, ⟨nF.2, nS.2⟩, hx2, ⟨hE4.transN hx2 (fun z hz => .inl (by rw [List.mem_singleton.1 hz]; exact hFl)), ?_, ?_⟩, ?_, ?_⟩
          · intro z hz
            simp only [List.mem_cons] at hz
            rcases hz with rfl | rfl | hz
            · exact .inl hFl
            · exact .inl hFd
            · exact (fr.fF z hz).imp (hFF z) (fun h => by simpa using h)
          · intro z hz
            exact (fr.fS z hz).elim (fun h => .inl ((List.mem_append.1 h).elim (fun h => c3 h) (fun h => c4 (c3' h)))) (fun h => .inr (h.imp (hFF z) (fun h => by simpa using h)))
          · intro z hz
            simp only [List.mem_cons] at hz
            rcases hz with rfl | rfl | hz
            · simpa using hlt4
            · simpa using hltd4
            · simpa using h5 z hz
          · intro z hz; simpa using h6 z hz
        have apl : ∀ {T : List Nat}, l ∉ T → Apart T [l] := fun h z hz hz2 => h (by rw [← List.mem_singleton.1 hz2]; exact hz)
        rintro e a3 W3 hp3
        cases e with
        | normal =>
          obtain ⟨x', F5, S5, hi', s5, fr⟩ := hp3
          obtain ⟨f1, f2, f3, n1, n2, f4, f5, f6, f7⟩ := fin none W3 F5 S5 fr s5.ltF s5.ltS
          refine ⟨_, _, f1, true, rfl, [J (k + 1)], l :: d :: F5, S5, by simp, ⟨⟨l :: d :: F5, S5, [], [], ⟨subR _, by simp, subR _, by simp⟩, ⟨Apart.nilR _, Apart.nilR _, Apart.nilR _⟩, ⟨x', F5, S5, hi', s5.sep.ext f4 (apl n1.1) (apl n1.2), ⟨rfl, rfl⟩, n1, n2, f2, f3⟩, trivial⟩, f6, f7⟩, f5⟩
        | ret =>
          obtain ⟨y', F5, S5, hi', s5, fr⟩ := hp3
          obtain ⟨f1, f2, f3, n1, n2, f4, f5, f6, f7⟩ := fin (some .ret) W3 F5 S5 fr s5.ltF s5.ltS
          refine ⟨_, _, f1, false, rfl, [Jx (k + 1)], l :: d :: F5, S5, by simp, ⟨⟨l :: d :: F5, S5, [], [], ⟨subR _, by simp, subR _, by simp⟩, ⟨Apart.nilR _, Apart.nilR _, Apart.nilR _⟩, ⟨_, y', F5, S5, hi', s5.sep.ext f4 (apl n1.1) (apl n1.2), ⟨rfl, rfl⟩, n1, n2, f2, f3⟩, trivial⟩, f6, f7⟩, f5⟩
        | exit id =>
          obtain ⟨y', F5, S5, hi', s5, fr⟩ := hp3
          obtain ⟨f1, f2, f3, n1, n2, f4, f5, f6, f7⟩ := fin (some (.exit id)) W3 F5 S5 fr s5.ltF s5.ltS
          refine ⟨_, _, f1, false, rfl, [Jx (k + 1)], l :: d :: F5, S5, by simp, ⟨⟨l :: d :: F5, S5, [], [], ⟨subR _, by simp, subR _, by simp⟩, ⟨Apart.nilR _, Apart.nilR _, Apart.nilR _⟩, ⟨_, y', F5, S5, hi', s5.sep.ext f4 (apl n1.1) (apl n1.2), ⟨rfl, rfl⟩, n1, n2, f2, f3⟩, trivial⟩, f6, f7⟩, f5⟩
        | goto t =>
          obtain ⟨y', F5, S5, hi', s5, fr⟩ := hp3
          obtain ⟨f1, f2, f3, n1, n2, f4, f5, f6, f7⟩ := fin (some (.goto t)) W3 F5 S5 fr s5.ltF s5.ltS
          refine ⟨_, _, f1, false, rfl, [Jx (k + 1)], l :: d :: F5, S5, by simp, ⟨⟨l :: d :: F5, S5, [], [], ⟨subR _, by simp, subR _, by simp⟩, ⟨Apart.nilR _, Apart.nilR _, Apart.nilR _⟩, ⟨_, y', F5, S5, hi', s5.sep.ext f4 (apl n1.1) (apl n1.2), ⟨rfl, rfl⟩, n1, n2, f2, f3⟩, trivial⟩, f6, f7⟩, f5⟩
        | panic ch => exact hp3.elim
        | outgrown => exact hp3.elim
      | _ => exact hq.elim
    have hm := hit (.func (.yield l) #[] #[]) J Jx hy W1 _ _ hst
    have e : (Value.func (.yield l) #[] #[] :: lb).toArray = #[.func (.yield l) #[] #[]] ++ lb.toArray := by simp
    unfold Meets at hm
    rw [e] at hm
    rw [← hl]
    refine CallsIn.mono (callsIn_wide.2 hm) ?_
    intro e W2 he
    cases e with
    | returned v =>
      obtain ⟨H', F5, S5, hH, s5, fr⟩ := he
      have fr' := hfr.trans fr
      have apl : ∀ {T : List Nat}, l ∉ T → Apart T [l] := fun h z hz hz2 => h (by rw [← List.mem_singleton.1 hz2]; exact hz)
      have leave : ∀ {HL : List Asn} {F' S' F2 S2 : List Nat} (ob : Obj), (l :: d :: F' ⊆ F5 ∧ F2 ⊆ F5 ∧ S' ⊆ S5 ∧ S2 ⊆ S5) → (Apart (l :: d :: F') F2 ∧ Apart (l :: d :: F') S2 ∧ Apart S' F2) → Sep HL F' S' W2 → Sep HI F2 S2 W2 → (l ∉ F' ∧ l ∉ S') → (d ∉ F' ∧ d ∉ S') → W2.heap[d]? = some (.deferred (some [])) →
          ∃ F6 S6, St (dfr d :: HL ++ HI) F6 S6 (W2.putObj l ob) ∧ From o (W2.putObj l ob) F6 S6 := by
        intro HL F' S' F2 S2 ob ⟨g1, g2, g3, g4⟩ ⟨k1, k2, k3⟩ hh hhi n1 n2 hdd
        have hx := Ext.putObj W2 l ob
        refine ⟨d :: F' ++ F2, S' ++ S2, ⟨⟨[d], [], F' ++ F2, S' ++ S2, ⟨by simp, fun z hz => by simp at hz ⊢; exact .inr hz, by simp, subR _⟩, ⟨?_, ?_, Apart.nilL _⟩, ⟨rfl, (World.putObj_heap_other hdl).trans hdd⟩, ?_⟩, ?_, ?_⟩, ⟨fr'.ext.transN hx (fun z hz => by rw [List.mem_singleton.1 hz]; exact fr'.fF l (g1 (by simp))), ?_, ?_⟩⟩
        · intro z hz hz2
          rw [List.mem_singleton.1 hz] at hz2
          exact (List.mem_append.1 hz2).elim n2.1 (fun h => k1 d (by simp) h)
        · intro z hz hz2
          rw [List.mem_singleton.1 hz] at hz2
          exact (List.mem_append.1 hz2).elim n2.2 (fun h => k2 d (by simp) h)
        · refine Sep.join ⟨F', S', F2, S2, ⟨inL _ _, inR _ _, inL _ _, inR _ _⟩, ⟨k1.mono (fun z hz => by simp [hz]) (subR _), k2.mono (fun z hz => by simp [hz]) (subR _), k3⟩, hh.ext hx (apl n1.1) (apl n1.2), hhi.ext hx (apl (fun h => k1 l (by simp) h)) (apl (fun h => k2 l (by simp) h))⟩
        · intro z hz
          simp only [List.cons_append, List.mem_cons, List.mem_append] at hz
          have : z ∈ F5 := by
            rcases hz with rfl | hz | hz
            · exact g1 (by simp)
            · exact g1 (by simp [hz])
            · exact g2 hz
          simpa using s5.ltF z this
        · intro z hz
          have : z ∈ S5 := (List.mem_append.1 hz).elim (fun h => g3 h) (fun h => g4 h)
          simpa using s5.ltS z this
        · intro z hz
          simp only [List.cons_append, List.mem_cons, List.mem_append] at hz
          refine fr'.fF z ?_
          rcases hz with rfl | hz | hz
          · exact g1 (by simp)
          · exact g1 (by simp [hz])
          · exact g2 hz
        · intro z hz
          exact fr'.fS z ((List.mem_append.1 hz).elim (fun h => g3 h) (fun h => g4 h))
      rcases hH with rfl | ⟨k, hk, rfl⟩
      · obtain ⟨F1, S1, F2, S2, hsub, hap, ⟨x, F', S', hi, hsep, ⟨rfl, rfl⟩, n1, n2, hl', hd'⟩, hHI⟩ := s5.sep
        refine ⟨none, _, by have := run_endLoop (P := P) hl' (by rw [hrec]; simp); rw [hrec] at this; exact this, ?_⟩
        obtain ⟨F6, S6, s6, fr6⟩ := leave _ hsub hap hsep hHI n1 n2 hd'
        exact hdone d x hi _ F6 S6 s6 fr6 _ ⟨ha.size, by simp [ha.defers, hd], ha.vals⟩
      · obtain ⟨F1, S1, F2, S2, hsub, hap, ⟨c, y, F', S', hi, hsep, ⟨rfl, rfl⟩, n1, n2, hl', hd'⟩, hHI⟩ := s5.sep
        refine ⟨some c, _, by have := run_endLoop (P := P) hl' (by rw [hrec]; simp); rw [hrec] at this; exact this, ?_⟩
        obtain ⟨F6, S6, s6, fr6⟩ := leave _ hsub hap hsep hHI n1 n2 hd'
        exact fen_wp (r := none) (hstop d k c y hk hi _ F6 S6 s6 fr6 _ ⟨ha.size, by simp [ha.defers, hd], ha.vals⟩)
    | panicked ch => exact he.elim
    | outgrown => exact he.elim
end
section
variable {P : Program} {n : Fm} {o : Org} {ks : List K} {ρ : Env} {H H1 H' : List Asn} {fn : Func} {Φ : Value → List Asn → Prop}
theorem SG.retM {v : Value} (hl : Dfrs n.df H H1) (hv : ∀ a, Fr n ρ a → ∀ w, (results fn a.tmps).run P w = .ok v w) (i : Imp H1 H') (h : Φ v H') : SG P (Func.base P fn (PostS o Φ)) n o ks ρ H .ret := fun w F S s f => by
  obtain ⟨w', F1, S1, hlv, s1, f1⟩ := hl.leave s f
  exact G.retM hlv (fun a ha => hv a ha w') (post_of i h s1 f1)
theorem SN.endM {v : Value} (hl : Dfrs n.df H H1) (hv : ∀ a, Fr n ρ a → ∀ w, (results fn a.tmps).run P w = .ok v w) (i : Imp H1 H') (h : Φ v H') : SN P (Func.base P fn (PostS o Φ)) n o [] ρ H := fun w F S s f => by
  obtain ⟨w', F1, S1, hlv, s1, f1⟩ := hl.leave s f
  exact N.endM hlv (fun a ha => hv a ha w') (post_of i h s1 f1)
theorem SG.ret1M {t : Nat} {v : Value} (hr : fn.results = #[.tmp t]) (hv : look ρ t = some v) (hl : Dfrs n.df H H1) (i : Imp H1 H') (h : Φ v H') : SG P (Func.base P fn (PostS o Φ)) n o ks ρ H .ret := SG.retM hl (fun _ ha _ => res1 hr hv ha) i h
theorem SG.ret2M {t u : Nat} {v x : Value} (hr : fn.results = #[.tmp t, .tmp u]) (hv : look ρ t = some v) (hx : look ρ u = some x) (hl : Dfrs n.df H H1) (i : Imp H1 H') (h : Φ (.tuple #[v, x]) H') : SG P (Func.base P fn (PostS o Φ)) n o ks ρ H .ret := SG.retM hl (fun _ ha _ => res2 hr hv hx ha) i h
theorem SG.ret3M {t u r : Nat} {v x y : Value} (hr : fn.results = #[.tmp t, .tmp u, .tmp r]) (hv : look ρ t = some v) (hx : look ρ u = some x) (hy : look ρ r = some y) (hl : Dfrs n.df H H1) (i : Imp H1 H') (h : Φ (.tuple #[v, x, y]) H') : SG P (Func.base P fn (PostS o Φ)) n o ks ρ H .ret := SG.retM hl (fun _ ha _ => res3 hr hv hx hy ha) i h
theorem SG.ret0M (hr : fn.results = #[]) (hl : Dfrs n.df H H1) (i : Imp H1 H') (h : Φ (.tuple #[]) H') : SG P (Func.base P fn (PostS o Φ)) n o ks ρ H .ret := SG.retM hl (fun _ _ _ => by rw [results_none hr]) i h
theorem SN.end0M (hr : fn.results = #[]) (hl : Dfrs n.df H H1) (i : Imp H1 H') (h : Φ (.tuple #[]) H') : SN P (Func.base P fn (PostS o Φ)) n o [] ρ H := SN.endM hl (fun _ _ _ => by rw [results_none hr]) i h
end
end Brv
/-
  More on walks over assertions: lists in plain form; iterators that only read.
-/
set_option linter.unusedVariables false
set_option linter.unusedSimpArgs false
namespace Brv
open Go
section
variable {P : Program} {B : Exit → Act → World → Prop} {n : Fm} {o : Org} {ops : List Oper} {ks : List K} {ρ : Env} {H : List Asn} {l : List Oper} {Q : Exit → Act → World → Prop} {σ : List Nat} {π : List (Nat × Oper)} {pend : Pend} {c : Code}
theorem SL.n0 (h : SL P B n o ops ks ρ (H) l) : SL P B n o ops ks ρ ([] ++ H) l := h
theorem SW.n0 (h : SW P n ops Q o σ π pend ρ (H)) : SW P n ops Q o σ π pend ρ ([] ++ H) := h
theorem SN.n0 (h : SN P B n o ks ρ (H)) : SN P B n o ks ρ ([] ++ H) := h
theorem SG.n0 (h : SG P B n o ks ρ (H) c) : SG P B n o ks ρ ([] ++ H) c := h
theorem SL.n1 {A1 : Asn} (h : SL P B n o ops ks ρ (A1 :: H) l) : SL P B n o ops ks ρ ([A1] ++ H) l := h
theorem SW.n1 {A1 : Asn} (h : SW P n ops Q o σ π pend ρ (A1 :: H)) : SW P n ops Q o σ π pend ρ ([A1] ++ H) := h
theorem SN.n1 {A1 : Asn} (h : SN P B n o ks ρ (A1 :: H)) : SN P B n o ks ρ ([A1] ++ H) := h
theorem SG.n1 {A1 : Asn} (h : SG P B n o ks ρ (A1 :: H) c) : SG P B n o ks ρ ([A1] ++ H) c := h
theorem SL.n2 {A1 A2 : Asn} (h : SL P B n o ops ks ρ (A1 :: A2 :: H) l) : SL P B n o ops ks ρ ([A1, A2] ++ H) l := h
theorem SW.n2 {A1 A2 : Asn} (h : SW P n ops Q o σ π pend ρ (A1 :: A2 :: H)) : SW P n ops Q o σ π pend ρ ([A1, A2] ++ H) := h
theorem SN.n2 {A1 A2 : Asn} (h : SN P B n o ks ρ (A1 :: A2 :: H)) : SN P B n o ks ρ ([A1, A2] ++ H) := h
theorem SG.n2 {A1 A2 : Asn} (h : SG P B n o ks ρ (A1 :: A2 :: H) c) : SG P B n o ks ρ ([A1, A2] ++ H) c := h
theorem SL.n3 {A1 A2 A3 : Asn} (h : SL P B n o ops ks ρ (A1 :: A2 :: A3 :: H) l) : SL P B n o ops ks ρ ([A1, A2, A3] ++ H) l := h
theorem SW.n3 {A1 A2 A3 : Asn} (h : SW P n ops Q o σ π pend ρ (A1 :: A2 :: A3 :: H)) : SW P n ops Q o σ π pend ρ ([A1, A2, A3] ++ H) := h
theorem SN.n3 {A1 A2 A3 : Asn} (h : SN P B n o ks ρ (A1 :: A2 :: A3 :: H)) : SN P B n o ks ρ ([A1, A2, A3] ++ H) := h
theorem SG.n3 {A1 A2 A3 : Asn} (h : SG P B n o ks ρ (A1 :: A2 :: A3 :: H) c) : SG P B n o ks ρ ([A1, A2, A3] ++ H) c := h
theorem SL.n4 {A1 A2 A3 A4 : Asn} (h : SL P B n o ops ks ρ (A1 :: A2 :: A3 :: A4 :: H) l) : SL P B n o ops ks ρ ([A1, A2, A3, A4] ++ H) l := h
theorem SW.n4 {A1 A2 A3 A4 : Asn} (h : SW P n ops Q o σ π pend ρ (A1 :: A2 :: A3 :: A4 :: H)) : SW P n ops Q o σ π pend ρ ([A1, A2, A3, A4] ++ H) := h
theorem SN.n4 {A1 A2 A3 A4 : Asn} (h : SN P B n o ks ρ (A1 :: A2 :: A3 :: A4 :: H)) : SN P B n o ks ρ ([A1, A2, A3, A4] ++ H) := h
theorem SG.n4 {A1 A2 A3 A4 : Asn} (h : SG P B n o ks ρ (A1 :: A2 :: A3 :: A4 :: H) c) : SG P B n o ks ρ ([A1, A2, A3, A4] ++ H) c := h
theorem SL.n5 {A1 A2 A3 A4 A5 : Asn} (h : SL P B n o ops ks ρ (A1 :: A2 :: A3 :: A4 :: A5 :: H) l) : SL P B n o ops ks ρ ([A1, A2, A3, A4, A5] ++ H) l := h
theorem SW.n5 {A1 A2 A3 A4 A5 : Asn} (h : SW P n ops Q o σ π pend ρ (A1 :: A2 :: A3 :: A4 :: A5 :: H)) : SW P n ops Q o σ π pend ρ ([A1, A2, A3, A4, A5] ++ H) := h
theorem SN.n5 {A1 A2 A3 A4 A5 : Asn} (h : SN P B n o ks ρ (A1 :: A2 :: A3 :: A4 :: A5 :: H)) : SN P B n o ks ρ ([A1, A2, A3, A4, A5] ++ H) := h
theorem SG.n5 {A1 A2 A3 A4 A5 : Asn} (h : SG P B n o ks ρ (A1 :: A2 :: A3 :: A4 :: A5 :: H) c) : SG P B n o ks ρ ([A1, A2, A3, A4, A5] ++ H) c := h
theorem SN.be {v v' : Value} (d : Nat) (hv : look ρ d = some v) (e : v = v') (h : SN P B n o ks ((d, v') :: ρ) H) : SN P B n o ks ρ H := by
  subst e
  exact fun w F S s f a ha => h w F S s f a (ha.sub (Sub.cons hv (Sub.refl _)))
end
/-- An iterator that reads what is there and stays. -/
def itA (P : Program) (gf : FuncId) (lb : List Value) (N : Nat) (E : Nat → List Value → World → Prop) : Asn where
  P := fun _ S w => ∀ M W, Ext M w W → Apart S M → ∃ Sx, Iter P gf lb W N E Sx S []
  ext := fun F S M w w' h he _ hS M' W he' hS' => h (M ++ M') W ((he.mono (fun x hx => .inl (List.mem_append_left _ hx))).transN he' (fun x hx => .inl (List.mem_append_right _ hx))) (Apart.appR hS hS')
instance (P : Program) (gf : FuncId) (lb : List Value) (N : Nat) (E : Nat → List Value → World → Prop) : Pers (itA P gf lb N E) := ⟨fun _ _ _ h => h⟩
theorem IterS.read {P : Program} {gf : FuncId} {lb : List Value} {N : Nat} {E : Nat → List Value → World → Prop} {E' : Nat → List Value → Prop} (hE : ∀ k vs W, E k vs W → E' k vs) :
    IterS P gf lb [itA P gf lb N E] N (fun k vs p => E' k vs ∧ p = fun _ => True) := by
  intro y J Jx hy w F S s
  obtain ⟨Fj, Sj, Fi, Si, ⟨a1, a2, a3, a4⟩, ⟨b1, b2, b3⟩, hJ, Fi', Si', F3, S3, ⟨c1, c2, c3, c4⟩, _, hit, _⟩ := s.sep
  obtain ⟨Sx, hit'⟩ := hit [] w (Ext.refl _ _) (Apart.nilR _)
  have ltj : ∀ b ∈ Fj, b < w.heap.size := fun b hb => s.ltF b (a1 hb)
  have ltsj : ∀ b ∈ Sj, b < w.heap.size := fun b hb => s.ltS b (a3 hb)
  have ltsi : ∀ b ∈ Si', b < w.heap.size := fun b hb => s.ltS b (a4 (c3 hb))
  have hap : ∀ b ∈ Fj, b ∉ Si' := fun b hb h => b2 b hb (c3 h)
  -- what the consumer keeps
  let KJ : (Nat → Asn) → Nat → List Nat → World → Prop := fun A k D W => ∃ F' S', (A k).P F' S' W ∧ (∀ b ∈ F', b ∈ D) ∧ (∀ b ∈ S', b < W.heap.size ∧ (b ∈ D ∨ b ∈ Sj)) ∧ (∀ b ∈ D, b < W.heap.size ∧ (b ∈ Fj ∨ w.heap.size ≤ b)) ∧ Ext Fj w W
  have hst : ∀ (A : Nat → Asn) k D W₁ W₂ M', KJ A k D W₁ → Ext M' W₁ W₂ → (∀ g ∈ M', g ∉ D ∧ (g ∈ ([] : List Nat) ∨ w.heap.size ≤ g)) → KJ A k D W₂ := by
    rintro A k D W₁ W₂ M' ⟨F', S', h1, h2, h3, h4, h5⟩ he hM
    refine ⟨F', S', (A k).ext _ _ _ _ _ h1 he (fun b hb h => (hM b h).1 (h2 b hb)) (fun b hb h => (h3 b hb).2.elim (hM b h).1 (fun q => by have := (hM b h).2; simp at this; have := ltsj b q; omega)), h2, fun b hb => ⟨Nat.lt_of_lt_of_le (h3 b hb).1 he.size, (h3 b hb).2⟩, fun b hb => ⟨Nat.lt_of_lt_of_le (h4 b hb).1 he.size, (h4 b hb).2⟩, h5.transN he (fun x hx => .inr (by have := (hM x hx).2; simpa using this))⟩
  have hm := hit' y Fj (KJ J) (KJ Jx) w (Ext.refl _ _) (fun g hg => ⟨ltj g hg, hap g hg, by simp⟩) (fun k D W₁ W₂ M' => hst J k D W₁ W₂ M') (fun k D W₁ W₂ M' => hst Jx k D W₁ W₂ M') (by
      rintro k D vs W₁ hk ⟨F', S', h1, h2, h3, h4, h5⟩ hEk hD
      have hys := hy k vs _ hk ⟨hE k vs W₁ hEk, rfl⟩ W₁ F' S' ⟨⟨[], [], F', S', ⟨by simp, subR _, by simp, subR _⟩, ⟨Apart.nilL _, Apart.nilL _, Apart.nilL _⟩, fun _ _ _ _ => trivial, F', S', [], [], ⟨subR _, by simp, subR _, by simp⟩, ⟨Apart.nilR _, Apart.nilR _, Apart.nilR _⟩, h1, trivial⟩, fun b hb => (h4 b (h2 b hb)).1, fun b hb => (h3 b hb).1⟩
      have fin : ∀ b W₂, PostS ⟨W₁, F', S'⟩ (fun _ H' => H' = [if b then J (k + 1) else Jx (k + 1)]) undef W₂ → ∃ D', Ext D W₁ W₂ ∧ (∀ g ∈ D', g < W₂.heap.size ∧ (g ∈ D ∨ W₁.heap.size ≤ g)) ∧ (b = true → KJ J (k + 1) D' W₂) ∧ (b = false → KJ Jx (k + 1) D' W₂) := by
        rintro b W₂ ⟨H', F5, S5, rfl, s5, f5⟩
        have hsz := f5.ext.size
        have hsw := h5.size
        simp only at hsz
        obtain ⟨Fa, Sa, Fb, Sb, ⟨q1, _, q3, _⟩, _, hA, _⟩ := s5.sep
        have hD2 : ∀ g ∈ D ++ (F5 ++ S5).filter (fun g => decide (W₁.heap.size ≤ g)), g < W₂.heap.size ∧ (g ∈ D ∨ W₁.heap.size ≤ g) := by
          intro g hg
          rcases List.mem_append.1 hg with h | h
          · exact ⟨Nat.lt_of_lt_of_le (h4 g h).1 hsz, .inl h⟩
          · obtain ⟨h, hd⟩ := List.mem_filter.1 h
            exact ⟨(List.mem_append.1 h).elim (s5.ltF g) (s5.ltS g), .inr (of_decide_eq_true hd)⟩
        have hE2 : Ext D W₁ W₂ := f5.ext.mono (fun x hx => .inl (h2 x hx))
        have base : ∀ A : Nat → Asn, (A (k + 1)).P Fa Sa W₂ → KJ A (k + 1) (D ++ (F5 ++ S5).filter (fun g => decide (W₁.heap.size ≤ g))) W₂ := fun A hA => by
          refine ⟨Fa, Sa, hA, fun g hg => ?_, fun g hg => ⟨s5.ltS g (q3 hg), ?_⟩, fun g hg => ⟨(hD2 g hg).1, (hD2 g hg).2.elim (fun h => (h4 g h).2) (fun h => .inr (Nat.le_trans hsw h))⟩, h5.transN hE2 (fun x hx => (h4 x hx).2)⟩
          · exact (f5.fF g (q1 hg)).elim (fun h => List.mem_append_left _ (h2 g h)) (fun h => List.mem_append_right _ (List.mem_filter.2 ⟨List.mem_append_left _ (q1 hg), decide_eq_true h⟩))
          · rcases f5.fS g (q3 hg) with h | h | h
            · exact (h3 g h).2.imp (fun h => List.mem_append_left _ h) id
            · exact .inl (List.mem_append_left _ (h2 g h))
            · exact .inl (List.mem_append_right _ (List.mem_filter.2 ⟨List.mem_append_right _ (q3 hg), decide_eq_true h⟩))
        refine ⟨_, hE2, hD2, fun hb => ?_, fun hb => ?_⟩
        · subst hb; exact base J hA
        · subst hb; exact base Jx hA
      rcases hys with ⟨l, rfl, fn, tmps, asv, body, hr, hrd⟩ | ⟨f, first, cap, rfl, hc, hf⟩
      · refine .inl ⟨l, rfl, fn, tmps, asv, body, hr, RoundIn.mono hrd ?_⟩
        rintro e w' ⟨b, rfl, h⟩
        exact ⟨b, rfl, fin b w' h⟩
      · refine .inr ⟨f, first, cap, rfl, hc, hf.mono ?_⟩
        rintro v w' ⟨b, rfl, h⟩
        exact ⟨b, rfl, fin b w' h⟩) ⟨Fj, Sj, hJ, fun b hb => hb, fun b hb => ⟨ltsj b hb, .inr hb⟩, fun b hb => ⟨ltj b hb, .inl hb⟩, Ext.refl _ _⟩
  refine hm.mono ?_
  have out : ∀ (A : Nat → Asn) k D W, KJ A k D W → ∃ F' S', St (A k :: [itA P gf lb N E]) F' S' W ∧ From ⟨w, F, S⟩ W F' S' := by
    rintro A k D W ⟨F', S', h1, h2, h3, h4, h5⟩
    have hsw := h5.size
    refine ⟨F', S' ++ Si', ⟨⟨F', S', [], Si', ⟨subR _, by simp, inL _ _, inR _ _⟩, ⟨Apart.nilR _, fun b hb h => ?_, Apart.nilR _⟩, h1, [], Si', [], [], ⟨by simp, by simp, subR _, by simp⟩, ⟨Apart.nilL _, Apart.nilL _, Apart.nilR _⟩, (itA P gf lb N E).ext _ _ _ _ _ hit h5 (fun b hb h => ?_) (fun b hb h => hap b h hb), trivial⟩, fun b hb => (h4 b (h2 b hb)).1, ?_⟩, ⟨h5.mono (fun x hx => .inl (a1 hx)), fun b hb => (h4 b (h2 b hb)).2.imp (fun h => a1 h) id, ?_⟩⟩
    · exact (h4 b (h2 b hb)).2.elim (fun q => hap b q h) (fun q => by have := ltsi b h; omega)
    · cases hb
    · intro b hb
      exact (List.mem_append.1 hb).elim (fun h => (h3 b h).1) (fun h => Nat.lt_of_lt_of_le (ltsi b h) hsw)
    · intro b hb
      rcases List.mem_append.1 hb with h | h
      · exact (h3 b h).2.elim (fun q => (h4 b q).2.elim (fun q => .inr (.inl (a1 q))) (fun q => .inr (.inr q))) (fun q => .inl (a3 q))
      · exact .inl (a4 (c3 h))
  rintro v W₂ (⟨D, hJN, _⟩ | ⟨k, D, hk, hJx, _⟩)
  · obtain ⟨F', S', s', f'⟩ := out J N D W₂ hJN
    exact ⟨_, F', S', .inl rfl, s', f'⟩
  · obtain ⟨F', S', s', f'⟩ := out Jx k D W₂ hJx
    exact ⟨_, F', S', .inr ⟨k, hk, rfl⟩, s', f'⟩
end Brv
/-
  Contracts over assertions, from contracts over worlds.
-/
set_option linter.unusedVariables false
set_option linter.unusedSimpArgs false
namespace Brv
open Go
theorem St.blkC {H H' : List Asn} {b : Nat} {cs : List Value} {T : TypeId} {F S : List Nat} {w : World} (s : St H F S w) (h : Sel H (Brv.blk b cs T) H') : Cells w (some ⟨b, 0, none⟩) cs :=
  Cells.of_blk (s.blk h) 0 _ (fun j v hj => by simpa using hj)
theorem R.strB {P : Program} {n : Fm} {ρ : Env} {w : World} {d : Nat} {ty : TypeId} {pos : String} {af : Array Edge} {gd : Option (Nat × Bool)} {T S E : TypeId} [t : TyBytes P T E] [s : TyStr P S] {x : Operand} {a : Option Addr} {m c : Nat} {l : List UInt8} (hx : ev ρ x = some (.slice a m c)) (hb : Bs w a m l) :
    Runs P n ρ w ⟨some d, .convert T S x, ty, pos, af, gd⟩ (.string (str l)) w := R.bytesStr hx hb.cells hb.len
/-- A list of one assertion. -/
theorem st_one {A : Asn} {F S : List Nat} {w : World} (h : A.P F S w) (hF : ∀ b ∈ F, b < w.heap.size) (hS : ∀ b ∈ S, b < w.heap.size) : St [A] F S w :=
  ⟨⟨F, S, [], [], ⟨subR _, by simp, subR _, by simp⟩, ⟨Apart.nilR _, Apart.nilR _, Apart.nilR _⟩, h, trivial⟩, hF, hS⟩
section
variable {P : Program} {f : FuncId} {vs : List Value}
/-- A call that makes new blocks and turns nothing. -/
theorem post_new {H : List Asn} {w w' : World} {F S F' S' : List Nat} {A : Asn} {Φ : Value → List Asn → Prop} {v : Value} (st : St H F S w) (he : Ext [] w w') (hA : A.P F' S' w') (hF : ∀ b ∈ F', w.heap.size ≤ b ∧ b < w'.heap.size) (hS : ∀ b ∈ S', w.heap.size ≤ b ∧ b < w'.heap.size) (hΦ : Φ v (A :: H)) : PostS ⟨w, F, S⟩ Φ v w' := by
  obtain ⟨F2, S2, s2, f2⟩ := st.grow (From.refl w F S) he hF (fun b hb => ⟨(hS b hb).2, .inl (hS b hb).1⟩) hA (fun b hb hb' => by have := (hS b hb).1; have := st.ltF b hb'; omega)
  exact ⟨_, F2, S2, hΦ, s2, f2⟩
section
variable {n : Fm} {o : Org} {ρ : Env} {H H0 H1 : List Asn} {d : Option Nat} {ty : TypeId} {pos : String} {af : Array Edge} {gd : Option (Nat × Bool)} {args : Array Operand} {ats : Array TypeId}
theorem CS.callN {φ : Value → Asn → Prop} (hargs : evs ρ args.toList = some vs) (hc : ∀ (vs : Array Value) w, (callFunc f vs).run P w = .ok (.enter f vs) w)
    (hf : ∀ w F S, St H F S w → Meets P f vs w (fun v w' => ∃ A F' S', φ v A ∧ Ext [] w w' ∧ A.P F' S' w' ∧ (∀ b ∈ F', w.heap.size ≤ b ∧ b < w'.heap.size) ∧ (∀ b ∈ S', w.heap.size ≤ b ∧ b < w'.heap.size))) : CS P n o ρ H ⟨d, .call ⟨.value (.func f), args, ats⟩, ty, pos, af, gd⟩ (fun v H' => ∃ A, φ v A ∧ H' = A :: H) :=
  fun w F S s fr => Acts.callV (x := .func f) (first := #[]) (cap := #[]) rfl hargs (by simp) hc ((hf w F S s).mono fun v w' ⟨A, F', S', h1, h2, h3, h4, h5⟩ => by
    obtain ⟨H', F2, S2, q1, q2, q3⟩ := post_new (Φ := fun v H' => ∃ A, φ v A ∧ H' = A :: H) (v := v) s h2 h3 h4 h5 ⟨A, h1, rfl⟩
    exact ⟨H', F2, S2, q1, q2, fr.trans q3⟩)
/-- .. that clones. -/
theorem CS.callC {E size k : Nat} {xs : List Value} (hargs : evs ρ args.toList = some vs) (hc : ∀ (vs : Array Value) w, (callFunc f vs).run P w = .ok (.enter f vs) w)
    (hf : ∀ w F S, St H F S w → Meets P f vs w (Cloned w E size k xs)) : CS P n o ρ H ⟨d, .call ⟨.value (.func f), args, ats⟩, ty, pos, af, gd⟩ (fun v H' => ∃ a c, v = .slice a k c ∧ H' = own E size a k c xs :: H) :=
  (CS.callN (φ := fun v A => ∃ a c, v = .slice a k c ∧ A = own E size a k c xs) hargs hc fun w F S s => (hf w F S s).mono fun v w' ⟨a, c, M, hv, he, ho, hM⟩ => ⟨_, M, [], ⟨a, c, hv, rfl⟩, he, ho, fun b hb => ⟨hM b hb, ho.lt b hb⟩, by simp⟩).mono
    (by rintro v H' ⟨_, ⟨a, c, rfl, rfl⟩, rfl⟩; exact ⟨a, c, rfl, rfl⟩)
theorem CS.buildA {T E size bytes : Nat} {z : Value} [t : TySlice P T E size bytes z] {d len : Nat} {parts : Array (Nat × Operand)} {vs : List (Nat × Value)} (hp : evps ρ parts.toList = some vs) (hl : Nat.ble (len * size) 16777216 = true) (hlen : Nat.beq vs.length len = true) (ho : inOrder 0 vs = true) (hs : vs.all (fun p => Nat.beq p.2.cells.size size) = true)
    (cs : List Value) (hcs : cellsOf vs = cs) : CS P n o ρ H ⟨some d, .buildSlice T len parts, ty, pos, af, gd⟩ (fun v H' => ∃ b, v = .slice (some ⟨b, 0, none⟩) len len ∧ H' = blk b cs E :: H) :=
  CS.mk (fun w => R.buildA hp hl hlen ho hs) (by simpa using hcs)
/-- A block is made of a struct. -/
theorem CS.boxA {T : TypeId} {x : Operand} {cs : List Value} {d : Nat} (hx : ev ρ x = some (.agg cs.toArray)) : CS P n o ρ H ⟨some d, .box T x, ty, pos, af, gd⟩ (fun v H' => ∃ b, v = .pointer (some ⟨b, 0, none⟩) ∧ H' = blk b cs T :: H) :=
  CS.box hx cs (by simp [Value.cells])
end
end
/-- A block that stays as it is. -/
def fz (b : Nat) (cs : List Value) (T : TypeId) : Asn := sh (fun w => Blk w b cs.toArray T (0, 0))
instance (b : Nat) (cs : List Value) (T : TypeId) : Pers (fz b cs T) := ⟨fun _ _ _ h => h⟩
theorem St.fz {H H' : List Asn} {b : Nat} {cs : List Value} {T : TypeId} {F S : List Nat} {w : World} (s : St H F S w) (h : Sel H (Brv.fz b cs T) H') : Blk w b cs.toArray T (0, 0) := s.sh h
theorem Imp.fz {H H' : List Asn} {b : Nat} {cs : List Value} {T : TypeId} (h : Sel H (blk b cs T) H') : Imp H (Brv.fz b cs T :: H') := Imp.blkSh h fun _ h => h
/-- A block among the assertions, owned or frozen. -/
inductive SelB : List Asn → Nat → List Value → TypeId → Prop
  | blk {b : Nat} {cs : List Value} {T : TypeId} {H : List Asn} : SelB (Brv.blk b cs T :: H) b cs T
  | fz {b : Nat} {cs : List Value} {T : TypeId} {H : List Asn} : SelB (Brv.fz b cs T :: H) b cs T
  | there {A : Asn} {b : Nat} {cs : List Value} {T : TypeId} {H : List Asn} : SelB H b cs T → SelB (A :: H) b cs T
theorem SelB.get {H : List Asn} {b : Nat} {cs : List Value} {T : TypeId} (h : SelB H b cs T) : ∀ {F S : List Nat} {w : World}, Sep H F S w → Blk w b cs.toArray T (0, 0) := by
  induction h with
  | blk => exact fun {F S w} ⟨_, _, _, _, _, _, hA, _⟩ => hA.2
  | fz => exact fun {F S w} ⟨_, _, _, _, _, _, hA, _⟩ => hA [] w (Ext.refl _ _) (Apart.nilR _)
  | there _ ih => exact fun {F S w} ⟨_, _, _, _, _, _, _, hH⟩ => ih hH
theorem St.cel {H : List Asn} {b : Nat} {cs : List Value} {T : TypeId} {F S : List Nat} {w : World} (s : St H F S w) (h : SelB H b cs T) : Blk w b cs.toArray T (0, 0) := h.get s.sep
/-- An order of keys and values (its blocks are its own). -/
def mp {κ : Type} [Key κ] (TM TP sv : Nat) (m : Nat) (ps : List (Pr κ)) : Asn where
  P := fun F _ w => MapAt TM TP sv w m ps F
  ext := fun F S M w w' h he hF _ => h.ext he hF
theorem St.mp {κ : Type} [Key κ] {TM TP sv m : Nat} {ps : List (Pr κ)} {H H' : List Asn} {F S : List Nat} {w : World} (s : St H F S w) (h : Sel H (Brv.mp TM TP sv m ps) H') : ∃ S', MapAt TM TP sv w m ps S' := (s.sel h).elim fun F1 h => h.elim fun _ h => ⟨F1, h.2⟩
/-- A call that turns an order. -/
theorem SpecS.ofMap {κ : Type} [Key κ] {P : Program} {f : FuncId} {vs : List Value} {TM TP sv m : Nat} {ps ps' : List (Pr κ)} {φ : Value → Prop} (h : ∀ w S, MapAt TM TP sv w m ps S → Meets P f vs w (fun v w' => φ v ∧ ∃ S', Grown S S' w w' ∧ MapAt TM TP sv w' m ps' S')) :
    SpecS P f vs [mp TM TP sv m ps] (fun v H' => φ v ∧ H' = [mp TM TP sv m ps']) := fun w F S st => by
  obtain ⟨F1, S1, _, _, ⟨a, _, c, _⟩, _, hm, _⟩ := st.sep
  refine (h w F1 hm).mono ?_
  rintro v w' ⟨h1, S', hg, hm'⟩
  exact ⟨_, S', [], ⟨h1, rfl⟩, st_one hm' hm'.lt (by simp), ⟨hg.1.mono (fun x hx => .inl (a hx)), fun x hx => (hg.2 x hx).imp (fun h => a h) id, by simp⟩⟩
theorem SpecS.ofNew {κ : Type} [Key κ] {P : Program} {f : FuncId} {TM TP sv : Nat} (h : ∀ w, Meets P f [] w (fun v w' => ∃ b, v = .pointer (some ⟨b, 0, none⟩) ∧ w.heap.size ≤ b ∧ Ext [] w w' ∧ MapAt (κ := κ) TM TP sv w' b [] [b])) :
    SpecS P f [] [] (fun v H' => ∃ b, v = .pointer (some ⟨b, 0, none⟩) ∧ H' = [mp (κ := κ) TM TP sv b []]) := fun w F S st => (h w).mono fun v w' ⟨b, h1, h2, h3, h4⟩ =>
  ⟨_, [b], [], ⟨b, h1, rfl⟩, st_one h4 h4.lt (by simp), ⟨h3.mono (by simp), fun x hx => .inr (by rw [List.mem_singleton.1 hx]; exact h2), by simp⟩⟩
end Brv
/-
  Laws over assertions: all that is there at the beginning is shared.
-/
set_option linter.unusedVariables false
set_option linter.unusedSimpArgs false
namespace Brv
open Go
class PersL (H : List Asn) : Prop where
  h : ∀ F S w, Sep H F S w → Sep H [] S w
instance : PersL [] := ⟨fun _ _ _ _ => trivial⟩
instance (A : Asn) (H : List Asn) [a : Pers A] [t : PersL H] : PersL (A :: H) := ⟨fun F S w ⟨F1, S1, F2, S2, ⟨p, q, r, s⟩, _, hA, hH⟩ =>
  ⟨[], S1, [], S2, ⟨by simp, by simp, r, s⟩, ⟨Apart.nilL _, Apart.nilL _, Apart.nilR _⟩, a.h _ _ _ hA, t.h _ _ _ hH⟩⟩
def lawO (w : World) : Org := ⟨w, [], List.range w.heap.size⟩
/-- What is true of the old blocks, at a law's beginning. -/
theorem law_nil (w : World) : St [] [] (List.range w.heap.size) w := ⟨trivial, by simp, fun b h => List.mem_range.1 h⟩
theorem law_cons {H : List Asn} {w : World} {p : World → Prop} (hp : ∀ w', Ext [] w w' → p w') (h : St H [] (List.range w.heap.size) w) : St (sh p :: H) [] (List.range w.heap.size) w :=
  ⟨⟨[], List.range w.heap.size, [], List.range w.heap.size, ⟨by simp, by simp, subR _, subR _⟩, ⟨Apart.nilL _, Apart.nilL _, Apart.nilR _⟩, sh_old hp [], h.sep⟩, by simp, fun b h => List.mem_range.1 h⟩
theorem Meets.law {P : Program} {f : FuncId} {fn : Func} {c : Code} {args : List Value} {w : World} {H : List Asn} {x : Value} (hf : P.funcs[f]? = some fn) (hb : fn.body = some c) (n : Nat) (hn : fn.ntmps = n) (hl : args.length ≤ n) (hs : St H [] (List.range w.heap.size) w)
    (h : SG P (Func.base P fn (PostS (lawO w) (fun v _ => v = x))) ⟨n, [], none⟩ (lawO w) [] (argEnv 0 args) H c) : Meets P f args w (fun v w' => v = x ∧ Ext [] w w') :=
  (Meets.enter hf hb n hn hl (h w [] _ hs (From.refl w [] _))).mono fun v w' ⟨_, _, _, hv, _, fr⟩ => ⟨hv, fr.ext⟩
section
variable {P : Program} {n : Fm} {w₀ : World} {ρ : Env} {H H0 H1 : List Asn} {d : Option Nat} {ty : TypeId} {pos : String} {af : Array Edge} {gd : Option (Nat × Bool)} {args : Array Operand} {ats : Array TypeId} {f : FuncId} {vs : List Value}
end
section
variable {P : Program} {n : Fm} {o : Org} {ρ : Env} {H H1 : List Asn} {ty : TypeId} {pos : String} {af : Array Edge} {gd : Option (Nat × Bool)}
end
end Brv
/-
  A return of a struct that lives in a block, and of two plain results.
-/
set_option linter.unusedVariables false
namespace Brv
open Go
section
variable {P : Program} {n : Nat} {ks : List K} {ρ : Env} {w : World} {fn : Func} {Φ : Value → World → Prop}
theorem G.retCTT {t u y : Nat} {T : TypeId} {s b : Nat} [ta : TyAgg P T s] {cs : Array Value} {U : TypeId} {fz : Nat × Nat} {x z : Value} (hr : fn.results = #[.cell t T, .tmp u, .tmp y]) (hv : look ρ t = some (.pointer (some ⟨b, 0, none⟩))) (hx : look ρ u = some x) (hy : look ρ y = some z)
    (hb : Blk w b cs U fz) (hs : cs.size = s) (h : Φ (.tuple #[.agg cs, x, z]) w) : G P (Func.base P fn Φ) ⟨n, [], none⟩ ks ρ w .ret := by
  refine G.retM (n := ⟨n, [], none⟩) rfl (fun a ha => ?_) h
  have e1 := ha.getD hv
  have e2 := ha.getD hx
  have e3 := ha.getD hy
  have hl0 := run_loadN (P := P) (T := T) (s := s) (w := w) (p := ⟨b, 0, none⟩) (vs := cs.toList) hb.cellsAll (by simpa using hs)
  have hl : (loadVar T ⟨b, 0, none⟩).run P w = .ok (.agg cs) w := by simpa [Instr.loadAt, Instr.sureAddr] using hl0
  rw [Array.getD_eq_getD_getElem?] at e1 e2 e3
  simp [results, hr, e1, e2, e3, asAddr, hl]
end
end Brv
/-
  Assertions with something hidden.
-/
set_option linter.unusedVariables false
set_option linter.unusedSimpArgs false
namespace Brv
open Go
/-- A list of assertions, whose parts aren't told. -/
def pk {ι : Type} (A : ι → List Asn) : Asn where
  P := fun F S w => ∃ i, Sep (A i) F S w
  ext := fun _ _ _ _ _ ⟨i, h⟩ he hF hS => ⟨i, h.ext he hF hS⟩
theorem pk_one {ι : Type} {A : ι → List Asn} {F S : List Nat} {w : World} (i : ι) (h : St (A i) F S w) : St [pk A] F S w := st_one ⟨i, h.sep⟩ h.ltF h.ltS
theorem pk_open {ι : Type} {A : ι → List Asn} {F S : List Nat} {w : World} (h : St [pk A] F S w) : ∃ i F1 S1, St (A i) F1 S1 w ∧ F1 ⊆ F ∧ S1 ⊆ S := by
  obtain ⟨F1, S1, _, _, ⟨a, _, c, _⟩, _, ⟨i, hA⟩, _⟩ := h.sep
  exact ⟨i, F1, S1, ⟨hA, fun x hx => h.ltF x (a hx), fun x hx => h.ltS x (c hx)⟩, a, c⟩
theorem From.lift {w w' : World} {F S F1 S1 F' S' : List Nat} (h : From ⟨w, F1, S1⟩ w' F' S') (hF : F1 ⊆ F) (hS : S1 ⊆ S) : From ⟨w, F, S⟩ w' F' S' :=
  ⟨h.ext.mono (fun x hx => .inl (hF hx)), fun b hb => (h.fF b hb).imp (fun q => hF q) id, fun b hb => (h.fS b hb).imp (fun q => hS q) (fun q => q.imp (fun q => hF q) id)⟩
section
variable {P : Program} {f : FuncId} {vs : List Value} {ι κ : Type}
/-- A function on what is hidden. -/
theorem SpecS.pack {A : ι → List Asn} {B : κ → List Asn} {φ : Value → Prop} (h : ∀ i, SpecS P f vs (A i) (fun v H' => φ v ∧ ∃ j, H' = B j)) : SpecS P f vs [pk A] (fun v H' => φ v ∧ H' = [pk B]) := fun w F S st => by
  obtain ⟨i, F1, S1, st1, a, c⟩ := pk_open st
  refine (h i w F1 S1 st1).mono ?_
  rintro v w' ⟨_, F', S', ⟨hφ, j, rfl⟩, st', fr⟩
  exact ⟨_, F', S', ⟨hφ, rfl⟩, pk_one j st', fr.lift a c⟩
/-- A contract over worlds that makes one assertion out of fresh blocks. -/
theorem SpecS.ofFresh {H : List Asn} {φ : Value → Asn → Prop} (hf : ∀ w F S, St H F S w → Meets P f vs w (fun v w' => ∃ A F' S', φ v A ∧ Ext [] w w' ∧ A.P F' S' w' ∧ (∀ b ∈ F', w.heap.size ≤ b ∧ b < w'.heap.size) ∧ (∀ b ∈ S', w.heap.size ≤ b ∧ b < w'.heap.size))) :
    SpecS P f vs H (fun v H' => ∃ A, φ v A ∧ H' = A :: H) := fun w F S s => (hf w F S s).mono fun v w' ⟨A, F', S', h1, h2, h3, h4, h5⟩ => post_new (Φ := fun v H' => ∃ A, φ v A ∧ H' = A :: H) s h2 h3 h4 h5 ⟨A, h1, rfl⟩
end
end Brv
namespace Brv
open Go
section
variable {P : Program} {f : FuncId} {vs : List Value} {ι : Type}
theorem Sels.app : ∀ (H0 H1 : List Asn), Sels (H0 ++ H1) H0 H1
  | [], _ => .nil
  | _ :: H0, H1 => .cons .here (Sels.app H0 H1)
theorem SpecS.opened {A : ι → List Asn} {K : List Asn} {Φ : Value → List Asn → Prop} (h : ∀ i, SpecS P f vs (A i ++ K) Φ) : SpecS P f vs (pk A :: K) Φ := fun w F S st => by
  obtain ⟨F1, S1, F2, S2, hs, hd, ⟨i, hA⟩, hK⟩ := st.sep
  exact h i w F S ⟨Sep.join ⟨F1, S1, F2, S2, hs, hd, hA, hK⟩, st.ltF, st.ltS⟩
theorem Imp.close {A : ι → List Asn} (i : ι) (K : List Asn) : Imp (A i ++ K) (pk A :: K) := fun F S w s =>
  let ⟨F1, S1, F2, S2, hs, hd, h0, h1⟩ := (Sels.app (A i) K).split s.sep
  ⟨F, S, ⟨⟨F1, S1, F2, S2, hs, hd, ⟨i, h0⟩, h1⟩, s.ltF, s.ltS⟩, From.refl _ _ _⟩
theorem Imp.close0 {A : ι → List Asn} (i : ι) : Imp (A i) [pk A] := by
  have := Imp.close (A := A) i []
  rwa [List.append_nil] at this
theorem SpecS.closed {H : List Asn} {Φ Φ' : Value → List Asn → Prop} (h : SpecS P f vs H Φ) (hm : ∀ v H', Φ v H' → ∃ H'', Imp H' H'' ∧ Φ' v H'') : SpecS P f vs H Φ' := fun w F S st => (h w F S st).mono fun v w' ⟨H', F', S', h1, st', fr⟩ => by
  obtain ⟨H'', hi, h2⟩ := hm v H' h1
  obtain ⟨F2, S2, s2, f2⟩ := hi.at st' fr
  exact ⟨H'', F2, S2, h2, s2, f2⟩
end
section
variable {P : Program} {n : Nat} {o : Org} {ks : List K} {ρ : Env} {H H' : List Asn} {fn : Func} {Φ : Value → List Asn → Prop}
theorem SG.retCTT {t u y : Nat} {T : TypeId} {s b : Nat} [ta : TyAgg P T s] {cs : List Value} {U : TypeId} {H1 : List Asn} {x z : Value} (hr : fn.results = #[.cell t T, .tmp u, .tmp y]) (hv : look ρ t = some (.pointer (some ⟨b, 0, none⟩))) (hx : look ρ u = some x) (hy : look ρ y = some z) (hb : Sel H (blk b cs U) H1) (hl : cs.length = s) (i : Imp H H') (h : Φ (.tuple #[.agg cs.toArray, x, z]) H') :
    SG P (Func.base P fn (PostS o Φ)) ⟨n, [], none⟩ o ks ρ H .ret := fun w F S st f => G.retCTT hr hv hx hy (st.blk hb) (by simpa using hl) (post_of i h st f)
end
end Brv
/-
  Tables by rising keys.
-/
set_option linter.unusedVariables false
set_option linter.unusedSimpArgs false
namespace Brv
open Go
section
variable {α β : Type}
def lowT (l : List (Int × α)) (k : Int) : Nat := (l.takeWhile fun p => decide (p.1 < k)).length
def hasT (l : List (Int × α)) (k : Int) : Bool := match l[lowT l k]? with
  | some p => !decide (k < p.1)
  | none => false
def putT (l : List (Int × α)) (k : Int) (v : α) : List (Int × α) := if hasT l k then l.set (lowT l k) (k, v) else l.take (lowT l k) ++ (k, v) :: l.drop (lowT l k)
def delT (l : List (Int × α)) (k : Int) : List (Int × α) := if hasT l k then l.take (lowT l k) ++ l.drop (lowT l k + 1) else l
def getT (l : List (Int × α)) (k : Int) : Option α := if hasT l k then (l[lowT l k]?).map Prod.snd else none
def mapT (g : α → β) (l : List (Int × α)) : List (Int × β) := l.map fun p => (p.1, g p.2)
theorem lowT_map (g : α → β) (l : List (Int × α)) (k : Int) : lowT (mapT g l) k = lowT l k := by
  unfold lowT mapT
  induction l with
  | nil => rfl
  | cons p l ih => simp only [List.map_cons, List.takeWhile_cons]; split <;> simp_all
theorem hasT_map (g : α → β) (l : List (Int × α)) (k : Int) : hasT (mapT g l) k = hasT l k := by
  unfold hasT
  rw [lowT_map, mapT, List.getElem?_map]
  cases l[lowT l k]? <;> rfl
theorem putT_map (g : α → β) (l : List (Int × α)) (k : Int) (v : α) : mapT g (putT l k v) = putT (mapT g l) k (g v) := by
  unfold putT
  rw [hasT_map, lowT_map]
  split <;> simp [mapT, List.map_set, List.map_take, List.map_drop]
theorem delT_map (g : α → β) (l : List (Int × α)) (k : Int) : mapT g (delT l k) = delT (mapT g l) k := by
  unfold delT
  rw [hasT_map, lowT_map]
  split <;> simp [mapT, List.map_take, List.map_drop]
theorem getT_map (g : α → β) (l : List (Int × α)) (k : Int) : getT (mapT g l) k = (getT l k).map g := by
  unfold getT
  rw [hasT_map, lowT_map]
  split
  · simp only [mapT, List.getElem?_map, Option.map_map]; rfl
  · rfl
theorem lowT_eq (ps : List (Pr Int)) (k : Int) : lowT ps k = low ps k := rfl
theorem hasT_eq (ps : List (Pr Int)) (k : Int) : hasT ps k = hasK ps k := by
  unfold hasT hasK
  rw [lowT_eq]
  cases ps[low ps k]? <;> rfl
theorem putT_eq (ps : List (Pr Int)) (k : Int) (v : List Value) : putT ps k v = putK ps k v := by
  unfold putT putK
  rw [hasT_eq, lowT_eq]
theorem delT_eq (ps : List (Pr Int)) (k : Int) : delT ps k = delK ps k := by
  unfold delT delK
  rw [hasT_eq, lowT_eq]
theorem getT_eq (ps : List (Pr Int)) (k : Int) : getT ps k = getK ps k := by
  unfold getT getK
  rw [hasT_eq, lowT_eq]
def Srt (l : List (Int × α)) : Prop := l.Pairwise fun a b => a.1 < b.1
theorem Srt_map (g : α → β) {l : List (Int × α)} : Srt (mapT g l) ↔ Srt l := by unfold Srt mapT; rw [List.pairwise_map]
theorem Srt_eq (ps : List (Pr Int)) : Sorted ps ↔ Srt ps := by
  unfold Sorted Srt
  exact ⟨fun h => h.imp fun h => of_decide_eq_true h, fun h => h.imp fun h => decide_eq_true h⟩
theorem lowT_at {l : List (Int × α)} (hs : Srt l) {i : Nat} {p : Int × α} (hp : l[i]? = some p) : lowT l p.1 = i := by
  unfold Srt at hs
  induction l generalizing i with
  | nil => simp at hp
  | cons q l ih =>
    rw [List.pairwise_cons] at hs
    unfold lowT
    cases i with
    | zero =>
      simp only [List.getElem?_cons_zero, Option.some.injEq] at hp
      subst hp
      rw [List.takeWhile_cons, if_neg (by simp)]; rfl
    | succ i =>
      simp only [List.getElem?_cons_succ] at hp
      have hlt := hs.1 p (List.mem_of_getElem? hp)
      have := ih hs.2 hp
      unfold lowT at this
      rw [List.takeWhile_cons, if_pos (by simpa using hlt), List.length_cons, this]
theorem hasT_at {l : List (Int × α)} (hs : Srt l) {i : Nat} {p : Int × α} (hp : l[i]? = some p) : hasT l p.1 = true := by
  unfold hasT; rw [lowT_at hs hp, hp]; simp
theorem getT_at {l : List (Int × α)} (hs : Srt l) {i : Nat} {p : Int × α} (hp : l[i]? = some p) : getT l p.1 = some p.2 := by
  unfold getT; rw [hasT_at hs hp, lowT_at hs hp, hp]; rfl
theorem putT_at {l : List (Int × α)} (hs : Srt l) {i : Nat} {p : Int × α} (hp : l[i]? = some p) (v : α) : putT l p.1 v = l.set i (p.1, v) := by
  unfold putT; rw [hasT_at hs hp, lowT_at hs hp]; rfl
theorem hasT_mem {l : List (Int × α)} {k : Int} (h : hasT l k = true) : ∃ p, l[lowT l k]? = some p ∧ p.1 = k := by
  unfold hasT at h
  cases hl : l[lowT l k]? with
  | none => rw [hl] at h; cases h
  | some p =>
    rw [hl] at h
    refine ⟨p, rfl, ?_⟩
    have h1 : ¬ k < p.1 := by simpa using h
    have h2 : ¬ p.1 < k := by
      unfold lowT at hl
      clear h h1
      induction l with
      | nil => simp at hl
      | cons q l ih =>
        rw [List.takeWhile_cons] at hl
        split at hl
        · exact ih (by simpa using hl)
        · rename_i hq
          simp only [List.length_nil, List.getElem?_cons_zero, Option.some.injEq] at hl
          subst hl; simpa using hq
    omega
theorem hasT_no {l : List (Int × α)} {k : Int} (h : ∀ p ∈ l, p.1 ≠ k) : hasT l k = false := by
  cases hh : hasT l k with
  | false => rfl
  | true => obtain ⟨p, hp, e⟩ := hasT_mem hh; exact (h p (List.mem_of_getElem? hp) e).elim
theorem getT_no {l : List (Int × α)} {k : Int} (h : ∀ p ∈ l, p.1 ≠ k) : getT l k = none := by unfold getT; rw [hasT_no h]; rfl
theorem getT_some {l : List (Int × α)} {k : Int} {v : α} (h : getT l k = some v) : (k, v) ∈ l := by
  unfold getT at h
  split at h
  · rename_i hh
    obtain ⟨p, hp, e⟩ := hasT_mem hh
    rw [hp] at h
    obtain ⟨a, b⟩ := p
    simp only [Option.map_some, Option.some.injEq] at h
    cases h; cases e
    exact List.mem_of_getElem? hp
  · cases h
/-- The greatest key is put at the end. -/
theorem putT_end {l : List (Int × α)} {k : Int} (v : α) (h : ∀ p ∈ l, p.1 < k) : putT l k v = l ++ [(k, v)] := by
  have hl : lowT l k = l.length := by
    unfold lowT
    clear v
    induction l with
    | nil => rfl
    | cons q l ih => rw [List.takeWhile_cons, if_pos (by simpa using h q (by simp)), List.length_cons, ih (fun p hp => h p (by simp [hp])), List.length_cons]
  unfold putT
  rw [hasT_no (fun p hp => by have := h p hp; omega), if_neg (by simp), hl]
  simp
theorem mem_putT {l : List (Int × α)} {k : Int} {v : α} {p : Int × α} (h : p ∈ putT l k v) : p = (k, v) ∨ p ∈ l := by
  unfold putT at h
  split at h
  · exact (List.mem_or_eq_of_mem_set h).symm
  · rcases List.mem_append.1 h with h | h
    · exact .inr (List.mem_of_mem_take h)
    · rcases List.mem_cons.1 h with h | h
      · exact .inl h
      · exact .inr (List.mem_of_mem_drop h)
theorem mem_delT {l : List (Int × α)} {k : Int} {p : Int × α} (h : p ∈ delT l k) : p ∈ l := by
  unfold delT at h
  split at h
  · exact (List.mem_append.1 h).elim List.mem_of_mem_take List.mem_of_mem_drop
  · exact h
/-- What is merged of writes. -/
def mgW (l : List Wr) : List Wr := l.foldl (fun t w => putT t w.1 w.2) []
theorem mgW_toQ (l : List Wr) : (mgW l).map toQ = mergeP [] l := by
  unfold mgW mergeP
  have key : ∀ (l : List Wr) (t : List Wr), (l.foldl (fun t w => putT t w.1 w.2) t).map toQ = l.foldl (fun ps w => putK ps w.1 (vbs w.2)) (t.map toQ) := by
    intro l
    induction l with
    | nil => intro t; rfl
    | cons w l ih =>
      intro t
      simp only [List.foldl_cons]
      rw [ih]
      congr 1
      have := putT_map vbs t w.1 w.2
      rw [putT_eq] at this
      exact this
  exact key l []
theorem mgW_of {l r : List Wr} (h : r.map toQ = mergeP [] l) : r = mgW l := toQ_inj (h.trans (mgW_toQ l).symm)
theorem mgW_sorted (l : List Wr) : Srt (mgW l) := by
  have := mergeP_sorted nil_sorted l
  rw [← mgW_toQ, Srt_eq] at this
  exact (Srt_map vbs).1 this
theorem mgW_get (l : List Wr) (k : Int) : getT (mgW l) k = lastOf l k := by
  rw [← lastOf_merged (mgW_toQ l) k]
  have key : ∀ (r : List Wr), Srt r → getT r k = lastOf r k := by
    intro r hs
    cases hl : lastOf r k with
    | none =>
      refine getT_no fun p hp e => ?_
      clear hs
      induction r with
      | nil => cases hp
      | cons q r ih =>
        simp only [lastOf] at hl
        cases hq : lastOf r k with
        | some x => rw [hq] at hl; cases hl
        | none =>
          rw [hq] at hl
          rcases List.mem_cons.1 hp with rfl | hp
          · simp [e] at hl
          · exact ih hq hp
    | some b =>
      have hm : (k, b) ∈ r := by
        clear hs
        induction r with
        | nil => cases hl
        | cons q r ih =>
          simp only [lastOf] at hl
          cases hq : lastOf r k with
          | some x => rw [hq] at hl; cases hl; exact List.mem_cons_of_mem _ (ih hq)
          | none =>
            rw [hq] at hl
            by_cases e : q.1 = k
            · rw [if_pos e] at hl
              cases hl; rw [← e]; exact List.mem_cons_self
            · rw [if_neg e] at hl; cases hl
      obtain ⟨i, hi⟩ := List.getElem?_of_mem hm
      exact getT_at hs hi
  exact key _ (mgW_sorted l)
theorem mgW_again {l : List Wr} (hs : Srt l) : mgW l = l := by
  refine (mgW_of ?_).symm
  rw [mergeP]
  have : ∀ (a b : List Wr), Srt (b ++ a) → (b ++ a).map toQ = a.foldl (fun ps w => putK ps w.1 (vbs w.2)) (b.map toQ) := by
    intro a
    induction a with
    | nil => intro b _; simp
    | cons w a ih =>
      intro b hb
      rw [List.foldl_cons, show b ++ w :: a = (b ++ [w]) ++ a by simp, ih (b ++ [w]) (by rw [List.append_assoc]; exact hb)]
      congr 1
      have hlt : ∀ p ∈ b.map toQ, p.1 < w.1 := by
        intro p hp
        obtain ⟨x, hx, rfl⟩ := List.mem_map.1 hp
        exact (List.pairwise_append.1 hb).2.2 x hx w (by simp)
      have := putT_end (l := b.map toQ) (vbs w.2) hlt
      rw [putT_eq] at this
      rw [this, List.map_append]; rfl
  exact this l [] hs
end
end Brv
/-
  The walks of package record.
-/
set_option linter.unusedVariables false
set_option linter.unusedSimpArgs false
set_option maxRecDepth 4000
namespace Go.Proofs.Ytiiiplhfgblamaa
open Go Brv
theorem mergeF_ok (la : Option Addr) (ln lc : Nat) (rs : List RowW) (w : World) (hL : Cells w la (rs.map RowW.val)) (hln : ln = rs.length) (hR : ∀ r ∈ rs, r.ok w) (htot : (allW rs).length ≤ 50000) (hlb : ln ≤ 2000000) : Meets Try.prog 25 [.slice la ln lc] w (fun v w' => ∃ (a : Option Addr) (n c : Nat) (os : List WriteV), v = .slice a n c ∧ n ≤ c ∧ n = os.length ∧ n ≤ 50000 ∧ (os.map fun o => toQ (wv o)) = mergeP [] ((allW rs).map wv) ∧ Ext [] w w' ∧ ∃ F : List Nat, (∀ g ∈ F, w.heap.size ≤ g ∧ g < w'.heap.size) ∧ ∀ M w'', Ext M w' w'' → (∀ g ∈ F, g ∉ M) → Tab w'' a n 2 (os.map WriteV.cells) ∧ ∀ o ∈ os, o.okW w'') := by
  refine Meets.enter Try.func25 rfl 44 rfl (Nat.le_of_ble_eq_true rfl) ?_
  have E := Ext.refl [] w
  refine G.seq ?_
  refine G.region ?_
  refine L.val rfl rfl (R.as rfl) ?_
  refine L.nil ?_
  refine N.seq ?_
  refine G.seq ?_
  refine G.region ?_
  refine L.callF rfl rfl rfl go73 (onewB_ok _) ?_
  rintro _ w1 ⟨m, rfl, hm, e1, D⟩
  have hS : ∀ y ∈ [m], w.heap.size ≤ y := by simpa using hm
  replace E := E.trans0 e1
  refine L.val rfl rfl (R.as rfl) ?_
  refine L.nil ?_
  refine N.seq ?_
  refine G.seq ?_
  refine G.seq ?_
  refine G.region ?_
  refine L.val rfl rfl (R.mv rfl) ?_
  refine L.val rfl rfl (R.lenS rfl) ?_
  refine L.val rfl rfl (R.mv rfl) ?_
  refine L.nil ?_
  refine N.seq ?_
  refine G.block ?_
  refine G.loop (X := MgSt) (fun s => [(3, .pointer (some ⟨m, 0, none⟩)), (12, .slice la ln lc), (13, .int .i64 (ln : Int)), (14, .int .i64 (s.i : Int))]) (fun s w' => s.i ≤ ln ∧ (s.zs.map fun o => toQ (wv o)) = mergeP [] ((allW (rs.take s.i)).map wv) ∧ s.zs.length ≤ (allW (rs.take s.i)).length ∧ (∀ z ∈ s.zs, z.okW w) ∧ MapAt (κ := Int) 161 165 1 w' m (s.zs.map toP) s.S ∧ (∀ y ∈ s.S, w.heap.size ≤ y) ∧ Ext [] w w') (fun s => ln - s.i) (⟨0, [], [m]⟩) (Sub.cons rfl (Sub.cons rfl (Sub.cons rfl (Sub.cons rfl (Sub.nil _))))) ⟨Nat.zero_le _, rfl, Nat.zero_le _, (by intro z hz; cases hz), D, hS, E⟩ ?_
  rintro ⟨i, zs, S⟩ w2 ⟨hi, hz, hzl, hzk, D, hS, E⟩
  dsimp only at hi hz hzl hzk D hS
  refine G.sub [(3, .pointer (some ⟨m, 0, none⟩)), (12, .slice la ln lc), (13, .int .i64 (ln : Int)), (14, .int .i64 (i : Int))] (Sub.cons rfl (Sub.cons rfl (Sub.cons rfl (Sub.cons rfl (Sub.nil _))))) ?_
  refine G.seq ?_
  refine G.region ?_
  refine L.val rfl rfl (R.lss rfl rfl) ?_
  refine L.nil ?_
  refine N.seq ?_
  refine G.seq ?_
  refine G.condP rfl (fun h0 => ?_) (fun h0 => ?_)
  · obtain ⟨r, hr⟩ : ∃ r, rs[i]? = some r := ⟨_, List.getElem?_eq_getElem (by omega)⟩
    obtain ⟨q, hq, hcq⟩ := hL i r.val (by rw [List.getElem?_map, hr]; rfl)
    obtain ⟨hrc, hrT, hrO⟩ := hR r (List.mem_of_getElem? hr)
    have hrl := hrT.len
    rw [List.length_map] at hrl
    have hal := allW_le hr
    refine G.skip ?_
    refine N.seq ?_
    refine G.seq ?_
    refine G.block ?_
    refine G.seq ?_
    refine G.region ?_
    refine L.val rfl rfl (R.idx rfl rfl (by omega) (by omega) q hq) ?_
    refine L.val rfl rfl (R.ld rfl (v := .slice r.a r.n r.c) (ev_at hcq E)) ?_
    refine L.val rfl rfl (R.as rfl) ?_
    refine L.nil ?_
    refine N.seq ?_
    refine G.seq ?_
    refine G.region ?_
    refine L.val rfl rfl (R.mv rfl) ?_
    refine L.val rfl rfl (R.lenS rfl) ?_
    refine L.val rfl rfl (R.mv rfl) ?_
    refine L.nil ?_
    refine N.seq ?_
    refine G.block ?_
    refine G.loop (X := MgSt) (fun s => [(3, .pointer (some ⟨m, 0, none⟩)), (12, .slice la ln lc), (13, .int .i64 (ln : Int)), (14, .int .i64 (i : Int)), (18, .slice r.a r.n r.c), (19, .int .i64 (r.n : Int)), (20, .int .i64 (s.i : Int))]) (fun s w' => s.i ≤ r.n ∧ (s.zs.map fun o => toQ (wv o)) = mergeP [] ((allW (rs.take i) ++ r.os.take s.i).map wv) ∧ s.zs.length ≤ (allW (rs.take i) ++ r.os.take s.i).length ∧ (∀ z ∈ s.zs, z.okW w) ∧ MapAt (κ := Int) 161 165 1 w' m (s.zs.map toP) s.S ∧ (∀ y ∈ s.S, w.heap.size ≤ y) ∧ Ext [] w w') (fun s => r.n - s.i) (⟨0, zs, S⟩) (Sub.cons rfl (Sub.cons rfl (Sub.cons rfl (Sub.cons rfl (Sub.cons rfl (Sub.cons rfl (Sub.cons rfl (Sub.nil _)))))))) ⟨Nat.zero_le _, by show _ = mergeP [] ((allW (rs.take i) ++ r.os.take 0).map wv); rw [List.take_zero, List.append_nil]; exact hz, by show _ ≤ (allW (rs.take i) ++ r.os.take 0).length; rw [List.take_zero, List.append_nil]; exact hzl, hzk, D, hS, E⟩ ?_
    rintro ⟨j, zs, S⟩ w2 ⟨hj, hz, hzl, hzk, D, hS, E⟩
    dsimp only at hj hz hzl hzk D hS
    refine G.sub [(3, .pointer (some ⟨m, 0, none⟩)), (12, .slice la ln lc), (13, .int .i64 (ln : Int)), (14, .int .i64 (i : Int)), (18, .slice r.a r.n r.c), (19, .int .i64 (r.n : Int)), (20, .int .i64 (j : Int))] (Sub.cons rfl (Sub.cons rfl (Sub.cons rfl (Sub.cons rfl (Sub.cons rfl (Sub.cons rfl (Sub.cons rfl (Sub.nil _)))))))) ?_
    have hDl := D.lt
    have hlj : (allW (rs.take i) ++ r.os.take j).length ≤ 50000 := by rw [List.length_append, List.length_take]; omega
    refine G.seq ?_
    refine G.region ?_
    refine L.val rfl rfl (R.lss rfl rfl) ?_
    refine L.nil ?_
    refine N.seq ?_
    refine G.seq ?_
    refine G.condP rfl (fun h1 => ?_) (fun h1 => ?_)
    · refine G.skip ?_
      refine N.seq ?_
      refine G.seq ?_
      refine G.block ?_
      refine G.seq ?_
      refine G.region ?_
      obtain ⟨q9, hq9, hcl⟩ := hrT.at (by decide) j (by rw [List.length_map]; omega)
      rw [List.getElem_map] at hcl
      have hok := hrO _ (List.getElem_mem (show j < r.os.length by omega))
      generalize hoe : r.os[j]'(by omega) = o at *
      refine L.val rfl rfl (R.idx rfl rfl (by omega) (by omega) q9 hq9) ?_
      refine L.val rfl rfl (R.ldN rfl (hcl.ext0 E) rfl) ?_
      refine L.do rfl rfl (R.alloc) ?_
      rintro _ w2 ⟨b9, rfl, hb9, hs9, e2, B9⟩
      have hEb := E.size
      replace E := E.trans0 e2
      replace D := D.ext0 e2
      have h9S : b9 ∉ S := fun h => by have := hDl _ h; omega
      refine L.set rfl (R.stN rfl rfl B9 rfl (Nat.le_refl 2) (WriteV.cells.one _)) ?_
      rintro w3 ⟨e3, hs3, B9⟩
      replace B9 : Blk w3 b9 o.cells.toArray 40 (0, 0) := B9
      replace E := E.trans e3 (M := []) (by simp) (by intro x hx; rw [List.mem_singleton.1 hx]; exact .inr (by omega))
      replace D := D.ext e3 (fun y hy h => h9S (by rw [← List.mem_singleton.1 h]; exact hy))
      have hjo : r.os[j]? = some o := by rw [List.getElem?_eq_getElem (by omega), hoe]
      have htk : r.os.take (j + 1) = r.os.take j ++ [o] := by rw [List.take_add_one, hjo]; rfl
      refine L.nil ?_
      refine N.seq ?_
      refine G.region ?_
      refine L.val rfl rfl (R.mv rfl) ?_
      refine L.val rfl rfl (R.fld rfl) ?_
      refine L.val rfl rfl (R.ldB (v := .int .i64 o.Block') rfl B9 rfl) ?_
      refine L.val rfl rfl (R.fld rfl) ?_
      refine L.val rfl rfl (R.ldB (v := .slice o.B'a o.B'n o.B'c) rfl B9 rfl) ?_
      refine L.callF rfl rfl rfl go74 (putB_ok m (zs.map toP) S o.Block' o.B'a o.B'n o.B'c _ D (by rw [List.length_map]; omega)) ?_
      rintro _ w5 ⟨rfl, S5, g5, D⟩
      have hE5 := E.size
      replace E := E.fresh g5.1 hS
      replace hS := g5.fresh hS hE5
      rw [← putW_toP] at D
      refine L.nil ?_
      refine N.block ?_
      refine N.seq ?_
      refine G.region ?_
      refine L.val rfl rfl (R.add rfl rfl (by omega)) ?_
      refine L.val rfl rfl (R.mv rfl) ?_
      refine L.nil ?_
      exact N.again (X := MgSt) ⟨j + 1, putW zs o, S5⟩ (by show r.n - (j + 1) < r.n - j; omega) (Sub.cons rfl (Sub.cons rfl (Sub.cons rfl (Sub.cons rfl (Sub.cons rfl (Sub.cons rfl (Sub.cons rfl (Sub.nil _)))))))) ⟨by show j + 1 ≤ r.n; omega, by show _ = mergeP [] ((allW (rs.take i) ++ r.os.take (j + 1)).map wv); rw [putW_toQ, hz, htk, ← List.append_assoc]; exact (merge_snoc _ _).symm, by show _ ≤ (allW (rs.take i) ++ r.os.take (j + 1)).length; rw [htk, ← List.append_assoc, List.length_append]; exact Nat.le_trans (putW_len zs o) (Nat.add_le_add_right hzl 1), fun z hz => (putW_mem hz).elim (fun e => e ▸ hok) (hzk z), D, hS, E⟩
    · obtain rfl : j = r.n := by omega
      have htr : r.os.take r.n = r.os := List.take_of_length_le (by omega)
      rw [htr] at hz hzl
      refine G.exit _ rfl ?_
      refine N.block ?_
      refine N.seq ?_
      refine G.region ?_
      refine L.val rfl rfl (R.add rfl rfl (by omega)) ?_
      refine L.val rfl rfl (R.mv rfl) ?_
      refine L.nil ?_
      exact N.again (X := MgSt) ⟨i + 1, zs, S⟩ (by show ln - (i + 1) < ln - i; omega) (Sub.cons rfl (Sub.cons rfl (Sub.cons rfl (Sub.cons rfl (Sub.nil _))))) ⟨by show i + 1 ≤ ln; omega, by show _ = mergeP [] ((allW (rs.take (i + 1))).map wv); rw [allW_succ hr]; exact hz, by show _ ≤ (allW (rs.take (i + 1))).length; rw [allW_succ hr]; exact hzl, hzk, D, hS, E⟩
  · obtain rfl : ln = i := by omega
    rw [List.take_of_length_le (by omega)] at hz hzl
    refine G.exit _ rfl ?_
    refine N.seq ?_
    refine G.seq ?_
    refine G.region ?_
    refine L.do rfl rfl (R.alloc) ?_
    rintro _ w6 ⟨b8, rfl, hb8, hs8, e6, B8⟩
    have hE5 := E.size
    replace B8 : Blk w6 b8 #[.slice none 0 0] 22 (0, 0) := B8
    replace E := E.trans0 e6
    replace D := D.ext0 e6
    refine L.nil ?_
    refine N.seq ?_
    refine G.seq ?_
    refine G.seq ?_
    refine G.region ?_
    refine L.val rfl rfl (R.mv rfl) ?_
    refine L.callF rfl rfl rfl go75 (oallB_ok m (zs.map toP) S _ D (by rw [List.length_map]; omega)) ?_
    rintro _ w7 ⟨lb, Fp, rfl, e7, hit, hFp⟩
    replace E := E.trans0 e7
    have l8 := B8.lt
    replace B8 := B8.ext0 e7
    have hE7 := E.size
    have hs7 := e7.size
    refine L.nil ?_
    refine N.seq ?_
    refine G.block ?_
    have hD0 : ∀ y ∈ [b8], y < w7.heap.size ∧ y ∉ Fp ∧ y ∉ ([] : List Nat) := by
      intro y hy
      rw [List.mem_singleton] at hy
      subst hy
      exact ⟨B8.lt, fun h => by have := hFp _ h; omega, by simp⟩
    have hI0 : mgI zs 22 40 b8 w 0 [b8] w7 := ⟨none, 0, [], [], [], rfl, B8, Own.nil _ _ _, rfl, by simp, (fun _ _ _ _ o ho => by cases ho), by simp, by simp, by omega, E⟩
    refine G.range (lb := lb) rfl rfl go117 (hit _ (Ext.refl _ _)) (fun _ _ _ h _ => h) [b8] hD0 (fun y h => h.elim (fun h => (hFp y h).2) (by simp)) (mgI zs 22 40 b8 w) (fun _ _ _ _ => False) (fun k D W1 W2 M2 h he hm => mgI_keep hE7 h he hm) (fun _ _ _ _ _ _ h _ _ => h) hI0 ?_ ?_ ?_
    · rintro l k D vs W1 hl2 hlt hlD hDl hk hIk ⟨p, hp, rfl⟩
      replace hp : (zs.map toP)[k]? = some p := hp
      rw [List.getElem?_map] at hp
      obtain ⟨z, hz9, rfl⟩ : ∃ z, zs[k]? = some z ∧ toP z = p := by
        cases h9 : zs[k]? with
        | none => rw [h9] at hp; cases hp
        | some z => rw [h9] at hp; exact ⟨z, rfl, by simpa using hp⟩
      rw [List.length_map] at hk
      have hzo := hzk z (List.mem_of_getElem? hz9)
      refine ⟨rfl, ?_⟩
      refine G.sub [(35, .slice z.B'a z.B'n z.B'c), (34, .int .i64 z.Block'), (8, .pointer (some ⟨b8, 0, none⟩))] (Sub.cons rfl (Sub.cons rfl (Sub.cons rfl (Sub.nil _)))) ?_
      refine G.seq ?_
      refine G.region ?_
      refine L.val rfl rfl (R.as rfl) ?_
      refine L.nil ?_
      refine N.seq ?_
      refine G.region ?_
      refine L.val rfl rfl (R.as rfl) ?_
      refine L.nil ?_
      refine N.round (Ext.refl _ _) (fun wb hb1 hb2 => ?_)
      obtain ⟨a1, c1, MB, CB, os, rfl, B8, o, hol, how, hko, hMC, hdj, h8, E⟩ := hIk
      replace B8 := B8.still hb2
      replace o := o.still hb2
      replace hko := hko.ext hb1 (fun g hg h => hlD (by rw [← List.mem_singleton.1 hg]; simp [h]))
      replace E := E.transN hb1 (fun g hg => .inr (by rw [List.mem_singleton.1 hg]; omega))
      have hEb := E.size
      have l8b := B8.lt
      have hlo := o.lt
      have hsb := hb1.size
      have hn8 : b8 ∉ MB := fun h => (hMC _ (List.mem_append_left _ h)).2.1 rfl
      have hzn : z.B'n = z.B'.length := hzo.2.2.len
      have hzl9 : z.B'.length ≤ 140737488351232 := by rw [← hzn]; exact hzo.2.1
      refine G.block ?_
      refine G.staged [6, 7] [.blocks (MB), .blocks ([b8])] [Ext [] wb, Ext MB wb, fun w' => ∃ a3 c3 M3 o3 MC, Blk w' b8 #[.slice a3 (k + 1) c3] 22 (0, 0) ∧ Own w' 40 2 a3 (k + 1) c3 (cellsW (os ++ [o3])) M3 ∧ (∀ g ∈ M3, g ∈ MB ∨ wb.heap.size ≤ g) ∧ ClV wb.heap.size 5 z o3 MC w' ∧ (∀ g ∈ MC, g ∉ M3) ∧ Ext (b8 :: MB) wb w'] [(6, 39), (6, 40), (6, 41), (7, 39), (7, 40), (7, 41), (7, 42)] (by decide +kernel) (by decide +kernel) rfl rfl rfl (fun _ h => h) ?_
      refine Z.read 0 (by decide +kernel) rfl rfl rfl rfl rfl rfl (fun w8 hJ => R.ldB rfl (B8.ext0 hJ) rfl) ?_
      refine Z.val rfl rfl rfl rfl rfl (fun w8 => R.mv rfl) ?_
      refine Z.val rfl rfl rfl rfl rfl (fun w8 => R.mv rfl) ?_
      refine Z.callR (A := Held [] wb.heap.size 5 1 z.B'n (vbs z.B')) (Lasts.kill (Held.keep _ _ _ _ _ _) (by decide +kernel)) 0 (by decide +kernel) rfl rfl rfl rfl go76 (fun w8 hJ => ⟨_, rfl, (bclone_ok z.B'a z.B'n z.B'c z.B' _ (hzo.2.2.ext0 (E.trans0 hJ)) (by omega)).mono (fun v w9 h => by obtain ⟨a9, c9, M9, rfl, e9, o9, hM9⟩ := h; exact ⟨⟨a9, c9, M9, rfl, o9, fun g hg => .inr (Nat.le_trans hJ.size (hM9 g hg))⟩, e9, hJ.trans0 e9⟩)⟩) ?_
      refine Z.valR (A := IsO wb.heap.size 5 z) (Lasts.kill (IsO.keep _ _ _) (by decide +kernel)) rfl rfl rfl rfl (fun w8 => fun v hv => by obtain ⟨a9, c9, M9, rfl, o9, hM9⟩ := hv; exact ⟨_, R.build (cs := #[.int .i64 z.Block', .slice a9 z.B'n c9]) rfl rfl, ⟨z.Block', a9, z.B'n, c9, z.B'⟩, M9, rfl, rfl, o9, hzn, fun g hg => (hM9 g hg).elim (by simp) id⟩) ?_
      refine Z.new (A := IsS wb.heap.size 5 z) (Lasts.kill (IsS.keep _ _ _) (by decide +kernel)) 0 (by decide +kernel) rfl rfl rfl rfl rfl (fun w8 hJ => fun v hv => by obtain ⟨o9, MC, rfl, hcl⟩ := hv; exact (R.buildA rfl rfl rfl rfl rfl).mono (fun v w1 h => by obtain ⟨g, rfl, _, _, e9, B9⟩ := h; exact ⟨⟨g, o9, MC, rfl, Cells.of_blk B9 0 _ (fun j u hj => by simpa [cellsOf, Value.cells] using hj), hcl.ext e9 (by simp)⟩, e9, hJ.trans0 e9⟩)) ?_
      refine Z.put (A := RowN 40 wb.heap.size 5 k MB os z) (Lasts.kill (RowN.keep _ _ _ _ _ _ _) (by decide +kernel)) 0 (by decide +kernel) rfl rfl rfl rfl rfl rfl rfl (fun w8 hJ => by rintro v ⟨g9, o9, MC, rfl, hc9, hcl9⟩; exact (R.app rfl rfl (o.ext0 hJ) hc9 rfl (fun u hu => WriteV.cells.one o9 u (by simpa using hu)) (by simp [maxLen]; omega) (by omega)).mono (fun v w9 h => by obtain ⟨a3, c3, M3, rfl, e9, hM3, r3⟩ := h; have hq9 := hcl9.2.1.lt; have hsq := hJ.size; exact ⟨⟨a3, c3, M3, o9, MC, rfl, by rw [cellsW_append]; exact (show cellsW [o9] = o9.cells from List.append_nil _) ▸ r3, fun g hg => (hM3 g hg).imp id (fun h => Nat.le_trans hsq h), hcl9.ext e9 (fun g hg hm => by have := hlo g hm; have := hcl9.2.2.2 g hg; omega), fun g hg hm => (hM3 g hm).elim (fun h => by have := hlo g h; have := hcl9.2.2.2 g hg; omega) (fun h => by have := hq9 g hg; omega)⟩, e9, e9.after hJ⟩)) ?_
      refine Z.set 1 (by decide +kernel) rfl rfl rfl rfl rfl rfl (fun w8 hJ => fun v hv => (R.st rfl rfl (B8.ext hJ hn8) (by show 0 < 1; decide) (by obtain ⟨_, _, _, _, _, rfl, _⟩ := hv; rfl)).mono (fun _ h => ⟨h.1, by obtain ⟨a3, c3, M3, o3, MC, rfl, r3, hM3, hcl3, hd3⟩ := hv; have n8 : b8 ∉ M3 := fun hm => (hM3 _ hm).elim hn8 (by omega); exact ⟨a3, c3, M3, o3, MC, h.2.2, r3.ext h.1 (fun g hg hm => n8 (by rw [← List.mem_singleton.1 hm]; exact hg)), hM3, hcl3.ext h.1 (fun g hg hm => by have := hcl3.2.2.2 g hg; rw [List.mem_singleton.1 hm] at this; omega), hd3, (hJ.mono (fun g hg => .inl (List.mem_cons_of_mem _ hg))).transN h.1 (fun g hg => .inl (by rw [List.mem_singleton.1 hg]; simp))⟩⟩)) ?_
      refine Z.nil rfl rfl (fun w8 hJ => ?_)
      obtain ⟨a3, c3, M3, o3, MC, B8n, r3, hM3, hcl3, hd3, X0⟩ := hJ
      replace B8 := B8n
      have hMCl := hcl3.2.1.lt
      have hr3 := r3.lt
      have hsx := X0.size
      have X : Ext (b8 :: (MB ++ CB)) wb _ := X0.mono (fun g hg => .inl (by rcases List.mem_cons.1 hg with h | h <;> simp [h]))
      have how3 : (os ++ [o3]).map wv = (zs.take (k + 1)).map wv := by rw [List.map_append, how, List.take_add_one, hz9, List.map_append]; congr 1; show [wv o3] = [wv z]; rw [hcl3.1]
      have hcx : ∀ g ∈ CB, g ∉ b8 :: MB := fun g hg hm => by
        rcases List.mem_cons.1 hm with h | h
        · exact (hMC g (List.mem_append_right _ hg)).2.1 h
        · exact hdj g h hg
      have hko3 : OkF _ (CB ++ MC) (os ++ [o3]) := fun M9 w9 e9 hm9 x hx => by
        rcases List.mem_append.1 hx with hx | hx
        · exact (hko.ext X0 (fun g hg hc => hcx g hc hg)) M9 w9 e9 (fun g hg hc => hm9 g hg (List.mem_append_left _ hc)) x hx
        · exact (hcl3.okF hzl9) M9 w9 e9 (fun g hg hc => hm9 g hg (List.mem_append_right _ hc)) x hx
      have hMC3 : ∀ g ∈ M3 ++ (CB ++ MC), w.heap.size ≤ g ∧ g ≠ b8 ∧ g < (w8).heap.size := by
        intro g hg
        rcases List.mem_append.1 hg with h | h
        · exact ⟨(hM3 g h).elim (fun h => (hMC g (List.mem_append_left _ h)).1) (fun h => by omega), (hM3 g h).elim (fun h => (hMC g (List.mem_append_left _ h)).2.1) (fun h => by omega), hr3 g h⟩
        · rcases List.mem_append.1 h with h | h
          · have := hMC g (List.mem_append_right _ h); exact ⟨this.1, this.2.1, by omega⟩
          · have := hcl3.2.2.2 g h; exact ⟨by omega, by omega, hMCl g h⟩
      have hdj3 : ∀ g ∈ M3, g ∉ CB ++ MC := by
        intro g hg hc
        rcases List.mem_append.1 hc with hc | hc
        · exact (hM3 g hg).elim (fun h => hdj g h hc) (fun h => by have := (hMC g (List.mem_append_right _ hc)).2.2; omega)
        · exact hd3 g hc hg
      have hD2 : ∀ g ∈ b8 :: (M3 ++ (CB ++ MC)), g < (w8).heap.size ∧ (g ∈ b8 :: (MB ++ CB) ∨ wb.heap.size ≤ g) := by
        intro g hg
        rcases List.mem_cons.1 hg with rfl | hg
        · exact ⟨B8.lt, .inl (by simp)⟩
        · refine ⟨(hMC3 g hg).2.2, ?_⟩
          rcases List.mem_append.1 hg with h | h
          · exact (hM3 g h).imp (fun h => by simp [h]) id
          · rcases List.mem_append.1 h with h | h
            · exact .inl (by simp [h])
            · exact .inr (hcl3.2.2.2 g h)
      replace E := E.transN X0 (fun g hg => .inr ((List.mem_cons.1 hg).elim (fun h => by omega) (fun h => (hMC g (List.mem_append_left _ h)).1)))
      refine N.block ?_
      refine N.done fun _ _ => ?_
      exact ⟨b8 :: (M3 ++ (CB ++ MC)), X, hD2, a3, c3, M3, CB ++ MC, os ++ [o3], rfl, B8, r3, by rw [List.length_append, hol]; rfl, how3, hko3, hMC3, hdj3, h8, E⟩
    · rintro d2 DD W2 hd2 hdD hK ⟨a1, c1, MB, CB, os, rfl, B8, o, hol, how, hko, hMC, hdj, h8, E⟩ _
      have hst := Still.putObj (.deferred none) hK rfl
      rw [List.length_map] at hol
      rw [List.length_map, List.take_length] at how
      rw [List.length_map] at B8 o
      refine N.block ?_
      refine N.seq ?_
      refine G.seq ?_
      refine G.region ?_
      refine L.val rfl rfl (R.ldB rfl B8 rfl) ?_
      refine L.val rfl rfl (R.as rfl) ?_
      refine L.nil ?_
      refine N.seq ?_
      refine G.ret1M rfl rfl (leave1 hK) ?_
      exact ⟨a1, zs.length, c1, os, rfl, o.le, hol.symm, by omega, by rw [← hz]; exact (toQ_map how), E.transN (Ext.putObj _ _ _) (fun g hg => .inr (by rw [List.mem_singleton.1 hg]; omega)), MB ++ CB, (fun g hg => ⟨(hMC g hg).1, Nat.lt_of_lt_of_le (hMC g hg).2.2 (Ext.putObj W2 d2 (.deferred none)).size⟩), fun M w9 e9 hm9 => ⟨tabW ((o.still hst).ext e9 (fun g hg h => hm9 g (List.mem_append_left _ hg) h)).cells hol.symm, fun x hx => hko (d2 :: M) _ (((Ext.putObj _ _ _).mono (fun g hg => .inl (by rw [List.mem_singleton.1 hg]; simp))).transN e9 (fun g hg => .inl (List.mem_cons_of_mem _ hg))) (fun g hg hc => (List.mem_cons.1 hg).elim (fun h => hdD (by rw [← h]; simp [hc])) (fun h => hm9 g (List.mem_append_right _ hc) h)) x hx⟩⟩
    · rintro _ _ _ _ _ _ _ _ _ h _
      exact h.elim

theorem mergeS (la : Option Addr) (ln lc : Nat) (rs : List RowW) (hln : ln = rs.length) (htot : (allW rs).length ≤ 50000) (hlb : ln ≤ 2000000) : SpecS Try.prog 25 [.slice la ln lc] [sh (fun w => Cells w la (rs.map RowW.val) ∧ ∀ r ∈ rs, r.ok w)]
    (fun v H' => ∃ r : RowW, v = .slice r.a r.n r.c ∧ r.os.map wv = mgW ((allW rs).map wv) ∧ r.n ≤ 50000 ∧ r.os.length = r.n ∧ H' = [sh (fun w => r.ok w), sh (fun w => Cells w la (rs.map RowW.val) ∧ ∀ r ∈ rs, r.ok w)]) :=
  (SpecS.ofFresh (φ := fun v A => ∃ r : RowW, v = .slice r.a r.n r.c ∧ r.os.map wv = mgW ((allW rs).map wv) ∧ r.n ≤ 50000 ∧ r.os.length = r.n ∧ A = sh (fun w => r.ok w)) fun w F S s => (mergeF_ok la ln lc rs w (s.sh .here).1 hln (s.sh .here).2 htot hlb).mono fun v w' ⟨a, n, c, os, h1, h2, h3, h4, h5, h6, F', h7, h8⟩ =>
    ⟨_, [], F', ⟨⟨a, n, c, os⟩, h1, mgW_of (by rw [List.map_map]; exact h5), h4, h3.symm, rfl⟩, h6, (fun M w'' he hS => ⟨⟨h2, by show n ≤ _; omega⟩, (h8 M w'' he hS).1, (h8 M w'' he hS).2⟩), by simp, h7⟩).mono fun v H' ⟨A, ⟨r, h1, h2, h3, h4, h5⟩, h6⟩ => ⟨r, h1, h2, h3, h4, by rw [h6, h5]⟩

end Go.Proofs.Ytiiiplhfgblamaa
/-
  The walks of package order.
-/
set_option linter.unusedVariables false
set_option linter.unusedSimpArgs false
set_option maxRecDepth 4000
namespace Go.Proofs.Ytiiiplhfgblamaa
open Go Brv
theorem find1W_ok (p : Pr (Int)) (k : Int) (w : World) : Meets Try.prog 120 [.agg (pcell p).toArray, .int .i64 k] w (fun v w' => v = .int .i64 (cmpF p.1 k) ∧ Ext [] w w') := by
  refine Meets.enter Try.func120 rfl 9 rfl (Nat.le_of_ble_eq_true rfl) ?_
  have E := Ext.refl [] w
  refine G.seq ?_
  refine G.region ?_
  refine L.do rfl rfl (R.box rfl) ?_
  rintro _ w1 ⟨b2, rfl, hb2, hs2, e1, B2⟩
  replace B2 : Blk w1 b2 (pcell p).toArray 176 (0, 0) := B2
  replace E := E.trans0 e1
  refine L.val rfl rfl (R.as rfl) ?_
  refine L.nil ?_
  refine N.seq ?_
  refine G.seq ?_
  refine G.region ?_
  refine L.val rfl rfl (R.fld rfl) ?_
  refine L.val rfl rfl (R.ldB (v := .int .i64 p.1) rfl B2 rfl) ?_
  refine L.val rfl rfl (R.mv rfl) ?_
  refine L.callF rfl rfl rfl go114 (cmpI_ok _ _ _) ?_
  rintro _ _ ⟨rfl, hw⟩
  obtain rfl := hw.symm
  refine L.val rfl rfl (R.as rfl) ?_
  refine L.nil ?_
  refine N.seq ?_
  refine G.ret1 rfl rfl ?_
  exact ⟨rfl, E⟩

theorem bsW_ok (a : Option Addr) (n c : Nat) (ps : List (Pr (Int))) (k : Int) (w : World) (hc : Cells w a (pcells ps)) (hn : n = ps.length) (hok : OkP 1 ps) (hs : Sorted ps) (hnl : n ≤ 1000000) : Meets Try.prog 119 [.slice a n c, .int .i64 k, .func (.func 120) #[] #[]] w (fun v w' => v = .tuple #[.int .i64 (low ps k : Int), .bool (hasK ps k)] ∧ Ext [] w w') := by
  refine Meets.enter Try.func119 rfl 49 rfl (Nat.le_of_ble_eq_true rfl) ?_
  have E := Ext.refl [] w
  have hT := Tab.pairs hc hn hok
  have hlo := low_le ps k
  refine G.seq ?_
  refine G.region ?_
  refine L.val rfl rfl (R.as rfl) ?_
  refine L.val rfl rfl (R.as rfl) ?_
  refine L.nil ?_
  refine N.seq ?_
  refine G.seq ?_
  refine G.region ?_
  refine L.val rfl rfl (R.mv rfl) ?_
  refine L.val rfl rfl (R.lenS rfl) ?_
  refine L.val rfl rfl (R.as rfl) ?_
  refine L.nil ?_
  refine N.seq ?_
  refine G.seq ?_
  refine G.region ?_
  refine L.val rfl rfl (R.mv rfl) ?_
  refine L.val rfl rfl (R.as rfl) ?_
  refine L.val rfl rfl (R.as rfl) ?_
  refine L.nil ?_
  refine N.seq ?_
  refine G.seq ?_
  refine G.block ?_
  refine G.loop (X := Nat × Nat) (fun s => [(0, .slice a n c), (1, .int .i64 k), (2, .func (.func 120) #[] #[]), (8, .int .i64 (n : Int)), (9, .int .i64 (s.1 : Int)), (10, .int .i64 (s.2 : Int))]) (fun s w' => s.1 ≤ s.2 ∧ s.2 ≤ n ∧ s.1 ≤ low ps k ∧ low ps k ≤ s.2 ∧ Ext [] w w') (fun s => s.2 - s.1) ((0, n)) (Sub.cons rfl (Sub.cons rfl (Sub.cons rfl (Sub.cons rfl (Sub.cons rfl (Sub.cons rfl (Sub.nil _))))))) ⟨Nat.zero_le _, Nat.le_refl _, Nat.zero_le _, by show low ps k ≤ n; omega, E⟩ ?_
  rintro ⟨i, j⟩ w1 ⟨hi1, hi2, hi3, hi4, E⟩
  dsimp only at hi1 hi2 hi3 hi4
  refine G.sub [(0, .slice a n c), (1, .int .i64 k), (2, .func (.func 120) #[] #[]), (8, .int .i64 (n : Int)), (9, .int .i64 (i : Int)), (10, .int .i64 (j : Int))] (Sub.cons rfl (Sub.cons rfl (Sub.cons rfl (Sub.cons rfl (Sub.cons rfl (Sub.cons rfl (Sub.nil _))))))) ?_
  refine G.seq ?_
  refine G.seq ?_
  refine G.region ?_
  refine L.val rfl rfl (R.mv rfl) ?_
  refine L.val rfl rfl (R.mv rfl) ?_
  refine L.val rfl rfl (R.lss rfl rfl) ?_
  refine L.nil ?_
  refine N.seq ?_
  refine G.condP rfl (fun h0 => ?_) (fun h0 => ?_)
  · have hij : i < j := by omega
    obtain ⟨hm, hhm⟩ : ∃ hm, hm = (i + j) / 2 := ⟨_, rfl⟩
    have hm1 : i ≤ hm := by omega
    have hm2 : hm < j := by omega
    refine G.skip ?_
    refine N.seq ?_
    refine G.block ?_
    refine G.seq ?_
    refine G.region ?_
    refine L.val rfl rfl (R.mv rfl) ?_
    refine L.val rfl rfl (R.mv rfl) ?_
    refine L.val rfl rfl (R.add rfl rfl (by omega)) ?_
    refine L.val rfl rfl (R.conv rfl ((i + j : Nat) : Int) (by rw [wrap_u64 (by omega)]; omega)) ?_
    refine L.val rfl rfl (R.shrW rfl rfl (by decide) (hm : Int) (by rw [shr1]; omega)) ?_
    refine L.val rfl rfl (R.conv rfl (hm : Int) (wrap_i64 (by omega))) ?_
    refine L.val rfl rfl (R.as rfl) ?_
    refine L.nil ?_
    refine N.seq ?_
    refine G.seq ?_
    refine G.region ?_
    refine L.val rfl rfl (R.mv rfl) ?_
    refine L.val rfl rfl (R.mv rfl) ?_
    refine L.val rfl rfl (R.mv rfl) ?_
    obtain ⟨p1, hp1⟩ : ∃ p, ps[hm]? = some p := ⟨_, List.getElem?_eq_getElem (by omega)⟩
    obtain ⟨qp1, hqp1, hclp1⟩ := hT.at (by decide) hm (by rw [List.length_map]; omega)
    have hep1 : (ps.map pcell)[hm]'(by rw [List.length_map]; omega) = pcell p1 := by rw [List.getElem_map]; exact congrArg pcell (List.getElem?_eq_some_iff.1 hp1).2
    rw [hep1] at hclp1
    have hszp1 : (pcell p1).length = 2 := by show p1.2.length + 1 = _; rw [(hok p1 (List.mem_of_getElem? hp1)).1]
    refine L.val rfl rfl (R.idx rfl rfl (by omega) (by omega) qp1 hqp1) ?_
    refine L.val rfl rfl (R.ldN (vs := pcell p1) rfl (hclp1.ext0 E) hszp1) ?_
    refine L.val rfl rfl (R.mv rfl) ?_
    refine L.callV rfl rfl rfl rfl rfl go120 (find1W_ok p1 k _) ?_
    rintro _ w2 ⟨rfl, e2⟩
    replace E := E.trans0 e2
    refine L.val rfl rfl (R.lss rfl rfl) ?_
    refine L.nil ?_
    refine N.seq ?_
    refine G.condP rfl (fun h1 => ?_) (fun h1 => ?_)
    · have hcmp : cmpF p1.1 k < 0 := h1
      refine G.region ?_
      refine L.val rfl rfl (R.mv rfl) ?_
      refine L.val rfl rfl (R.add rfl rfl (by omega)) ?_
      refine L.val rfl rfl (R.as rfl) ?_
      refine L.nil ?_
      refine N.block ?_
      first
        | exact N.again (hm + 1, j) (by show j - (hm + 1) < j - i; omega) (Sub.cons rfl (Sub.cons rfl (Sub.cons rfl (Sub.cons rfl (Sub.cons rfl (Sub.cons rfl (Sub.nil _))))))) ⟨by show hm + 1 ≤ j; omega, hi2, by show hm + 1 ≤ low ps k; have := (lt_low hs hp1).1 hcmp; omega, hi4, E⟩
        | exact N.again (i, hm) (by show hm - i < j - i; omega) (Sub.cons rfl (Sub.cons rfl (Sub.cons rfl (Sub.cons rfl (Sub.cons rfl (Sub.cons rfl (Sub.nil _))))))) ⟨by show i ≤ hm; omega, by show hm ≤ n; omega, hi3, by show low ps k ≤ hm; have : ¬ hm < low ps k := fun h9 => hcmp ((lt_low hs hp1).2 h9); omega, E⟩
    · have hcmp : ¬ cmpF p1.1 k < 0 := h1
      refine G.region ?_
      refine L.val rfl rfl (R.mv rfl) ?_
      refine L.val rfl rfl (R.as rfl) ?_
      refine L.nil ?_
      refine N.block ?_
      first
        | exact N.again (hm + 1, j) (by show j - (hm + 1) < j - i; omega) (Sub.cons rfl (Sub.cons rfl (Sub.cons rfl (Sub.cons rfl (Sub.cons rfl (Sub.cons rfl (Sub.nil _))))))) ⟨by show hm + 1 ≤ j; omega, hi2, by show hm + 1 ≤ low ps k; have := (lt_low hs hp1).1 hcmp; omega, hi4, E⟩
        | exact N.again (i, hm) (by show hm - i < j - i; omega) (Sub.cons rfl (Sub.cons rfl (Sub.cons rfl (Sub.cons rfl (Sub.cons rfl (Sub.cons rfl (Sub.nil _))))))) ⟨by show i ≤ hm; omega, by show hm ≤ n; omega, hi3, by show low ps k ≤ hm; have : ¬ hm < low ps k := fun h9 => hcmp ((lt_low hs hp1).2 h9); omega, E⟩
  · have hij : i = low ps k := by omega
    refine G.exit _ rfl ?_
    refine N.seq ?_
    refine G.seq ?_
    refine G.region ?_
    refine L.val rfl rfl (R.mv rfl) ?_
    refine L.val rfl rfl (R.mv rfl) ?_
    refine L.val rfl rfl (R.mv rfl) ?_
    refine L.val rfl rfl (R.lss rfl rfl) ?_
    refine L.val rfl rfl (R.mv rfl) ?_
    refine L.caseP 39 rfl (fun hg8_4 => ?_) (fun hg8_4 => ?_)
    · refine L.val rfl rfl (R.mv rfl) ?_
      refine L.val rfl rfl (R.mv rfl) ?_
      refine L.val rfl rfl (R.mv rfl) ?_
      obtain ⟨p2, hp2⟩ : ∃ p, ps[i]? = some p := ⟨_, List.getElem?_eq_getElem (by omega)⟩
      obtain ⟨qp2, hqp2, hclp2⟩ := hT.at (by decide) i (by rw [List.length_map]; omega)
      have hep2 : (ps.map pcell)[i]'(by rw [List.length_map]; omega) = pcell p2 := by rw [List.getElem_map]; exact congrArg pcell (List.getElem?_eq_some_iff.1 hp2).2
      rw [hep2] at hclp2
      have hszp2 : (pcell p2).length = 2 := by show p2.2.length + 1 = _; rw [(hok p2 (List.mem_of_getElem? hp2)).1]
      refine L.val rfl rfl (R.idx rfl rfl (by omega) (by omega) qp2 hqp2) ?_
      refine L.val rfl rfl (R.ldN (vs := pcell p2) rfl (hclp2.ext0 E) hszp2) ?_
      refine L.val rfl rfl (R.mv rfl) ?_
      refine L.callV rfl rfl rfl rfl rfl go120 (find1W_ok p2 k _) ?_
      rintro _ w3 ⟨rfl, e3⟩
      replace E := E.trans0 e3
      refine L.val rfl rfl (R.eqI rfl rfl) ?_
      first | refine L.val rfl rfl (R.pickT rfl rfl) ?_ | refine L.val rfl rfl (R.pickF rfl rfl) ?_
      refine L.val rfl rfl (R.as rfl) ?_
      refine L.val rfl rfl (R.as rfl) ?_
      refine L.nil ?_
      refine N.seq ?_
      refine G.ret2 rfl rfl rfl ?_
      first
        | exact ⟨by rw [hfound, ← hij], E⟩
        | exact ⟨by rw [hasK_at hs (by rw [← hij]; exact hp2), ← hij], E⟩
    · have hfound : hasK ps k = false := hasK_end (by omega)
      refine L.pass rfl rfl ?_
      refine L.pass rfl rfl ?_
      refine L.pass rfl rfl ?_
      refine L.pass rfl rfl ?_
      refine L.pass rfl rfl ?_
      refine L.pass rfl rfl ?_
      refine L.pass rfl rfl ?_
      refine L.pass rfl rfl ?_
      first | refine L.val rfl rfl (R.pickT rfl rfl) ?_ | refine L.val rfl rfl (R.pickF rfl rfl) ?_
      refine L.val rfl rfl (R.as rfl) ?_
      refine L.val rfl rfl (R.as rfl) ?_
      refine L.nil ?_
      refine N.seq ?_
      refine G.ret2 rfl rfl rfl ?_
      first
        | exact ⟨by rw [hfound, ← hij], E⟩
        | exact ⟨by rw [hasK_at hs (by rw [← hij]; exact hp2), ← hij], E⟩

theorem findW_ok (m : Nat) (ps : List (Pr (Int))) (S : List Nat) (k : Int) (w : World) (hd : MapAt (κ := Int) 174 176 1 w m ps S) (hl : ps.length ≤ 100000) : Meets Try.prog 101 [.pointer (some ⟨m, 0, none⟩), .int .i64 k] w (fun v w' => v = .tuple #[.int .i64 (low ps k : Int), .bool (hasK ps k)] ∧ Ext [] w w') := by
  refine Meets.enter Try.func101 rfl 14 rfl (Nat.le_of_ble_eq_true rfl) ?_
  have E := Ext.refl [] w
  obtain ⟨a, c, M, rfl, hm0, Bm, om, hok, hs⟩ := hd
  refine G.seq ?_
  refine G.region ?_
  refine L.val rfl rfl (R.as rfl) ?_
  refine L.val rfl rfl (R.as rfl) ?_
  refine L.nil ?_
  refine N.seq ?_
  refine G.seq ?_
  refine G.region ?_
  refine L.val rfl rfl (R.mv rfl) ?_
  refine L.val rfl rfl (R.nilChk rfl) ?_
  refine L.val rfl rfl (R.fld rfl) ?_
  refine L.val rfl rfl (R.ldB rfl Bm rfl) ?_
  refine L.val rfl rfl (R.mv rfl) ?_
  refine L.callF rfl rfl rfl go119 (bsW_ok _ _ _ ps k _ om.cells rfl hok hs (by omega)) ?_
  rintro _ w1 ⟨rfl, e1⟩
  replace E := E.trans0 e1
  refine L.val rfl rfl (R.ext rfl rfl) ?_
  refine L.val rfl rfl (R.ext rfl rfl) ?_
  refine L.val rfl rfl (R.as rfl) ?_
  refine L.val rfl rfl (R.as rfl) ?_
  refine L.nil ?_
  refine N.seq ?_
  refine G.ret2 rfl rfl rfl ?_
  exact ⟨rfl, E⟩

theorem insW_ok (a : Option Addr) (n c : Nat) (ps : List (Pr (Int))) (M : List Nat) (i : Nat) (p : Pr (Int)) (vb : Nat) (w : World) (ho : Own w 176 (1 + 1) a n c (pcells ps) M) (hn : n = ps.length) (hok : OkP 1 ps) (hi : i ≤ n) (hp : p.2.length = 1 ∧ ∀ u ∈ p.2, u.oneCell' = true) (Bv : Blk w vb (pcell p).toArray 176 (0, 0)) (hvM : vb ∉ M) (hnl : n ≤ 100000) : Meets Try.prog 102 [.slice a n c, .int .i64 (i : Int), .slice (some ⟨vb, 0, none⟩) 1 1] w (fun v w' => ∃ a' c' M', v = .slice a' (n + 1) c' ∧ Ext M w w' ∧ (∀ g ∈ M', g ∈ M ∨ w.heap.size ≤ g) ∧ Own w' 176 (1 + 1) a' (n + 1) c' (pcells (ps.take i ++ p :: ps.drop i)) M') := by
  refine Meets.enter Try.func102 rfl 95 rfl (Nat.le_of_ble_eq_true rfl) ?_
  have hl2 : (pcell p).length = 2 := by show p.2.length + 1 = _; rw [hp.1]
  have hp1 : ∀ u ∈ pcell p, u.oneCell' = true := pcell1 hp.2
  have hoc := ho.le
  have hps := (pcells_take (sv := 1) hok.len i (by omega))
  rw [show 1 + 1 = 2 from rfl] at hps
  have hcd : (pcells (ps.drop i)).length = (n - i) * 2 := by rw [pcells_len (sv := 1) (fun q hq => (hok q (List.mem_of_mem_drop hq)).1), List.length_drop, hn]
  have hci : (pcells (ps.take i)).length = i * 2 := by rw [pcells_len (sv := 1) (fun q hq => (hok q (List.mem_of_mem_take hq)).1), List.length_take, Nat.min_eq_left (by omega)]
  have hone := pcell_one hok
  have hone2 : ∀ u ∈ pcells (ps.drop i), u.oneCell' = true := fun u hu => hone u (by have h9 := hps.2; rw [← h9] at hu; exact List.mem_of_mem_drop hu)
  have Cv : Cells w (some ⟨vb, 0, none⟩) (pcell p) := Cells.of_blk Bv 0 _ (fun j v hj => by simpa using hj)
  refine G.seq ?_
  refine G.region ?_
  refine L.val rfl rfl (R.as rfl) ?_
  refine L.nil ?_
  refine N.seq ?_
  refine G.seq ?_
  refine G.region ?_
  refine L.val rfl rfl (R.mv rfl) ?_
  refine L.val rfl rfl (R.mv rfl) ?_
  refine L.val rfl rfl (R.slL rfl rfl (by omega) (by omega)) ?_
  refine L.nil ?_
  refine N.seq ?_
  refine G.seq ?_
  refine G.region ?_
  refine L.val rfl rfl (R.mv rfl) ?_
  refine L.val rfl rfl (R.lenS rfl) ?_
  refine L.val rfl rfl (R.as rfl) ?_
  refine L.nil ?_
  refine N.seq ?_
  refine G.seq ?_
  refine G.seq ?_
  refine G.region ?_
  refine L.val rfl rfl (R.mv rfl) ?_
  refine L.val rfl rfl (R.eqI rfl rfl) ?_
  refine L.nil ?_
  refine N.seq ?_
  refine G.condP rfl (fun h0 => ?_) (fun h0 => ?_)
  · exfalso; omega
  · refine G.skip ?_
    refine N.seq ?_
    refine G.seq ?_
    refine G.region ?_
    refine L.val rfl rfl (R.mv rfl) ?_
    refine L.val rfl rfl (R.lenS rfl) ?_
    refine L.val rfl rfl (R.as rfl) ?_
    refine L.nil ?_
    refine N.seq ?_
    refine G.seq ?_
    refine G.seq ?_
    refine G.region ?_
    refine L.val rfl rfl (R.mv rfl) ?_
    refine L.val rfl rfl (R.mv rfl) ?_
    refine L.val rfl rfl (R.eqI rfl rfl) ?_
    refine L.nil ?_
    refine N.seq ?_
    refine G.condP rfl (fun h1 => ?_) (fun h1 => ?_)
    · obtain rfl : i = n := by omega
      refine G.seq ?_
      refine G.region ?_
      refine L.val rfl rfl (R.mv rfl) ?_
      refine L.val rfl rfl (R.mv rfl) ?_
      refine L.do rfl rfl (R.app rfl rfl ho Cv (by rw [hl2]) hp1 (by simp [maxLen]; omega) (by omega)) ?_
      rintro _ w1 ⟨a1, c1, M1, rfl, e1, hM1, o1⟩
      refine L.val rfl rfl (R.as rfl) ?_
      refine L.nil ?_
      refine N.seq ?_
      refine G.ret1 rfl rfl ?_
      first
        | (have e9 : pcells ps ++ pcell p = pcells (ps.take i ++ p :: ps.drop i) := by rw [← pcells_ins, List.take_of_length_le (by omega), List.drop_of_length_le (by omega)]; simp [pcells]
           rw [e9] at o1; exact ⟨a1, c1, M1, rfl, e1, hM1, o1⟩)
        | (refine ⟨_, c1, [g1], rfl, n3.mono (by simp), fun x hx => .inr (by rw [List.mem_singleton.1 hx]; exact hg1), ?_⟩
           have hfin := hog.1; rw [pcells_ins, ← Nat.add_one_mul, ← Nat.add_mul, show i + 1 + (n - i) = n + 1 by omega] at hfin
           refine ⟨by rw [pcells_len (sv := 1) (fun q hq => (okIns hok hp q hq).1), List.length_append, List.length_cons, List.length_take, List.length_drop]; congr 1; omega, .inr ⟨g1, _, rfl, rfl, B3, by omega, hx1, ?_, hfin⟩⟩
           rw [← Nat.add_one_mul] at hog; rw [hog.2.2]; exact hz1)
        | (refine ⟨_, c, [g0], rfl, hE5, fun x hx => .inl hx, ?_⟩
           have hfin := hoi.1; rw [pcells_ins, ← Nat.add_one_mul] at hfin
           refine ⟨by rw [pcells_len (sv := 1) (fun q hq => (okIns hok hp q hq).1), List.length_append, List.length_cons, List.length_take, List.length_drop]; congr 1; omega, .inr ⟨g0, _, rfl, rfl, B5, by omega, hx0, ?_, hfin⟩⟩
           rw [hoi.2.2]; exact hz0)
    · have hin : i < n := by omega
      refine G.skip ?_
      refine N.seq ?_
      refine G.seq ?_
      refine G.seq ?_
      refine G.region ?_
      refine L.val rfl rfl (R.mv rfl) ?_
      refine L.val rfl rfl (R.mv rfl) ?_
      refine L.val rfl rfl (R.add rfl rfl (by omega)) ?_
      refine L.val rfl rfl (R.mv rfl) ?_
      refine L.val rfl rfl (R.capS rfl) ?_
      refine L.val rfl rfl (R.gtr rfl rfl) ?_
      refine L.nil ?_
      refine N.seq ?_
      refine G.condP rfl (fun h2 => ?_) (fun h2 => ?_)
      · have hgc : c < n + 1 := by omega
        refine G.seq ?_
        refine G.region ?_
        refine L.val rfl rfl (R.mv rfl) ?_
        refine L.val rfl rfl (R.mv rfl) ?_
        refine L.val rfl rfl (R.slH rfl rfl (by omega) (by omega)) ?_
        refine L.be 34 rfl (show _ = Value.slice a i c by rw [subA_zero, Int.toNat_natCast]) ?_
        refine L.val rfl rfl (R.mv rfl) ?_
        refine L.val rfl rfl (R.mv rfl) ?_
        refine L.val rfl rfl (R.add rfl rfl (by omega)) ?_
        refine L.val rfl rfl (R.mv rfl) ?_
        refine L.val rfl rfl (R.sub' rfl rfl (by omega)) ?_
        refine L.be 39 rfl (show _ = Value.int .i64 ((n + 1 - i : Nat) : Int) by congr 1; omega) ?_
        refine L.do rfl rfl (R.appZN (m := n + 1 - i) rfl rfl (ho.pre (i := i) (by omega)) (by intro u hu; simp [Value.cells] at hu; first | (rcases hu with rfl | rfl <;> rfl) | (rcases hu with rfl | rfl | rfl <;> rfl) | (rcases hu with rfl | rfl | rfl | rfl <;> rfl) | (rcases hu with rfl | rfl | rfl | rfl | rfl <;> rfl)) (by simp [maxLen]; omega) (by omega) (by decide) (by decide) (by omega)) ?_
        rintro _ w1 ⟨a1, c1, M1, rfl, e1, o1, hM1⟩
        rw [show i + (n + 1 - i) = n + 1 by omega] at o1 ⊢
        obtain ⟨g1, cur1, rfl, rfl, B1, hc1, hx1, hz1, ht1⟩ := o1.some (by omega)
        have hg1 := hM1 g1 (by simp)
        have hcu : (cur1.toList.take (i * 2)) = pcells (ps.take i) := by
          have h9 := congrArg (List.take (i * 2)) ht1
          rw [List.take_take, Nat.min_eq_left (Nat.mul_le_mul_right _ (by omega))] at h9
          refine h9.trans ?_
          show List.take (i * 2) (List.take (i * 2) (pcells ps) ++ _) = _
          rw [List.take_append_of_le_length (by rw [hps.1, hci]; exact Nat.le_refl _), List.take_take, Nat.min_self]
          exact hps.1
        have hzz : (n + 1) * 2 ≤ cur1.size := Nat.le_trans (Nat.mul_le_mul_right _ hc1) hz1
        have hog := over_grow (c1 := pcell p) (c2 := pcells (ps.drop i)) (s := 2) (K := (n - i) * 2) hcu (by omega) hl2 hcd (by omega)
        refine L.val rfl rfl (R.as rfl) ?_
        refine L.nil ?_
        refine N.seq ?_
        refine G.seq ?_
        refine G.region ?_
        refine L.val rfl rfl (R.mv rfl) ?_
        refine L.val rfl rfl (R.mv rfl) ?_
        refine L.val rfl rfl (R.slL rfl rfl (by omega) (by omega)) ?_
        refine L.be 43 rfl (show _ = Value.slice (some ⟨g1, i * 2, none⟩) (n + 1 - i) (c1 - i) by rw [Int.toNat_natCast, subA_lit (by omega), Nat.zero_add]) ?_
        refine L.val rfl rfl (R.mv rfl) ?_
        refine L.do rfl rfl (R.copyN (m := 1) rfl rfl B1 (Cv.ext0 e1) (Nat.min_eq_left (by omega)) (by rw [hl2]) (by rw [hl2]; omega) hp1) ?_
        rintro _ w2 ⟨rfl, P2⟩
        obtain ⟨e2, hs2, B2⟩ := P2
        have n2 := e1.news2 e2 hg1
        have Cd : Cells w2 (subA a i c 2) (pcells (ps.drop i)) := by
          have h9 := (ho.cells.ext0 n2).sub i c 2 ((n - i) * 2) (by rw [ho.1, show 1 + 1 = 2 from rfl, ← Nat.add_mul]; exact Nat.mul_le_mul_right _ (by omega)) (by omega)
          rw [hps.2, List.take_of_length_le (by omega)] at h9
          exact h9
        refine L.nil ?_
        refine N.seq ?_
        refine G.seq ?_
        refine G.staged [8] [.blocks ([g1])] [fun w' => Ext [] w2 w', fun w' => Ext [g1] w2 w' ∧ Blk w' g1 (Over (Over cur1 (i * 2) (pcell p)) ((i + 1) * 2) (pcells (ps.drop i))) 176 (0, 0)] [] (by decide +kernel) (by decide +kernel) rfl rfl rfl (fun _ h => h) ?_
        refine Z.val rfl rfl rfl rfl rfl (fun w3 => R.mv rfl) ?_
        refine Z.val rfl rfl rfl rfl rfl (fun w3 => R.mv rfl) ?_
        refine Z.val rfl rfl rfl rfl rfl (fun w3 => R.mv rfl) ?_
        refine Z.val rfl rfl rfl rfl rfl (fun w3 => R.add rfl rfl (by omega)) ?_
        refine Z.val rfl rfl rfl rfl rfl (fun w3 => R.slL rfl rfl (by omega) (by omega)) ?_
        refine Z.be 50 rfl (show _ = Value.slice (some ⟨g1, (i + 1) * 2, none⟩) (n - i) (c1 - (i + 1)) by rw [show ((i : Int) + ((1 : Nat) : Int)).toNat = i + 1 by omega, subA_lit (by omega), Nat.zero_add, show n + 1 - (i + 1) = n - i by omega]) ?_
        refine Z.val rfl rfl rfl rfl rfl (fun w3 => R.mv rfl) ?_
        refine Z.val rfl rfl rfl rfl rfl (fun w3 => R.mv rfl) ?_
        refine Z.val rfl rfl rfl rfl rfl (fun w3 => R.slL rfl rfl (by omega) (by omega)) ?_
        refine Z.be 53 rfl (show _ = Value.slice (subA a i c 2) (n - i) (c - i) by rw [Int.toNat_natCast]) ?_
        refine Z.put (A := fun v _ => True) (Lasts.kill (fun _ _ _ _ h => h) (by decide +kernel)) 0 (by decide +kernel) rfl rfl rfl rfl rfl rfl rfl (fun w3 hJ => (R.copyN (m := n - i) rfl rfl (B2.ext0 hJ) (Cd.ext0 hJ) (Nat.min_self _) hcd (by rw [hcd, hog.2.1]; omega) hone2).mono (fun v w9 h => by obtain ⟨_, h1, h2, h3⟩ := h; exact ⟨trivial, h1, h1.after hJ, h3⟩)) ?_
        refine Z.nil rfl rfl (fun w3 hJ => ?_)
        obtain ⟨e3, B3⟩ := hJ
        intro v54 _
        have n3 := n2.news2 e3 hg1
        refine N.seq ?_
        refine G.seq ?_
        refine G.region ?_
        refine L.val rfl rfl (R.mv rfl) ?_
        refine L.val rfl rfl (R.as rfl) ?_
        refine L.nil ?_
        refine N.seq ?_
        refine G.ret1 rfl rfl ?_
        first
          | (have e9 : pcells ps ++ pcell p = pcells (ps.take i ++ p :: ps.drop i) := by rw [← pcells_ins, List.take_of_length_le (by omega), List.drop_of_length_le (by omega)]; simp [pcells]
             rw [e9] at o1; exact ⟨a1, c1, M1, rfl, e1, hM1, o1⟩)
          | (refine ⟨_, c1, [g1], rfl, n3.mono (by simp), fun x hx => .inr (by rw [List.mem_singleton.1 hx]; exact hg1), ?_⟩
             have hfin := hog.1; rw [pcells_ins, ← Nat.add_one_mul, ← Nat.add_mul, show i + 1 + (n - i) = n + 1 by omega] at hfin
             refine ⟨by rw [pcells_len (sv := 1) (fun q hq => (okIns hok hp q hq).1), List.length_append, List.length_cons, List.length_take, List.length_drop]; congr 1; omega, .inr ⟨g1, _, rfl, rfl, B3, by omega, hx1, ?_, hfin⟩⟩
             rw [← Nat.add_one_mul] at hog; rw [hog.2.2]; exact hz1)
          | (refine ⟨_, c, [g0], rfl, hE5, fun x hx => .inl hx, ?_⟩
             have hfin := hoi.1; rw [pcells_ins, ← Nat.add_one_mul] at hfin
             refine ⟨by rw [pcells_len (sv := 1) (fun q hq => (okIns hok hp q hq).1), List.length_append, List.length_cons, List.length_take, List.length_drop]; congr 1; omega, .inr ⟨g0, _, rfl, rfl, B5, by omega, hx0, ?_, hfin⟩⟩
             rw [hoi.2.2]; exact hz0)
      · have hroom : n + 1 ≤ c := by omega
        obtain ⟨g0, cur0, rfl, rfl, B0, hc0, hx0, hz0, ht0⟩ := ho.some (by omega)
        have hzz : (n + 1) * 2 ≤ cur0.size := Nat.le_trans (Nat.mul_le_mul_right _ hroom) hz0
        have hxl : (pcells ps).length = n * 2 := ho.1
        have hoi := over_insert (s := 2) (A := i * 2) (L := n * 2) ht0 hxl (Nat.mul_le_mul_right _ (by omega)) hl2 (by omega)
        rw [hps.1, hps.2] at hoi
        have hro : i * 2 + 2 + (n - i) * 2 ≤ cur0.size := by
          have h9 : (i + 1 + (n - i)) * 2 ≤ cur0.size := by rw [show i + 1 + (n - i) = n + 1 by omega]; exact hzz
          rwa [Nat.add_mul, Nat.add_mul, Nat.one_mul] at h9
        have Cd : Cells w (some ⟨g0, i * 2, none⟩) (pcells (ps.drop i)) := Cells.of_blk B0 (i * 2) (pcells (ps.drop i)) (fun j v hj => by
          rw [← hps.2, ← ht0, List.drop_take, List.getElem?_take] at hj
          split at hj
          · simpa [List.getElem?_drop] using hj
          · cases hj)
        refine G.skip ?_
        refine N.seq ?_
        refine G.seq ?_
        refine G.region ?_
        refine L.val rfl rfl (R.mv rfl) ?_
        refine L.val rfl rfl (R.mv rfl) ?_
        refine L.val rfl rfl (R.mv rfl) ?_
        refine L.val rfl rfl (R.add rfl rfl (by omega)) ?_
        refine L.val rfl rfl (R.slH rfl rfl (by omega) (by omega)) ?_
        refine L.be 60 rfl (show _ = Value.slice (some ⟨g0, 0, none⟩) (n + 1) c by rw [subA_zero, show ((n : Int) + ((1 : Nat) : Int)).toNat = n + 1 by omega]) ?_
        refine L.val rfl rfl (R.as rfl) ?_
        refine L.nil ?_
        refine N.seq ?_
        refine G.seq ?_
        refine G.seq ?_
        refine G.region ?_
        refine L.val rfl rfl (R.mv rfl) ?_
        refine L.val rfl rfl (R.mv rfl) ?_
        refine L.val rfl rfl (R.mv rfl) ?_
        refine L.val rfl rfl (R.mv rfl) ?_
        refine L.val rfl rfl (R.add rfl rfl (by omega)) ?_
        refine L.val rfl rfl (R.slL rfl rfl (by omega) (by omega)) ?_
        refine L.be 66 rfl (show _ = Value.slice (subA (some ⟨g0, 0, none⟩) (i + 1) c 2) (n + 1 - (i + 1)) (c - (i + 1)) by rw [show ((i : Int) + ((1 : Nat) : Int)).toNat = i + 1 by omega]) ?_
        refine L.be 66 rfl (show _ = Value.slice (some ⟨g0, (i + 1) * 2, none⟩) (n - i) (c - (i + 1)) by rw [subA_lit (by omega), Nat.zero_add, show n + 1 - (i + 1) = n - i by omega]) ?_
        refine L.val rfl rfl (R.overlaps (A := (pcell p).toArray) (B := cur0) Try.func121 (by decide) rfl rfl rfl rfl rfl Bv B0 (by simpa using hvM) (by omega)) ?_
        refine L.val rfl rfl (R.not rfl) ?_
        refine L.nil ?_
        refine N.seq ?_
        refine G.condT rfl ?_
        refine G.seq ?_
        refine G.staged [8] [.blocks ([g0])] [fun w' => Ext [] w w', fun w' => Ext [g0] w w' ∧ Blk w' g0 (Over cur0 (i * 2 + 2) (pcells (ps.drop i))) 176 (0, 0)] [] (by decide +kernel) (by decide +kernel) rfl rfl rfl (fun _ h => h) ?_
        refine Z.val rfl rfl rfl rfl rfl (fun w1 => R.mv rfl) ?_
        refine Z.val rfl rfl rfl rfl rfl (fun w1 => R.mv rfl) ?_
        refine Z.val rfl rfl rfl rfl rfl (fun w1 => R.mv rfl) ?_
        refine Z.val rfl rfl rfl rfl rfl (fun w1 => R.add rfl rfl (by omega)) ?_
        refine Z.val rfl rfl rfl rfl rfl (fun w1 => R.slL rfl rfl (by omega) (by omega)) ?_
        refine Z.be 73 rfl (show _ = Value.slice (some ⟨g0, i * 2 + 2, none⟩) (n - i) (c - (i + 1)) by rw [show ((i : Int) + ((1 : Nat) : Int)).toNat = i + 1 by omega, subA_lit (by omega), Nat.zero_add, show n + 1 - (i + 1) = n - i by omega, Nat.add_mul]) ?_
        refine Z.val rfl rfl rfl rfl rfl (fun w1 => R.mv rfl) ?_
        refine Z.val rfl rfl rfl rfl rfl (fun w1 => R.mv rfl) ?_
        refine Z.val rfl rfl rfl rfl rfl (fun w1 => R.slL rfl rfl (by omega) (by omega)) ?_
        refine Z.be 76 rfl (show _ = Value.slice (some ⟨g0, i * 2, none⟩) (n + 1 - i) (c - i) by rw [Int.toNat_natCast, subA_lit (by omega), Nat.zero_add]) ?_
        refine Z.put (A := fun v _ => True) (Lasts.kill (fun _ _ _ _ h => h) (by decide +kernel)) 0 (by decide +kernel) rfl rfl rfl rfl rfl rfl rfl (fun w1 hJ => (R.copyN (m := n - i) rfl rfl (B0.ext0 hJ) (Cd.ext0 hJ) (Nat.min_eq_right (by omega)) hcd (by rw [hcd]; omega) hone2).mono (fun v w9 h => by obtain ⟨_, h1, h2, h3⟩ := h; exact ⟨trivial, h1, h1.after hJ, h3⟩)) ?_
        refine Z.nil rfl rfl (fun w1 hJ => ?_)
        obtain ⟨e3, B3⟩ := hJ
        intro v77 _
        have hvg : vb ≠ g0 := fun h => hvM (by rw [h]; simp)
        refine N.seq ?_
        refine G.seq ?_
        refine G.region ?_
        refine L.val rfl rfl (R.mv rfl) ?_
        refine L.val rfl rfl (R.mv rfl) ?_
        refine L.val rfl rfl (R.slL rfl rfl (by omega) (by omega)) ?_
        refine L.be 80 rfl (show _ = Value.slice (some ⟨g0, i * 2, none⟩) (n + 1 - i) (c - i) by rw [Int.toNat_natCast, subA_lit (by omega), Nat.zero_add]) ?_
        refine L.val rfl rfl (R.mv rfl) ?_
        refine L.do rfl rfl (R.copyN (m := 1) rfl rfl B3 (Cv.ext e3 (by intro q hq; cases hq; simpa using hvg)) (Nat.min_eq_left (by omega)) (by rw [hl2]) (by rw [hl2, hoi.2.1]; omega) hp1) ?_
        rintro _ w5 ⟨rfl, P5⟩
        obtain ⟨e5, hs5, B5⟩ := P5
        have hE5 := e3.transN e5 (fun x hx => .inl hx)
        refine L.nil ?_
        refine N.seq ?_
        refine G.seq ?_
        refine G.region ?_
        refine L.val rfl rfl (R.mv rfl) ?_
        refine L.val rfl rfl (R.as rfl) ?_
        refine L.nil ?_
        refine N.seq ?_
        refine G.ret1 rfl rfl ?_
        first
          | (have e9 : pcells ps ++ pcell p = pcells (ps.take i ++ p :: ps.drop i) := by rw [← pcells_ins, List.take_of_length_le (by omega), List.drop_of_length_le (by omega)]; simp [pcells]
             rw [e9] at o1; exact ⟨a1, c1, M1, rfl, e1, hM1, o1⟩)
          | (refine ⟨_, c1, [g1], rfl, n3.mono (by simp), fun x hx => .inr (by rw [List.mem_singleton.1 hx]; exact hg1), ?_⟩
             have hfin := hog.1; rw [pcells_ins, ← Nat.add_one_mul, ← Nat.add_mul, show i + 1 + (n - i) = n + 1 by omega] at hfin
             refine ⟨by rw [pcells_len (sv := 1) (fun q hq => (okIns hok hp q hq).1), List.length_append, List.length_cons, List.length_take, List.length_drop]; congr 1; omega, .inr ⟨g1, _, rfl, rfl, B3, by omega, hx1, ?_, hfin⟩⟩
             rw [← Nat.add_one_mul] at hog; rw [hog.2.2]; exact hz1)
          | (refine ⟨_, c, [g0], rfl, hE5, fun x hx => .inl hx, ?_⟩
             have hfin := hoi.1; rw [pcells_ins, ← Nat.add_one_mul] at hfin
             refine ⟨by rw [pcells_len (sv := 1) (fun q hq => (okIns hok hp q hq).1), List.length_append, List.length_cons, List.length_take, List.length_drop]; congr 1; omega, .inr ⟨g0, _, rfl, rfl, B5, by omega, hx0, ?_, hfin⟩⟩
             rw [hoi.2.2]; exact hz0)

end Go.Proofs.Ytiiiplhfgblamaa
/-
  The walks of package order.
-/
set_option linter.unusedVariables false
set_option linter.unusedSimpArgs false
set_option maxRecDepth 4000
namespace Go.Proofs.Ytiiiplhfgblamaa
open Go Brv
theorem scW_ok (a : Option Addr) (n c : Nat) (xs : List Value) (w : World) (hb : Cells w a xs) (hl : n * (1 + 1) = xs.length) (hone : ∀ u ∈ xs, u.oneCell' = true) (hn : n ≤ 1000000) : Meets Try.prog 125 [.slice a n c] w (Cloned w 176 (1 + 1) n xs) := by
  refine Meets.enter Try.func125 rfl 8 rfl (Nat.le_of_ble_eq_true rfl) ?_
  refine G.seq ?_
  refine G.region ?_
  refine L.val rfl rfl (R.as rfl) ?_
  refine L.nil ?_
  refine N.seq ?_
  refine G.seq ?_
  refine G.seq ?_
  refine G.region ?_
  refine L.val rfl rfl (R.mv rfl) ?_
  refine L.val rfl rfl (R.eqNilS rfl rfl) ?_
  refine L.nil ?_
  refine N.seq ?_
  refine G.condB rfl (fun h0 => ?_) (fun h0 => ?_)
  · obtain rfl : a = none := by simpa using h0
    obtain rfl := cells_none hb
    obtain rfl : n = 0 := by simp at hl; omega
    refine G.seq ?_
    refine G.region ?_
    refine L.val rfl rfl (R.as rfl) ?_
    refine L.nil ?_
    refine N.seq ?_
    refine G.ret1 rfl rfl ?_
    exact ⟨none, 0, [], rfl, Ext.refl _ _, Own.nil _ _ _, by simp⟩
  · refine G.skip ?_
    refine N.seq ?_
    refine G.seq ?_
    refine G.region ?_
    refine L.do rfl rfl (R.buildS rfl (by decide) rfl) ?_
    rintro _ w1 ⟨b5, rfl, hb5, hs5, e1, B5⟩
    have hb := hb.ext0 e1
    have o0 := Own.blk (n := 0) (size := 1 + 1) B5 (by simp) (by simp [maxLen])
    refine L.val rfl rfl (R.mv rfl) ?_
    refine L.do rfl rfl (R.app rfl rfl o0 hb hl.symm hone (by simp [maxLen]; omega) (by omega)) ?_
    rintro _ w2 ⟨a1, c1, M1, rfl, e2, hM1, o1⟩
    refine L.val rfl rfl (R.as rfl) ?_
    refine L.nil ?_
    refine N.seq ?_
    refine G.ret1 rfl rfl ?_
    exact ⟨a1, c1, M1, by rw [Nat.zero_add] , e1.trans e2 (by simp) (by simp; omega), by simpa using o1, by intro g hg; have := hM1 g hg; have := e1.size; simp at *; omega⟩

theorem onewW_ok  (w : World) : Meets Try.prog 77 [] w (fun v w' => ∃ b, v = .pointer (some ⟨b, 0, none⟩) ∧ w.heap.size ≤ b ∧ Ext [] w w' ∧ MapAt (κ := Int) 174 176 1 w' b [] [b]) := by
  refine Meets.enter Try.func77 rfl 3 rfl (Nat.le_of_ble_eq_true rfl) ?_
  have E := Ext.refl [] w
  refine G.seq ?_
  refine G.region ?_
  refine L.val rfl rfl (R.as rfl) ?_
  refine L.nil ?_
  refine N.seq ?_
  refine G.seq ?_
  refine G.region ?_
  refine L.val rfl rfl (R.build (cs := #[.slice none 0 0]) rfl rfl) ?_
  refine L.do rfl rfl (R.box rfl) ?_
  rintro _ w1 ⟨b, rfl, hb2, hs2, e1, B2⟩
  replace E := E.trans0 e1
  refine L.val rfl rfl (R.as rfl) ?_
  refine L.nil ?_
  refine N.seq ?_
  refine G.ret1 rfl rfl ?_
  exact ⟨b, rfl, by omega, E, MapAt.mk (M := []) (by simp) B2 rfl (Own.nil _ _ _) (by intro p hp; cases hp) List.Pairwise.nil⟩

theorem olenW_ok (m : Nat) (ps : List (Pr (Int))) (S : List Nat) (w : World) (hd : MapAt (κ := Int) 174 176 1 w m ps S) (hl : ps.length ≤ 99999) : Meets Try.prog 78 [.pointer (some ⟨m, 0, none⟩)] w (fun v w' => v = .int .i64 (ps.length : Int) ∧ w' = w) := by
  refine Meets.enter Try.func78 rfl 10 rfl (Nat.le_of_ble_eq_true rfl) ?_
  have hd0 := hd
  obtain ⟨a, c, M, rfl, hm0, Bm, om, hok, hs⟩ := hd
  refine G.seq ?_
  refine G.region ?_
  refine L.val rfl rfl (R.as rfl) ?_
  refine L.nil ?_
  refine N.seq ?_
  refine G.seq ?_
  refine G.seq ?_
  refine G.region ?_
  refine L.val rfl rfl (R.mv rfl) ?_
  refine L.val rfl rfl (R.eqNilP rfl rfl) ?_
  refine L.nil ?_
  refine N.seq ?_
  refine G.condF rfl ?_
  refine G.skip ?_
  refine N.seq ?_
  refine G.seq ?_
  refine G.region ?_
  refine L.val rfl rfl (R.mv rfl) ?_
  refine L.val rfl rfl (R.nilChk rfl) ?_
  refine L.val rfl rfl (R.fld rfl) ?_
  refine L.val rfl rfl (R.ldB rfl Bm rfl) ?_
  refine L.val rfl rfl (R.lenS rfl) ?_
  refine L.val rfl rfl (R.as rfl) ?_
  refine L.nil ?_
  refine N.seq ?_
  refine G.ret1 rfl rfl ?_
  exact ⟨rfl, rfl⟩

theorem putW_ok (m : Nat) (ps : List (Pr (Int))) (S : List Nat) (k : Int) (ua : Option Addr) (un uc : Nat) (w : World) (hd : MapAt (κ := Int) 174 176 1 w m ps S) (hl : ps.length ≤ 99999) : Meets Try.prog 79 [.pointer (some ⟨m, 0, none⟩), .int .i64 k, .slice ua un uc] w (fun v w' => v = .bool (!hasK ps k) ∧ ∃ S', Grown S S' w w' ∧ MapAt (κ := Int) 174 176 1 w' m (putK ps k [.slice ua un uc]) S') := by
  refine Meets.enter Try.func79 rfl 39 rfl (Nat.le_of_ble_eq_true rfl) ?_
  have E := Ext.refl [] w
  have hd0 := hd
  obtain ⟨a, c, M, rfl, hm0, Bm, om, hok, hs⟩ := hd
  have hone : ∀ u ∈ ([.slice ua un uc] : List Value), u.oneCell' = true := by intro x hx; rw [List.mem_singleton.1 hx]; rfl
  refine G.seq ?_
  refine G.region ?_
  refine L.val rfl rfl (R.as rfl) ?_
  refine L.nil ?_
  refine N.seq ?_
  refine G.seq ?_
  refine G.seq ?_
  refine G.region ?_
  refine L.val rfl rfl (R.mv rfl) ?_
  refine L.val rfl rfl (R.eqNilP rfl rfl) ?_
  refine L.nil ?_
  refine N.seq ?_
  refine G.condF rfl ?_
  refine G.skip ?_
  refine N.seq ?_
  refine G.seq ?_
  refine G.region ?_
  refine L.val rfl rfl (R.mv rfl) ?_
  refine L.val rfl rfl (R.mv rfl) ?_
  refine L.callF rfl rfl rfl go101 (findW_ok m ps (m :: M) k _ hd0 (by omega)) ?_
  rintro _ w1 ⟨rfl, e1⟩
  replace E := E.trans0 e1
  replace Bm := Bm.ext0 e1
  replace om := om.ext0 e1
  refine L.val rfl rfl (R.mv rfl) ?_
  refine L.val rfl rfl (R.ext rfl rfl) ?_
  refine L.val rfl rfl (R.ext rfl rfl) ?_
  refine L.val rfl rfl (R.as rfl) ?_
  refine L.val rfl rfl (R.as rfl) ?_
  refine L.nil ?_
  refine N.seq ?_
  refine G.seq ?_
  refine G.seq ?_
  refine G.region ?_
  refine L.val rfl rfl (R.mv rfl) ?_
  refine L.nil ?_
  refine N.seq ?_
  refine G.condB rfl (fun h1 => ?_) (fun h1 => ?_)
  · have hk : hasK ps k = true := h1
    have hlt := hasK_lt hk
    obtain ⟨g, cur, rfl, rfl, Bg, hnc, hcm, hcs, ht⟩ := om.some (by omega)
    have hgm : m ≠ g := fun h => hm0 (by simp [h])
    have hsz : low ps k * 2 + 2 ≤ cur.size := by
      have h9 : (low ps k + 1) * 2 ≤ c * 2 := Nat.mul_le_mul_right _ (by omega)
      rw [Nat.add_mul, Nat.one_mul] at h9
      exact Nat.le_trans h9 hcs
    refine G.seq ?_
    refine G.region ?_
    refine L.val rfl rfl (R.mv rfl) ?_
    refine L.val rfl rfl (R.nilChk rfl) ?_
    refine L.val rfl rfl (R.fld rfl) ?_
    refine L.val rfl rfl (R.ldB rfl Bm rfl) ?_
    refine L.val rfl rfl (R.mv rfl) ?_
    refine L.val rfl rfl (R.mv rfl) ?_
    refine L.val rfl rfl (R.idx rfl rfl (by omega) (by omega) _ rfl) ?_
    refine L.be 24 rfl (show _ = Value.pointer (some ⟨g, low ps k * 2, none⟩) by rw [Int.toNat_natCast, Go.Addr.add_lit, Nat.zero_add]) ?_
    refine L.val rfl rfl (R.fld rfl) ?_
    refine L.set rfl (R.st rfl rfl Bg (by omega) rfl) ?_
    rintro w2 ⟨e2, hs2, Bg⟩
    rw [set_at (by omega)] at Bg
    replace Bm := Bm.ext e2 (by simpa using hgm)
    have o2 := own_set (v := [.slice ua un uc]) rfl hok hs hk rfl hnc hcm hcs ht Bg
    have X := e2.after E
    refine L.nil ?_
    refine N.seq ?_
    refine G.seq ?_
    refine G.region ?_
    refine L.val rfl rfl (R.as rfl) ?_
    refine L.nil ?_
    refine N.seq ?_
    refine G.ret1 rfl rfl ?_
    first
      | exact ⟨by rw [hk]; rfl, [m, g], ⟨X.mono (fun x hx => .inl (List.mem_cons_of_mem _ hx)), fun x hx => .inl hx⟩, MapAt.mk hm0 Bm (by rw [put_len, if_pos hk]) o2 (hok.put ⟨rfl, hone⟩) (sorted_put hs _ _)⟩
      | exact ⟨by rw [hk]; rfl, m :: M3, ⟨X, fun x hx => (List.mem_cons.1 hx).elim (fun h => .inl (by simp [h])) (fun h => (hM3 x h).elim (fun h => .inl (List.mem_cons_of_mem _ h)) (fun h => .inr (by omega)))⟩, MapAt.mk hm3 Bm (by rw [put_len, if_neg (by simp [hk])]) (by rw [putK_no hk]; exact o4) (hok.put ⟨rfl, hone⟩) (sorted_put hs _ _)⟩
  · have hk : hasK ps k = false := h1
    have hio := low_le ps k
    have hMl := om.lt
    have hml := Bm.lt
    refine G.skip ?_
    refine N.seq ?_
    refine G.seq ?_
    refine G.region ?_
    refine L.val rfl rfl (R.mv rfl) ?_
    refine L.val rfl rfl (R.mv rfl) ?_
    refine L.val rfl rfl (R.nilChk rfl) ?_
    refine L.val rfl rfl (R.fld rfl) ?_
    refine L.val rfl rfl (R.ldB rfl Bm rfl) ?_
    refine L.val rfl rfl (R.mv rfl) ?_
    refine L.val rfl rfl (R.mv rfl) ?_
    refine L.val rfl rfl (R.mv rfl) ?_
    refine L.val rfl rfl (R.build (cs := #[.int .i64 k, .slice ua un uc]) rfl rfl) ?_
    refine L.do rfl rfl (R.buildA rfl rfl rfl rfl rfl) ?_
    rintro _ w2 ⟨vb, rfl, hvb, hs2, e2, Bv⟩
    replace Bv : Blk w2 vb (pcell ((k, [.slice ua un uc]) : Pr (Int))).toArray 176 (0, 0) := Bv
    replace E := E.trans0 e2
    replace Bm := Bm.ext0 e2
    replace om := om.ext0 e2
    have hvM : vb ∉ M := fun h => by have := hMl vb h; omega
    have hE2 := E.size
    have hws := e2.size
    refine L.callF rfl rfl rfl go102 (insW_ok a ps.length c ps M (low ps k) ((k, [.slice ua un uc]) : Pr (Int)) vb _ om rfl hok hio ⟨rfl, hone⟩ Bv hvM (by omega)) ?_
    rintro _ w3 ⟨a3, c3, M3, rfl, e3, hM3, o3⟩
    replace Bm := Bm.ext e3 hm0
    have hm3 : m ∉ M3 := fun h => (hM3 m h).elim hm0 (by omega)
    refine L.val rfl rfl (R.nilChk rfl) ?_
    refine L.val rfl rfl (R.fld rfl) ?_
    refine L.set rfl (R.st rfl rfl Bm (by show 0 < 1; decide) rfl) ?_
    rintro w4 ⟨e4, hs4, Bm⟩
    replace Bm : Blk w4 m #[.slice a3 (ps.length + 1) c3] 174 (0, 0) := Bm
    have o4 := o3.ext e4 (by intro g hg h; rw [List.mem_singleton.1 h] at hg; exact hm3 hg)
    have X : Ext (m :: M) w w4 := ((e3.after E).mono (fun x hx => .inl (List.mem_cons_of_mem _ hx))).transN e4 (fun x hx => .inl (by rw [List.mem_singleton.1 hx]; simp))
    refine L.nil ?_
    refine N.seq ?_
    refine G.seq ?_
    refine G.region ?_
    refine L.val rfl rfl (R.as rfl) ?_
    refine L.nil ?_
    refine N.seq ?_
    refine G.ret1 rfl rfl ?_
    first
      | exact ⟨by rw [hk]; rfl, [m, g], ⟨X.mono (fun x hx => .inl (List.mem_cons_of_mem _ hx)), fun x hx => .inl hx⟩, MapAt.mk hm0 Bm (by rw [put_len, if_pos hk]) o2 (hok.put ⟨rfl, hone⟩) (sorted_put hs _ _)⟩
      | exact ⟨by rw [hk]; rfl, m :: M3, ⟨X, fun x hx => (List.mem_cons.1 hx).elim (fun h => .inl (by simp [h])) (fun h => (hM3 x h).elim (fun h => .inl (List.mem_cons_of_mem _ h)) (fun h => .inr (by omega)))⟩, MapAt.mk hm3 Bm (by rw [put_len, if_neg (by simp [hk])]) (by rw [putK_no hk]; exact o4) (hok.put ⟨rfl, hone⟩) (sorted_put hs _ _)⟩

theorem getW_ok (m : Nat) (ps : List (Pr (Int))) (S : List Nat) (k : Int) (w : World) (hd : MapAt (κ := Int) 174 176 1 w m ps S) (hl : ps.length ≤ 99999) : Meets Try.prog 103 [.pointer (some ⟨m, 0, none⟩), .int .i64 k] w (fun v w' => v = .tuple #[gv1 (.slice none 0 0) (getK ps k), .bool (hasK ps k)] ∧ Ext [] w w') := by
  refine Meets.enter Try.func103 rfl 29 rfl (Nat.le_of_ble_eq_true rfl) ?_
  have E := Ext.refl [] w
  have hd0 := hd
  obtain ⟨a, c, M, rfl, hm0, Bm, om, hok, hs⟩ := hd
  refine G.seq ?_
  refine G.region ?_
  refine L.val rfl rfl (R.as rfl) ?_
  refine L.val rfl rfl (R.as rfl) ?_
  refine L.nil ?_
  refine N.seq ?_
  refine G.seq ?_
  refine G.region ?_
  refine L.val rfl rfl (R.as rfl) ?_
  refine L.nil ?_
  refine N.seq ?_
  refine G.seq ?_
  refine G.seq ?_
  refine G.region ?_
  refine L.val rfl rfl (R.mv rfl) ?_
  refine L.val rfl rfl (R.eqNilP rfl rfl) ?_
  refine L.nil ?_
  refine N.seq ?_
  refine G.condF rfl ?_
  refine G.skip ?_
  refine N.seq ?_
  refine G.seq ?_
  refine G.region ?_
  refine L.val rfl rfl (R.mv rfl) ?_
  refine L.val rfl rfl (R.mv rfl) ?_
  refine L.callF rfl rfl rfl go101 (findW_ok m ps (m :: M) k _ hd0 (by omega)) ?_
  rintro _ w1 ⟨rfl, e1⟩
  replace E := E.trans0 e1
  replace Bm := Bm.ext0 e1
  replace om := om.ext0 e1
  refine L.val rfl rfl (R.mv rfl) ?_
  refine L.val rfl rfl (R.ext rfl rfl) ?_
  refine L.val rfl rfl (R.ext rfl rfl) ?_
  refine L.val rfl rfl (R.as rfl) ?_
  refine L.val rfl rfl (R.as rfl) ?_
  refine L.nil ?_
  refine N.seq ?_
  refine G.seq ?_
  refine G.seq ?_
  refine G.region ?_
  refine L.val rfl rfl (R.mv rfl) ?_
  refine L.val rfl rfl (R.not rfl) ?_
  refine L.nil ?_
  refine N.seq ?_
  refine G.condB rfl (fun h1 => ?_) (fun h1 => ?_)
  · have hk : hasK ps k = false := by simpa using h1
    refine G.seq ?_
    refine G.region ?_
    refine L.val rfl rfl (R.mv rfl) ?_
    refine L.val rfl rfl (R.as rfl) ?_
    refine L.val rfl rfl (R.as rfl) ?_
    refine L.nil ?_
    refine N.seq ?_
    refine G.ret2 rfl rfl rfl ?_
    first
      | (rw [getK_no hk, hk]; exact ⟨rfl, E⟩)
      | (rw [getK_yes hk hp, hk, hx]; exact ⟨rfl, E⟩)
  · have hk : hasK ps k = true := by simpa using h1
    have hlt := hasK_lt hk
    obtain ⟨g, cur, rfl, rfl, Bg, hnc, hcm, hcs, ht⟩ := om.some (by omega)
    have hgm : m ≠ g := fun h => hm0 (by simp [h])
    have hsz : low ps k * 2 + 2 ≤ cur.size := by
      have h9 : (low ps k + 1) * 2 ≤ c * 2 := Nat.mul_le_mul_right _ (by omega)
      rw [Nat.add_mul, Nat.one_mul] at h9
      exact Nat.le_trans h9 hcs
    obtain ⟨p, hp⟩ : ∃ p, ps[low ps k]? = some p := ⟨_, List.getElem?_eq_getElem hlt⟩
    obtain ⟨x, hx⟩ := List.length_eq_one_iff.1 (hok p (List.mem_of_getElem? hp)).1
    have hcx : cur[low ps k * 2 + 1]? = some x := row_at ht hok hp (by show (Key.val p.1 :: p.2)[1]? = _; rw [hx]; rfl)
    refine G.skip ?_
    refine N.seq ?_
    refine G.seq ?_
    refine G.region ?_
    refine L.val rfl rfl (R.mv rfl) ?_
    refine L.val rfl rfl (R.nilChk rfl) ?_
    refine L.val rfl rfl (R.fld rfl) ?_
    refine L.val rfl rfl (R.ldB rfl Bm rfl) ?_
    refine L.val rfl rfl (R.mv rfl) ?_
    refine L.val rfl rfl (R.idx rfl rfl (by omega) (by omega) _ rfl) ?_
    refine L.be 26 rfl (show _ = Value.pointer (some ⟨g, low ps k * 2, none⟩) by rw [Int.toNat_natCast, Go.Addr.add_lit, Nat.zero_add]) ?_
    refine L.val rfl rfl (R.fld rfl) ?_
    refine L.val rfl rfl (R.ldB rfl Bg hcx) ?_
    refine L.val rfl rfl (R.as rfl) ?_
    refine L.val rfl rfl (R.as rfl) ?_
    refine L.nil ?_
    refine N.seq ?_
    refine G.ret2 rfl rfl rfl ?_
    first
      | (rw [getK_no hk, hk]; exact ⟨rfl, E⟩)
      | (rw [getK_yes hk hp, hk, hx]; exact ⟨rfl, E⟩)

end Go.Proofs.Ytiiiplhfgblamaa
/-
  The walks of package order.
-/
set_option linter.unusedVariables false
set_option linter.unusedSimpArgs false
set_option maxRecDepth 4000
namespace Go.Proofs.Ytiiiplhfgblamaa
open Go Brv
end Go.Proofs.Ytiiiplhfgblamaa
/-
  The walks of package order.
-/
set_option linter.unusedVariables false
set_option linter.unusedSimpArgs false
set_option maxRecDepth 4000
namespace Go.Proofs.Ytiiiplhfgblamaa
open Go Brv
theorem pallW_ok (a : Option Addr) (n c : Nat) (w : World) : Meets Try.prog 124 [.slice a n c] w (fun v w' => ∃ b0, v = .func (.func 131) #[] #[.pointer (some ⟨b0, 0, none⟩)] ∧ Ext [] w w' ∧ Blk w' b0 #[.slice a n c] 172 (0, 0) ∧ w.heap.size ≤ b0) := by
  refine Meets.enter Try.func124 rfl 4 rfl (Nat.le_of_ble_eq_true rfl) ?_
  have E := Ext.refl [] w
  refine G.seq ?_
  refine G.region ?_
  refine L.do rfl rfl (R.box rfl) ?_
  rintro _ w1 ⟨b0, rfl, hb1, hs1, e1, B1⟩
  replace E := E.trans0 e1
  refine L.val rfl rfl (R.as rfl) ?_
  refine L.nil ?_
  refine N.seq ?_
  refine G.seq ?_
  refine G.region ?_
  refine L.val rfl rfl (R.mkFunc rfl rfl) ?_
  refine L.val rfl rfl (R.as rfl) ?_
  refine L.nil ?_
  refine N.seq ?_
  refine G.ret1 rfl rfl ?_
  exact ⟨b0, rfl, E, B1, by omega⟩

theorem pall1W_ok (y : Value) (b0 : Nat) (a : Option Addr) (n c : Nat) (ps : List (Pr (Int))) (Ma : List Nat) (D₀ : List Nat) (J Jx : Nat → List Nat → World → Prop) (w : World) (hB0 : Blk w b0 #[.slice a n c] 172 (0, 0)) (ho : Own w 176 (1 + 1) a n c (pcells ps) Ma) (hn : n = ps.length) (hok : OkP 1 ps) (hnl : n ≤ 1000000) (hD : ∀ g ∈ D₀, g < w.heap.size ∧ g ∉ b0 :: Ma ∧ g ∉ ([] : List Nat)) (hJ : ∀ k D W₁ W₂ M', J k D W₁ → Ext M' W₁ W₂ → (∀ g ∈ M', g ∉ D ∧ (g ∈ ([] : List Nat) ∨ w.heap.size ≤ g)) → J k D W₂) (hJx : ∀ k D W₁ W₂ M', Jx k D W₁ → Ext M' W₁ W₂ → (∀ g ∈ M', g ∉ D ∧ (g ∈ ([] : List Nat) ∨ w.heap.size ≤ g)) → Jx k D W₂) (hY : ∀ k D vs W₁, k < n → J k D W₁ → prE (fun k => ps[k]?) k vs W₁ → (∀ g ∈ D, g < W₁.heap.size) → YCall Try.prog y vs W₁ fun b W₂ => ∃ D', Ext D W₁ W₂ ∧ (∀ g ∈ D', g < W₂.heap.size ∧ (g ∈ D ∨ W₁.heap.size ≤ g)) ∧ (b = true → J (k + 1) D' W₂) ∧ (b = false → Jx (k + 1) D' W₂)) (h0 : J 0 D₀ w) : Meets Try.prog 131 [y, .pointer (some ⟨b0, 0, none⟩)] w (fun _ W₂ => (∃ D, J n D W₂ ∧ True) ∨ ∃ k D, k ≤ n ∧ Jx k D W₂ ∧ True) := by
  refine Meets.enter Try.func131 rfl 18 rfl (Nat.le_of_ble_eq_true rfl) ?_
  have hb0D : b0 ∉ D₀ := fun h => (hD _ h).2.1 (by simp)
  have hMD : ∀ g ∈ Ma, g ∉ D₀ := fun g hg h => (hD _ h).2.1 (by simp [hg])
  refine G.seq ?_
  refine G.region ?_
  refine L.val rfl rfl (R.ldB rfl hB0 rfl) ?_
  refine L.val rfl rfl (R.lenS rfl) ?_
  refine L.val rfl rfl (R.mv rfl) ?_
  refine L.nil ?_
  refine N.seq ?_
  refine G.block ?_
  refine G.loop (X := Nat) (fun i => [(0, y), (5, .slice a n c), (6, .int .i64 (n : Int)), (7, .int .i64 (i : Int))]) (fun i w' => i ≤ n ∧ (∃ D, J i D w' ∧ ∀ g ∈ D, g < w'.heap.size ∧ (g ∈ D₀ ∨ w.heap.size ≤ g)) ∧ Ext D₀ w w') (fun i => n - i) (0) (Sub.cons rfl (Sub.cons rfl (Sub.cons rfl (Sub.cons rfl (Sub.nil _))))) ⟨Nat.zero_le _, ⟨D₀, h0, fun g hg => ⟨(hD g hg).1, .inl hg⟩⟩, Ext.refl _ _⟩ ?_
  rintro i w1 ⟨hi, ⟨D, hJi, hDD⟩, e1⟩
  have ho1 := ho.ext e1 hMD
  have B0 := hB0.ext e1 hb0D
  refine G.seq ?_
  refine G.region ?_
  refine L.val rfl rfl (R.lss rfl rfl) ?_
  refine L.nil ?_
  refine N.seq ?_
  refine G.seq ?_
  refine G.condP rfl (fun h0 => ?_) (fun h0 => ?_)
  · have hil : i < n := by omega
    have hes := e1.size
    obtain ⟨p, hp⟩ : ∃ p, ps[i]? = some p := ⟨_, List.getElem?_eq_getElem (by omega)⟩
    obtain ⟨q, hq, hcl⟩ := (Tab.pairs ho1.cells hn hok).at (by decide) i (by rw [List.length_map]; omega)
    have he : (ps.map pcell)[i]'(by rw [List.length_map]; omega) = pcell p := by rw [List.getElem_map]; exact congrArg pcell (List.getElem?_eq_some_iff.1 hp).2
    rw [he] at hcl
    have hsz : (pcell p).length = 2 := by show p.2.length + 1 = _; rw [(hok p (List.mem_of_getElem? hp)).1]
    have hsA : (pcell p).toArray.size = 2 := by rw [List.size_toArray]; exact hsz
    have h1c : ∀ u ∈ (pcell p).toArray.toList, u.oneCell' = true := pcell1 (hok p (List.mem_of_getElem? hp)).2
    refine G.skip ?_
    refine N.seq ?_
    refine G.seq ?_
    refine G.block ?_
    refine G.seq ?_
    refine G.region ?_
    refine L.val rfl rfl (R.mv rfl) ?_
    refine L.val rfl rfl (R.idx rfl rfl (by omega) (by omega) q hq) ?_
    refine L.val rfl rfl (R.ldN (vs := pcell p) rfl hcl hsz) ?_
    refine L.do rfl rfl (R.alloc) ?_
    rintro _ w2 ⟨b4, rfl, hb4, hs4, e2, B4⟩
    have hDb : ∀ g ∈ D, g < b4 := fun g hg => by have := (hDD g hg).1; omega
    replace B4 : Blk w2 b4 (.agg #[.int .i64 0, .slice none 0 0] : Value).cells 176 (0, 0) := B4
    replace hJi := hJ _ D w1 w2 [] hJi e2 (by simp)
    replace hDD := fun g hg => And.intro (Nat.lt_of_lt_of_le (hDD g hg).1 e2.size) (hDD g hg).2
    replace e1 := e1.trans0 e2
    have hws := e1.size
    refine L.val rfl rfl (R.as rfl) ?_
    refine L.set rfl (R.stN rfl rfl B4 hsA (by show 0 + (pcell p).toArray.size ≤ 2; omega) h1c) ?_
    rintro w3 ⟨e3, hs3, B4⟩
    rw [over_all (show (.agg #[.int .i64 0, .slice none 0 0] : Value).cells.size = (pcell p).toArray.size from hsA.symm)] at B4
    replace hJi := hJ _ D w2 w3 [b4] hJi e3 (fun g hg => by rw [List.mem_singleton.1 hg]; exact ⟨fun h => by have := hDb _ h; omega, .inr (by omega)⟩)
    replace hDD := fun g hg => And.intro (Nat.lt_of_lt_of_le (hDD g hg).1 e3.size) (hDD g hg).2
    replace e1 := e1.transN e3 (fun g hg => .inr (by rw [List.mem_singleton.1 hg]; omega))
    refine L.nil ?_
    refine N.seq ?_
    refine G.seq ?_
    refine G.region ?_
    refine L.val rfl rfl (R.mv rfl) ?_
    refine L.val rfl rfl (R.mv rfl) ?_
    refine L.val rfl rfl (R.ldBN rfl B4 hsA) ?_
    refine L.ycall rfl rfl rfl rfl (hY i D _ _ hil hJi ⟨p, _, hp, rfl⟩ (fun g hg => (hDD g hg).1)) ?_
    rintro bb w4 ⟨D2, eD, hD2, hT, hF⟩
    refine L.val rfl rfl (R.not rfl) ?_
    refine L.nil ?_
    refine N.seq ?_
    refine G.condB rfl (fun h1 => ?_) (fun h1 => ?_)
    · obtain rfl : bb = false := by simpa using h1
      refine G.ret0 rfl ?_
      exact .inr ⟨i + 1, D2, by omega, hF rfl, trivial⟩
    · obtain rfl : bb = true := by simpa using h1
      refine G.skip ?_
      refine N.block ?_
      refine N.seq ?_
      refine G.region ?_
      refine L.val rfl rfl (R.add rfl rfl (by omega)) ?_
      refine L.val rfl rfl (R.mv rfl) ?_
      refine L.nil ?_
      exact N.again (i + 1) (by omega) (Sub.cons rfl (Sub.cons rfl (Sub.cons rfl (Sub.cons rfl (Sub.nil _))))) ⟨by omega, ⟨D2, hT rfl, fun g hg => ⟨(hD2 g hg).1, (hD2 g hg).2.elim (fun h => (hDD g h).2) (fun h => .inr (Nat.le_trans e1.size h))⟩⟩, e1.transN eD (fun g hg => (hDD g hg).2)⟩
  · refine G.exit _ rfl ?_
    refine N.end0 rfl ?_
    obtain rfl : i = n := by omega
    exact .inl ⟨D, hJi, trivial⟩

theorem pallW_iter (b0 : Nat) (a : Option Addr) (n c : Nat) (ps : List (Pr (Int))) (Ma : List Nat) (w : World) (hB0 : Blk w b0 #[.slice a n c] 172 (0, 0)) (ho : Own w 176 (1 + 1) a n c (pcells ps) Ma) (hn : n = ps.length) (hok : OkP 1 ps) (hnl : n ≤ 1000000) : Iter Try.prog 131 [.pointer (some ⟨b0, 0, none⟩)] w n (prE (fun k => ps[k]?)) (fun _ _ => True) (b0 :: Ma) [] := by
  intro y D₀ J Jx W hE hD hJ hJx hY h0
  exact pall1W_ok y b0 a n c ps Ma D₀ J Jx W (hB0.ext0 hE) (ho.ext0 hE) hn hok hnl hD (fun k D W₁ W₂ M' h he hm => hJ k D W₁ W₂ M' h he (fun g hg => ⟨(hm g hg).1, (hm g hg).2.imp id (Nat.le_trans hE.size)⟩)) (fun k D W₁ W₂ M' h he hm => hJx k D W₁ W₂ M' h he (fun g hg => ⟨(hm g hg).1, (hm g hg).2.imp id (Nat.le_trans hE.size)⟩)) hY h0

theorem walkW_ok (gf : FuncId) (lb : List Value) (w : World) : Meets Try.prog 123 [.func (.func gf) #[] lb.toArray] w (fun v w' => ∃ b1, v = .func (.func 130) #[] #[.pointer (some ⟨b1, 0, none⟩)] ∧ Ext [] w w' ∧ Blk w' b1 #[.func (.func gf) #[] lb.toArray] 200 (0, 0) ∧ w.heap.size ≤ b1) := by
  refine Meets.enter Try.func123 rfl 4 rfl (Nat.le_of_ble_eq_true rfl) ?_
  have E := Ext.refl [] w
  refine G.seq ?_
  refine G.region ?_
  refine L.do rfl rfl (R.box rfl) ?_
  rintro _ w1 ⟨b1, rfl, hb1, hs1, e1, B1⟩
  replace E := E.trans0 e1
  refine L.val rfl rfl (R.as rfl) ?_
  refine L.nil ?_
  refine N.seq ?_
  refine G.seq ?_
  refine G.region ?_
  refine L.val rfl rfl (R.mkFunc rfl rfl) ?_
  refine L.val rfl rfl (R.as rfl) ?_
  refine L.nil ?_
  refine N.seq ?_
  refine G.ret1 rfl rfl ?_
  exact ⟨b1, rfl, E, B1, by omega⟩

theorem walk1W_ok (y : Value) (b1 : Nat) (gf : FuncId) (lb : List Value) (Nn : Nat) (q : Nat → Option (Pr (Int))) (F : List Nat) (D₀ : List Nat) (J Jx : Nat → List Nat → World → Prop) (w : World) (hB1 : Blk w b1 #[.func (.func gf) #[] lb.toArray] 200 (0, 0)) (eg : ∀ (vs : Array Value) w, (callFunc gf vs).run Try.prog w = .ok (.enter gf vs) w) (hit : ∀ W, Ext [] w W → Iter Try.prog gf lb W Nn (prE q) (fun _ _ => True) F []) (hF : ∀ x ∈ F, x < w.heap.size) (hq : ∀ k (p : Pr (Int)), q k = some p → p.2.length = 1 ∧ ∀ u ∈ p.2, u.oneCell' = true) (hD : ∀ g ∈ D₀, g < w.heap.size ∧ g ∉ b1 :: F ∧ g ∉ ([] : List Nat)) (hJ : ∀ k D W₁ W₂ M', J k D W₁ → Ext M' W₁ W₂ → (∀ g ∈ M', g ∉ D ∧ (g ∈ ([] : List Nat) ∨ w.heap.size ≤ g)) → J k D W₂) (hJx : ∀ k D W₁ W₂ M', Jx k D W₁ → Ext M' W₁ W₂ → (∀ g ∈ M', g ∉ D ∧ (g ∈ ([] : List Nat) ∨ w.heap.size ≤ g)) → Jx k D W₂) (hY : ∀ k D vs W₁, k < Nn → J k D W₁ → (kvE gv1' q) k vs W₁ → (∀ g ∈ D, g < W₁.heap.size) → YCall Try.prog y vs W₁ fun b W₂ => ∃ D', Ext D W₁ W₂ ∧ (∀ g ∈ D', g < W₂.heap.size ∧ (g ∈ D ∨ W₁.heap.size ≤ g)) ∧ (b = true → J (k + 1) D' W₂) ∧ (b = false → Jx (k + 1) D' W₂)) (h0 : J 0 D₀ w) : Meets Try.prog 130 [y, .pointer (some ⟨b1, 0, none⟩)] w (fun _ W₂ => (∃ D, J Nn D W₂ ∧ True) ∨ ∃ k D, k ≤ Nn ∧ Jx k D W₂ ∧ True) := by
  refine Meets.enter Try.func130 rfl 15 rfl (Nat.le_of_ble_eq_true rfl) ?_
  refine G.seq ?_
  refine G.region ?_
  refine L.do rfl rfl (R.box rfl) ?_
  rintro _ w1 ⟨b2, rfl, hb2, hs2, e1, B2⟩
  have hw1 := e1.size
  refine L.nil ?_
  refine N.seq ?_
  refine G.seq ?_
  refine G.region ?_
  refine L.val rfl rfl (R.ldB rfl (hB1.ext0 e1) rfl) ?_
  refine L.nil ?_
  refine N.seq ?_
  refine G.block ?_
  have hD0 : ∀ g ∈ b2 :: D₀, g < w1.heap.size ∧ g ∉ F ∧ g ∉ ([] : List Nat) := by
    intro g hg
    rcases List.mem_cons.1 hg with rfl | hg
    · exact ⟨by omega, fun h => by have := hF _ h; omega, by simp⟩
    · exact ⟨Nat.lt_of_lt_of_le (hD g hg).1 hw1, fun h => (hD g hg).2.1 (List.mem_cons_of_mem _ h), by simp⟩
  have hI0 : wkI J b2 138 y 0 (b2 :: D₀) w1 := ⟨D₀, rfl, fun h => by have := (hD _ h).1; omega, hJ 0 D₀ w w1 [] h0 e1 (by simp), B2⟩
  refine G.range (lb := lb) rfl rfl eg (hit _ e1) (fun _ _ _ h _ => h) (b2 :: D₀) hD0 (fun x h => h.elim (fun h => Nat.lt_of_lt_of_le (hF x h) hw1) (by simp)) (wkI J b2 138 y) (wkX Jx b2) ?_ ?_ hI0 ?_ ?_ ?_
  · rintro k DD W1 W2 M2 ⟨D, rfl, hn2, hj, hb⟩ he hm
    exact ⟨D, rfl, hn2, hJ k D W1 W2 M2 hj he (fun g hg => ⟨fun h => (hm g hg).1 (List.mem_cons_of_mem _ h), (hm g hg).2.imp id (Nat.le_trans hw1)⟩), hb.ext he (fun h => (hm _ h).1 (by simp))⟩
  · rintro c k DD W1 W2 M2 ⟨hc, D, rfl, hn2, hj⟩ he hm
    exact ⟨hc, D, rfl, hn2, hJx k D W1 W2 M2 hj he (fun g hg => ⟨fun h => (hm g hg).1 (List.mem_cons_of_mem _ h), (hm g hg).2.imp id (Nat.le_trans hw1)⟩)⟩
  · rintro l k DD vs W1 hl2 hlt hlD hDl hk ⟨D, rfl, hn2, hj, B2⟩ ⟨p, v0, hp, rfl⟩
    refine ⟨rfl, ?_⟩
    refine G.sub [(7, .agg (pcell p).toArray), (2, .pointer (some ⟨b2, 0, none⟩))] (Sub.cons rfl (Sub.cons rfl (Sub.nil _))) ?_
    have hpl := hq k p hp
    have hsz : (pcell p).length = 2 := by show p.2.length + 1 = _; rw [hpl.1]
    have hsA : (pcell p).toArray.size = 2 := by rw [List.size_toArray]; exact hsz
    have h1c : ∀ u ∈ (pcell p).toArray.toList, u.oneCell' = true := pcell1 hpl.2
    have l2 := B2.lt
    refine G.region ?_
    refine L.do rfl rfl (R.alloc) ?_
    rintro _ w2 ⟨b4, rfl, hb4, hs4, e2, B4⟩
    replace B4 : Blk w2 b4 (.agg #[.int .i64 0, .slice none 0 0] : Value).cells 176 (0, 0) := B4
    refine L.set rfl (R.stN rfl rfl B4 hsA (by show 0 + (pcell p).toArray.size ≤ 2; omega) h1c) ?_
    rintro w3 ⟨e3, hs3, B4⟩
    rw [over_all (show (.agg #[.int .i64 0, .slice none 0 0] : Value).cells.size = (pcell p).toArray.size from hsA.symm)] at B4
    have hEW := e2.news2 e3 (by omega)
    refine L.nil ?_
    refine N.round (hEW) (fun wb hb1 hb2 => ?_)
    replace B4 := B4.still hb2
    replace B2 := (B2.ext0 hEW).still hb2
    have hjw := hJ k D _ wb [l] (hJ k D W1 _ [] hj hEW (by simp)) hb1 (fun g hg => by rw [List.mem_singleton.1 hg]; exact ⟨fun h => hlD (List.mem_cons_of_mem _ h), .inr (by omega)⟩)
    have hDw : ∀ g ∈ D, g < wb.heap.size := fun g hg => Nat.lt_of_lt_of_le (hDl g (List.mem_cons_of_mem _ hg)) (Nat.le_trans hEW.size hb1.size)
    have l2b := B2.lt
    obtain ⟨x, hx⟩ := List.length_eq_one_iff.1 hpl.1
    have hyc := hY k D [.int .i64 p.1, x] wb hk hjw ⟨p, hp, by rw [hx]; rfl⟩ hDw
    have hcy : y.cells = #[y] := by rcases hyc with ⟨l9, rfl, _⟩ | ⟨f9, u9, c9, rfl, _⟩ <;> rfl
    rw [hcy] at B2
    refine G.block ?_
    refine G.seq ?_
    refine G.region ?_
    refine L.val rfl rfl (R.ldB rfl B2 rfl) ?_
    refine L.val rfl rfl (R.fld rfl) ?_
    refine L.val rfl rfl (R.ldB (v := .int .i64 p.1) rfl B4 rfl) ?_
    refine L.val rfl rfl (R.fld rfl) ?_
    refine L.val rfl rfl (R.ldB (v := x) rfl B4 (by show (Key.val p.1 :: p.2).toArray[1]? = _; rw [hx]; rfl)) ?_
    refine L.ycall rfl rfl rfl rfl hyc ?_
    rintro bb w7 ⟨D2, eD, hD2, hT, hFl⟩
    have X : Ext (b2 :: D) wb w7 := eD.mono (fun g hg => .inl (List.mem_cons_of_mem _ hg))
    have hn3 : b2 ∉ D2 := fun h => (hD2 b2 h).2.elim hn2 (fun h => by omega)
    have hDD : ∀ g ∈ b2 :: D2, g < w7.heap.size ∧ (g ∈ b2 :: D ∨ wb.heap.size ≤ g) := by
      intro g hg
      rcases List.mem_cons.1 hg with rfl | hg
      · exact ⟨Nat.lt_of_lt_of_le l2b eD.size, .inl (by simp)⟩
      · exact ⟨(hD2 g hg).1, (hD2 g hg).2.imp (fun h => List.mem_cons_of_mem _ h) id⟩
    refine L.val rfl rfl (R.not rfl) ?_
    refine L.nil ?_
    refine N.seq ?_
    refine G.condB rfl (fun h0 => ?_) (fun h0 => ?_)
    · obtain rfl : bb = false := by simpa using h0
      refine G.ret fun _ _ => ?_
      exact ⟨b2 :: D2, X, hDD, rfl, D2, rfl, hn3, hFl rfl⟩
    · obtain rfl : bb = true := by simpa using h0
      refine G.skip ?_
      refine N.block ?_
      refine N.done fun _ _ => ?_
      exact ⟨b2 :: D2, X, hDD, D2, rfl, hn3, hT rfl, by rw [hcy]; exact B2.ext eD hn2⟩
  · rintro d DD W2 hd hdD hK ⟨D, rfl, hn2, hj, B2⟩ _
    refine N.block ?_
    refine N.end0M rfl (leave1 hK) ?_
    exact .inl ⟨D, hJ Nn D W2 _ [d] hj (Ext.putObj _ _ _) (fun g hg => by rw [List.mem_singleton.1 hg]; exact ⟨fun h => hdD (List.mem_cons_of_mem _ h), .inr (by omega)⟩), trivial⟩
  · rintro d DD k c W2 hd hdD hK hk ⟨rfl, D, rfl, hn2, hj⟩ _
    refine G.ret0M rfl (leave1 hK) ?_
    exact .inr ⟨k, D, hk, hJx k D W2 _ [d] hj (Ext.putObj _ _ _) (fun g hg => by rw [List.mem_singleton.1 hg]; exact ⟨fun h => hdD (List.mem_cons_of_mem _ h), .inr (by omega)⟩), trivial⟩

theorem walkW_iter (b1 : Nat) (gf : FuncId) (lb : List Value) (Nn : Nat) (q : Nat → Option (Pr (Int))) (F : List Nat) (w : World) (hB1 : Blk w b1 #[.func (.func gf) #[] lb.toArray] 200 (0, 0)) (eg : ∀ (vs : Array Value) w, (callFunc gf vs).run Try.prog w = .ok (.enter gf vs) w) (hit : ∀ W, Ext [] w W → Iter Try.prog gf lb W Nn (prE q) (fun _ _ => True) F []) (hF : ∀ x ∈ F, x < w.heap.size) (hq : ∀ k (p : Pr (Int)), q k = some p → p.2.length = 1 ∧ ∀ u ∈ p.2, u.oneCell' = true) : Iter Try.prog 130 [.pointer (some ⟨b1, 0, none⟩)] w Nn (kvE gv1' q) (fun _ _ => True) (b1 :: F) [] := by
  intro y D₀ J Jx W hE hD hJ hJx hY h0
  exact walk1W_ok y b1 gf lb Nn q F D₀ J Jx W (hB1.ext0 hE) eg (fun W' h => hit W' (hE.trans0 h)) (fun x hx => Nat.lt_of_lt_of_le (hF x hx) hE.size) hq hD (fun k D W₁ W₂ M' h he hm => hJ k D W₁ W₂ M' h he (fun g hg => ⟨(hm g hg).1, (hm g hg).2.imp id (Nat.le_trans hE.size)⟩)) (fun k D W₁ W₂ M' h he hm => hJx k D W₁ W₂ M' h he (fun g hg => ⟨(hm g hg).1, (hm g hg).2.imp id (Nat.le_trans hE.size)⟩)) hY h0

end Go.Proofs.Ytiiiplhfgblamaa
/-
  The walks of package order.
-/
set_option linter.unusedVariables false
set_option linter.unusedSimpArgs false
set_option maxRecDepth 4000
namespace Go.Proofs.Ytiiiplhfgblamaa
open Go Brv
theorem oallW_ok (m : Nat) (ps : List (Pr (Int))) (S : List Nat) (w : World) (hd : MapAt (κ := Int) 174 176 1 w m ps S) (hl : ps.length ≤ 99999) : Meets Try.prog 105 [.pointer (some ⟨m, 0, none⟩)] w (fun v w' => ∃ lb F, v = .func (.func 130) #[] (lb : List Value).toArray ∧ Ext [] w w' ∧ (∀ W, Ext [] w' W → Iter Try.prog 130 lb W ps.length (kvE gv1' (fun k => ps[k]?)) (fun _ _ => True) F []) ∧ ∀ x ∈ F, w.heap.size ≤ x ∧ x < w'.heap.size) := by
  refine Meets.enter Try.func105 rfl 15 rfl (Nat.le_of_ble_eq_true rfl) ?_
  have E := Ext.refl [] w
  have hd0 := hd
  obtain ⟨a, c, M, rfl, hm0, Bm, om, hok, hs⟩ := hd
  refine G.seq ?_
  refine G.region ?_
  refine L.val rfl rfl (R.as rfl) ?_
  refine L.nil ?_
  refine N.seq ?_
  refine G.seq ?_
  refine G.seq ?_
  refine G.region ?_
  refine L.val rfl rfl (R.mv rfl) ?_
  refine L.val rfl rfl (R.eqNilP rfl rfl) ?_
  refine L.nil ?_
  refine N.seq ?_
  refine G.condF rfl ?_
  refine G.skip ?_
  refine N.seq ?_
  refine G.seq ?_
  refine G.region ?_
  refine L.val rfl rfl (R.mv rfl) ?_
  refine L.val rfl rfl (R.nilChk rfl) ?_
  refine L.val rfl rfl (R.fld rfl) ?_
  refine L.val rfl rfl (R.ldB rfl Bm rfl) ?_
  refine L.callF rfl rfl rfl go125 (scW_ok _ _ _ _ _ om.cells (by rw [om.1]) (pcell_one hok) (by omega)) ?_
  rintro _ w1 ⟨a1, c1, M1, rfl, e1, o1, hM1⟩
  have hE0 := E.size
  replace E := E.trans0 e1
  have hl1 := o1.lt
  have hE1 := E.size
  refine L.callF rfl rfl rfl go124 (pallW_ok a1 ps.length c1 _) ?_
  rintro _ w2 ⟨b0, rfl, e2, B0, hb0⟩
  have hE2 := E.size
  replace E := E.trans0 e2
  replace o1 := o1.ext0 e2
  have l0 := B0.lt
  have hE3 := E.size
  refine L.callF rfl rfl rfl go123 (walkW_ok 131 [.pointer (some ⟨b0, 0, none⟩)] _) ?_
  rintro _ w3 ⟨b1, rfl, e3, B1, hb1⟩
  replace E := E.trans0 e3
  replace o1 := o1.ext0 e3
  replace B0 := B0.ext0 e3
  have l1 := B1.lt
  have hs3 := e3.size
  have hs2 := e2.size
  have hFl : ∀ y ∈ b1 :: b0 :: M1, w.heap.size ≤ y ∧ y < w3.heap.size := by
    intro y hy
    simp only [List.mem_cons] at hy
    rcases hy with rfl | rfl | hy
    · exact ⟨by omega, l1⟩
    · exact ⟨by omega, by omega⟩
    · have := hl1 y hy; have := hM1 y hy; exact ⟨by omega, by omega⟩
  refine L.val rfl rfl (R.as rfl) ?_
  refine L.nil ?_
  refine N.seq ?_
  refine G.ret1 rfl rfl ?_
  exact ⟨[.pointer (some ⟨b1, 0, none⟩)], b1 :: b0 :: M1, rfl, E, fun W hW => walkW_iter b1 131 [.pointer (some ⟨b0, 0, none⟩)] ps.length (fun k => ps[k]?) (b0 :: M1) W (B1.ext0 hW) go131 (fun W' h => pallW_iter b0 a1 ps.length c1 ps M1 W' (B0.ext0 (hW.trans0 h)) (o1.ext0 (hW.trans0 h)) (by simp) hok (by omega)) (fun y hy => Nat.lt_of_lt_of_le (hFl y (List.mem_cons_of_mem _ hy)).2 hW.size) (fun k p hp => hok p (List.mem_of_getElem? hp)), hFl⟩

theorem okeysW_ok (m : Nat) (ps : List (Pr (Int))) (S : List Nat) (w : World) (hd : MapAt (κ := Int) 174 176 1 w m ps S) (hl : ps.length ≤ 99999) : Meets Try.prog 83 [.pointer (some ⟨m, 0, none⟩)] w (Cloned w 3 1 ps.length (ps.map fun p => Key.val p.1)) := by
  refine Meets.enter Try.func83 rfl 14 rfl (Nat.le_of_ble_eq_true rfl) ?_
  have E := Ext.refl [] w
  refine G.seq ?_
  refine G.region ?_
  refine L.val rfl rfl (R.as rfl) ?_
  refine L.nil ?_
  refine N.seq ?_
  refine G.seq ?_
  refine G.region ?_
  refine L.do rfl rfl (R.alloc) ?_
  rintro _ w1 ⟨b3, rfl, hb3, hs3, e1, B3⟩
  replace B3 : Blk w1 b3 #[.slice none 0 0] 67 (0, 0) := B3
  replace E := E.trans0 e1
  refine L.nil ?_
  refine N.seq ?_
  refine G.seq ?_
  refine G.seq ?_
  refine G.region ?_
  refine L.val rfl rfl (R.mv rfl) ?_
  refine L.callF rfl rfl rfl go105 (oallW_ok m ps S _ (hd.ext0 E) hl) ?_
  rintro _ w2 ⟨lb, Fp, rfl, e2, hit, hFp⟩
  have hE1 := E.size
  replace E := E.trans0 e2
  have l3 := B3.lt
  replace B3 := B3.ext0 e2
  have hE2 := E.size
  have hFn : b3 ∉ Fp := fun h => by have := hFp _ h; omega
  refine L.nil ?_
  refine N.seq ?_
  refine G.block ?_
  have hD0 : ∀ y ∈ [b3], y < w2.heap.size ∧ y ∉ Fp ∧ y ∉ ([] : List Nat) := by
    intro y hy
    rw [List.mem_singleton] at hy
    subst hy
    exact ⟨B3.lt, hFn, by simp⟩
  have hI0 : keysI ps 67 3 b3 w 0 [b3] w2 := ⟨none, 0, [], rfl, B3, Own.nil _ _ _, by simp, by omega, E⟩
  refine G.range (lb := lb) rfl rfl go130 (hit _ (Ext.refl _ _)) (fun _ _ _ h _ => h) [b3] hD0 (fun y h => h.elim (fun h => (hFp y h).2) (by simp)) (keysI ps 67 3 b3 w) (fun _ _ _ _ => False) (fun k D W1 W2 M2 h he hm => keysI_keep hE2 h he hm) (fun _ _ _ _ _ _ h _ _ => h) hI0 ?_ ?_ ?_
  · rintro l k D vs W1 hl2 hlt hlD hDl hk hIk ⟨p, hp, rfl⟩
    refine ⟨rfl, ?_⟩
    refine G.sub [(7, .int .i64 p.1), (3, .pointer (some ⟨b3, 0, none⟩))] (Sub.cons rfl (Sub.cons rfl (Sub.nil _))) ?_
    refine G.region ?_
    refine L.val rfl rfl (R.as rfl) ?_
    refine L.nil ?_
    refine N.round (Ext.refl _ _) (fun wb hb1 hb2 => ?_)
    obtain ⟨a1, c1, MB, rfl, B3, o, hMB, h3, E⟩ := hIk
    replace B3 := B3.still hb2
    replace o := o.still hb2
    replace E := E.transN hb1 (fun g hg => .inr (by rw [List.mem_singleton.1 hg]; omega))
    have hEb := E.size
    have l3 := B3.lt
    have hlo := o.lt
    have hn3 : b3 ∉ MB := fun h => (hMB _ h).2 rfl
    refine G.block ?_
    refine G.region ?_
    refine L.val rfl rfl (R.ldB rfl B3 rfl) ?_
    refine L.val rfl rfl (R.mv rfl) ?_
    refine L.do rfl rfl (R.buildA rfl rfl rfl rfl rfl) ?_
    rintro _ w6 ⟨b11, rfl, hb11, hs6, e6, B11⟩
    replace B11 : Blk w6 b11 #[.int .i64 p.1] 3 (0, 0) := B11
    have X6 : Ext (b3 :: MB) wb w6 := e6.mono (by simp)
    replace E := E.trans0 e6
    replace B3 := B3.ext0 e6
    replace o := o.ext0 e6
    have hs6e := e6.size
    refine L.do rfl rfl (R.app rfl rfl o (Cells.of_blk B11 0 [.int .i64 p.1] (fun j v hj => by simpa using hj)) rfl (by intro u hu; rw [List.mem_singleton.1 hu]; rfl) (by simp [maxLen]; omega) (by omega)) ?_
    rintro _ w7 ⟨a3, c3, M3, rfl, e7, hM3, o3⟩
    replace B3 := B3.ext e7 hn3
    replace E : Ext [] w w7 := E.trans e7 (by simp) (fun g hg => .inr (hMB g hg).1)
    have hs7 := e7.size
    replace o3 : Own w7 3 1 a3 (k + 1) c3 ((ps.take (k + 1)).map fun p => Key.val p.1) M3 := by rw [← keys_succ hp]; exact o3
    have hM4 : ∀ g ∈ M3, w.heap.size ≤ g ∧ g ≠ b3 := fun g hg => (hM3 g hg).elim (hMB g) (fun h => ⟨by omega, by omega⟩)
    refine L.set rfl (R.st rfl rfl B3 (by show 0 < 1; decide) rfl) ?_
    rintro w8 ⟨e8, hs8, B3⟩
    replace B3 : Blk w8 b3 #[.slice a3 (k + 1) c3] 67 (0, 0) := B3
    replace o3 := o3.ext e8 (by intro g hg h; exact (hM4 g hg).2 (List.mem_singleton.1 h))
    replace E : Ext [] w w8 := E.trans e8 (by simp) (fun g hg => .inr (by rw [List.mem_singleton.1 hg]; exact h3))
    have hlo3 := o3.lt
    have X : Ext (b3 :: MB) wb w8 := (X6.transN e7 (fun g hg => .inl (List.mem_cons_of_mem _ hg))).transN e8 (fun g hg => .inl (by rw [List.mem_singleton.1 hg]; simp))
    have hD2 : ∀ g ∈ b3 :: M3, g < w8.heap.size ∧ (g ∈ b3 :: MB ∨ wb.heap.size ≤ g) := by
      intro g hg
      rcases List.mem_cons.1 hg with rfl | hg
      · exact ⟨B3.lt, .inl (by simp)⟩
      · exact ⟨hlo3 g hg, (hM3 g hg).imp (fun h => List.mem_cons_of_mem _ h) (fun h => by omega)⟩
    refine L.nil ?_
    refine N.block ?_
    refine N.done fun _ _ => ?_
    exact ⟨b3 :: M3, X, hD2, a3, c3, M3, rfl, B3, o3, hM4, h3, E⟩
  · rintro d2 D W2 hd2 hdD hK ⟨a1, c1, MB, rfl, B3, o, hMB, h3, E⟩ _
    have hst := Still.putObj (.deferred none) hK rfl
    rw [List.take_length] at o
    refine N.block ?_
    refine N.seq ?_
    refine G.seq ?_
    refine G.region ?_
    refine L.val rfl rfl (R.ldB rfl B3 rfl) ?_
    refine L.val rfl rfl (R.as rfl) ?_
    refine L.nil ?_
    refine N.seq ?_
    refine G.ret1M rfl rfl (leave1 hK) ?_
    exact ⟨a1, c1, MB, rfl, E.transN (Ext.putObj _ _ _) (fun g hg => .inr (by rw [List.mem_singleton.1 hg]; omega)), o.still hst, fun g hg => (hMB g hg).1⟩
  · rintro _ _ _ _ _ _ _ _ _ h _
    exact h.elim

end Go.Proofs.Ytiiiplhfgblamaa
/-
  The walks of package order.
-/
set_option linter.unusedVariables false
set_option linter.unusedSimpArgs false
set_option maxRecDepth 4000
namespace Go.Proofs.Ytiiiplhfgblamaa
open Go Brv
theorem delW_ok (a : Option Addr) (n c : Nat) (ps : List (Pr (Int))) (M : List Nat) (i : Nat) (w : World) (ho : Own w 176 (1 + 1) a n c (pcells ps) M) (hn : n = ps.length) (hok : OkP 1 ps) (hi : i < n) (hnl : n ≤ 1000000) : Meets Try.prog 104 [.slice a n c, .int .i64 (i : Int), .int .i64 ((i : Int) + 1)] w (fun v w' => v = .slice a (n - 1) c ∧ Ext M w w' ∧ Own w' 176 (1 + 1) a (n - 1) c (pcells (ps.take i ++ ps.drop (i + 1))) M) := by
  refine Meets.enter Try.func104 rfl 33 rfl (Nat.le_of_ble_eq_true rfl) ?_
  obtain ⟨g0, cur0, rfl, rfl, B0, hc0, hx0, hz0, ht0⟩ := ho.some (by omega)
  have hps := (pcells_take (sv := 1) hok.len i (by omega)).1
  have hpd := (pcells_take (sv := 1) hok.len (i + 1) (by omega)).2
  have hcd : (pcells (ps.drop (i + 1))).length = (n - 1 - i) * (1 + 1) := by rw [pcells_len (sv := 1) (fun q hq => (hok q (List.mem_of_mem_drop hq)).1), List.length_drop, hn]; congr 1; omega
  have hone : ∀ u ∈ (pcells (ps.drop (i + 1))), u.oneCell' = true := fun u hu => pcell_one hok u (by rw [← hpd] at hu; exact List.mem_of_mem_drop hu)
  have hCd : Cells w (subA (some ⟨g0, 0, none⟩) (i + 1) c 2) (pcells (ps.drop (i + 1))) := by
    by_cases h9 : i + 1 < c
    · have h8 := (ho.cells).sub (i + 1) c 2 ((n - 1 - i) * 2) (by rw [ho.1, show 1 + 1 = 2 from rfl, ← Nat.add_mul]; exact Nat.mul_le_mul_right _ (by omega)) (by omega)
      rw [show (2 : Nat) = 1 + 1 from rfl, hpd, List.take_of_length_le (by rw [hcd]; exact Nat.le_refl _)] at h8
      exact h8
    · have h8 : (pcells (ps.drop (i + 1))) = [] := List.eq_nil_of_length_eq_zero (by rw [hcd, show n - 1 - i = 0 by omega, Nat.zero_mul])
      rw [h8]
      intro j v hj
      cases hj
  refine G.seq ?_
  refine G.region ?_
  refine L.val rfl rfl (R.as rfl) ?_
  refine L.nil ?_
  refine N.seq ?_
  refine G.seq ?_
  refine G.region ?_
  refine L.val rfl rfl (R.mv rfl) ?_
  refine L.val rfl rfl (R.mv rfl) ?_
  refine L.val rfl rfl (R.mv rfl) ?_
  refine L.val rfl rfl (R.mv rfl) ?_
  refine L.val rfl rfl (R.lenS rfl) ?_
  refine L.val rfl rfl (R.slLHM rfl rfl rfl rfl (by omega) (by omega) (by omega) (by omega)) ?_
  refine L.nil ?_
  refine N.seq ?_
  refine G.seq ?_
  refine G.seq ?_
  refine G.region ?_
  refine L.val rfl rfl (R.mv rfl) ?_
  refine L.val rfl rfl (R.mv rfl) ?_
  refine L.val rfl rfl (R.eqI rfl rfl) ?_
  refine L.nil ?_
  refine N.seq ?_
  refine G.condP rfl (fun h0 => ?_) (fun h0 => ?_)
  · exfalso; omega
  · refine G.skip ?_
    refine N.seq ?_
    refine G.seq ?_
    refine G.region ?_
    refine L.val rfl rfl (R.mv rfl) ?_
    refine L.val rfl rfl (R.lenS rfl) ?_
    refine L.val rfl rfl (R.as rfl) ?_
    refine L.nil ?_
    refine N.seq ?_
    refine G.seq ?_
    refine G.staged [6] [.blocks ([g0])] [fun w' => Ext [] w w', fun w' => Ext [g0] w w' ∧ Own w' 176 (1 + 1) (some ⟨g0, 0, none⟩) (n - 1) c (pcells (ps.take i ++ ps.drop (i + 1))) [g0]] [] (by decide +kernel) (by decide +kernel) rfl rfl rfl (fun _ h => h) ?_
    refine Z.val rfl rfl rfl rfl rfl (fun w1 => R.mv rfl) ?_
    refine Z.val rfl rfl rfl rfl rfl (fun w1 => R.mv rfl) ?_
    refine Z.val rfl rfl rfl rfl rfl (fun w1 => R.slH rfl rfl (by omega) (by omega)) ?_
    refine Z.be 22 rfl (show _ = Value.slice (some ⟨g0, 0, none⟩) i c by rw [subA_zero, Int.toNat_natCast]) ?_
    refine Z.val rfl rfl rfl rfl rfl (fun w1 => R.mv rfl) ?_
    refine Z.val rfl rfl rfl rfl rfl (fun w1 => R.mv rfl) ?_
    refine Z.val rfl rfl rfl rfl rfl (fun w1 => R.slL rfl rfl (by omega) (by omega)) ?_
    refine Z.be 25 rfl (show _ = Value.slice (subA (some ⟨g0, 0, none⟩) (i + 1) c 2) (n - 1 - i) (c - (i + 1)) by rw [show ((i : Int) + 1).toNat = i + 1 by omega, show n - (i + 1) = n - 1 - i by omega]) ?_
    refine Z.put (A := fun v _ => v = .slice (some ⟨g0, 0, none⟩) (n - 1) c) (Lasts.kill (fun _ _ _ _ h => h) (by decide +kernel)) 0 (by decide +kernel) rfl rfl rfl rfl rfl rfl rfl (fun w1 hJ => (R.app2 rfl rfl ((ho.pre (i := i) (by omega)).ext0 hJ) (hCd.ext0 hJ) hcd hone (by simp [maxLen]; omega) (by omega)).mono (fun v w9 h => by
      obtain ⟨a9, c9, M9, rfl, e9, _, o9, hin⟩ := h
      obtain ⟨rfl, rfl, rfl⟩ := hin (by omega)
      rw [hps, ← pcells_append, show i + (n - 1 - i) = n - 1 by omega] at o9
      exact ⟨by rw [show i + (n - 1 - i) = n - 1 by omega], e9, e9.after hJ, o9⟩)) ?_
    refine Z.valR (A := fun v _ => v = .slice (some ⟨g0, 0, none⟩) (n - 1) c) (Lasts.kill (fun _ _ _ _ h => h) (by decide +kernel)) rfl rfl rfl rfl (fun w1 => fun v hv => ⟨v, R.as rfl, hv⟩) ?_
    refine Z.nil rfl rfl (fun w1 hJ => ?_)
    obtain ⟨e3, o3⟩ := hJ
    rintro _ rfl _ rfl
    obtain ⟨cur3, _, B3, hc3, hx3, hz3, ht3⟩ := o3.inv
    have hzz : (n - 1) * 2 + 1 * 2 ≤ cur3.size := by
      have h9 : (n - 1 + 1) * 2 ≤ c * 2 := Nat.mul_le_mul_right _ (by omega)
      rw [Nat.add_mul] at h9
      exact Nat.le_trans h9 hz3
    refine N.seq ?_
    refine G.seq ?_
    refine G.region ?_
    refine L.val rfl rfl (R.mv rfl) ?_
    refine L.val rfl rfl (R.mv rfl) ?_
    refine L.val rfl rfl (R.lenS rfl) ?_
    refine L.val rfl rfl (R.mv rfl) ?_
    refine L.val rfl rfl (R.slLH rfl rfl rfl (by omega) (by omega) (by omega)) ?_
    refine L.be 31 rfl (show _ = Value.slice (some ⟨g0, (n - 1) * 2, none⟩) (0 + 1) (c - (n - 1)) by rw [Int.toNat_natCast, Int.toNat_natCast, subA_lit (by omega), Nat.zero_add, show n - (n - 1) = 0 + 1 by omega]) ?_
    refine L.do0 rfl (R.clearN (m := 0) rfl B3 (by omega) (by decide) (by intro u hu; simp [Value.cells] at hu; first | (rcases hu with rfl | rfl <;> rfl) | (rcases hu with rfl | rfl | rfl <;> rfl) | (rcases hu with rfl | rfl | rfl | rfl <;> rfl) | (rcases hu with rfl | rfl | rfl | rfl | rfl <;> rfl))) ?_
    rintro _ w4 P4
    obtain ⟨e4, hs4, B4⟩ := P4
    have X := e3.transN e4 (fun x hx => .inl hx)
    refine L.nil ?_
    refine N.seq ?_
    refine G.seq ?_
    refine G.region ?_
    refine L.val rfl rfl (R.mv rfl) ?_
    refine L.val rfl rfl (R.as rfl) ?_
    refine L.nil ?_
    refine N.seq ?_
    refine G.ret1 rfl rfl ?_
    exact ⟨rfl, X, own_over o3.1 B4 (by rw [Array.length_toList, size_zeroCells]; exact hzz) hc3 hx3 hz3 ht3⟩

theorem odelW_ok (m : Nat) (ps : List (Pr (Int))) (S : List Nat) (k : Int) (w : World) (hd : MapAt (κ := Int) 174 176 1 w m ps S) (hl : ps.length ≤ 99999) : Meets Try.prog 82 [.pointer (some ⟨m, 0, none⟩), .int .i64 k] w (fun v w' => v = .bool (hasK ps k) ∧ ∃ S', Grown S S' w w' ∧ MapAt (κ := Int) 174 176 1 w' m (delK ps k) S') := by
  refine Meets.enter Try.func82 rfl 28 rfl (Nat.le_of_ble_eq_true rfl) ?_
  have E := Ext.refl [] w
  have hd0 := hd
  obtain ⟨a, c, M, rfl, hm0, Bm, om, hok, hs⟩ := hd
  refine G.seq ?_
  refine G.region ?_
  refine L.val rfl rfl (R.as rfl) ?_
  refine L.nil ?_
  refine N.seq ?_
  refine G.seq ?_
  refine G.seq ?_
  refine G.region ?_
  refine L.val rfl rfl (R.mv rfl) ?_
  refine L.val rfl rfl (R.eqNilP rfl rfl) ?_
  refine L.nil ?_
  refine N.seq ?_
  refine G.condF rfl ?_
  refine G.skip ?_
  refine N.seq ?_
  refine G.seq ?_
  refine G.region ?_
  refine L.val rfl rfl (R.mv rfl) ?_
  refine L.val rfl rfl (R.mv rfl) ?_
  refine L.callF rfl rfl rfl go101 (findW_ok m ps (m :: M) k _ hd0 (by omega)) ?_
  rintro _ w1 ⟨rfl, e1⟩
  replace E := E.trans0 e1
  replace Bm := Bm.ext0 e1
  replace om := om.ext0 e1
  refine L.val rfl rfl (R.mv rfl) ?_
  refine L.val rfl rfl (R.ext rfl rfl) ?_
  refine L.val rfl rfl (R.ext rfl rfl) ?_
  refine L.val rfl rfl (R.as rfl) ?_
  refine L.val rfl rfl (R.as rfl) ?_
  refine L.nil ?_
  refine N.seq ?_
  refine G.seq ?_
  refine G.seq ?_
  refine G.region ?_
  refine L.val rfl rfl (R.mv rfl) ?_
  refine L.nil ?_
  refine N.seq ?_
  refine G.condB rfl (fun h1 => ?_) (fun h1 => ?_)
  · have hk : hasK ps k = true := h1
    have hlt := hasK_lt hk
    have hdl : (delK ps k).length = ps.length - 1 := by rw [delK_yes hk, List.length_append, List.length_take, List.length_drop]; omega
    refine G.region ?_
    refine L.val rfl rfl (R.mv rfl) ?_
    refine L.val rfl rfl (R.mv rfl) ?_
    refine L.val rfl rfl (R.nilChk rfl) ?_
    refine L.val rfl rfl (R.fld rfl) ?_
    refine L.val rfl rfl (R.ldB rfl Bm rfl) ?_
    refine L.val rfl rfl (R.mv rfl) ?_
    refine L.val rfl rfl (R.mv rfl) ?_
    refine L.val rfl rfl (R.add rfl rfl (by omega)) ?_
    refine L.callF rfl rfl rfl go104 (delW_ok a ps.length c ps M (low ps k) _ om rfl hok hlt (by omega)) ?_
    rintro _ w2 ⟨rfl, e2, o2⟩
    replace Bm := Bm.ext e2 hm0
    refine L.val rfl rfl (R.nilChk rfl) ?_
    refine L.val rfl rfl (R.fld rfl) ?_
    refine L.set rfl (R.st rfl rfl Bm (by show 0 < 1; decide) rfl) ?_
    rintro w4 ⟨e4, hs4, Bm⟩
    replace Bm : Blk w4 m #[.slice a (ps.length - 1) c] 174 (0, 0) := Bm
    have o4 := o2.ext e4 (by intro g hg h; rw [List.mem_singleton.1 h] at hg; exact hm0 hg)
    have X : Ext (m :: M) w w4 := ((e2.after E).mono (fun x hx => .inl (List.mem_cons_of_mem _ hx))).transN e4 (fun x hx => .inl (by rw [List.mem_singleton.1 hx]; simp))
    refine L.nil ?_
    refine N.seq ?_
    refine G.seq ?_
    refine G.region ?_
    refine L.val rfl rfl (R.mv rfl) ?_
    refine L.val rfl rfl (R.as rfl) ?_
    refine L.nil ?_
    refine N.seq ?_
    refine G.ret1 rfl rfl ?_
    first
      | exact ⟨by rw [hk]; rfl, m :: M, ⟨X, fun x hx => .inl hx⟩, MapAt.mk hm0 Bm hdl.symm (by rw [delK_yes hk]; exact o4) hok.del (sorted_del hs _)⟩
      | exact ⟨by rw [hk]; rfl, m :: M, ⟨E.mono (by simp), fun x hx => .inl hx⟩, by rw [delK_no hk]; exact MapAt.mk hm0 Bm rfl om hok hs⟩
  · have hk : hasK ps k = false := h1
    refine G.skip ?_
    refine N.seq ?_
    refine G.seq ?_
    refine G.region ?_
    refine L.val rfl rfl (R.mv rfl) ?_
    refine L.val rfl rfl (R.as rfl) ?_
    refine L.nil ?_
    refine N.seq ?_
    refine G.ret1 rfl rfl ?_
    first
      | exact ⟨by rw [hk]; rfl, m :: M, ⟨X, fun x hx => .inl hx⟩, MapAt.mk hm0 Bm hdl.symm (by rw [delK_yes hk]; exact o4) hok.del (sorted_del hs _)⟩
      | exact ⟨by rw [hk]; rfl, m :: M, ⟨E.mono (by simp), fun x hx => .inl hx⟩, by rw [delK_no hk]; exact MapAt.mk hm0 Bm rfl om hok hs⟩

end Go.Proofs.Ytiiiplhfgblamaa
/-
  The walks of package txn.
-/
set_option linter.unusedVariables false
set_option linter.unusedSimpArgs false
set_option maxRecDepth 4000
namespace Go.Proofs.Ytiiiplhfgblamaa
open Go Brv
def rowZ : RowW := ⟨none, 0, 0, []⟩
theorem rowZ_ok (w : World) : RowW.ok w rowZ := ⟨⟨Nat.le_refl _, by decide⟩, ⟨fun j v hj => (by cases hj), rfl, (by intro x hx; cases hx)⟩, (by intro o ho; cases ho)⟩
def psT (txs : List (Int × RowW)) : List (Pr Int) := mapT (fun r => [RowW.val r]) txs
def absT (txs : List (Int × RowW)) : List (Int × List Wr) := mapT (fun r => r.os.map wv) txs
theorem rowB2 {H H1 H2 : List Asn} {b : Nat} {cs : List Value} {T : TypeId} {p : World → Prop} (os : List WriteV) (hb : Sel H (blk b cs T) H1) (hcs : cs = cellsW os) (hs : Sel H1 (sh p) H2) (hp : ∀ w, p w → ∀ o ∈ os, o.okW w) (hl : os.length ≤ 1000) : Imp H (sh (fun w => RowW.ok w ⟨some ⟨b, 0, none⟩, os.length, os.length, os⟩) :: H2) :=
  (Imp.turn hb (B := sh (fun w => Cells w (some ⟨b, 0, none⟩) (cellsW os))) (fun F S w hA => by
    obtain ⟨F', S', h⟩ := (⟨[], F ++ S, .inl ⟨fun M w' he hS => Cells.of_blk (hA.2.ext he (hS b (by rw [hA.1]; simp))) 0 _ (fun j v hj => by rw [← hcs] at hj; simpa using hj), by simp, subR _, Apart.nilL _⟩⟩ : ∃ F' S', (sh (fun w => Cells w (some ⟨b, 0, none⟩) (cellsW os))).P F' S' w ∧ F' ⊆ F ∧ S' ⊆ F ++ S ∧ Apart F' S' ∨ (sh (fun w => Cells w (some ⟨b, 0, none⟩) (cellsW os))).P F S w)
    exact ⟨F', S', h⟩)).trans ((Imp.both .here hs).trans (Imp.weak .here fun w h => ⟨⟨Nat.le_refl _, by show os.length ≤ _; omega⟩, tabW h.1 rfl, hp w h.2⟩))
theorem psT_len (txs : List (Int × RowW)) : (psT txs).length = txs.length := by simp [psT, mapT]
theorem absT_len (txs : List (Int × RowW)) : (absT txs).length = txs.length := by simp [absT, mapT]
theorem psT_put (txs : List (Int × RowW)) (h : Int) (r : RowW) : putK (psT txs) h [.slice r.a r.n r.c] = psT (putT txs h r) := by
  unfold psT; rw [putT_map, putT_eq]; rfl
theorem psT_del (txs : List (Int × RowW)) (h : Int) : delK (psT txs) h = psT (delT txs h) := by
  unfold psT; rw [delT_map, delT_eq]
def ofV (txs : List (Int × RowW)) (h : Int) : RowW := (getT txs h).getD rowZ
def ofE {α : Type} (M : List (Int × α)) (h : Int) : Int := if hasT M h then 0 else 40
def inB (B k : Int) : Bool := decide (0 ≤ k ∧ k < B)
theorem hasT_get {α : Type} {l : List (Int × α)} {k : Int} (h : hasT l k = true) : ∃ v, getT l k = some v := by
  obtain ⟨p, hp, _⟩ := hasT_mem h
  exact ⟨p.2, by unfold getT; rw [h, hp]; rfl⟩
theorem getT_not {α : Type} {l : List (Int × α)} {k : Int} (h : hasT l k = false) : getT l k = none := by unfold getT; rw [h]; rfl
theorem ofV_val (txs : List (Int × RowW)) (h : Int) : gv1 (.slice none 0 0) (getK (psT txs) h) = (ofV txs h).val := by
  unfold psT ofV
  rw [← getT_eq, getT_map]
  cases getT txs h <;> rfl
theorem ofV_ok {txs : List (Int × RowW)} {w : World} (hk : ∀ t ∈ txs, RowW.ok w t.2) (h : Int) : RowW.ok w (ofV txs h) := by
  unfold ofV
  cases hg : getT txs h with
  | none => exact rowZ_ok w
  | some r => exact hk _ (getT_some hg)
theorem ofV_abs (txs : List (Int × RowW)) (h : Int) : (ofV txs h).os.map wv = (getT (absT txs) h).getD [] := by
  unfold ofV absT
  rw [getT_map]
  cases getT txs h <;> rfl
theorem hasT_abs (txs : List (Int × RowW)) (h : Int) : hasT (absT txs) h = hasT txs h := hasT_map _ _ _
theorem ofE_abs (txs : List (Int × RowW)) (h : Int) : ofE (absT txs) h = ofE txs h := by unfold ofE; rw [hasT_abs]
theorem ofE_zero {α : Type} {M : List (Int × α)} {h : Int} (e : ¬ ofE M h ≠ 0) : hasT M h = true := by
  unfold ofE at e
  cases hh : hasT M h with
  | true => rfl
  | false => rw [hh] at e; exact (e (by decide)).elim
theorem ofE_no {α : Type} {M : List (Int × α)} {h : Int} (e : ofE M h ≠ 0) : hasT M h = false ∧ ofE M h = 40 := by
  unfold ofE at e ⊢
  cases hh : hasT M h with
  | true => rw [hh] at e; exact (e rfl).elim
  | false => exact ⟨rfl, rfl⟩
theorem getTx (m : Nat) (txs : List (Int × RowW)) (h : Int) (S : List Nat) (w : World) (hm : MapAt (κ := Int) 174 176 1 w m (psT txs) S) (hl : txs.length ≤ 99999) : Meets Try.prog 103 [.pointer (some ⟨m, 0, none⟩), .int .i64 h] w (fun v w' => v = .tuple #[(ofV txs h).val, .bool (hasT txs h)] ∧ Ext [] w w') :=
  (getW_ok m (psT txs) S h w hm (by rw [psT_len]; exact hl)).mono fun v w' ⟨h1, h2⟩ => ⟨by rw [h1, ofV_val, ← hasT_eq]; unfold psT; rw [hasT_map], h2⟩
theorem olenTx (m : Nat) (txs : List (Int × RowW)) (S : List Nat) (w : World) (hm : MapAt (κ := Int) 174 176 1 w m (psT txs) S) (hl : txs.length ≤ 99999) : Meets Try.prog 78 [.pointer (some ⟨m, 0, none⟩)] w (fun v w' => v = .int .i64 (txs.length : Int) ∧ Ext [] w w') :=
  (olenW_ok m (psT txs) S w hm (by rw [psT_len]; exact hl)).mono fun v w' ⟨h1, h2⟩ => ⟨by rw [h1, psT_len], h2 ▸ Ext.refl _ _⟩
theorem putTx (m : Nat) (txs : List (Int × RowW)) (h : Int) (r : RowW) (hl : txs.length ≤ 99999) : SpecS Try.prog 79 [.pointer (some ⟨m, 0, none⟩), .int .i64 h, .slice r.a r.n r.c] [mp (κ := Int) 174 176 1 m (psT txs)] (fun v H' => v = .bool (!hasK (psT txs) h) ∧ H' = [mp (κ := Int) 174 176 1 m (psT (putT txs h r))]) := by
  have := SpecS.ofMap (φ := fun v => v = .bool (!hasK (psT txs) h)) (fun w S hm => putW_ok m (psT txs) S h r.a r.n r.c w hm (by rw [psT_len]; exact hl))
  rw [psT_put] at this
  exact this
theorem delTx (m : Nat) (txs : List (Int × RowW)) (h : Int) (hl : txs.length ≤ 99999) : SpecS Try.prog 82 [.pointer (some ⟨m, 0, none⟩), .int .i64 h] [mp (κ := Int) 174 176 1 m (psT txs)] (fun v H' => v = .bool (hasK (psT txs) h) ∧ H' = [mp (κ := Int) 174 176 1 m (psT (delT txs h))]) := by
  have := SpecS.ofMap (φ := fun v => v = .bool (hasK (psT txs) h)) (fun w S hm => odelW_ok m (psT txs) S h w hm (by rw [psT_len]; exact hl))
  rw [psT_del] at this
  exact this
theorem keysTx (m : Nat) (txs : List (Int × RowW)) (S : List Nat) (w : World) (hm : MapAt (κ := Int) 174 176 1 w m (psT txs) S) (hl : txs.length ≤ 99999) : Meets Try.prog 83 [.pointer (some ⟨m, 0, none⟩)] w (Cloned w 3 1 txs.length (txs.map fun t => .int .i64 t.1)) := by
  have := okeysW_ok m (psT txs) S w hm (by rw [psT_len]; exact hl)
  rw [psT_len, show ((psT txs).map fun p => Key.val p.1) = txs.map fun t => .int .i64 t.1 by simp [psT, mapT, Function.comp_def, Key.val]] at this
  exact this

theorem txof_ok (b m : Nat) (B L : Int) (txs : List (Int × RowW)) (h : Int) (hl : txs.length ≤ 1000) : SpecS Try.prog 80 [.pointer (some ⟨b, 0, none⟩), .int .i64 h] [blk b [.int .i64 B, .int .i64 L, .pointer (some ⟨m, 0, none⟩)] 137, mp (κ := Int) 174 176 1 m (psT txs), sh (fun w => ∀ t ∈ txs, RowW.ok w t.2)] (fun v H' => v = .tuple #[(ofV txs h).val, .int .i64 (ofE txs h)] ∧ H' = [blk b [.int .i64 B, .int .i64 L, .pointer (some ⟨m, 0, none⟩)] 137, mp (κ := Int) 174 176 1 m (psT txs), sh (fun w => ∀ t ∈ txs, RowW.ok w t.2)]) := by
  refine SpecS.enter Try.func80 rfl 22 rfl (Nat.le_of_ble_eq_true rfl) (fun o => ?_)
  refine SG.seq ?_
  refine SG.region ?_
  refine SL.val rfl rfl (fun w9 F9 S9 s => R.as rfl) ?_
  refine SL.val rfl rfl (fun w9 F9 S9 s => R.as rfl) ?_
  refine SL.nil ?_
  refine SN.seq ?_
  refine SG.seq ?_
  refine SG.seq ?_
  refine SG.region ?_
  refine SL.val rfl rfl (fun w9 F9 S9 s => R.mv rfl) ?_
  refine SL.val rfl rfl (fun w9 F9 S9 s => R.eqNilP rfl rfl) ?_
  refine SL.nil ?_
  refine SN.seq ?_
  refine SG.condF rfl ?_
  refine SG.skip ?_
  refine SN.seq ?_
  refine SG.seq ?_
  refine SG.region ?_
  refine SL.val rfl rfl (fun w9 F9 S9 s => R.mv rfl) ?_
  refine SL.val rfl rfl (fun w9 F9 S9 s => R.nilChk rfl) ?_
  refine SL.val rfl rfl (fun w9 F9 S9 s => R.fld rfl) ?_
  refine SL.val rfl rfl (fun w9 F9 S9 s => R.ldB rfl (s.cel (by repeat (first | exact SelB.blk | exact SelB.fz | apply SelB.there))) (by rfl)) ?_
  refine SL.val rfl rfl (fun w9 F9 S9 s => R.mv rfl) ?_
  refine SL.step rfl rfl (CS.callR rfl go103 (fun w9 F9 S9 s => (s.mp (show Sel _ (mp (κ := Int) 174 176 1 m (psT txs)) _ from (by repeat (first | exact Sel.keep | exact Sel.here | apply Sel.there)))).elim fun S9 h9 => getTx m txs h S9 w9 h9 (by omega))) ?_
  rintro _ _ ⟨rfl, rfl⟩
  refine SL.val rfl rfl (fun w9 F9 S9 s => R.mv rfl) ?_
  refine SL.val rfl rfl (fun w9 F9 S9 s => R.ext rfl rfl) ?_
  refine SL.val rfl rfl (fun w9 F9 S9 s => R.ext rfl rfl) ?_
  refine SL.val rfl rfl (fun w9 F9 S9 s => R.as rfl) ?_
  refine SL.val rfl rfl (fun w9 F9 S9 s => R.as rfl) ?_
  refine SL.nil ?_
  refine SN.seq ?_
  refine SG.seq ?_
  refine SG.seq ?_
  refine SG.region ?_
  refine SL.val rfl rfl (fun w9 F9 S9 s => R.mv rfl) ?_
  refine SL.val rfl rfl (fun w9 F9 S9 s => R.not rfl) ?_
  refine SL.nil ?_
  refine SN.seq ?_
  refine SG.condB rfl (fun h1 => ?_) (fun h1 => ?_)
  · refine SG.seq ?_
    refine SG.region ?_
    refine SL.val rfl rfl (fun w9 F9 S9 s => R.as rfl) ?_
    refine SL.val rfl rfl (fun w9 F9 S9 s => R.as rfl) ?_
    refine SL.nil ?_
    refine SN.seq ?_
    exact SG.ret2 rfl rfl rfl ((Imp.sels (by repeat (first | exact Sels.nil | apply Sels.cons | exact Sel.keep | exact Sel.here | apply Sel.there)))) (⟨by unfold ofE ofV; rw [getT_not (by simpa using h1), show hasT txs h = false by simpa using h1]; rfl, rfl⟩)
  · refine SG.skip ?_
    refine SN.seq ?_
    refine SG.seq ?_
    refine SG.region ?_
    refine SL.val rfl rfl (fun w9 F9 S9 s => R.mv rfl) ?_
    refine SL.val rfl rfl (fun w9 F9 S9 s => R.as rfl) ?_
    refine SL.val rfl rfl (fun w9 F9 S9 s => R.as rfl) ?_
    refine SL.nil ?_
    refine SN.seq ?_
    exact SG.ret2 rfl rfl rfl ((Imp.sels (by repeat (first | exact Sels.nil | apply Sels.cons | exact Sel.keep | exact Sel.here | apply Sel.there)))) (⟨by unfold ofE; rw [show hasT txs h = true by simpa using h1]; rfl, rfl⟩)

theorem txthere_ok (b : Nat) (B L : Int) (x : Value) (k : Int) : SpecS Try.prog 81 [.pointer (some ⟨b, 0, none⟩), .int .i64 k] [blk b [.int .i64 B, .int .i64 L, x] 137] (fun v H' => v = .bool (inB B k) ∧ H' = [blk b [.int .i64 B, .int .i64 L, x] 137]) := by
  refine SpecS.enter Try.func81 rfl 15 rfl (Nat.le_of_ble_eq_true rfl) (fun o => ?_)
  refine SG.seq ?_
  refine SG.region ?_
  refine SL.val rfl rfl (fun w9 F9 S9 s => R.as rfl) ?_
  refine SL.nil ?_
  refine SN.seq ?_
  refine SG.seq ?_
  refine SG.region ?_
  refine SL.val rfl rfl (fun w9 F9 S9 s => R.mv rfl) ?_
  refine SL.val rfl rfl (fun w9 F9 S9 s => R.geq rfl rfl) ?_
  refine SL.val rfl rfl (fun w9 F9 S9 s => R.mv rfl) ?_
  refine SL.caseP 7 rfl (fun hg1_2 => ?_) (fun hg1_2 => ?_)
  · refine SL.val rfl rfl (fun w9 F9 S9 s => R.mv rfl) ?_
    refine SL.val rfl rfl (fun w9 F9 S9 s => R.mv rfl) ?_
    refine SL.val rfl rfl (fun w9 F9 S9 s => R.nilChk rfl) ?_
    refine SL.val rfl rfl (fun w9 F9 S9 s => R.fld rfl) ?_
    refine SL.val rfl rfl (fun w9 F9 S9 s => R.ldB rfl (s.cel (by repeat (first | exact SelB.blk | exact SelB.fz | apply SelB.there))) (by rfl)) ?_
    refine SL.val rfl rfl (fun w9 F9 S9 s => R.lss rfl rfl) ?_
    first | refine SL.val rfl rfl (fun w9 F9 S9 s => R.pickT rfl rfl) ?_ | refine SL.val rfl rfl (fun w9 F9 S9 s => R.pickF rfl rfl) ?_
    refine SL.val rfl rfl (fun w9 F9 S9 s => R.as rfl) ?_
    refine SL.nil ?_
    refine SN.seq ?_
    exact SG.ret1 rfl rfl ((Imp.sels (by repeat (first | exact Sels.nil | apply Sels.cons | exact Sel.keep | exact Sel.here | apply Sel.there)))) (⟨congrArg Value.bool (by unfold inB; simp [hg1_2]), rfl⟩)
  · refine SL.pass rfl rfl ?_
    refine SL.pass rfl rfl ?_
    refine SL.pass rfl rfl ?_
    refine SL.pass rfl rfl ?_
    refine SL.pass rfl rfl ?_
    refine SL.pass rfl rfl ?_
    first | refine SL.val rfl rfl (fun w9 F9 S9 s => R.pickT rfl rfl) ?_ | refine SL.val rfl rfl (fun w9 F9 S9 s => R.pickF rfl rfl) ?_
    refine SL.val rfl rfl (fun w9 F9 S9 s => R.as rfl) ?_
    refine SL.nil ?_
    refine SN.seq ?_
    exact SG.ret1 rfl rfl ((Imp.sels (by repeat (first | exact Sels.nil | apply Sels.cons | exact Sel.keep | exact Sel.here | apply Sel.there)))) (⟨congrArg Value.bool (by unfold inB; simp [hg1_2]), rfl⟩)

end Go.Proofs.Ytiiiplhfgblamaa
/-
  The walks of package txn.
-/
set_option linter.unusedVariables false
set_option linter.unusedSimpArgs false
set_option maxRecDepth 4000
namespace Go.Proofs.Ytiiiplhfgblamaa
open Go Brv
def wrE {α : Type} (B : Int) (M : List (Int × α)) (h k : Int) (n : Nat) : Int := if hasT M h then (if inB B k then (if n = 64 then 0 else 42) else 41) else 40
def wrM (B : Int) (M : List (Int × List Wr)) (h k : Int) (d : List UInt8) : List (Int × List Wr) := if wrE B M h k d.length = 0 then putT M h (mgW ((getT M h).getD [] ++ [(k, d)])) else M
theorem wrE_abs (B : Int) (txs : List (Int × RowW)) (h k : Int) (n : Nat) : wrE B (absT txs) h k n = wrE B txs h k n := by unfold wrE; rw [hasT_abs]
theorem put_ok2 {txs : List (Int × RowW)} {h : Int} {r : RowW} {w : World} (h1 : ∀ t ∈ txs, RowW.ok w t.2) (h2 : RowW.ok w r) : ∀ t ∈ putT txs h r, RowW.ok w t.2 := fun t ht => (mem_putT ht).elim (fun e => by rw [e]; exact h2) (h1 t)
theorem del_ok2 {txs : List (Int × RowW)} {h : Int} {w : World} (h1 : ∀ t ∈ txs, RowW.ok w t.2) : ∀ t ∈ delT txs h, RowW.ok w t.2 := fun t ht => h1 t (mem_delT ht)
theorem ofV_len {txs : List (Int × RowW)} {k : Nat} (h : ∀ t ∈ txs, t.2.os.length ≤ k) (x : Int) : (ofV txs x).os.length ≤ k := by
  unfold ofV
  cases hg : getT txs x with
  | none => exact Nat.zero_le _
  | some r => exact h _ (getT_some hg)
theorem wrM_put {B : Int} {txs : List (Int × RowW)} {h k : Int} {d : List UInt8} {r : RowW} (he : wrE B txs h k d.length = 0) (hr : r.os.map wv = mgW ((ofV txs h).os.map wv ++ [(k, d)])) : absT (putT txs h r) = wrM B (absT txs) h k d := by
  unfold wrM
  rw [wrE_abs, if_pos he, ← ofV_abs, ← hr]
  exact putT_map _ _ _ _

theorem txwrite_ok (b m : Nat) (B L : Int) (txs : List (Int × RowW)) (h k : Int) (a : Option Addr) (n c : Nat) (d : List UInt8) (hl : txs.length ≤ 1000) (hol : ∀ t ∈ txs, t.2.os.length ≤ 1000) (hnc : n ≤ c) (hc : c ≤ 140737488351232) (hnd : n = d.length) : SpecS Try.prog 30 [.pointer (some ⟨b, 0, none⟩), .int .i64 h, .int .i64 k, .slice a n c] [blk b [.int .i64 B, .int .i64 L, .pointer (some ⟨m, 0, none⟩)] 137, mp (κ := Int) 174 176 1 m (psT txs), sh (fun w => ∀ t ∈ txs, RowW.ok w t.2), bs a n d] (fun v H' => ∃ txs', v = .int .i64 (wrE B txs h k d.length) ∧ absT txs' = wrM B (absT txs) h k d ∧ H' = [blk b [.int .i64 B, .int .i64 L, .pointer (some ⟨m, 0, none⟩)] 137, mp (κ := Int) 174 176 1 m (psT txs'), sh (fun w => ∀ t ∈ txs', RowW.ok w t.2)]) := by
  refine SpecS.enter Try.func30 rfl 43 rfl (Nat.le_of_ble_eq_true rfl) (fun o => ?_)
  refine SG.seq ?_
  refine SG.region ?_
  refine SL.val rfl rfl (fun w9 F9 S9 s => R.as rfl) ?_
  refine SL.nil ?_
  refine SN.seq ?_
  refine SG.seq ?_
  refine SG.region ?_
  refine SL.val rfl rfl (fun w9 F9 S9 s => R.mv rfl) ?_
  refine SL.val rfl rfl (fun w9 F9 S9 s => R.mv rfl) ?_
  refine SL.step rfl rfl (CS.call rfl go80 (txof_ok b m B L txs h hl) (by repeat (first | exact Sels.nil | apply Sels.cons | exact Sel.keep | exact Sel.here | apply Sel.there))) ?_
  rintro _ _ ⟨_, ⟨rfl, rfl⟩, rfl⟩
  refine SL.n3 ?_
  refine SL.val rfl rfl (fun w9 F9 S9 s => R.mv rfl) ?_
  refine SL.val rfl rfl (fun w9 F9 S9 s => R.ext rfl rfl) ?_
  refine SL.val rfl rfl (fun w9 F9 S9 s => R.ext rfl rfl) ?_
  refine SL.val rfl rfl (fun w9 F9 S9 s => R.as rfl) ?_
  refine SL.val rfl rfl (fun w9 F9 S9 s => R.as rfl) ?_
  refine SL.nil ?_
  refine SN.seq ?_
  refine SG.seq ?_
  refine SG.block ?_
  refine SG.seq ?_
  refine SG.region ?_
  refine SL.val rfl rfl (fun w9 F9 S9 s => R.mv rfl) ?_
  refine SL.val rfl rfl (fun w9 F9 S9 s => R.neI rfl rfl) ?_
  refine SL.val rfl rfl (fun w9 F9 S9 s => R.as rfl) ?_
  refine SL.nil ?_
  refine SN.seq ?_
  refine SG.condP rfl (fun h0 => ?_) (fun h0 => ?_)
  · obtain ⟨hno, hE⟩ := ofE_no h0
    have hwE : wrE B txs h k d.length = 40 := by unfold wrE; rw [hno]; rfl
    rw [hE]
    refine SG.seq ?_
    refine SG.region ?_
    refine SL.val rfl rfl (fun w9 F9 S9 s => R.mv rfl) ?_
    refine SL.val rfl rfl (fun w9 F9 S9 s => R.as rfl) ?_
    refine SL.nil ?_
    refine SN.seq ?_
    exact SG.ret1 rfl rfl ((Imp.sels (by repeat (first | exact Sels.nil | apply Sels.cons | exact Sel.keep | exact Sel.here | apply Sel.there)))) (⟨txs, congrArg (Value.int .i64) hwE.symm, by unfold wrM; rw [wrE_abs, if_neg (by rw [hwE]; decide)], rfl⟩)
  · have hhas := ofE_zero h0
    refine SG.seq ?_
    refine SG.region ?_
    refine SL.val rfl rfl (fun w9 F9 S9 s => R.mv rfl) ?_
    refine SL.val rfl rfl (fun w9 F9 S9 s => R.mv rfl) ?_
    refine SL.step rfl rfl (CS.call rfl go81 (txthere_ok b B L (.pointer (some ⟨m, 0, none⟩)) k) (by repeat (first | exact Sels.nil | apply Sels.cons | exact Sel.keep | exact Sel.here | apply Sel.there))) ?_
    rintro _ _ ⟨_, ⟨rfl, rfl⟩, rfl⟩
    refine SL.n1 ?_
    refine SL.val rfl rfl (fun w9 F9 S9 s => R.not rfl) ?_
    refine SL.val rfl rfl (fun w9 F9 S9 s => R.as rfl) ?_
    refine SL.nil ?_
    refine SN.seq ?_
    refine SG.condB rfl (fun h1 => ?_) (fun h1 => ?_)
    · have hwE : wrE B txs h k d.length = 41 := by unfold wrE; rw [hhas, show inB B k = false by simpa using h1]; rfl
      refine SG.seq ?_
      refine SG.region ?_
      refine SL.val rfl rfl (fun w9 F9 S9 s => R.as rfl) ?_
      refine SL.nil ?_
      refine SN.seq ?_
      exact SG.ret1 rfl rfl ((Imp.sels (by repeat (first | exact Sels.nil | apply Sels.cons | exact Sel.keep | exact Sel.here | apply Sel.there)))) (⟨txs, congrArg (Value.int .i64) hwE.symm, by unfold wrM; rw [wrE_abs, if_neg (by rw [hwE]; decide)], rfl⟩)
    · refine SG.seq ?_
      refine SG.region ?_
      refine SL.val rfl rfl (fun w9 F9 S9 s => R.mv rfl) ?_
      refine SL.val rfl rfl (fun w9 F9 S9 s => R.lenS rfl) ?_
      refine SL.val rfl rfl (fun w9 F9 S9 s => R.neI rfl rfl) ?_
      refine SL.val rfl rfl (fun w9 F9 S9 s => R.as rfl) ?_
      refine SL.nil ?_
      refine SN.seq ?_
      refine SG.condP rfl (fun h2 => ?_) (fun h2 => ?_)
      · have hwE : wrE B txs h k d.length = 42 := by unfold wrE; rw [hhas, show inB B k = true by simpa using h1, if_pos rfl, if_pos rfl, if_neg (by omega)]
        refine SG.seq ?_
        refine SG.region ?_
        refine SL.val rfl rfl (fun w9 F9 S9 s => R.as rfl) ?_
        refine SL.nil ?_
        refine SN.seq ?_
        exact SG.ret1 rfl rfl ((Imp.sels (by repeat (first | exact Sels.nil | apply Sels.cons | exact Sel.keep | exact Sel.here | apply Sel.there)))) (⟨txs, congrArg (Value.int .i64) hwE.symm, by unfold wrM; rw [wrE_abs, if_neg (by rw [hwE]; decide)], rfl⟩)
      · have hwE : wrE B txs h k d.length = 0 := by unfold wrE; rw [hhas, show inB B k = true by simpa using h1, if_pos rfl, if_pos rfl, if_pos (by omega)]
        have hvl := ofV_len hol h
        refine SG.skip ?_
        refine SN.block ?_
        refine SN.seq ?_
        refine SG.seq ?_
        refine SG.draw [9, 10, 11, 12] [0, 1, 2, 3, 4, 5, 6, 7, 8, 9, 10, 11, 12] (by decide +kernel) rfl ?_
        refine SW.pure rfl rfl rfl rfl (fun w9 => R.mv rfl) ?_
        refine SW.pure rfl rfl rfl rfl (fun w9 => R.nilChk rfl) ?_
        refine SW.pure rfl rfl rfl rfl (fun w9 => R.fld rfl) ?_
        refine SW.read rfl rfl rfl rfl (fun w9 F9 S9 s => R.ldB rfl (s.cel (by repeat (first | exact SelB.blk | exact SelB.fz | apply SelB.there))) (by rfl)) ?_
        refine SW.pure rfl rfl rfl rfl (fun w9 => R.mv rfl) ?_
        refine SW.pure rfl rfl rfl rfl (fun w9 => R.mv rfl) ?_
        refine SW.pure rfl rfl rfl rfl (fun w9 => R.mv rfl) ?_
        refine SW.pure rfl rfl rfl rfl (fun w9 => R.mv rfl) ?_
        refine SW.pure rfl rfl rfl rfl (fun w9 => R.build (cs := (WriteV.cells (⟨k, a, n, c, d⟩ : WriteV)).toArray) rfl rfl) ?_
        refine SW.step rfl rfl rfl rfl (CS.buildA rfl rfl rfl rfl rfl (WriteV.cells (⟨k, a, n, c, d⟩ : WriteV)) rfl) ?_
        rintro _ _ ⟨b39, rfl, rfl⟩
        refine ⟨⟨.inr (fun w9 F9 S9 s => R.ldB rfl (s.cel (by repeat (first | exact SelB.blk | exact SelB.fz | apply SelB.there))) (by rfl)), trivial⟩, ?_⟩
        refine SW.step rfl rfl rfl rfl (CS.imp (rowB2 [(⟨k, a, n, c, d⟩ : WriteV)] (show Sel _ (blk b39 (WriteV.cells (⟨k, a, n, c, d⟩ : WriteV)) 40) _ from (by repeat (first | exact Sel.keep | exact Sel.here | apply Sel.there))) rfl (show Sel _ (sh (fun w => Bs w a n d)) _ from (by repeat (first | exact Sel.keep | exact Sel.here | apply Sel.there))) (fun w h o ho => by rw [List.mem_singleton.1 ho]; exact ⟨hnc, by show n ≤ _; omega, h⟩) (by simp)) (CS.buildA rfl rfl rfl rfl rfl ([ofV txs h, (⟨some ⟨b39, 0, none⟩, 1, 1, [(⟨k, a, n, c, d⟩ : WriteV)]⟩ : RowW)].map RowW.val) rfl)) ?_
        rintro _ _ ⟨b40, rfl, rfl⟩
        refine ⟨⟨.inr (fun w9 F9 S9 s => R.ldB rfl (s.cel (by repeat (first | exact SelB.blk | exact SelB.fz | apply SelB.there))) (by rfl)), trivial⟩, ?_⟩
        refine SW.step rfl rfl rfl rfl (CS.imp (Imp.blkSh (p := fun w => Cells w (some ⟨b40, 0, none⟩) ([ofV txs h, (⟨some ⟨b39, 0, none⟩, 1, 1, [(⟨k, a, n, c, d⟩ : WriteV)]⟩ : RowW)].map RowW.val)) (show Sel _ (blk b40 ([ofV txs h, (⟨some ⟨b39, 0, none⟩, 1, 1, [(⟨k, a, n, c, d⟩ : WriteV)]⟩ : RowW)].map RowW.val) _) _ from (by repeat (first | exact Sel.keep | exact Sel.here | apply Sel.there))) (fun w h => Cells.of_blk h 0 _ (fun j v hj => by simpa using hj))) (CS.imp (Imp.both (p := fun w => ∀ t ∈ txs, RowW.ok w t.2) (q := fun w => RowW.ok w (⟨some ⟨b39, 0, none⟩, 1, 1, [(⟨k, a, n, c, d⟩ : WriteV)]⟩ : RowW)) (by repeat (first | exact Sel.keep | exact Sel.here | apply Sel.there)) (by repeat (first | exact Sel.keep | exact Sel.here | apply Sel.there))) (CS.imp (Imp.both (p := fun w => Cells w (some ⟨b40, 0, none⟩) ([ofV txs h, (⟨some ⟨b39, 0, none⟩, 1, 1, [(⟨k, a, n, c, d⟩ : WriteV)]⟩ : RowW)].map RowW.val)) (q := fun w => (∀ t ∈ txs, RowW.ok w t.2) ∧ RowW.ok w (⟨some ⟨b39, 0, none⟩, 1, 1, [(⟨k, a, n, c, d⟩ : WriteV)]⟩ : RowW)) (by repeat (first | exact Sel.keep | exact Sel.here | apply Sel.there)) (by repeat (first | exact Sel.keep | exact Sel.here | apply Sel.there))) (CS.imp (Imp.weak (p := fun w => Cells w (some ⟨b40, 0, none⟩) ([ofV txs h, (⟨some ⟨b39, 0, none⟩, 1, 1, [(⟨k, a, n, c, d⟩ : WriteV)]⟩ : RowW)].map RowW.val) ∧ (∀ t ∈ txs, RowW.ok w t.2) ∧ RowW.ok w (⟨some ⟨b39, 0, none⟩, 1, 1, [(⟨k, a, n, c, d⟩ : WriteV)]⟩ : RowW)) (q := fun w => Cells w (some ⟨b40, 0, none⟩) ([ofV txs h, (⟨some ⟨b39, 0, none⟩, 1, 1, [(⟨k, a, n, c, d⟩ : WriteV)]⟩ : RowW)].map RowW.val) ∧ ∀ r ∈ [ofV txs h, (⟨some ⟨b39, 0, none⟩, 1, 1, [(⟨k, a, n, c, d⟩ : WriteV)]⟩ : RowW)], r.ok w) (by repeat (first | exact Sel.keep | exact Sel.here | apply Sel.there)) (fun w hw => ⟨hw.1, fun r hr => by simp only [List.mem_cons, List.not_mem_nil, or_false] at hr; rcases hr with rfl | rfl; exact ofV_ok hw.2.1 h; exact hw.2.2⟩)) (CS.call rfl go25 (mergeS (some ⟨b40, 0, none⟩) 2 2 [ofV txs h, (⟨some ⟨b39, 0, none⟩, 1, 1, [(⟨k, a, n, c, d⟩ : WriteV)]⟩ : RowW)] rfl (by simp [allW]; omega) (by decide)) (by repeat (first | exact Sels.nil | apply Sels.cons | exact Sel.keep | exact Sel.here | apply Sel.there))))))) ?_
        rintro _ _ ⟨_, ⟨r9, rfl, hr9, hr9n, hr9l, rfl⟩, rfl⟩
        refine ⟨⟨.inr (fun w9 F9 S9 s => R.ldB rfl (s.cel (by repeat (first | exact SelB.blk | exact SelB.fz | apply SelB.there))) (by rfl)), trivial⟩, ?_⟩
        refine SW.n2 ?_
        refine SW.step rfl rfl rfl rfl (CS.call rfl go79 (putTx m txs h r9 (by omega)) (by repeat (first | exact Sels.nil | apply Sels.cons | exact Sel.keep | exact Sel.here | apply Sel.there))) ?_
        rintro _ _ ⟨_, ⟨rfl, rfl⟩, rfl⟩
        refine ⟨⟨.inl (by decide +kernel), trivial⟩, ?_⟩
        refine SW.n1 ?_
        refine SW.nil ?_
        refine SN.imp (Imp.both (p := fun w => ∀ t ∈ txs, RowW.ok w t.2) (q := fun w => r9.ok w) (by repeat (first | exact Sel.keep | exact Sel.here | apply Sel.there)) (by repeat (first | exact Sel.keep | exact Sel.here | apply Sel.there))) ?_
        refine SN.imp (Imp.weak (p := fun w => (∀ t ∈ txs, RowW.ok w t.2) ∧ r9.ok w) (q := fun w => ∀ t ∈ putT txs h r9, RowW.ok w t.2) (by repeat (first | exact Sel.keep | exact Sel.here | apply Sel.there)) (fun w hw => put_ok2 hw.1 hw.2)) ?_
        refine SN.seq ?_
        refine SG.seq ?_
        refine SG.region ?_
        refine SL.val rfl rfl (fun w9 F9 S9 s => R.as rfl) ?_
        refine SL.nil ?_
        refine SN.seq ?_
        exact SG.ret1 rfl rfl ((Imp.sels (by repeat (first | exact Sels.nil | apply Sels.cons | exact Sel.keep | exact Sel.here | apply Sel.there)))) (⟨putT txs h r9, congrArg (Value.int .i64) hwE.symm, wrM_put hwE (by rw [hr9]; simp [allW, wv]), rfl⟩)

end Go.Proofs.Ytiiiplhfgblamaa
/-
  The walks of package txn.
-/
set_option linter.unusedVariables false
set_option linter.unusedSimpArgs false
set_option maxRecDepth 4000
namespace Go.Proofs.Ytiiiplhfgblamaa
open Go Brv
/-- What is read of a block. -/
def rdV (B : Int) (M : List (Int × List Wr)) (h k : Int) : Option (List UInt8) := if hasT M h then (if inB B k then (((getT M h).getD []).find? (fun x => x.1 == k)).map Prod.snd else none) else none
def rdE {α : Type} (B : Int) (M : List (Int × α)) (h k : Int) : Int := if hasT M h then (if inB B k then 0 else 41) else 40
theorem rd_no {B : Int} {txs : List (Int × RowW)} {h k : Int} (hh : hasT txs h = false) : rdV B (absT txs) h k = none ∧ rdE B (absT txs) h k = 40 := by
  unfold rdV rdE; rw [hasT_abs, hh]; exact ⟨rfl, rfl⟩
theorem rd_out {B : Int} {txs : List (Int × RowW)} {h k : Int} (hh : hasT txs h = true) (hb : inB B k = false) : rdV B (absT txs) h k = none ∧ rdE B (absT txs) h k = 41 := by
  unfold rdV rdE; rw [hasT_abs, hh, hb]; exact ⟨rfl, rfl⟩
theorem rd_in {B : Int} {txs : List (Int × RowW)} {h k : Int} (hh : hasT txs h = true) (hb : inB B k = true) : rdV B (absT txs) h k = (((ofV txs h).os.map wv).find? (fun x => x.1 == k)).map Prod.snd ∧ rdE B (absT txs) h k = 0 := by
  unfold rdV rdE; rw [hasT_abs, hh, hb, ofV_abs]; exact ⟨rfl, rfl⟩
theorem find_at {os : List WriteV} {k : Int} {i : Nat} {z : WriteV} (hz : os[i]? = some z) (hk : z.Block' = k) (hb : ∀ j y, j < i → os[j]? = some y → y.Block' ≠ k) : ((os.map wv).find? (fun x => x.1 == k)).map Prod.snd = some z.B' := by
  induction os generalizing i with
  | nil => simp at hz
  | cons y os ih =>
    rw [List.map_cons, List.find?_cons]
    cases i with
    | zero =>
      simp only [List.getElem?_cons_zero, Option.some.injEq] at hz
      subst hz
      have : ((wv y).1 == k) = true := by simp [wv, hk]
      rw [this]; rfl
    | succ i =>
      have : ((wv y).1 == k) = false := by have := hb 0 y (by omega) rfl; simp [wv, this]
      rw [this]
      exact ih (by simpa using hz) fun j x hj hx => hb (j + 1) x (by omega) (by simpa using hx)
theorem find_no {os : List WriteV} {k : Int} (hb : ∀ j y, j < os.length → os[j]? = some y → y.Block' ≠ k) : ((os.map wv).find? (fun x => x.1 == k)).map Prod.snd = none := by
  rw [List.find?_eq_none.2, Option.map_none]
  intro x hx
  obtain ⟨y, hy, rfl⟩ := List.mem_map.1 hx
  obtain ⟨j, hj⟩ := List.getElem?_of_mem hy
  have := hb j y (List.getElem?_eq_some_iff.1 hj).1 hj
  simp [wv, this]
theorem rowz {r : RowW} {j : Nat} (hj : j < r.os.length) : ∃ z, r.os[j]? = some z := ⟨_, List.getElem?_eq_getElem hj⟩
theorem _root_.Brv.St.row2 {H H' : List Asn} {r : RowW} {F S : List Nat} {w : World} (s : St H F S w) (h : Sel H (sh (fun w => RowW.ok w r)) H') : RowW.ok w r := s.sh h
theorem rdPost {o x : Option (List UInt8)} {e e' : Int} {a : Option Addr} {n c : Nat} {L R : List Asn} (h1 : x = o) (h2 : e' = e) (hn : n ≤ 140737488351232) (hL : L = bs a n (o.getD []) :: R) :
    ∃ a' n' c', Value.tuple #[.slice a n c, .bool o.isSome, .int .i64 e] = .tuple #[.slice a' n' c', .bool x.isSome, .int .i64 e'] ∧ n' ≤ 140737488351232 ∧ L = bs a' n' (x.getD []) :: R := by
  subst h1; subst h2; exact ⟨a, n, c, rfl, hn, hL⟩
theorem rowlen {r : RowW} {w : World} (h : r.ok w) : r.os.length = r.n := by have := h.2.1.len; simpa using this.symm
theorem rowpt {r : RowW} {w : World} {j : Nat} {z : WriteV} (h : r.ok w) (hz : r.os[j]? = some z) : ∃ q, r.a = some q := by
  obtain ⟨hi, _⟩ := List.getElem?_eq_some_iff.1 hz
  obtain ⟨q, hq, _⟩ := h.2.1.at (by decide) j (by simpa using hi)
  exact ⟨q, hq⟩
theorem rowcells {r : RowW} {w : World} {j : Nat} {z : WriteV} {p : Addr} (h : r.ok w) (hp : r.a = some p) (hz : r.os[j]? = some z) : Cells w (some (p.add ((j : Int).toNat * 2))) (WriteV.cells z) := by
  obtain ⟨hi, rfl⟩ := List.getElem?_eq_some_iff.1 hz
  obtain ⟨q, hq, hc⟩ := h.2.1.at (by decide) j (by simpa using hi)
  rw [hp] at hq; cases hq
  simpa [Int.toNat_natCast] using hc

theorem txread_ok (b m : Nat) (B L : Int) (txs : List (Int × RowW)) (h k : Int) (hl : txs.length ≤ 1000) (hol : ∀ t ∈ txs, t.2.os.length ≤ 1000) : SpecS Try.prog 31 [.pointer (some ⟨b, 0, none⟩), .int .i64 h, .int .i64 k] [blk b [.int .i64 B, .int .i64 L, .pointer (some ⟨m, 0, none⟩)] 137, mp (κ := Int) 174 176 1 m (psT txs), sh (fun w => ∀ t ∈ txs, RowW.ok w t.2)] (fun v H' => ∃ a n c, v = .tuple #[.slice a n c, .bool (rdV B (absT txs) h k).isSome, .int .i64 (rdE B (absT txs) h k)] ∧ n ≤ 140737488351232 ∧ H' = [bs a n ((rdV B (absT txs) h k).getD []), blk b [.int .i64 B, .int .i64 L, .pointer (some ⟨m, 0, none⟩)] 137, mp (κ := Int) 174 176 1 m (psT txs), sh (fun w => ∀ t ∈ txs, RowW.ok w t.2)]) := by
  refine SpecS.enter Try.func31 rfl 42 rfl (Nat.le_of_ble_eq_true rfl) (fun o => ?_)
  refine SG.seq ?_
  refine SG.region ?_
  refine SL.val rfl rfl (fun w9 F9 S9 s => R.as rfl) ?_
  refine SL.val rfl rfl (fun w9 F9 S9 s => R.as rfl) ?_
  refine SL.val rfl rfl (fun w9 F9 S9 s => R.as rfl) ?_
  refine SL.nil ?_
  refine SN.seq ?_
  refine SG.seq ?_
  refine SG.region ?_
  refine SL.val rfl rfl (fun w9 F9 S9 s => R.mv rfl) ?_
  refine SL.val rfl rfl (fun w9 F9 S9 s => R.mv rfl) ?_
  refine SL.step rfl rfl (CS.call rfl go80 (txof_ok b m B L txs h hl) (by repeat (first | exact Sels.nil | apply Sels.cons | exact Sel.keep | exact Sel.here | apply Sel.there))) ?_
  rintro _ _ ⟨_, ⟨rfl, rfl⟩, rfl⟩
  refine SL.n3 ?_
  refine SL.val rfl rfl (fun w9 F9 S9 s => R.mv rfl) ?_
  refine SL.val rfl rfl (fun w9 F9 S9 s => R.ext rfl rfl) ?_
  refine SL.val rfl rfl (fun w9 F9 S9 s => R.ext rfl rfl) ?_
  refine SL.val rfl rfl (fun w9 F9 S9 s => R.as rfl) ?_
  refine SL.val rfl rfl (fun w9 F9 S9 s => R.as rfl) ?_
  refine SL.nil ?_
  refine SN.seq ?_
  refine SG.seq ?_
  refine SG.block ?_
  refine SG.seq ?_
  refine SG.region ?_
  refine SL.val rfl rfl (fun w9 F9 S9 s => R.mv rfl) ?_
  refine SL.val rfl rfl (fun w9 F9 S9 s => R.neI rfl rfl) ?_
  refine SL.val rfl rfl (fun w9 F9 S9 s => R.as rfl) ?_
  refine SL.nil ?_
  refine SN.seq ?_
  refine SG.condP rfl (fun h0 => ?_) (fun h0 => ?_)
  · obtain ⟨hno, hE⟩ := ofE_no h0
    have hrd := rd_no (B := B) (k := k) hno
    rw [hE]
    refine SG.seq ?_
    refine SG.region ?_
    refine SL.val rfl rfl (fun w9 F9 S9 s => R.mv rfl) ?_
    refine SL.val rfl rfl (fun w9 F9 S9 s => R.as rfl) ?_
    refine SL.val rfl rfl (fun w9 F9 S9 s => R.as rfl) ?_
    refine SL.val rfl rfl (fun w9 F9 S9 s => R.as rfl) ?_
    refine SL.nil ?_
    refine SN.seq ?_
    exact SG.ret3 rfl rfl rfl rfl ((Imp.pure (p := fun w => Bs w none 0 []) (fun w => Bs.nil w)).trans (Imp.sels (by repeat (first | exact Sels.nil | apply Sels.cons | exact Sel.keep | exact Sel.here | apply Sel.there)))) (rdPost (o := none) hrd.1 hrd.2 (by decide) rfl)
  · have hhas := ofE_zero h0
    refine SG.seq ?_
    refine SG.region ?_
    refine SL.val rfl rfl (fun w9 F9 S9 s => R.mv rfl) ?_
    refine SL.val rfl rfl (fun w9 F9 S9 s => R.mv rfl) ?_
    refine SL.step rfl rfl (CS.call rfl go81 (txthere_ok b B L (.pointer (some ⟨m, 0, none⟩)) k) (by repeat (first | exact Sels.nil | apply Sels.cons | exact Sel.keep | exact Sel.here | apply Sel.there))) ?_
    rintro _ _ ⟨_, ⟨rfl, rfl⟩, rfl⟩
    refine SL.n1 ?_
    refine SL.val rfl rfl (fun w9 F9 S9 s => R.not rfl) ?_
    refine SL.val rfl rfl (fun w9 F9 S9 s => R.as rfl) ?_
    refine SL.nil ?_
    refine SN.seq ?_
    refine SG.condB rfl (fun h1 => ?_) (fun h1 => ?_)
    · have hrd := rd_out hhas (show inB B k = false by simpa using h1)
      refine SG.seq ?_
      refine SG.region ?_
      refine SL.val rfl rfl (fun w9 F9 S9 s => R.as rfl) ?_
      refine SL.val rfl rfl (fun w9 F9 S9 s => R.as rfl) ?_
      refine SL.val rfl rfl (fun w9 F9 S9 s => R.as rfl) ?_
      refine SL.nil ?_
      refine SN.seq ?_
      exact SG.ret3 rfl rfl rfl rfl ((Imp.pure (p := fun w => Bs w none 0 []) (fun w => Bs.nil w)).trans (Imp.sels (by repeat (first | exact Sels.nil | apply Sels.cons | exact Sel.keep | exact Sel.here | apply Sel.there)))) (rdPost (o := none) hrd.1 hrd.2 (by decide) rfl)
    · have hrd := rd_in hhas (show inB B k = true by simpa using h1)
      refine SG.imp (Imp.weak (p := fun w => ∀ t ∈ txs, RowW.ok w t.2) (q := fun w => RowW.ok w (ofV txs h)) (by repeat (first | exact Sel.keep | exact Sel.here | apply Sel.there)) (fun w hw => ofV_ok hw h)) ?_
      refine SG.fact (fun w9 F9 S9 s => rowlen (s.row2 (show Sel _ (sh (fun w => RowW.ok w (ofV txs h))) _ from (by repeat (first | exact Sel.keep | exact Sel.here | apply Sel.there))))) (fun hf9 => ?_)
      have hln := hf9; clear hf9
      refine SG.fact (fun w9 F9 S9 s => (s.row2 (show Sel _ (sh (fun w => RowW.ok w (ofV txs h))) _ from (by repeat (first | exact Sel.keep | exact Sel.here | apply Sel.there)))).1) (fun hf9 => ?_)
      have hrn := hf9; clear hf9
      refine SG.skip ?_
      refine SN.block ?_
      refine SN.seq ?_
      refine SG.seq ?_
      refine SG.seq ?_
      refine SG.region ?_
      refine SL.val rfl rfl (fun w9 F9 S9 s => R.mv rfl) ?_
      refine SL.val rfl rfl (fun w9 F9 S9 s => R.lenS rfl) ?_
      refine SL.val rfl rfl (fun w9 F9 S9 s => R.mv rfl) ?_
      refine SL.nil ?_
      refine SN.seq ?_
      refine SG.block ?_
      refine SG.loop (X := Nat) (fun i => [(0, .pointer (some ⟨b, 0, none⟩)), (2, .int .i64 k), (28, .slice (ofV txs h).a (ofV txs h).n (ofV txs h).c), (29, .int .i64 ((ofV txs h).n : Int)), (30, .int .i64 (i : Int))]) (fun i => [blk b [.int .i64 B, .int .i64 L, .pointer (some ⟨m, 0, none⟩)] 137, mp (κ := Int) 174 176 1 m (psT txs), sh (fun w => ∀ t ∈ txs, RowW.ok w t.2), sh (fun w => RowW.ok w (ofV txs h))]) (fun i => i ≤ (ofV txs h).n ∧ ∀ j y, j < i → (ofV txs h).os[j]? = some y → y.Block' ≠ k) (fun i => (ofV txs h).n - i) (0) (Sub.cons rfl (Sub.cons rfl (Sub.cons rfl (Sub.cons rfl (Sub.cons rfl (Sub.nil _)))))) ((Imp.sels (by repeat (first | exact Sels.nil | apply Sels.cons | exact Sel.keep | exact Sel.here | apply Sel.there)))) (⟨Nat.zero_le _, fun j y hj => by omega⟩) ?_
      rintro i ⟨hi, hall⟩
      show SG _ _ _ _ _ [(0, .pointer (some ⟨b, 0, none⟩)), (2, .int .i64 k), (28, .slice (ofV txs h).a (ofV txs h).n (ofV txs h).c), (29, .int .i64 ((ofV txs h).n : Int)), (30, .int .i64 (i : Int))] [blk b [.int .i64 B, .int .i64 L, .pointer (some ⟨m, 0, none⟩)] 137, mp (κ := Int) 174 176 1 m (psT txs), sh (fun w => ∀ t ∈ txs, RowW.ok w t.2), sh (fun w => RowW.ok w (ofV txs h))] _
      refine SG.seq ?_
      refine SG.region ?_
      refine SL.val rfl rfl (fun w9 F9 S9 s => R.lss rfl rfl) ?_
      refine SL.nil ?_
      refine SN.seq ?_
      refine SG.seq ?_
      refine SG.condP rfl (fun h2 => ?_) (fun h2 => ?_)
      · obtain ⟨z, hz⟩ := rowz (r := ofV txs h) (j := i) (by omega)
        refine SG.fact (fun w9 F9 S9 s => rowpt (s.row2 (by repeat (first | exact Sel.keep | exact Sel.here | apply Sel.there))) hz) (fun hf9 => ?_)
        obtain ⟨q, hq⟩ := hf9
        refine SG.imp (Imp.weak (p := fun w => RowW.ok w (ofV txs h)) (q := fun w => Bs w z.B'a z.B'n z.B') (by repeat (first | exact Sel.keep | exact Sel.here | apply Sel.there)) (fun w hw => (hw.2.2 z (List.mem_of_getElem? hz)).2.2)) ?_
        refine SG.fact (fun w9 F9 S9 s => ((s.row2 (show Sel _ (sh (fun w => RowW.ok w (ofV txs h))) _ from (by repeat (first | exact Sel.keep | exact Sel.here | apply Sel.there)))).2.2 z (List.mem_of_getElem? hz)).2.1) (fun hf9 => ?_)
        have hzc := hf9; clear hf9
        refine SG.skip ?_
        refine SN.seq ?_
        refine SG.seq ?_
        refine SG.block ?_
        refine SG.seq ?_
        refine SG.region ?_
        refine SL.val rfl rfl (fun w9 F9 S9 s => R.idx rfl rfl (by omega) (by omega) q hq) ?_
        refine SL.val rfl rfl (fun w9 F9 S9 s => R.ldN (vs := WriteV.cells z) rfl (rowcells (s.row2 (by repeat (first | exact Sel.keep | exact Sel.here | apply Sel.there))) hq hz) rfl) ?_
        refine SL.step rfl rfl (CS.alloc [.int .i64 0, .slice none 0 0] rfl) ?_
        rintro _ _ ⟨b12, rfl, rfl⟩
        refine SL.step0 rfl (CS.stA (vs := WriteV.cells z) rfl rfl (by repeat (first | exact Sel.keep | exact Sel.here | apply Sel.there)) (by rfl) (by rfl) (by intro u hu; exact WriteV.cells.one _ u (by simpa using hu))) ?_
        rintro _ _ rfl
        refine SL.nil ?_
        refine SN.seq ?_
        refine SG.seq ?_
        refine SG.region ?_
        refine SL.val rfl rfl (fun w9 F9 S9 s => R.fld rfl) ?_
        refine SL.val rfl rfl (fun w9 F9 S9 s => R.ldB (v := .int .i64 z.Block') rfl (s.cel (by repeat (first | exact SelB.blk | exact SelB.fz | apply SelB.there))) (by rfl)) ?_
        refine SL.val rfl rfl (fun w9 F9 S9 s => R.mv rfl) ?_
        refine SL.val rfl rfl (fun w9 F9 S9 s => R.eqI rfl rfl) ?_
        refine SL.nil ?_
        refine SN.seq ?_
        refine SG.condP rfl (fun h3 => ?_) (fun h3 => ?_)
        · refine SG.seq ?_
          refine SG.region ?_
          refine SL.val rfl rfl (fun w9 F9 S9 s => R.fld rfl) ?_
          refine SL.val rfl rfl (fun w9 F9 S9 s => R.ldB (v := .slice z.B'a z.B'n z.B'c) rfl (s.cel (by repeat (first | exact SelB.blk | exact SelB.fz | apply SelB.there))) (by rfl)) ?_
          refine SL.step rfl rfl (CS.callC rfl go76 (fun w9 F9 S9 s => bclone_ok z.B'a z.B'n z.B'c z.B' w9 (s.sh (p := fun w => Bs w z.B'a z.B'n z.B') (by repeat (first | exact Sel.keep | exact Sel.here | apply Sel.there))) (by omega))) ?_
          rintro _ _ ⟨a40, c40, rfl, rfl⟩
          refine SL.val rfl rfl (fun w9 F9 S9 s => R.as rfl) ?_
          refine SL.val rfl rfl (fun w9 F9 S9 s => R.as rfl) ?_
          refine SL.val rfl rfl (fun w9 F9 S9 s => R.as rfl) ?_
          refine SL.nil ?_
          refine SN.seq ?_
          refine SG.fact (fun w9 F9 S9 s => (s.sh (p := fun w => Bs w z.B'a z.B'n z.B') (by repeat (first | exact Sel.keep | exact Sel.here | apply Sel.there))).len) (fun hf9 => ?_)
          have hzl := hf9; clear hf9
          have hfd := find_at hz h3 hall
          rw [hfd] at hrd
          exact SG.ret3 rfl rfl rfl rfl ((Imp.ownBs (l := z.B') (show Sel _ (own 5 1 a40 z.B'n c40 (vbs z.B')) _ from (by repeat (first | exact Sel.keep | exact Sel.here | apply Sel.there)))).trans (Imp.sels (by repeat (first | exact Sels.nil | apply Sels.cons | exact Sel.keep | exact Sel.here | apply Sel.there)))) (rdPost (o := some z.B') hrd.1 hrd.2 hzc rfl)
        · refine SG.skip ?_
          refine SN.block ?_
          refine SN.seq ?_
          refine SG.region ?_
          refine SL.val rfl rfl (fun w9 F9 S9 s => R.add rfl rfl (by omega)) ?_
          refine SL.val rfl rfl (fun w9 F9 S9 s => R.mv rfl) ?_
          refine SL.nil ?_
          exact SN.again (i + 1) (by show (ofV txs h).n - (i + 1) < (ofV txs h).n - i; omega) (Sub.cons rfl (Sub.cons rfl (Sub.cons rfl (Sub.cons rfl (Sub.cons rfl (Sub.nil _)))))) ((Imp.sels (by repeat (first | exact Sels.nil | apply Sels.cons | exact Sel.keep | exact Sel.here | apply Sel.there)))) (⟨by show i + 1 ≤ (ofV txs h).n; omega, fun j y hj hy => by
            by_cases hji : j = i
            · subst hji; rw [hz] at hy; cases hy; exact h3
            · exact hall j y (by omega) hy⟩)
      · obtain rfl : i = (ofV txs h).n := by omega
        have hfd := find_no (k := k) (os := (ofV txs h).os) (fun j y hj hy => hall j y (by omega) hy)
        rw [hfd] at hrd
        refine SG.exit _ rfl ?_
        refine SN.seq ?_
        refine SG.seq ?_
        refine SG.region ?_
        refine SL.val rfl rfl (fun w9 F9 S9 s => R.as rfl) ?_
        refine SL.val rfl rfl (fun w9 F9 S9 s => R.as rfl) ?_
        refine SL.val rfl rfl (fun w9 F9 S9 s => R.as rfl) ?_
        refine SL.nil ?_
        refine SN.seq ?_
        exact SG.ret3 rfl rfl rfl rfl ((Imp.pure (p := fun w => Bs w none 0 []) (fun w => Bs.nil w)).trans (Imp.sels (by repeat (first | exact Sels.nil | apply Sels.cons | exact Sel.keep | exact Sel.here | apply Sel.there)))) (rdPost (o := none) hrd.1 hrd.2 (by decide) rfl)

end Go.Proofs.Ytiiiplhfgblamaa
/-
  The walks of package txn.
-/
set_option linter.unusedVariables false
set_option linter.unusedSimpArgs false
set_option maxRecDepth 4000
namespace Go.Proofs.Ytiiiplhfgblamaa
open Go Brv
def bgE {α : Type} (M : List α) : Int := if 8 ≤ M.length then 32 else 0
def bgH {α : Type} (L : Int) (M : List α) : Int := if 8 ≤ M.length then 0 else L + 1
def bgL {α : Type} (L : Int) (M : List α) : Int := if 8 ≤ M.length then L else L + 1
def bgM {α : Type} (z : α) (L : Int) (M : List (Int × α)) : List (Int × α) := if 8 ≤ M.length then M else putT M (L + 1) z
theorem bg_many {txs : List (Int × RowW)} {L : Int} (h : 8 ≤ txs.length) : bgE (absT txs) = 32 ∧ bgH L (absT txs) = 0 ∧ bgL L (absT txs) = L ∧ bgM [] L (absT txs) = absT txs := by
  have h2 : 8 ≤ (absT txs).length := by rw [absT_len]; exact h
  exact ⟨if_pos h2, if_pos h2, if_pos h2, if_pos h2⟩
theorem bg_one {txs : List (Int × RowW)} {L : Int} (h : ¬ 8 ≤ txs.length) : bgE (absT txs) = 0 ∧ bgH L (absT txs) = L + 1 ∧ bgL L (absT txs) = L + 1 ∧ bgM [] L (absT txs) = absT (putT txs (L + 1) rowZ) := by
  have h2 : ¬ 8 ≤ (absT txs).length := by rw [absT_len]; exact h
  exact ⟨if_neg h2, if_neg h2, if_neg h2, by unfold bgM; rw [if_neg h2]; exact (putT_map (fun r : RowW => r.os.map wv) txs (L + 1) rowZ).symm⟩
theorem bgPost {M : List (Int × List Wr)} {b m : Nat} {B L x y z : Int} {txs' : List (Int × RowW)} {K : List Asn} {A : Int → List (Int × RowW) → List Asn} (h : bgE M = y ∧ bgH L M = x ∧ bgL L M = z ∧ bgM [] L M = absT txs') (hK : K = A z txs') :
    ∃ txs', Value.tuple #[.int .i64 x, .int .i64 y] = .tuple #[.int .i64 (bgH L M), .int .i64 (bgE M)] ∧ absT txs' = bgM [] L M ∧ K = A (bgL L M) txs' := by
  obtain ⟨h1, h2, h3, h4⟩ := h
  subst h1; subst h2; subst h3
  exact ⟨txs', rfl, h4.symm, hK⟩

theorem txbegin_ok (b m : Nat) (B L : Int) (txs : List (Int × RowW)) (hl : txs.length ≤ 1000) (hL0 : 0 ≤ L) (hL : L ≤ 1000000) : SpecS Try.prog 29 [.pointer (some ⟨b, 0, none⟩)] [blk b [.int .i64 B, .int .i64 L, .pointer (some ⟨m, 0, none⟩)] 137, mp (κ := Int) 174 176 1 m (psT txs), sh (fun w => ∀ t ∈ txs, RowW.ok w t.2)] (fun v H' => ∃ txs', v = .tuple #[.int .i64 (bgH L (absT txs)), .int .i64 (bgE (absT txs))] ∧ absT txs' = bgM [] L (absT txs) ∧ H' = [blk b [.int .i64 B, .int .i64 (bgL L (absT txs)), .pointer (some ⟨m, 0, none⟩)] 137, mp (κ := Int) 174 176 1 m (psT txs'), sh (fun w => ∀ t ∈ txs', RowW.ok w t.2)]) := by
  refine SpecS.enter Try.func29 rfl 34 rfl (Nat.le_of_ble_eq_true rfl) (fun o => ?_)
  refine SG.seq ?_
  refine SG.region ?_
  refine SL.val rfl rfl (fun w9 F9 S9 s => R.as rfl) ?_
  refine SL.val rfl rfl (fun w9 F9 S9 s => R.as rfl) ?_
  refine SL.nil ?_
  refine SN.seq ?_
  refine SG.seq ?_
  refine SG.block ?_
  refine SG.seq ?_
  refine SG.region ?_
  refine SL.val rfl rfl (fun w9 F9 S9 s => R.mv rfl) ?_
  refine SL.val rfl rfl (fun w9 F9 S9 s => R.eqNilP rfl rfl) ?_
  refine SL.val rfl rfl (fun w9 F9 S9 s => R.as rfl) ?_
  refine SL.nil ?_
  refine SN.seq ?_
  refine SG.condF rfl ?_
  refine SG.seq ?_
  refine SG.region ?_
  refine SL.val rfl rfl (fun w9 F9 S9 s => R.mv rfl) ?_
  refine SL.val rfl rfl (fun w9 F9 S9 s => R.nilChk rfl) ?_
  refine SL.val rfl rfl (fun w9 F9 S9 s => R.fld rfl) ?_
  refine SL.val rfl rfl (fun w9 F9 S9 s => R.ldB rfl (s.cel (by repeat (first | exact SelB.blk | exact SelB.fz | apply SelB.there))) (by rfl)) ?_
  refine SL.step rfl rfl (CS.callR rfl go78 (fun w9 F9 S9 s => (s.mp (show Sel _ (mp (κ := Int) 174 176 1 m (psT txs)) _ from (by repeat (first | exact Sel.keep | exact Sel.here | apply Sel.there)))).elim fun S9 h9 => olenTx m txs S9 w9 h9 (by omega))) ?_
  rintro _ _ ⟨rfl, rfl⟩
  refine SL.val rfl rfl (fun w9 F9 S9 s => R.geq rfl rfl) ?_
  refine SL.val rfl rfl (fun w9 F9 S9 s => R.as rfl) ?_
  refine SL.nil ?_
  refine SN.seq ?_
  refine SG.condP rfl (fun h1 => ?_) (fun h1 => ?_)
  · have hbg := bg_many (txs := txs) (L := L) (by omega)
    refine SG.seq ?_
    refine SG.region ?_
    refine SL.val rfl rfl (fun w9 F9 S9 s => R.as rfl) ?_
    refine SL.val rfl rfl (fun w9 F9 S9 s => R.as rfl) ?_
    refine SL.nil ?_
    refine SN.seq ?_
    exact SG.ret2 rfl rfl rfl ((Imp.sels (by repeat (first | exact Sels.nil | apply Sels.cons | exact Sel.keep | exact Sel.here | apply Sel.there)))) (bgPost (b := b) (m := m) (B := B) (txs' := txs) (A := (fun z txs => [blk b [.int .i64 B, .int .i64 z, .pointer (some ⟨m, 0, none⟩)] 137, mp (κ := Int) 174 176 1 m (psT txs), sh (fun w => ∀ t ∈ txs, RowW.ok w t.2)])) hbg rfl)
  · have hbg := bg_one (txs := txs) (L := L) (by omega)
    refine SG.skip ?_
    refine SN.block ?_
    refine SN.seq ?_
    refine SG.seq ?_
    refine SG.region ?_
    refine SL.val rfl rfl (fun w9 F9 S9 s => R.mv rfl) ?_
    refine SL.val rfl rfl (fun w9 F9 S9 s => R.nilChk rfl) ?_
    refine SL.val rfl rfl (fun w9 F9 S9 s => R.fld rfl) ?_
    refine SL.val rfl rfl (fun w9 F9 S9 s => R.ldB rfl (s.cel (by repeat (first | exact SelB.blk | exact SelB.fz | apply SelB.there))) (by rfl)) ?_
    refine SL.val rfl rfl (fun w9 F9 S9 s => R.add rfl rfl (by omega)) ?_
    refine SL.val rfl rfl (fun w9 F9 S9 s => R.nilChk rfl) ?_
    refine SL.val rfl rfl (fun w9 F9 S9 s => R.fld rfl) ?_
    refine SL.step0 rfl (CS.st rfl rfl (by repeat (first | exact Sel.keep | exact Sel.here | apply Sel.there)) (by repeat (first | exact SetAt.here | apply SetAt.there)) rfl) ?_
    rintro _ _ rfl
    refine SL.nil ?_
    refine SN.seq ?_
    refine SG.seq ?_
    refine SG.draw [8] [0, 1, 2, 3, 4, 5, 6, 7, 8] (by decide +kernel) rfl ?_
    refine SW.pure rfl rfl rfl rfl (fun w9 => R.mv rfl) ?_
    refine SW.pure rfl rfl rfl rfl (fun w9 => R.nilChk rfl) ?_
    refine SW.pure rfl rfl rfl rfl (fun w9 => R.fld rfl) ?_
    refine SW.read rfl rfl rfl rfl (fun w9 F9 S9 s => R.ldB rfl (s.cel (by repeat (first | exact SelB.blk | exact SelB.fz | apply SelB.there))) (by rfl)) ?_
    refine SW.pure rfl rfl rfl rfl (fun w9 => R.mv rfl) ?_
    refine SW.pure rfl rfl rfl rfl (fun w9 => R.nilChk rfl) ?_
    refine SW.pure rfl rfl rfl rfl (fun w9 => R.fld rfl) ?_
    refine SW.read rfl rfl rfl rfl (fun w9 F9 S9 s => R.ldB rfl (s.cel (by repeat (first | exact SelB.blk | exact SelB.fz | apply SelB.there))) (by rfl)) ?_
    refine SW.step rfl rfl rfl rfl (CS.call rfl go79 (putTx m txs (L + 1) rowZ (by omega)) (by repeat (first | exact Sels.nil | apply Sels.cons | exact Sel.keep | exact Sel.here | apply Sel.there))) ?_
    rintro _ _ ⟨_, ⟨rfl, rfl⟩, rfl⟩
    refine ⟨⟨.inl (by decide +kernel), ⟨.inl (by decide +kernel), trivial⟩⟩, ?_⟩
    refine SW.n1 ?_
    refine SW.nil ?_
    refine SN.imp (Imp.weak (p := fun w => ∀ t ∈ txs, RowW.ok w t.2) (q := fun w => ∀ t ∈ putT txs (L + 1) rowZ, RowW.ok w t.2) (by repeat (first | exact Sel.keep | exact Sel.here | apply Sel.there)) (fun w hw => put_ok2 hw (rowZ_ok w))) ?_
    refine SN.seq ?_
    refine SG.seq ?_
    refine SG.region ?_
    refine SL.val rfl rfl (fun w9 F9 S9 s => R.mv rfl) ?_
    refine SL.val rfl rfl (fun w9 F9 S9 s => R.nilChk rfl) ?_
    refine SL.val rfl rfl (fun w9 F9 S9 s => R.fld rfl) ?_
    refine SL.val rfl rfl (fun w9 F9 S9 s => R.ldB rfl (s.cel (by repeat (first | exact SelB.blk | exact SelB.fz | apply SelB.there))) (by rfl)) ?_
    refine SL.val rfl rfl (fun w9 F9 S9 s => R.as rfl) ?_
    refine SL.val rfl rfl (fun w9 F9 S9 s => R.as rfl) ?_
    refine SL.nil ?_
    refine SN.seq ?_
    exact SG.ret2 rfl rfl rfl ((Imp.sels (by repeat (first | exact Sels.nil | apply Sels.cons | exact Sel.keep | exact Sel.here | apply Sel.there)))) (bgPost (b := b) (m := m) (B := B) (txs' := (putT txs (L + 1) rowZ)) (A := (fun z txs => [blk b [.int .i64 B, .int .i64 z, .pointer (some ⟨m, 0, none⟩)] 137, mp (κ := Int) 174 176 1 m (psT txs), sh (fun w => ∀ t ∈ txs, RowW.ok w t.2)])) hbg rfl)

theorem txwrites_ok (b m : Nat) (B L : Int) (txs : List (Int × RowW)) (h : Int) (hl : txs.length ≤ 1000) (hol : ∀ t ∈ txs, t.2.os.length ≤ 1000) : SpecS Try.prog 32 [.pointer (some ⟨b, 0, none⟩), .int .i64 h] [blk b [.int .i64 B, .int .i64 L, .pointer (some ⟨m, 0, none⟩)] 137, mp (κ := Int) 174 176 1 m (psT txs), sh (fun w => ∀ t ∈ txs, RowW.ok w t.2)] (fun v H' => ∃ r : RowW, v = .tuple #[.slice r.a r.n r.c, .int .i64 (ofE (absT txs) h)] ∧ r.os.map wv = mgW ((getT (absT txs) h).getD []) ∧ H' = [sh (fun w => r.ok w), blk b [.int .i64 B, .int .i64 L, .pointer (some ⟨m, 0, none⟩)] 137, mp (κ := Int) 174 176 1 m (psT txs), sh (fun w => ∀ t ∈ txs, RowW.ok w t.2)]) := by
  refine SpecS.enter Try.func32 rfl 18 rfl (Nat.le_of_ble_eq_true rfl) (fun o => ?_)
  refine SG.seq ?_
  refine SG.region ?_
  refine SL.val rfl rfl (fun w9 F9 S9 s => R.as rfl) ?_
  refine SL.val rfl rfl (fun w9 F9 S9 s => R.as rfl) ?_
  refine SL.nil ?_
  refine SN.seq ?_
  refine SG.seq ?_
  refine SG.region ?_
  refine SL.val rfl rfl (fun w9 F9 S9 s => R.mv rfl) ?_
  refine SL.val rfl rfl (fun w9 F9 S9 s => R.mv rfl) ?_
  refine SL.step rfl rfl (CS.call rfl go80 (txof_ok b m B L txs h hl) (by repeat (first | exact Sels.nil | apply Sels.cons | exact Sel.keep | exact Sel.here | apply Sel.there))) ?_
  rintro _ _ ⟨_, ⟨rfl, rfl⟩, rfl⟩
  refine SL.n3 ?_
  refine SL.val rfl rfl (fun w9 F9 S9 s => R.mv rfl) ?_
  refine SL.val rfl rfl (fun w9 F9 S9 s => R.ext rfl rfl) ?_
  refine SL.val rfl rfl (fun w9 F9 S9 s => R.ext rfl rfl) ?_
  refine SL.val rfl rfl (fun w9 F9 S9 s => R.as rfl) ?_
  refine SL.val rfl rfl (fun w9 F9 S9 s => R.as rfl) ?_
  refine SL.nil ?_
  refine SN.seq ?_
  refine SG.seq ?_
  refine SG.region ?_
  refine SL.val rfl rfl (fun w9 F9 S9 s => R.mv rfl) ?_
  refine SL.step rfl rfl (CS.buildA rfl rfl rfl rfl rfl ([ofV txs h].map RowW.val) rfl) ?_
  rintro _ _ ⟨b15, rfl, rfl⟩
  have hvl := ofV_len hol h
  refine SL.imp (Imp.blkSh (p := fun w => Cells w (some ⟨b15, 0, none⟩) ([ofV txs h].map RowW.val)) (show Sel _ (blk b15 ([ofV txs h].map RowW.val) _) _ from (by repeat (first | exact Sel.keep | exact Sel.here | apply Sel.there))) (fun w h => Cells.of_blk h 0 _ (fun j v hj => by simpa using hj))) ?_
  refine SL.imp (Imp.both (p := fun w => Cells w (some ⟨b15, 0, none⟩) ([ofV txs h].map RowW.val)) (q := fun w => ∀ t ∈ txs, RowW.ok w t.2) (by repeat (first | exact Sel.keep | exact Sel.here | apply Sel.there)) (by repeat (first | exact Sel.keep | exact Sel.here | apply Sel.there))) ?_
  refine SL.imp (Imp.weak (p := fun w => Cells w (some ⟨b15, 0, none⟩) ([ofV txs h].map RowW.val) ∧ ∀ t ∈ txs, RowW.ok w t.2) (q := fun w => Cells w (some ⟨b15, 0, none⟩) ([ofV txs h].map RowW.val) ∧ ∀ r ∈ [ofV txs h], r.ok w) (by repeat (first | exact Sel.keep | exact Sel.here | apply Sel.there)) (fun w hw => ⟨hw.1, fun r hr => by rw [List.mem_singleton.1 hr]; exact ofV_ok hw.2 h⟩)) ?_
  refine SL.step rfl rfl (CS.call rfl go25 (mergeS (some ⟨b15, 0, none⟩) 1 1 [ofV txs h] rfl (by simp [allW]; omega) (by decide)) (by repeat (first | exact Sels.nil | apply Sels.cons | exact Sel.keep | exact Sel.here | apply Sel.there))) ?_
  rintro _ _ ⟨_, ⟨r9, rfl, hr9, hr9n, hr9l, rfl⟩, rfl⟩
  refine SL.n2 ?_
  refine SL.val rfl rfl (fun w9 F9 S9 s => R.mv rfl) ?_
  refine SL.val rfl rfl (fun w9 F9 S9 s => R.as rfl) ?_
  refine SL.val rfl rfl (fun w9 F9 S9 s => R.as rfl) ?_
  refine SL.nil ?_
  refine SN.seq ?_
  exact SG.ret2 rfl rfl rfl ((Imp.sels (by repeat (first | exact Sels.nil | apply Sels.cons | exact Sel.keep | exact Sel.here | apply Sel.there)))) (⟨r9, by rw [ofE_abs]; rfl, by rw [hr9, ← ofV_abs]; simp [allW], rfl⟩)

theorem txend_ok (b m : Nat) (B L : Int) (txs : List (Int × RowW)) (h : Int) (hl : txs.length ≤ 1000) : SpecS Try.prog 33 [.pointer (some ⟨b, 0, none⟩), .int .i64 h] [blk b [.int .i64 B, .int .i64 L, .pointer (some ⟨m, 0, none⟩)] 137, mp (κ := Int) 174 176 1 m (psT txs), sh (fun w => ∀ t ∈ txs, RowW.ok w t.2)] (fun v H' => ∃ txs', v = .int .i64 (ofE (absT txs) h) ∧ absT txs' = delT (absT txs) h ∧ H' = [blk b [.int .i64 B, .int .i64 L, .pointer (some ⟨m, 0, none⟩)] 137, mp (κ := Int) 174 176 1 m (psT txs'), sh (fun w => ∀ t ∈ txs', RowW.ok w t.2)]) := by
  refine SpecS.enter Try.func33 rfl 22 rfl (Nat.le_of_ble_eq_true rfl) (fun o => ?_)
  refine SG.seq ?_
  refine SG.region ?_
  refine SL.val rfl rfl (fun w9 F9 S9 s => R.as rfl) ?_
  refine SL.nil ?_
  refine SN.seq ?_
  refine SG.seq ?_
  refine SG.seq ?_
  refine SG.region ?_
  refine SL.val rfl rfl (fun w9 F9 S9 s => R.mv rfl) ?_
  refine SL.val rfl rfl (fun w9 F9 S9 s => R.mv rfl) ?_
  refine SL.step rfl rfl (CS.call rfl go80 (txof_ok b m B L txs h hl) (by repeat (first | exact Sels.nil | apply Sels.cons | exact Sel.keep | exact Sel.here | apply Sel.there))) ?_
  rintro _ _ ⟨_, ⟨rfl, rfl⟩, rfl⟩
  refine SL.n3 ?_
  refine SL.val rfl rfl (fun w9 F9 S9 s => R.mv rfl) ?_
  refine SL.val rfl rfl (fun w9 F9 S9 s => R.ext rfl rfl) ?_
  refine SL.val rfl rfl (fun w9 F9 S9 s => R.ext rfl rfl) ?_
  refine SL.val rfl rfl (fun w9 F9 S9 s => R.as rfl) ?_
  refine SL.val rfl rfl (fun w9 F9 S9 s => R.as rfl) ?_
  refine SL.nil ?_
  refine SN.seq ?_
  refine SG.seq ?_
  refine SG.region ?_
  refine SL.val rfl rfl (fun w9 F9 S9 s => R.mv rfl) ?_
  refine SL.val rfl rfl (fun w9 F9 S9 s => R.neI rfl rfl) ?_
  refine SL.nil ?_
  refine SN.seq ?_
  refine SG.condP rfl (fun h0 => ?_) (fun h0 => ?_)
  · obtain ⟨hno, hE⟩ := ofE_no h0
    have hdl : delT txs h = txs := by unfold delT; rw [hno]; rfl
    refine SG.seq ?_
    refine SG.region ?_
    refine SL.val rfl rfl (fun w9 F9 S9 s => R.mv rfl) ?_
    refine SL.val rfl rfl (fun w9 F9 S9 s => R.as rfl) ?_
    refine SL.nil ?_
    refine SN.seq ?_
    exact SG.ret1 rfl rfl ((Imp.sels (by repeat (first | exact Sels.nil | apply Sels.cons | exact Sel.keep | exact Sel.here | apply Sel.there)))) (⟨txs, by rw [ofE_abs]; rfl, by rw [← hdl]; exact (delT_map _ _ _).trans (by unfold absT; rw [hdl]), rfl⟩)
  · have hhas := ofE_zero h0
    have hE : ofE txs h = 0 := by unfold ofE; rw [hhas]; rfl
    refine SG.skip ?_
    refine SN.seq ?_
    refine SG.seq ?_
    refine SG.region ?_
    refine SL.val rfl rfl (fun w9 F9 S9 s => R.mv rfl) ?_
    refine SL.val rfl rfl (fun w9 F9 S9 s => R.nilChk rfl) ?_
    refine SL.val rfl rfl (fun w9 F9 S9 s => R.fld rfl) ?_
    refine SL.val rfl rfl (fun w9 F9 S9 s => R.ldB rfl (s.cel (by repeat (first | exact SelB.blk | exact SelB.fz | apply SelB.there))) (by rfl)) ?_
    refine SL.val rfl rfl (fun w9 F9 S9 s => R.mv rfl) ?_
    refine SL.step rfl rfl (CS.call rfl go82 (delTx m txs h (by omega)) (by repeat (first | exact Sels.nil | apply Sels.cons | exact Sel.keep | exact Sel.here | apply Sel.there))) ?_
    rintro _ _ ⟨_, ⟨rfl, rfl⟩, rfl⟩
    refine SL.n1 ?_
    refine SL.nil ?_
    refine SN.imp (Imp.weak (p := fun w => ∀ t ∈ txs, RowW.ok w t.2) (q := fun w => ∀ t ∈ delT txs h, RowW.ok w t.2) (by repeat (first | exact Sel.keep | exact Sel.here | apply Sel.there)) (fun w hw => del_ok2 hw)) ?_
    refine SN.seq ?_
    refine SG.seq ?_
    refine SG.region ?_
    refine SL.val rfl rfl (fun w9 F9 S9 s => R.as rfl) ?_
    refine SL.nil ?_
    refine SN.seq ?_
    exact SG.ret1 rfl rfl ((Imp.sels (by repeat (first | exact Sels.nil | apply Sels.cons | exact Sel.keep | exact Sel.here | apply Sel.there)))) (⟨delT txs h, congrArg (Value.int .i64) ((ofE_abs txs h).trans hE).symm, delT_map _ _ _, rfl⟩)

theorem txopen_ok (b m : Nat) (B L : Int) (txs : List (Int × RowW)) (hl : txs.length ≤ 1000) : SpecS Try.prog 35 [.pointer (some ⟨b, 0, none⟩)] [blk b [.int .i64 B, .int .i64 L, .pointer (some ⟨m, 0, none⟩)] 137, mp (κ := Int) 174 176 1 m (psT txs), sh (fun w => ∀ t ∈ txs, RowW.ok w t.2)] (fun v H' => ∃ a c, v = .slice a txs.length c ∧ H' = [own 3 1 a txs.length c (txs.map fun t => .int .i64 t.1), blk b [.int .i64 B, .int .i64 L, .pointer (some ⟨m, 0, none⟩)] 137, mp (κ := Int) 174 176 1 m (psT txs), sh (fun w => ∀ t ∈ txs, RowW.ok w t.2)]) := by
  refine SpecS.enter Try.func35 rfl 10 rfl (Nat.le_of_ble_eq_true rfl) (fun o => ?_)
  refine SG.seq ?_
  refine SG.region ?_
  refine SL.val rfl rfl (fun w9 F9 S9 s => R.as rfl) ?_
  refine SL.nil ?_
  refine SN.seq ?_
  refine SG.seq ?_
  refine SG.seq ?_
  refine SG.region ?_
  refine SL.val rfl rfl (fun w9 F9 S9 s => R.mv rfl) ?_
  refine SL.val rfl rfl (fun w9 F9 S9 s => R.eqNilP rfl rfl) ?_
  refine SL.nil ?_
  refine SN.seq ?_
  refine SG.condF rfl ?_
  refine SG.skip ?_
  refine SN.seq ?_
  refine SG.seq ?_
  refine SG.region ?_
  refine SL.val rfl rfl (fun w9 F9 S9 s => R.mv rfl) ?_
  refine SL.val rfl rfl (fun w9 F9 S9 s => R.nilChk rfl) ?_
  refine SL.val rfl rfl (fun w9 F9 S9 s => R.fld rfl) ?_
  refine SL.val rfl rfl (fun w9 F9 S9 s => R.ldB rfl (s.cel (by repeat (first | exact SelB.blk | exact SelB.fz | apply SelB.there))) (by rfl)) ?_
  refine SL.step rfl rfl (CS.callC rfl go83 (fun w9 F9 S9 s => (s.mp (show Sel _ (mp (κ := Int) 174 176 1 m (psT txs)) _ from (by repeat (first | exact Sel.keep | exact Sel.here | apply Sel.there)))).elim fun S9 h9 => keysTx m txs S9 w9 h9 (by omega))) ?_
  rintro _ _ ⟨a9, c9, rfl, rfl⟩
  refine SL.val rfl rfl (fun w9 F9 S9 s => R.as rfl) ?_
  refine SL.nil ?_
  refine SN.seq ?_
  exact SG.ret1 rfl rfl ((Imp.sels (by repeat (first | exact Sels.nil | apply Sels.cons | exact Sel.keep | exact Sel.here | apply Sel.there)))) (⟨a9, c9, rfl, rfl⟩)

theorem txnew_ok (B : Int) (h1 : 1 ≤ B) (h2 : B ≤ 64) : SpecS Try.prog 28 [.int .i64 B] [] (fun v H' => ∃ b m', v = .tuple #[.pointer (some ⟨b, 0, none⟩), .int .i64 0] ∧ H' = [blk b [.int .i64 B, .int .i64 0, .pointer (some ⟨m', 0, none⟩)] 137, mp (κ := Int) 174 176 1 m' (psT []), sh (fun w => ∀ t ∈ ([] : List (Int × RowW)), RowW.ok w t.2)]) := by
  refine SpecS.enter Try.func28 rfl 14 rfl (Nat.le_of_ble_eq_true rfl) (fun o => ?_)
  refine SG.seq ?_
  refine SG.region ?_
  refine SL.val rfl rfl (fun w9 F9 S9 s => R.as rfl) ?_
  refine SL.val rfl rfl (fun w9 F9 S9 s => R.as rfl) ?_
  refine SL.nil ?_
  refine SN.seq ?_
  refine SG.seq ?_
  refine SG.seq ?_
  refine SG.region ?_
  refine SL.val rfl rfl (fun w9 F9 S9 s => R.mv rfl) ?_
  refine SL.val rfl rfl (fun w9 F9 S9 s => R.lss rfl rfl) ?_
  refine SL.val rfl rfl (fun w9 F9 S9 s => R.mv rfl) ?_
  refine SL.caseP 6 rfl (fun hg1_2 => ?_) (fun hg1_2 => ?_)
  · exfalso; omega
  · refine SL.val rfl rfl (fun w9 F9 S9 s => R.mv rfl) ?_
    refine SL.val rfl rfl (fun w9 F9 S9 s => R.gtr rfl rfl) ?_
    first | refine SL.val rfl rfl (fun w9 F9 S9 s => R.pickT rfl rfl) ?_ | refine SL.val rfl rfl (fun w9 F9 S9 s => R.pickF rfl rfl) ?_
    refine SL.nil ?_
    refine SN.seq ?_
    refine SG.condP rfl (fun h0 => ?_) (fun h0 => ?_)
    · exfalso; omega
    · refine SG.skip ?_
      refine SN.seq ?_
      refine SG.seq ?_
      refine SG.region ?_
      refine SL.val rfl rfl (fun w9 F9 S9 s => R.mv rfl) ?_
      refine SL.step rfl rfl (CS.call rfl go77 (SpecS.ofNew (fun w => onewW_ok w)) (by repeat (first | exact Sels.nil | apply Sels.cons | exact Sel.keep | exact Sel.here | apply Sel.there))) ?_
      rintro _ _ ⟨_, ⟨m2, rfl, rfl⟩, rfl⟩
      refine SL.n1 ?_
      refine SL.imp (Imp.pure (p := fun w => ∀ t ∈ ([] : List (Int × RowW)), RowW.ok w t.2) (fun w t ht => by cases ht)) ?_
      refine SL.val rfl rfl (fun w9 F9 S9 s => R.build rfl rfl) ?_
      refine SL.step rfl rfl (CS.boxA rfl) ?_
      rintro _ _ ⟨b13, rfl, rfl⟩
      refine SL.val rfl rfl (fun w9 F9 S9 s => R.as rfl) ?_
      refine SL.val rfl rfl (fun w9 F9 S9 s => R.as rfl) ?_
      refine SL.nil ?_
      refine SN.seq ?_
      exact SG.ret2 rfl rfl rfl ((Imp.sels (by repeat (first | exact Sels.nil | apply Sels.cons | exact Sel.keep | exact Sel.here | apply Sel.there)))) (⟨b13, m2, rfl, rfl⟩)

end Go.Proofs.Ytiiiplhfgblamaa
/-
  The walks of package txn.
-/
set_option linter.unusedVariables false
set_option linter.unusedSimpArgs false
set_option maxRecDepth 4000
namespace Go.Proofs.Ytiiiplhfgblamaa
open Go Brv
def bk (b : Nat) (B L : Int) (M : List (Int × List Wr)) : Asn := pk (fun i : {i : Nat × List (Int × RowW) // absT i.2 = M} => [blk b [.int .i64 B, .int .i64 L, .pointer (some ⟨i.1.1, 0, none⟩)] 137, mp (κ := Int) 174 176 1 i.1.1 (psT i.1.2), sh (fun w => ∀ t ∈ i.1.2, RowW.ok w t.2)])
theorem abs_len {txs : List (Int × RowW)} {k : Nat} (h : ∀ e ∈ absT txs, e.2.length ≤ k) : ∀ t ∈ txs, t.2.os.length ≤ k := fun t ht => by
  have := h (t.1, t.2.os.map wv) (List.mem_map.2 ⟨t, ht, rfl⟩)
  simpa using this
theorem bk_close {b m : Nat} {B L : Int} {txs : List (Int × RowW)} {M : List (Int × List Wr)} (h : absT txs = M) : Imp [blk b [.int .i64 B, .int .i64 L, .pointer (some ⟨m, 0, none⟩)] 137, mp (κ := Int) 174 176 1 m (psT txs), sh (fun w => ∀ t ∈ txs, RowW.ok w t.2)] [bk b B L M] := Imp.close0 (A := fun i : {i : Nat × List (Int × RowW) // absT i.2 = M} => [blk b [.int .i64 B, .int .i64 L, .pointer (some ⟨i.1.1, 0, none⟩)] 137, mp (κ := Int) 174 176 1 i.1.1 (psT i.1.2), sh (fun w => ∀ t ∈ i.1.2, RowW.ok w t.2)]) ⟨⟨m, txs⟩, h⟩

theorem beginS (b : Nat) (B L : Int) (M : List (Int × List Wr)) (hl : M.length ≤ 1000) (hL0 : 0 ≤ L) (hL : L ≤ 1000000) : SpecS Try.prog 29 [.pointer (some ⟨b, 0, none⟩)] (bk b B L M :: []) (fun v H' => v = .tuple #[.int .i64 (bgH L M), .int .i64 (bgE M)] ∧ H' = [bk b B (bgL L M) (bgM [] L M)]) :=
  SpecS.opened fun ⟨⟨m, txs⟩, hM⟩ => by
    subst hM
    have hl' : txs.length ≤ 1000 := by rw [← absT_len]; exact hl
    exact SpecS.closed (txbegin_ok b m B L txs hl' hL0 hL) fun v H' ⟨txs', h1, h2, h3⟩ => ⟨_, by rw [h3]; exact bk_close h2, h1, rfl⟩

theorem writeS (b : Nat) (B L : Int) (M : List (Int × List Wr)) (h k : Int) (a : Option Addr) (n c : Nat) (d : List UInt8) (hl : M.length ≤ 1000) (hw : ∀ e ∈ M, e.2.length ≤ 1000) (hnc : n ≤ c) (hc : c ≤ 140737488351232) (hnd : n = d.length) : SpecS Try.prog 30 [.pointer (some ⟨b, 0, none⟩), .int .i64 h, .int .i64 k, .slice a n c] (bk b B L M :: [bs a n d]) (fun v H' => v = .int .i64 (wrE B M h k d.length) ∧ H' = [bk b B L (wrM B M h k d)]) :=
  SpecS.opened fun ⟨⟨m, txs⟩, hM⟩ => by
    subst hM
    have hl' : txs.length ≤ 1000 := by rw [← absT_len]; exact hl
    have hol := abs_len hw
    exact SpecS.closed (txwrite_ok b m B L txs h k a n c d hl' hol hnc hc hnd) fun v H' ⟨txs', h1, h2, h3⟩ => ⟨_, by rw [h3]; exact bk_close h2, by rw [wrE_abs]; exact h1, rfl⟩

theorem readS (b : Nat) (B L : Int) (M : List (Int × List Wr)) (h k : Int) (hl : M.length ≤ 1000) (hw : ∀ e ∈ M, e.2.length ≤ 1000) : SpecS Try.prog 31 [.pointer (some ⟨b, 0, none⟩), .int .i64 h, .int .i64 k] (bk b B L M :: []) (fun v H' => ∃ a n c, v = .tuple #[.slice a n c, .bool (rdV B M h k).isSome, .int .i64 (rdE B M h k)] ∧ n ≤ 140737488351232 ∧ H' = [bs a n ((rdV B M h k).getD []), bk b B L M]) :=
  SpecS.opened fun ⟨⟨m, txs⟩, hM⟩ => by
    subst hM
    have hl' : txs.length ≤ 1000 := by rw [← absT_len]; exact hl
    have hol := abs_len hw
    exact SpecS.closed (txread_ok b m B L txs h k hl' hol) fun v H' ⟨a, n, c, h1, h2, h3⟩ => ⟨_, by rw [h3]; exact Imp.under (bk_close rfl), a, n, c, h1, h2, rfl⟩

theorem writesS (b : Nat) (B L : Int) (M : List (Int × List Wr)) (h : Int) (hl : M.length ≤ 1000) (hw : ∀ e ∈ M, e.2.length ≤ 1000) : SpecS Try.prog 32 [.pointer (some ⟨b, 0, none⟩), .int .i64 h] (bk b B L M :: []) (fun v H' => ∃ r : RowW, v = .tuple #[.slice r.a r.n r.c, .int .i64 (ofE M h)] ∧ r.os.map wv = mgW ((getT M h).getD []) ∧ H' = [sh (fun w => r.ok w), bk b B L M]) :=
  SpecS.opened fun ⟨⟨m, txs⟩, hM⟩ => by
    subst hM
    have hl' : txs.length ≤ 1000 := by rw [← absT_len]; exact hl
    have hol := abs_len hw
    exact SpecS.closed (txwrites_ok b m B L txs h hl' hol) fun v H' ⟨r, h1, h2, h3⟩ => ⟨_, by rw [h3]; exact Imp.under (bk_close rfl), r, h1, h2, rfl⟩

theorem endS (b : Nat) (B L : Int) (M : List (Int × List Wr)) (h : Int) (hl : M.length ≤ 1000) : SpecS Try.prog 33 [.pointer (some ⟨b, 0, none⟩), .int .i64 h] (bk b B L M :: []) (fun v H' => v = .int .i64 (ofE M h) ∧ H' = [bk b B L (delT M h)]) :=
  SpecS.opened fun ⟨⟨m, txs⟩, hM⟩ => by
    subst hM
    have hl' : txs.length ≤ 1000 := by rw [← absT_len]; exact hl
    exact SpecS.closed (txend_ok b m B L txs h hl') fun v H' ⟨txs', h1, h2, h3⟩ => ⟨_, by rw [h3]; exact bk_close h2, h1, rfl⟩

theorem openS (b : Nat) (B L : Int) (M : List (Int × List Wr)) (hl : M.length ≤ 1000) : SpecS Try.prog 35 [.pointer (some ⟨b, 0, none⟩)] (bk b B L M :: []) (fun v H' => ∃ a c, v = .slice a M.length c ∧ H' = [own 3 1 a M.length c (M.map fun e => .int .i64 e.1), bk b B L M]) :=
  SpecS.opened fun ⟨⟨m, txs⟩, hM⟩ => by
    subst hM
    have hl' : txs.length ≤ 1000 := by rw [← absT_len]; exact hl
    exact SpecS.closed (txopen_ok b m B L txs hl') fun v H' ⟨a, c, h1, h3⟩ => ⟨[own 3 1 a txs.length c (txs.map fun t => .int .i64 t.1), bk b B L (absT txs)], by rw [h3]; exact Imp.under (bk_close rfl), a, c, by rw [h1, absT_len], by simp [absT, mapT, Function.comp_def]⟩

theorem newS (B : Int) (h1 : 1 ≤ B) (h2 : B ≤ 64) : SpecS Try.prog 28 [.int .i64 B] [] (fun v H' => ∃ b, v = .tuple #[.pointer (some ⟨b, 0, none⟩), .int .i64 0] ∧ H' = [bk b B 0 []]) :=
  SpecS.closed (txnew_ok B h1 h2) fun v H' ⟨b, m', h1, h3⟩ => ⟨_, by rw [h3]; exact bk_close (txs := []) rfl, b, h1, rfl⟩

end Go.Proofs.Ytiiiplhfgblamaa
/-
  The walks of package txn.
-/
set_option linter.unusedVariables false
set_option linter.unusedSimpArgs false
set_option maxRecDepth 4000
namespace Go.Proofs.Ytiiiplhfgblamaa
open Go Brv
def txC (t : Int × RowW) : List Value := [.int .i64 t.1, t.2.val]
def txCs (ts : List (Int × RowW)) : List Value := (ts.map txC).flatten
structure DkOk (w : World) (a : Option Addr) (n c : Nat) (ts : List (Int × RowW)) : Prop where
  len : n = ts.length
  cap : n ≤ c
  cells : Cells w a (txCs ts)
  ok : ∀ t ∈ ts, RowW.ok w t.2
end Go.Proofs.Ytiiiplhfgblamaa
/-
  The walks of package txn.
-/
set_option linter.unusedVariables false
set_option linter.unusedSimpArgs false
set_option maxRecDepth 4000
namespace Go.Proofs.Ytiiiplhfgblamaa
open Go Brv
end Go.Proofs.Ytiiiplhfgblamaa
/-
  Regions that draw their order, where those that turn the world stand in no chain: a walk for every order of these.
-/
set_option linter.unusedVariables false
set_option linter.unusedSimpArgs false
namespace Brv
open Go
/-- Which operation comes next: one that only reads, or any of those that turn the world. -/
inductive Tr where
  | nil
  | flo (i : Nat) (t : Tr)
  | alt (i : Nat) (t r : Tr)
  | stop
def Tr.choices : Tr → List Nat
  | .alt i _ r => i :: r.choices
  | _ => []
section
variable (P : Program) (n : Fm) (ops : List Oper) (Q : Exit → Act → World → Prop) (o : Org)
def TW : Tr → Pend → Env → List Asn → Prop
  | .nil, _, ρ, H => ∀ w F S, St H F S w → From o w F S → ∀ a, Fr n ρ a → Q .normal a w
  | .flo i t, pend, ρ, H => (∃ w F S, St H F S w ∧ From o w F S) → ∃ op, ops[i]? = some op ∧ isSelect op.op = false ∧ (∀ d, op.dst = some d → d < n.n) ∧ ∃ v, op.dst ≠ none ∧ ((∀ w, Fl P n ops ρ w op v) ∧ TW t pend (extE op.dst v ρ) H ∨
        ∃ g : List Asn → Prop, g H ∧ (∀ H w F S, g H → St H F S w → From o w F S → Fl P n ops ρ w op v) ∧ TW t ((i, g) :: pend) (extE op.dst v ρ) H)
  | .alt i t r, pend, ρ, H => ((∃ w F S, St H F S w ∧ From o w F S) → ∃ op, ops[i]? = some op ∧ isSelect op.op = false ∧ (∀ d, op.dst = some d → d < n.n) ∧ ∃ Ψ : Value → List Asn → Prop, ((wants ops ρ op.guard = some true ∧ CS P n o ρ H op Ψ) ∨ (wants ops ρ op.guard = some false ∧ Ψ = fun v H' => v = undef ∧ H' = H)) ∧
        ∀ v H', Ψ v H' → Obl ops i pend H' ∧ TW t pend (extE op.dst v ρ) H') ∧ TW r pend ρ H
  | .stop, _, _, _ => True
end
/-- Are all the others held back? -/
def chkC (ops : List Oper) (done : List Nat) : Tr → Bool
  | .nil => true
  | .flo _ _ => true
  | .stop => false
  | t => (List.range ops.length).all fun x => done.any (Nat.beq x) || t.choices.any (Nat.beq x) || t.choices.any (fun c => reachIn (masks ops ops.length) x c)
def chkT (ops : List Oper) : List Nat → Tr → Bool
  | done, .nil => (List.range ops.length).all fun i => done.any (Nat.beq i)
  | done, .flo i t => Nat.blt i ops.length && !done.any (Nat.beq i) && (afters ops i).all (fun k => done.any (Nat.beq k)) && chkC ops (i :: done) t && chkT ops (i :: done) t
  | done, .alt i t r => Nat.blt i ops.length && !done.any (Nat.beq i) && (afters ops i).all (fun k => done.any (Nat.beq k)) && chkC ops (i :: done) t && chkT ops (i :: done) t && chkT ops done r
  | _, .stop => true
section
variable {P : Program} {n : Fm} {ops : List Oper} {Q : Exit → Act → World → Prop} {o : Org}
theorem chkT_choice : ∀ {t : Tr} {done : List Nat}, chkT ops done t = true → ∀ c ∈ t.choices, c < ops.length ∧ c ∉ done ∧ ∀ k ∈ afters ops c, k ∈ done
  | .nil, _, _, c, hc => by cases hc
  | .flo _ _, _, _, c, hc => by cases hc
  | .stop, _, _, c, hc => by cases hc
  | .alt i t r, done, h, c, hc => by
    simp only [chkT, Bool.and_eq_true, Bool.not_eq_true', Nat.blt_eq] at h
    obtain ⟨⟨⟨⟨⟨h1, h2⟩, h3⟩, h4⟩, h5⟩, h6⟩ := h
    rcases List.mem_cons.1 hc with rfl | hc
    · exact ⟨h1, (fun hm => by have := any_beq.2 hm; rw [h2] at this; cases this), fun k hk => any_beq.1 (List.all_eq_true.1 h3 k hk)⟩
    · exact chkT_choice h6 c hc
theorem TW.pick : ∀ {t : Tr} {pend : Pend} {ρ : Env} {H : List Asn} {done : List Nat} {i : Nat}, TW P n ops Q o t pend ρ H → chkT ops done t = true → i ∈ t.choices → ∃ u, ((∀ k ∈ afters ops i, k ∈ done) ∧ chkC ops (i :: done) u = true ∧ chkT ops (i :: done) u = true) ∧
      ((∃ w F S, St H F S w ∧ From o w F S) → ∃ op, ops[i]? = some op ∧ isSelect op.op = false ∧ (∀ d, op.dst = some d → d < n.n) ∧ ∃ Ψ : Value → List Asn → Prop, ((wants ops ρ op.guard = some true ∧ CS P n o ρ H op Ψ) ∨ (wants ops ρ op.guard = some false ∧ Ψ = fun v H' => v = undef ∧ H' = H)) ∧
        ∀ v H', Ψ v H' → Obl ops i pend H' ∧ TW P n ops Q o u pend (extE op.dst v ρ) H')
  | .nil, _, _, _, _, _, _, _, hi => by cases hi
  | .flo _ _, _, _, _, _, _, _, _, hi => by cases hi
  | .stop, _, _, _, _, _, _, _, hi => by cases hi
  | .alt j t r, pend, ρ, H, done, i, hsw, h, hi => by
    have h0 := h
    simp only [chkT, Bool.and_eq_true, Bool.not_eq_true', Nat.blt_eq] at h
    obtain ⟨⟨⟨⟨⟨h1, h2⟩, h3⟩, h4⟩, h5⟩, h6⟩ := h
    simp only [TW] at hsw
    by_cases hij : i = j
    · subst hij
      exact ⟨t, ⟨fun k hk => any_beq.1 (List.all_eq_true.1 h3 k hk), h4, h5⟩, hsw.1⟩
    · exact TW.pick hsw.2 h6 ((List.mem_cons.1 hi).resolve_left hij)
/-- What is so while the region runs. -/
structure TInv (P : Program) (n : Fm) (ops : List Oper) (Q : Exit → Act → World → Prop) (o : Org) (ρ₀ : Env) (listed : Array Bool) (a : Act) (w : World) (done : List Nat) (t₀ : Tr) (pend : Pend) (H : List Asn) (F S : List Nat) (val : Nat → Value) : Prop where
  lsz : listed.size = ops.length
  tsz : a.tmps.size = n.n
  tdf : a.defers = n.df
  closed : Closed ops (fun i => listed[i]? = some true)
  ok : DoneOk ops done
  ordC : chkC ops done t₀ = true
  ordT : chkT ops done t₀ = true
  sw : TW P n ops Q o t₀ pend (envOf ops val ρ₀ done) H
  st : St H F S w
  fr : From o w F S
  ldone : ∀ i, listed[i]? = some true → i ∈ done
  pok : ∀ (i : Nat) (op : Oper), i ∈ done → listed[i]? ≠ some true → ops[i]? = some op → isSelect op.op = false ∧ (∀ d, op.dst = some d → d < n.n) ∧ op.dst ≠ none ∧ ((∀ w, Fl P n ops (envB ops val ρ₀ i done) w op (val i)) ∨ ∃ g : List Asn → Prop, (i, g) ∈ pend ∧ g H ∧ ∀ H w F S, g H → St H F S w → From o w F S → Fl P n ops (envB ops val ρ₀ i done) w op (val i))
  d1 : ∀ (i : Nat) (op : Oper) (d : Nat), listed[i]? = some true → ops[i]? = some op → op.dst = some d → a.tmps[d]? = some (val i)
  d2 : ∀ t v, look ρ₀ t = some v → (∀ (i : Nat) (op : Oper), listed[i]? = some true → ops[i]? = some op → op.dst ≠ some t) → a.tmps[t]? = some v
  lt0 : ∀ t v, look ρ₀ t = some v → t < n.n
  ltd : ∀ (i : Nat) (op : Oper) (d : Nat), i ∈ done → ops[i]? = some op → op.dst = some d → d < n.n

/-- The slots that an operation looks at are as its environment has them. -/
theorem TInv.slots {ρ₀ : Env} {listed : Array Bool} {a : Act} {w : World} {done : List Nat} {t₀ : Tr} {pend : Pend} {H : List Asn} {F S : List Nat} {val : Nat → Value} (C : Chk ops []) (I : TInv P n ops Q o ρ₀ listed a w done t₀ pend H F S val)
    {i : Nat} {op : Oper} (hi : ops[i]? = some op) (hnl : listed[i]? ≠ some true) (haft : ∀ k ∈ afters ops i, listed[k]? = some true) {d : List Nat} (hd : DoneOk ops d) (hda : ∀ k ∈ afters ops i, k ∈ d) (hid : i ∉ d) :
    ∀ t ∈ slots ops op, ∀ u, look (envOf ops val ρ₀ d) t = some u → a.tmps[t]? = some u := by
  intro t ht u hu
  rcases look_envOf hu with ⟨j, oj, hj, hoj, hdj, rfl⟩ | ⟨h0, hno⟩
  · rcases C.share i op hi t ht j oj hoj hdj with e | e | e
    · exact absurd (e ▸ hj) hid
    · exact I.d1 j oj t (haft j e) hoj hdj
    · exact absurd (hd.back hj e) hid
  · refine I.d2 t u h0 (fun j oj hlj hoj hdj => ?_)
    rcases C.share i op hi t ht j oj hoj hdj with e | e | e
    · exact hnl (e ▸ hlj)
    · exact hno j oj (hda j e) hoj hdj
    · exact hnl (I.closed j hlj i e)
/-- The walk goes on over all that only read. -/
theorem TInv.adv {ρ₀ : Env} {listed : Array Bool} {a : Act} {w : World} : ∀ {t₀ : Tr} {done : List Nat} {pend : Pend} {H : List Asn} {F S : List Nat} {val : Nat → Value}, TInv P n ops Q o ρ₀ listed a w done t₀ pend H F S val →
    ∃ done' t' pend' val', TInv P n ops Q o ρ₀ listed a w done' t' pend' H F S val' ∧ (t' = .nil ∨ ∃ c u r, t' = .alt c u r)
  | .nil, done, pend, H, F, S, val, I => ⟨done, .nil, pend, val, I, .inl rfl⟩
  | .alt c u r, done, pend, H, F, S, val, I => ⟨done, .alt c u r, pend, val, I, .inr ⟨c, u, r, rfl⟩⟩
  | .stop, done, pend, H, F, S, val, I => by have := I.ordC; simp [chkC] at this
  | .flo i t, done, pend, H, F, S, val, I => by
      have ho := I.ordT
      simp only [chkT, Bool.and_eq_true, Bool.not_eq_true', Nat.blt_eq] at ho
      obtain ⟨⟨⟨⟨h1, h2⟩, h3⟩, h4⟩, h5⟩ := ho
      have hid : i ∉ done := fun h => by have := any_beq.2 h; rw [h2] at this; cases this
      have hia : ∀ k ∈ afters ops i, k ∈ done := fun k hk => any_beq.1 (List.all_eq_true.1 h3 k hk)
      have hop : ops[i]? = some ops[i] := List.getElem?_eq_getElem h1
      have hsw := I.sw
      simp only [TW] at hsw
      obtain ⟨op, ho, q1, q2, v, q3, q⟩ := hsw ⟨w, F, S, I.st, I.fr⟩
      rw [hop] at ho; cases ho
      have hnl : listed[i]? ≠ some true := fun h => hid (I.ldone i h)
      obtain ⟨val', hv'⟩ : ∃ val' : Nat → Value, val' = fun j => if j = i then v else val j := ⟨_, rfl⟩
      have hvi : val' i = v := by rw [hv']; simp
      have hvd : ∀ j ∈ done, val j = val' j := fun j hj => by rw [hv']; simp only [if_neg (fun e : j = i => hid (e ▸ hj))]
      have hE : envOf ops val' ρ₀ (i :: done) = extE ops[i].dst v (envOf ops val ρ₀ done) := by
        simp only [envOf, hop, Option.bind_some, hvi]
        rw [envOf_congr (fun j hj => (hvd j hj).symm)]
      have hB : envB ops val' ρ₀ i (i :: done) = envOf ops val ρ₀ done := by simp only [envB, if_true]; exact envOf_congr (fun j hj => (hvd j hj).symm)
      have hB2 : ∀ j, j ∈ done → envB ops val' ρ₀ j (i :: done) = envB ops val ρ₀ j done := fun j hj => by
        simp only [envB]
        rw [if_neg (fun e : i = j => hid (e ▸ hj))]
        exact envB_congr (fun j hj => (hvd j hj).symm)
      have hd1 : ∀ j op d, listed[j]? = some true → ops[j]? = some op → op.dst = some d → a.tmps[d]? = some (val' j) := fun j op d h1 h2 h3 => by rw [← hvd j (I.ldone j h1)]; exact I.d1 j op d h1 h2 h3
      have hltd : ∀ j op d, j ∈ i :: done → ops[j]? = some op → op.dst = some d → d < n.n := fun j op d hj hoj hdj => by
        rcases List.mem_cons.1 hj with rfl | hj
        · rw [hop] at hoj; cases hoj; exact q2 d hdj
        · exact I.ltd j op d hj hoj hdj
      rcases q with ⟨q4, q5⟩ | ⟨g, q4, q5, q6⟩
      · exact TInv.adv (t₀ := t) (done := i :: done) (pend := pend) (H := H) (F := F) (S := S) (val := val') ⟨I.lsz, I.tsz, I.tdf, I.closed, ⟨hid, h1, hia, I.ok⟩, h4, h5, by rw [hE]; exact q5, I.st, I.fr, fun j hj => by simp [I.ldone j hj],
          fun j op hj hnj hoj => by
            rcases List.mem_cons.1 hj with rfl | hj
            · rw [hop] at hoj; cases hoj
              exact ⟨q1, q2, q3, .inl (by rw [hB, hvi]; exact q4)⟩
            · rw [hB2 j hj, ← hvd j hj]
              exact I.pok j op hj hnj hoj, hd1, I.d2, I.lt0, hltd⟩
      · exact TInv.adv (t₀ := t) (done := i :: done) (pend := (i, g) :: pend) (H := H) (F := F) (S := S) (val := val') ⟨I.lsz, I.tsz, I.tdf, I.closed, ⟨hid, h1, hia, I.ok⟩, h4, h5, by rw [hE]; exact q6, I.st, I.fr, fun j hj => by simp [I.ldone j hj],
          fun j op hj hnj hoj => by
            rcases List.mem_cons.1 hj with rfl | hj
            · rw [hop] at hoj; cases hoj
              exact ⟨q1, q2, q3, .inr ⟨g, by simp, q4, by rw [hB, hvi]; exact q5⟩⟩
            · rw [hB2 j hj, ← hvd j hj]
              obtain ⟨k1, k2, k3, k4⟩ := I.pok j op hj hnj hoj
              exact ⟨k1, k2, k3, k4.imp id (fun ⟨g', m1, m2⟩ => ⟨g', by simp [m1], m2⟩)⟩, hd1, I.d2, I.lt0, hltd⟩
/-- One operation is done, which was walked over. -/
theorem TInv.float {ρ₀ : Env} {listed : Array Bool} {a : Act} {w : World} {done : List Nat} {t₀ : Tr} {pend : Pend} {H : List Asn} {F S : List Nat} {val : Nat → Value} (C : Chk ops []) (I : TInv P n ops Q o ρ₀ listed a w done t₀ pend H F S val)
    {i : Nat} {op : Oper} (hi : ops[i]? = some op) (hid : i ∈ done) (hnl : listed[i]? ≠ some true) (haft : ∀ k ∈ afters ops i, listed[k]? = some true) :
    TInv P n ops Q o ρ₀ (listed.setIfInBounds i true) (a.put op.dst (val i)) w done t₀ pend H F S val := by
  have hlt : i < listed.size := by rw [I.lsz]; exact (List.getElem?_eq_some_iff.1 hi).1
  obtain ⟨d, hd⟩ : ∃ d, op.dst = some d := by
    have := (I.pok i op hid hnl hi).2.2.1
    cases h : op.dst with
    | none => exact absurd h this
    | some d => exact ⟨d, rfl⟩
  have hdn : d < a.tmps.size := by rw [I.tsz]; exact (I.pok i op hid hnl hi).2.1 d hd
  refine ⟨by simpa using I.lsz, by rw [hd]; simpa [Act.put] using I.tsz, by rw [hd]; simpa [Act.put] using I.tdf, ?_, I.ok, I.ordC, I.ordT, I.sw, I.st, I.fr, ?_, ?_, ?_, ?_, I.lt0, I.ltd⟩
  · intro x hx y hy
    rw [listed_set hlt] at hx ⊢
    rcases hx with rfl | hx
    · exact .inr (haft y hy)
    · exact .inr (I.closed x hx y hy)
  · intro x hx
    rcases (listed_set hlt).1 hx with rfl | hx
    · exact hid
    · exact I.ldone x hx
  · intro x ox hx hnx hox
    exact I.pok x ox hx (fun h => hnx ((listed_set hlt).2 (.inr h))) hox
  · intro x ox dx hx hox hdx
    rw [hd]
    simp only [Act.put]
    rcases (listed_set hlt).1 hx with rfl | hx
    · rw [hi] at hox; cases hox
      rw [hd] at hdx; cases hdx
      rw [Array.getElem?_setIfInBounds]; simp [hdn]
    · have hne : d ≠ dx := by
        intro e; subst e
        have := C.apart x ox d hox hdx i op hi hd
        exact hnl (this ▸ hx)
      rw [Array.getElem?_setIfInBounds_ne hne]
      exact I.d1 x ox dx hx hox hdx
  · intro t v hv hno
    have hne : d ≠ t := fun e => hno i op ((listed_set hlt).2 (.inl rfl)) hi (by rw [hd, e])
    rw [hd]
    simp only [Act.put]
    rw [Array.getElem?_setIfInBounds_ne hne]
    exact I.d2 t v hv (fun j oj hj => hno j oj ((listed_set hlt).2 (.inr hj)))

/-- The next one of the chain is done. -/
theorem TInv.chain {ρ₀ : Env} {listed : Array Bool} {a : Act} {w : World} {done : List Nat} {t₀ u : Tr} {pend : Pend} {H : List Asn} {F S : List Nat} {val : Nat → Value} (C : Chk ops []) {i : Nat} {op : Oper} (I : TInv P n ops Q o ρ₀ listed a w done t₀ pend H F S val)
    (hi : ops[i]? = some op) (hnl : listed[i]? ≠ some true) (haft : ∀ k ∈ afters ops i, listed[k]? = some true) (hid : i ∉ done) (hia : ∀ k ∈ afters ops i, k ∈ done) (hdn : ∀ d, op.dst = some d → d < n.n) (hordC : chkC ops (i :: done) u = true) (hordT : chkT ops (i :: done) u = true)
    {v : Value} {H' : List Asn} {F' S' : List Nat} {w' : World} (hob : Obl ops i pend H') (hsw : TW P n ops Q o u pend (extE op.dst v (envOf ops val ρ₀ done)) H') (s' : St H' F' S' w') (f' : From o w' F' S') :
    TInv P n ops Q o ρ₀ (listed.setIfInBounds i true) (a.put op.dst v) w' (i :: done) u pend H' F' S' (fun j => if j = i then v else val j) := by
  have hll := (List.getElem?_eq_some_iff.1 hi).1
  have hlt : i < listed.size := by rw [I.lsz]; exact hll
  obtain ⟨val', hv'⟩ : ∃ val' : Nat → Value, val' = fun j => if j = i then v else val j := ⟨_, rfl⟩
  rw [← hv']
  have hvi : val' i = v := by rw [hv']; simp
  have hvd : ∀ j ∈ done, val j = val' j := fun j hj => by rw [hv']; simp only [if_neg (fun e : j = i => hid (e ▸ hj))]
  have hE : envOf ops val' ρ₀ (i :: done) = extE op.dst v (envOf ops val ρ₀ done) := by
    simp only [envOf, hi, Option.bind_some, hvi]
    rw [envOf_congr (fun j hj => (hvd j hj).symm)]
  have hB2 : ∀ j, j ∈ done → envB ops val' ρ₀ j (i :: done) = envB ops val ρ₀ j done := fun j hj => by
    simp only [envB]
    rw [if_neg (fun e : i = j => hid (e ▸ hj))]
    exact envB_congr (fun j hj => (hvd j hj).symm)
  refine ⟨by simpa using I.lsz, ?_, ?_, ?_, ⟨hid, hll, hia, I.ok⟩, hordC, hordT, by rw [hE]; exact hsw, s', f', ?_, ?_, ?_, ?_, I.lt0, ?_⟩
  · cases hd : op.dst <;> simp [Act.put, I.tsz]
  · cases hd : op.dst <;> simp [Act.put, I.tdf]
  · intro x hx y hy
    rw [listed_set hlt] at hx ⊢
    rcases hx with rfl | hx
    · exact .inr (haft y hy)
    · exact .inr (I.closed x hx y hy)
  · intro x hx
    rcases (listed_set hlt).1 hx with rfl | hx
    · simp
    · simp [I.ldone x hx]
  · intro x ox hx hnx hox
    have hxi : x ≠ i := fun e => hnx ((listed_set hlt).2 (.inl e))
    have hxd := (List.mem_cons.1 hx).resolve_left hxi
    have hnx' : listed[x]? ≠ some true := fun h => hnx ((listed_set hlt).2 (.inr h))
    obtain ⟨k1, k2, k3, k4⟩ := I.pok x ox hxd hnx' hox
    rw [hB2 x hxd, ← hvd x hxd]
    refine ⟨k1, k2, k3, k4.imp id (fun ⟨g, m1, m2, m3⟩ => ⟨g, m1, ?_, m3⟩)⟩
    rcases hob.all x g m1 with hr | hg
    · exact absurd (masks_spec _ _ _ hr (fun y => listed[y]? = some true) I.closed haft) hnx'
    · exact hg
  · intro x ox dx hx hox hdx
    rcases (listed_set hlt).1 hx with rfl | hx
    · rw [hi] at hox; cases hox
      rw [hdx, hvi]
      simp only [Act.put]
      rw [Array.getElem?_setIfInBounds]; simp [I.tsz, hdn dx hdx]
    · rw [← hvd x (I.ldone x hx)]
      have := I.d1 x ox dx hx hox hdx
      cases hd : op.dst with
      | none => exact this
      | some d =>
        simp only [Act.put]
        have hne : d ≠ dx := by
          intro e; subst e
          have := C.apart x ox d hox hdx i op hi hd
          exact hnl (this ▸ hx)
        rw [Array.getElem?_setIfInBounds_ne hne]
        exact this
  · intro t u hu hno
    have h2 := I.d2 t u hu (fun j oj hj => hno j oj ((listed_set hlt).2 (.inr hj)))
    cases hd : op.dst with
    | none => exact h2
    | some d =>
      have hne : d ≠ t := fun e => hno i op ((listed_set hlt).2 (.inl rfl)) hi (by rw [hd, e])
      simp only [Act.put]
      rw [Array.getElem?_setIfInBounds_ne hne]
      exact h2
  · intro j oj dj hj hoj hdj
    rcases List.mem_cons.1 hj with rfl | hj
    · rw [hi] at hoj; cases hoj; exact hdn dj hdj
    · exact I.ltd j oj dj hj hoj hdj
theorem TW.sound {ρ₀ : Env} {t₀ : Tr} {H : List Asn} {F S : List Nat} (hc1 : chk ops [] = true) (hc2 : chkC ops [] t₀ = true) (hc3 : chkT ops [] t₀ = true) (hn : ∀ t v, look ρ₀ t = some v → t < n.n) (h : TW P n ops Q o t₀ [] ρ₀ H)
    {a : Act} {w : World} (s : St H F S w) (fr : From o w F S) (ha : Fr n ρ₀ a) : wpAnyIn (fen n.ro) 0 P .any ops.toArray Q ops.length (Array.replicate ops.length false) a w := by
  have C := chk_spec hc1
  have hready : ∀ (listed : Array Bool) (i : Nat), i ∈ Region.ready .any ops.toArray listed → i < ops.length ∧ listed[i]? ≠ some true ∧ ∀ k ∈ afters ops i, listed[k]? = some true := by
    intro listed i hi
    simp only [Region.ready, List.mem_filter, List.mem_range, Bool.and_eq_true] at hi
    obtain ⟨h1, h2, h3⟩ := hi
    have h1' : i < ops.length := by simpa using h1
    refine ⟨h1', ?_, ?_⟩
    · intro e
      simp [Array.getD_eq_getD_getElem?, e] at h2
    · intro k hk
      rw [List.getElem?_toArray, List.getElem?_eq_getElem h1'] at h3
      simp only [Option.map_some, Option.getD_some] at h3
      simp only [afters, List.getElem?_eq_getElem h1'] at hk
      simp only [List.mem_map, List.mem_filter] at hk
      obtain ⟨e, ⟨he, hb⟩, rfl⟩ := hk
      have := (Array.all_eq_true_iff_forall_mem.1 h3) e (by simpa using he)
      simp only [bindsAny] at hb
      simp only [hb, Bool.not_true, Bool.false_or] at this
      simp only [Array.getD_eq_getD_getElem?] at this
      cases hq : listed[e.on]? with
      | none => simp [hq] at this
      | some b => simp [hq] at this; subst this; rfl
  have allReady : ∀ (listed : Array Bool), listed.size = ops.length → Closed ops (fun i => listed[i]? = some true) → (∀ m, m < ops.length → listed[m]? ≠ some true → ∃ i, i ∈ Region.ready .any ops.toArray listed) := by
    intro listed hsz hcl m
    induction m using Nat.strongRecOn with
    | _ m ih =>
      intro hm hne
      by_cases hall : ∀ k ∈ afters ops m, listed[k]? = some true
      · refine ⟨m, ?_⟩
        simp only [Region.ready, List.mem_filter, List.mem_range, Bool.and_eq_true]
        refine ⟨by simpa using hm, ?_, ?_⟩
        · have hlt : m < listed.size := by omega
          rw [Array.getD_eq_getD_getElem?, Array.getElem?_eq_getElem hlt]
          rw [Array.getElem?_eq_getElem hlt] at hne
          cases hv : listed[m] with
          | true => rw [hv] at hne; exact absurd rfl hne
          | false => rfl
        · rw [List.getElem?_toArray, List.getElem?_eq_getElem hm]
          simp only [Option.map_some, Option.getD_some]
          rw [Array.all_eq_true_iff_forall_mem]
          intro e he
          cases hb : Region.binds .any e with
          | false => rfl
          | true =>
            have := hall e.on (by
              simp only [afters, List.getElem?_eq_getElem hm, List.mem_map, List.mem_filter]
              exact ⟨e, ⟨by simpa using he, hb⟩, rfl⟩)
            simp [Array.getD_eq_getD_getElem?, this]
      · have hex : ∃ k, k ∈ afters ops m ∧ ¬ listed[k]? = some true := Classical.byContradiction fun hno => hall fun k hk => Classical.byContradiction fun hk' => hno ⟨k, hk, hk'⟩
        obtain ⟨k, hk, hk'⟩ := hex
        have hlt := C.back m _ (List.getElem?_eq_getElem hm) k hk
        exact ih k hlt (by omega) hk'
  have key : ∀ (fuel : Nat) (listed : Array Bool) (a : Act) (w : World) (done : List Nat) (t₀ : Tr) (pend : Pend) (H : List Asn) (F S : List Nat) (val : Nat → Value), ((List.range ops.length).filter (fun i => listed[i]? ≠ some true)).length ≤ fuel →
      TInv P n ops Q o ρ₀ listed a w done t₀ pend H F S val → wpAnyIn (fen n.ro) 0 P .any ops.toArray Q fuel listed a w := by
    intro fuel
    have finish : ∀ (listed : Array Bool) (a : Act) (w : World) (done : List Nat) (t₀ : Tr) (pend : Pend) (H : List Asn) (F S : List Nat) (val : Nat → Value), TInv P n ops Q o ρ₀ listed a w done t₀ pend H F S val → (∀ i, i < ops.length → listed[i]? = some true) → Q .normal a w := by
      intro listed a w done t₀ pend H F S val I hall
      obtain ⟨done, t₀, pend, val, I, hr⟩ := I.adv
      rcases hr with rfl | ⟨c, u, r, rfl⟩
      · refine I.sw w F S I.st I.fr a ⟨I.tsz, I.tdf, fun t v hv => ?_⟩
        rcases look_envOf hv with ⟨j, op, h1, h2, h3, rfl⟩ | ⟨h1, h2⟩
        · exact I.d1 j op t (hall j (List.getElem?_eq_some_iff.1 h2).1) h2 h3
        · exact I.d2 t v h1 (fun j op hj hop => h2 j op (I.ldone j hj) hop)
      · exfalso
        obtain ⟨h1, h2, _⟩ := chkT_choice I.ordT c (by simp [Tr.choices])
        exact h2 (I.ldone c (hall c h1))
    induction fuel with
    | zero =>
      intro listed a w done t₀ pend H F S val hcnt I
      have hall : ∀ i, i < ops.length → listed[i]? = some true := by
        intro i hi
        refine Classical.byContradiction fun hne => ?_
        have hmem : i ∈ (List.range ops.length).filter (fun i => listed[i]? ≠ some true) := by
          rw [List.mem_filter]; exact ⟨List.mem_range.2 hi, by simpa using hne⟩
        have : (List.range ops.length).filter (fun i => listed[i]? ≠ some true) = [] := List.eq_nil_of_length_eq_zero (by omega)
        rw [this] at hmem; cases hmem
      refine ⟨?_, finish listed a w done t₀ pend H F S val I hall⟩
      apply List.eq_nil_iff_forall_not_mem.2
      intro i hi
      have := hready listed i hi
      exact this.2.1 (hall i this.1)
    | succ fuel ih =>
      intro listed a w done t₀ pend H F S val hcnt I
      refine ⟨fun hnil => ?_, fun i hi => ?_⟩
      · refine finish listed a w done t₀ pend H F S val I (fun i hi => Classical.byContradiction fun hne => ?_)
        obtain ⟨x, hx⟩ := allReady listed I.lsz I.closed i hi hne
        rw [hnil] at hx; cases hx
      · obtain ⟨hlt, hnl, haft⟩ := hready listed i hi
        obtain ⟨done, t₀, pend, val, I, hr⟩ := I.adv
        have hoi : ops[i]? = some ops[i] := List.getElem?_eq_getElem hlt
        have hlz : i < listed.size := by rw [I.lsz]; exact hlt
        have hless : ((List.range ops.length).filter (fun j => (listed.setIfInBounds i true)[j]? ≠ some true)).length ≤ fuel := by
          have gen : ∀ (l : List Nat), l.Nodup → ((i ∈ l → (l.filter (fun j => (listed.setIfInBounds i true)[j]? ≠ some true)).length + 1 ≤ (l.filter (fun j => listed[j]? ≠ some true)).length) ∧ (l.filter (fun j => (listed.setIfInBounds i true)[j]? ≠ some true)).length ≤ (l.filter (fun j => listed[j]? ≠ some true)).length) := by
            intro l
            induction l with
            | nil => exact fun _ => ⟨fun h => (by cases h), Nat.le_refl _⟩
            | cons x r ihl =>
              intro hnd
              have hnd' := List.nodup_cons.1 hnd
              obtain ⟨k1, k2⟩ := ihl hnd'.2
              by_cases hxi : x = i
              · subst hxi
                have e1 : (decide ((listed.setIfInBounds x true)[x]? ≠ some true)) = false := by simp [listed_set hlz]
                have e2 : (decide (listed[x]? ≠ some true)) = true := by simpa using hnl
                simp only [List.filter_cons, e1, e2, if_true, List.length_cons]
                simp only [Bool.false_eq_true, if_false]
                exact ⟨fun _ => Nat.succ_le_succ k2, Nat.le_succ_of_le k2⟩
              · have e1 : (decide ((listed.setIfInBounds i true)[x]? ≠ some true)) = (decide (listed[x]? ≠ some true)) := by
                  rw [decide_eq_decide]; simp [listed_set hlz, hxi]
                simp only [List.filter_cons, e1]
                split
                · simp only [List.length_cons]
                  exact ⟨fun h => Nat.succ_le_succ (k1 ((List.mem_cons.1 h).resolve_left (fun e => hxi e.symm))), Nat.succ_le_succ k2⟩
                · exact ⟨fun h => k1 ((List.mem_cons.1 h).resolve_left (fun e => hxi e.symm)), k2⟩
          have := (gen _ List.nodup_range).1 (List.mem_range.2 hlt)
          omega
        by_cases hid : i ∈ done
        · obtain ⟨p1, p2, p3, p4⟩ := I.pok i _ hid hnl hoi
          have hfl : Fl P n ops (envB ops val ρ₀ i done) w ops[i] (val i) := p4.elim (fun h => h w) (fun ⟨g, _, h1, h2⟩ => h2 H w F S h1 I.st I.fr)
          obtain ⟨d', hd1, hd2, hd3, hd4, hd5⟩ := envB_of (val := val) (ρ₀ := ρ₀) I.ok hid
          rw [hd1] at hfl
          have hsl := I.slots C hoi hnl haft hd4 hd2 hd3
          have hltE := lt_env (ops := ops) (n := n) (val := val) I.lt0 (fun j op t hj => I.ltd j op t (hd5 j hj))
          obtain ⟨a₀, hfr, hag⟩ := frame_for I.tsz hltE ops[i] hsl
          have hwp : wpo P n ops Q ops[i] (fun a' w' => a' = a.put ops[i].dst (val i) ∧ w' = w) a w := by
            unfold wpo
            rcases hfl with ⟨hg, hrun⟩ | ⟨hg, hv⟩
            · rw [wanted_for hg hfr hag]
              simp only [if_true]
              refine wpIn_run (nodef p1) ((congrArg (fun s => s.run P w) (eval_virtual hag (nosel p1))).trans (hrun a₀ hfr)) ?_
              exact ⟨rfl, rfl⟩
            · rw [wanted_for hg hfr hag]
              simp only [Bool.false_eq_true, if_false]
              rw [hv]; exact ⟨rfl, trivial⟩
          refine wpo_wpOp hoi hwp ?_
          rintro a' w' ⟨rfl, rfl⟩
          exact ih _ _ _ done t₀ pend H F S val hless (I.float C hoi hid hnl haft)
        · have hch : i ∈ t₀.choices := by
            rcases hr with rfl | ⟨c, u, r, rfl⟩
            · have := I.ordT
              simp only [chkT] at this
              exact absurd (any_beq.1 (List.all_eq_true.1 this i (List.mem_range.2 hlt))) hid
            · have := List.all_eq_true.1 I.ordC i (List.mem_range.2 hlt)
              simp only [Bool.or_eq_true] at this
              rcases this with (h | h) | h
              · exact absurd (any_beq.1 h) hid
              · exact any_beq.1 h
              · exfalso
                obtain ⟨c', hc', hrc⟩ := List.any_eq_true.1 h
                obtain ⟨_, h2, _⟩ := chkT_choice I.ordT c' hc'
                exact h2 (I.ldone c' (masks_spec _ _ _ hrc (fun x => listed[x]? = some true) I.closed haft))
          obtain ⟨u, ⟨hia, hC, hT⟩, hsw⟩ := TW.pick I.sw I.ordT hch
          obtain ⟨op, ho, q1, q2, Ψ, hΨ, hk⟩ := hsw ⟨w, F, S, I.st, I.fr⟩
          rw [hoi] at ho; cases ho
          have hsl := I.slots C hoi hnl haft I.ok hia hid
          have hltE := lt_env (ops := ops) (n := n) (val := val) I.lt0 (fun j op t hj => I.ltd j op t hj)
          obtain ⟨a₀, hfr, hag⟩ := frame_for I.tsz hltE ops[i] hsl
          have hwp : wpo P n ops Q ops[i] (fun a' w' => ∃ v, a' = a.put ops[i].dst v ∧ PostS o Ψ v w') a w := by
            unfold wpo
            rcases hΨ with ⟨hg, hrun⟩ | ⟨hg, hv⟩
            · rw [wanted_for hg hfr hag]
              simp only [if_true]
              exact (hrun w F S I.st I.fr).wp (nodef q1) hfr (eval_virtual hag (nosel q1))
            · rw [wanted_for hg hfr hag]
              simp only [Bool.false_eq_true, if_false]
              exact ⟨undef, rfl, H, F, S, by rw [hv]; exact ⟨rfl, rfl⟩, I.st, I.fr⟩
          refine wpo_wpOp hoi hwp ?_
          rintro a' w' ⟨v, rfl, H', F', S', hv, s', f'⟩
          obtain ⟨k1, k2⟩ := hk v H' hv
          exact ih _ _ _ (i :: done) u pend H' F' S' _ hless (I.chain C hoi hnl haft hid hia q2 hC hT k1 k2 s' f')
  refine key _ _ a w [] t₀ [] H F S (fun _ => undef) (Nat.le_trans (List.length_filter_le _ _) (by simp)) ⟨by simp, ha.size, ha.defers, ?_, trivial, hc2, hc3, h, s, fr, ?_, by simp, ?_, fun t v hv _ => ha.vals t v hv, hn, by simp⟩
  · intro x hx
    simp [Array.getElem?_replicate] at hx
  · intro i hi
    simp [Array.getElem?_replicate] at hi
  · intro j o d hj
    simp [Array.getElem?_replicate] at hj

/-! ### the rules -/
section
variable {t : Tr} {pend : Pend} {ρ : Env} {H : List Asn} {i d : Nat} {op : Op} {ty : TypeId} {pos : String} {af : Array Edge} {gd : Option (Nat × Bool)}
theorem TW.pure {v : Value} (ho : ops[i]? = some ⟨some d, op, ty, pos, af, gd⟩) (hg : wants ops ρ gd = some true) (hd : Nat.blt d n = true) (hs : isSelect op = false) (hrun : ∀ w, Runs P n ρ w ⟨some d, op, ty, pos, af, gd⟩ v w) (h : TW P n ops Q o t pend ((d, v) :: ρ) H) :
    TW P n ops Q o (.flo i t) pend ρ H :=
  fun _ => ⟨_, ho, hs, fun d' e => by cases e; simpa [Nat.blt_eq] using hd, v, by simp, .inl ⟨fun w => .inl ⟨hg, hrun w⟩, h⟩⟩
theorem TW.pass {hd : Nat.blt d n = true} (ho : ops[i]? = some ⟨some d, op, ty, pos, af, gd⟩) (hg : wants ops ρ gd = some false) (hs : isSelect op = false) (h : TW P n ops Q o t pend ((d, undef) :: ρ) H) :
    TW P n ops Q o (.flo i t) pend ρ H :=
  fun _ => ⟨_, ho, hs, fun d' e => by cases e; simpa [Nat.blt_eq] using hd, undef, by simp, .inl ⟨fun w => .inr ⟨hg, rfl⟩, h⟩⟩
theorem TW.read {v : Value} (ho : ops[i]? = some ⟨some d, op, ty, pos, af, gd⟩) (hg : wants ops ρ gd = some true) (hd : Nat.blt d n = true) (hs : isSelect op = false) (hrun : Rd1 P n o ρ ⟨some d, op, ty, pos, af, gd⟩ v H) (h : TW P n ops Q o t ((i, Rd1 P n o ρ ⟨some d, op, ty, pos, af, gd⟩ v) :: pend) ((d, v) :: ρ) H) :
    TW P n ops Q o (.flo i t) pend ρ H :=
  fun _ => ⟨_, ho, hs, fun d' e => by cases e; simpa [Nat.blt_eq] using hd, v, by simp, .inr ⟨_, hrun, fun H w F S h s f => .inl ⟨hg, h w F S s⟩, h⟩⟩
theorem TW.step {Ψ : Value → List Asn → Prop} (ho : ops[i]? = some ⟨some d, op, ty, pos, af, gd⟩) (hg : wants ops ρ gd = some true) (hd : Nat.blt d n = true) (hs : isSelect op = false) (h : CS P n o ρ H ⟨some d, op, ty, pos, af, gd⟩ Ψ)
    (k : ∀ v H', Ψ v H' → Obl ops i pend H' ∧ TW P n ops Q o t pend ((d, v) :: ρ) H') : TW P n ops Q o (.alt i t .stop) pend ρ H :=
  ⟨fun _ => ⟨_, ho, hs, fun d' e => by cases e; simpa [Nat.blt_eq] using hd, Ψ, .inl ⟨hg, h⟩, k⟩, trivial⟩
theorem TW.step0 {Ψ : Value → List Asn → Prop} (ho : ops[i]? = some ⟨none, op, ty, pos, af, gd⟩) (hg : wants ops ρ gd = some true) (hs : isSelect op = false) (h : CS P n o ρ H ⟨none, op, ty, pos, af, gd⟩ Ψ)
    (k : ∀ v H', Ψ v H' → Obl ops i pend H' ∧ TW P n ops Q o t pend ρ H') : TW P n ops Q o (.alt i t .stop) pend ρ H :=
  ⟨fun _ => ⟨_, ho, hs, fun d' e => (by cases e), Ψ, .inl ⟨hg, h⟩, k⟩, trivial⟩
theorem TW.passS (ho : ops[i]? = some ⟨some d, op, ty, pos, af, gd⟩) (hg : wants ops ρ gd = some false) (hd : Nat.blt d n = true) (hs : isSelect op = false) (k : Obl ops i pend H ∧ TW P n ops Q o t pend ((d, undef) :: ρ) H) :
    TW P n ops Q o (.alt i t .stop) pend ρ H :=
  ⟨fun _ => ⟨_, ho, hs, fun d' e => by cases e; simpa [Nat.blt_eq] using hd, _, .inr ⟨hg, rfl⟩, by rintro v H' ⟨rfl, rfl⟩; exact k⟩, trivial⟩
theorem TW.fact {φ : Prop} (hφ : ∀ w F S, St H F S w → φ) (h : φ → TW P n ops Q o t pend ρ H) : TW P n ops Q o t pend ρ H := by
  induction t with
  | nil => exact fun w F S s f => h (hφ w F S s) w F S s f
  | flo i t _ => exact fun ⟨w, F, S, s, f⟩ => h (hφ w F S s) ⟨w, F, S, s, f⟩
  | alt i t r _ ih => exact ⟨fun ⟨w, F, S, s, f⟩ => (h (hφ w F S s)).1 ⟨w, F, S, s, f⟩, ih (fun q => (h q).2)⟩
  | stop => trivial
theorem TW.congr : ∀ {t : Tr} {pend : Pend} {ρ ρ' : Env} {H : List Asn}, (∀ t, look ρ t = look ρ' t) → TW P n ops Q o t pend ρ H → TW P n ops Q o t pend ρ' H
  | .nil, _, _, _, _, hl, h => fun w F S s f a ha => h w F S s f a (ha.congr hl)
  | .stop, _, _, _, _, hl, h => trivial
  | .flo i t, pend, ρ, ρ', H, hl, h => fun he => by
    obtain ⟨op, ho, q1, q2, v, hn, q⟩ := h he
    refine ⟨op, ho, q1, q2, v, hn, ?_⟩
    rcases q with ⟨h1, h2⟩ | ⟨g, h1, h2, h3⟩
    · exact .inl ⟨fun w => (h1 w).congr hl, TW.congr (extE_congr hl _ _) h2⟩
    · exact .inr ⟨g, h1, fun H w F S a b c => (h2 H w F S a b c).congr hl, TW.congr (extE_congr hl _ _) h3⟩
  | .alt i t r, pend, ρ, ρ', H, hl, h => ⟨fun he => by
    obtain ⟨op, ho, q1, q2, Ψ, hΨ, hk⟩ := h.1 he
    refine ⟨op, ho, q1, q2, Ψ, ?_, fun v H' hv => ⟨(hk v H' hv).1, TW.congr (extE_congr hl _ _) (hk v H' hv).2⟩⟩
    rw [← wants_congr hl]
    exact hΨ.imp (fun ⟨a, b⟩ => ⟨a, fun w F S s f => (b w F S s f).congr hl⟩) id, TW.congr hl h.2⟩
/-- One of the orders, and the others. -/
theorem TW.or {t r : Tr} (h : TW P n ops Q o (.alt i t .stop) pend ρ H) (k : TW P n ops Q o r pend ρ H) : TW P n ops Q o (.alt i t r) pend ρ H := ⟨h.1, k⟩
theorem TW.be {v v' : Value} (d : Nat) (hv : look ρ d = some v) (e : v = v') (h : TW P n ops Q o t pend ((d, v') :: ρ) H) : TW P n ops Q o t pend ρ H := by
  subst e
  refine h.congr (fun t => ?_)
  rw [look_cons]
  split
  · rename_i e; subst e; exact hv.symm
  · rfl
theorem TW.caseB {b : Bool} (d : Nat) (hv : look ρ d = some (.bool b)) (ht : b = true → TW P n ops Q o t pend ((d, .bool true) :: ρ) H) (hf : b = false → TW P n ops Q o t pend ((d, .bool false) :: ρ) H) : TW P n ops Q o t pend ρ H := by
  cases b
  · exact TW.be d hv rfl (hf rfl)
  · exact TW.be d hv rfl (ht rfl)
theorem TW.caseP {p : Prop} {dp : Decidable p} (d : Nat) (hv : look ρ d = some (.bool (@decide p dp))) (ht : p → TW P n ops Q o t pend ((d, .bool true) :: ρ) H) (hf : ¬ p → TW P n ops Q o t pend ((d, .bool false) :: ρ) H) : TW P n ops Q o t pend ρ H :=
  TW.caseB d hv (fun h => ht (of_decide_eq_true h)) (fun h => hf (of_decide_eq_false h))
theorem TW.isT {b : Bool} (d : Nat) (hv : look ρ d = some (.bool b)) (e : b = true) (h : TW P n ops Q o t pend ((d, .bool true) :: ρ) H) : TW P n ops Q o t pend ρ H := TW.be d hv (congrArg Value.bool e) h
theorem TW.isF {b : Bool} (d : Nat) (hv : look ρ d = some (.bool b)) (e : b = false) (h : TW P n ops Q o t pend ((d, .bool false) :: ρ) H) : TW P n ops Q o t pend ρ H := TW.be d hv (congrArg Value.bool e) h
theorem TW.nil {B : Exit → Act → World → Prop} {ks : List K} (h : SN P B n o ks ρ H) : TW P n ops (sem P n.ro B ks) o .nil pend ρ H := fun w F S s f a ha => h w F S s f a ha
end
end
section
variable {P : Program} {n : Fm} {ops : List Oper} {Q : Exit → Act → World → Prop} {o : Org} {t : Tr} {pend : Pend} {ρ : Env} {H : List Asn}
theorem TW.n0 (h : TW P n ops Q o t pend ρ (H)) : TW P n ops Q o t pend ρ ([] ++ H) := h
theorem TW.n1 {A1 : Asn} (h : TW P n ops Q o t pend ρ (A1 :: H)) : TW P n ops Q o t pend ρ ([A1] ++ H) := h
theorem TW.n2 {A1 A2 : Asn} (h : TW P n ops Q o t pend ρ (A1 :: A2 :: H)) : TW P n ops Q o t pend ρ ([A1, A2] ++ H) := h
theorem TW.n3 {A1 A2 A3 : Asn} (h : TW P n ops Q o t pend ρ (A1 :: A2 :: A3 :: H)) : TW P n ops Q o t pend ρ ([A1, A2, A3] ++ H) := h
theorem TW.n4 {A1 A2 A3 A4 : Asn} (h : TW P n ops Q o t pend ρ (A1 :: A2 :: A3 :: A4 :: H)) : TW P n ops Q o t pend ρ ([A1, A2, A3, A4] ++ H) := h
theorem TW.n5 {A1 A2 A3 A4 A5 : Asn} (h : TW P n ops Q o t pend ρ (A1 :: A2 :: A3 :: A4 :: A5 :: H)) : TW P n ops Q o t pend ρ ([A1, A2, A3, A4, A5] ++ H) := h
end
end Brv
/-
  The walks of package record.
-/
set_option linter.unusedVariables false
set_option linter.unusedSimpArgs false
set_option maxRecDepth 4000
namespace Go.Proofs.Ytiiiplhfgblamaa
open Go Brv
end Go.Proofs.Ytiiiplhfgblamaa
/-
  The walks of package record.
-/
set_option linter.unusedVariables false
set_option linter.unusedSimpArgs false
set_option maxRecDepth 4000
namespace Go.Proofs.Ytiiiplhfgblamaa
open Go Brv
end Go.Proofs.Ytiiiplhfgblamaa
/-
  The walks of package record.
-/
set_option linter.unusedVariables false
set_option linter.unusedSimpArgs false
set_option maxRecDepth 4000
namespace Go.Proofs.Ytiiiplhfgblamaa
open Go Brv
end Go.Proofs.Ytiiiplhfgblamaa
/-
  Sums of bytes, in plain Lean: the program's step by bytes, the document's bit by bit, that they agree, and that one unlike byte is told.
-/
set_option linter.unusedVariables false
namespace Brv.Crc
open Go Brv

def half (r : UInt32) : UInt32 := if r % 2 = 1 then (r >>> 1) ^^^ 0xedb88320 else r >>> 1
theorem lt_u8 (a : UInt8) : a.toNat < 256 := a.toNat_lt
/-! ### half, bit by bit -/
/-! ### the document's sum, bit by bit -/
def hi (c : UInt8) (j : Nat) : UInt32 := c.toUInt32 >>> j.toUInt32
/-! ### marks -/
def fourF (v : UInt32) : List UInt8 := [v.toUInt8, (v >>> 8).toUInt8, (v >>> 16).toUInt8, (v >>> 24).toUInt8]
/-- What Mark has written behind k bytes of the sum. -/
def partF (l : List UInt8) (m : Nat) (v : UInt32) (k : Nat) : List UInt8 := l.take m ++ ((fourF v).take k ++ l.drop (m + k))
/-! ### one bit that is turned is told -/
end Brv.Crc
/-
  Plain laws on package pack: numbers as bytes of a width, what fits, texts, padding, and what a scan reads.
-/
set_option linter.unusedVariables false
namespace Brv.Pack
open Go Brv Brv.Crc

/-- The bytes of a number, of a width. -/
def be : Nat → Nat → List UInt8
  | 0, _ => []
  | w + 1, x => be w (x / 256) ++ [UInt8.ofNat (x % 256)]
/-- The number that bytes tell. -/
def num (l : List UInt8) : Nat := l.foldl (fun n c => 256 * n + c.toNat) 0
theorem snoc_rec {Q : List UInt8 → Prop} (h0 : Q []) (hs : ∀ l c, Q l → Q (l ++ [c])) (l : List UInt8) : Q l := by
  have : ∀ r : List UInt8, Q r.reverse := by
    intro r
    induction r with
    | nil => exact h0
    | cons c r ih => rw [List.reverse_cons]; exact hs _ c ih
  have := this l.reverse
  rwa [List.reverse_reverse] at this
theorem num_snoc (l : List UInt8) (c : UInt8) : num (l ++ [c]) = 256 * num l + c.toNat := by simp [num]
theorem num_lt : ∀ (l : List UInt8), num l < 256 ^ l.length := by
  refine snoc_rec (by simp [num]) (fun l c ih => ?_)
  · rw [num_snoc, List.length_append, List.length_singleton, Nat.pow_succ]
    have := lt_u8 c
    omega
/-! ### scans -/
/-- May a number of y bytes be read? -/
def okN (l : List UInt8) (y : Int) : Prop := 1 ≤ y ∧ y ≤ 8 ∧ y ≤ l.length ∧ (y = 8 → (l.getD 0 0).toNat < 128)
instance (l : List UInt8) (y : Int) : Decidable (okN l y) := by unfold okN; infer_instance
/-- What a scan reads, what is left, the error. -/
def numF (l : List UInt8) (e y : Int) : Nat × List UInt8 × Int :=
  if e = 0 then (if okN l y then (num (l.take y.toNat), l.drop y.toNat, 0) else (0, l, 20)) else (0, l, e)
def okT (l : List UInt8) (most : Int) : Prop := 2 ≤ l.length ∧ (num (l.take 2) : Int) ≤ most ∧ num (l.take 2) ≤ l.length - 2
instance (l : List UInt8) (y : Int) : Decidable (okT l y) := by unfold okT; infer_instance
def txtF (l : List UInt8) (e most : Int) : List UInt8 × List UInt8 × Int :=
  if e = 0 then (if okT l most then ((l.drop 2).take (num (l.take 2)), (l.drop 2).drop (num (l.take 2)), 0) else ([], l, 20)) else ([], l, e)
theorem num_head (c : UInt8) : ∀ (l : List UInt8), num (c :: l) = c.toNat * 256 ^ l.length + num l := by
  refine snoc_rec (by simp [num]) (fun r d ih => ?_)
  rw [← List.cons_append, num_snoc, ih, num_snoc, List.length_append, List.length_singleton, Nat.pow_succ, Nat.mul_add, ← Nat.mul_assoc, ← Nat.mul_assoc, Nat.mul_comm 256, Nat.mul_right_comm]
  omega
theorem okN_lt {l : List UInt8} {y : Int} (h : okN l y) : num (l.take y.toNat) < 9223372036854775808 := by
  obtain ⟨h1, h8, hl, hh⟩ := h
  have hlen : (l.take y.toNat).length = y.toNat := by rw [List.length_take]; omega
  by_cases e : y = 8
  · subst e
    have := hh rfl
    cases l with
    | nil => simp at hl
    | cons c r =>
      rw [show (c :: r).take (8 : Int).toNat = c :: r.take 7 from rfl, num_head]
      have h7 : (r.take 7).length = 7 := by rw [List.length_take]; simp at hl; omega
      have h9 := num_lt (r.take 7)
      rw [h7] at h9 ⊢
      simp only [List.getD_cons_zero] at this
      omega
  · have := num_lt (l.take y.toNat)
    rw [hlen] at this
    exact Nat.lt_of_lt_of_le this (Nat.le_trans (Nat.pow_le_pow_right (by decide) (show y.toNat ≤ 7 by omega)) (by decide))
theorem numF_no {l : List UInt8} {y : Int} (h : ¬ okN l y) : numF l 0 y = (0, l, 20) := by
  unfold numF; rw [if_pos rfl, if_neg h]
theorem numF_err {l : List UInt8} {e y : Int} (h : e ≠ 0) : numF l e y = (0, l, e) := by
  unfold numF; rw [if_neg h]
theorem numF_two {l : List UInt8} {m : Nat} {l' : List UInt8} {e' : Int} (h : numF l 0 2 = (m, l', e')) : (2 ≤ l.length ∧ e' = 0 ∧ m = num (l.take 2) ∧ l' = l.drop 2) ∨ (l.length < 2 ∧ e' = 20 ∧ m = 0 ∧ l' = l) := by
  by_cases hl : 2 ≤ l.length
  · have ok : okN l 2 := ⟨by omega, by omega, by omega, by omega⟩
    unfold numF at h
    rw [if_pos rfl, if_pos ok] at h
    cases h
    exact .inl ⟨hl, rfl, rfl, rfl⟩
  · have ok : ¬ okN l 2 := fun h => hl (by have := h.2.2.1; omega)
    rw [numF_no ok] at h
    cases h
    exact .inr ⟨by omega, rfl, rfl, rfl⟩
/-! ### the order of numbers is that of their bytes -/
/-! ### any number's bytes -/
end Brv.Pack
/-
  The walks of package pack: the pen.
-/
set_option linter.unusedVariables false
namespace Go.Proofs.Ytiiiplhfgblamaa
open Go Brv Brv.Crc Brv.Pack
end Go.Proofs.Ytiiiplhfgblamaa
/-
  The walks of package pack: the scan.
-/
set_option linter.unusedVariables false
namespace Go.Proofs.Ytiiiplhfgblamaa
open Go Brv Brv.Crc Brv.Pack
end Go.Proofs.Ytiiiplhfgblamaa
/-
  The walks of package record.
-/
set_option linter.unusedVariables false
set_option linter.unusedSimpArgs false
set_option maxRecDepth 4000
namespace Go.Proofs.Ytiiiplhfgblamaa
open Go Brv Brv.Pack
def partF (l : List UInt8) : Option ((Int × List UInt8) × List UInt8) := if 66 ≤ l.length ∧ l[0]? = some 0 then some ((((l[1]?.getD 0).toNat : Int), (l.drop 2).take 64), l.drop 66) else none
end Go.Proofs.Ytiiiplhfgblamaa
/-
  The walks of package record.
-/
set_option linter.unusedVariables false
set_option linter.unusedSimpArgs false
set_option maxRecDepth 4000
namespace Go.Proofs.Ytiiiplhfgblamaa
open Go Brv Brv.Pack
theorem numF_two {l : List UInt8} {b0 b1 : UInt8} {r : List UInt8} (h : l = b0 :: b1 :: r) : numF l 0 2 = (b0.toNat * 256 + b1.toNat, r, 0) := by
  subst h
  unfold numF
  rw [if_pos rfl, if_pos (by unfold Brv.Pack.okN; simp; omega)]
  simp [num]
  omega
theorem numF_err {l : List UInt8} {e y : Int} (h : (numF l e y).2.2 ≠ 0) : (numF l e y).1 = 0 := by
  unfold numF at h ⊢
  split at h
  · rename_i h1
    rw [if_pos h1]
    split at h
    · exact absurd rfl h
    · rename_i h2
      rw [if_neg h2]
  · rename_i h1
    rw [if_neg h1]
end Go.Proofs.Ytiiiplhfgblamaa
/-
  The walks of package crc.
-/
set_option linter.unusedVariables false
namespace Go.Proofs.Ytiiiplhfgblamaa
open Go Brv Brv.Crc
end Go.Proofs.Ytiiiplhfgblamaa
/-
  Plain laws on package frame.
-/
set_option linter.unusedVariables false
namespace Brv.Frame
open Go Brv Brv.Crc Brv.Pack

/-- Is it a right frame? -/
def okFrame (lsn epoch index count : Int) (l : List UInt8) : Prop := (0 ≤ lsn ∧ lsn ≤ 4611686018427387903) ∧ (0 ≤ epoch ∧ epoch ≤ 4294967295) ∧ (1 ≤ count ∧ count ≤ 65535) ∧ (0 ≤ index ∧ index ≤ count - 1) ∧ l.length ≤ 40
instance (a b c d : Int) (l : List UInt8) : Decidable (okFrame a b c d l) := by unfold okFrame; infer_instance
end Brv.Frame
/-
  The walks of package frame.
-/
set_option linter.unusedVariables false
set_option linter.unusedSimpArgs false
namespace Go.Proofs.Ytiiiplhfgblamaa
open Go Brv Brv.Crc Brv.Pack Brv.Frame
end Go.Proofs.Ytiiiplhfgblamaa
/-
  Plain laws on package frame: what a sector tells, that a frame is told again, bodies over sectors.
-/
set_option linter.unusedVariables false
namespace Brv.Frame
open Go Brv Brv.Crc Brv.Pack

abbrev FrV := Int × Int × Int × Int × List UInt8
def okV (f : FrV) : Prop := okFrame f.1 f.2.1 f.2.2.1 f.2.2.2.1 f.2.2.2.2
instance (f : FrV) : Decidable (okV f) := by unfold okV; infer_instance
/-- What a scan reads behind the magic number. -/
def parse (l : List UInt8) : FrV × Int :=
  let a := numF l 0 8
  let b := numF a.2.1 a.2.2 4
  let c := numF b.2.1 b.2.2 2
  let d := numF c.2.1 c.2.2 2
  let t := txtF d.2.1 d.2.2 40
  (((a.1 : Int), (b.1 : Int), (c.1 : Int), (d.1 : Int), t.1), t.2.2)
theorem numF_lt (l : List UInt8) (e y : Int) : (numF l e y).1 < 9223372036854775808 := by
  unfold numF
  split
  · split
    · rename_i h; exact okN_lt h
    · show 0 < _; decide
  · show 0 < _; decide
theorem txtF_most (l : List UInt8) (e : Int) : (txtF l e 40).1.length ≤ 40 := by
  unfold txtF
  split
  · split
    · rename_i h
      rw [List.length_take]
      have := h.2.1
      omega
    · simp
  · simp

/-! ## Bodies over sectors -/
end Brv.Frame
namespace Brv.Frame
open Go Brv Brv.Crc Brv.Pack
/-! ## Gathering -/
def badG (lsn : Int) (at' : Nat) (q k : Int) (f : FrV) : Prop := (f.2.2.1 + 1 < f.2.2.2.1 ∧ (f.2.2.2.2.length : Int) < 40) ∨ (0 < f.2.2.1 ∧ (f.2.2.2.2.length : Int) = 0) ∨ f.1 ≠ lsn + at' ∨ f.2.2.1 ≠ at' ∨ f.2.1 ≠ q ∨ f.2.2.2.1 ≠ k
instance (lsn : Int) (at' : Nat) (q k : Int) (f : FrV) : Decidable (badG lsn at' q k f) := by unfold badG; infer_instance
end Brv.Frame
namespace Brv.Frame
end Brv.Frame
namespace Brv.Frame
open Go Brv Brv.Crc Brv.Pack
end Brv.Frame
namespace Brv.Frame
open Go Brv Brv.Crc Brv.Pack
end Brv.Frame
/-
  The walks of package frame: Get.
-/
set_option linter.unusedVariables false
set_option linter.unusedSimpArgs false
namespace Go.Proofs.Ytiiiplhfgblamaa
open Go Brv Brv.Crc Brv.Pack Brv.Frame
structure InV (f : FrV) : Prop where
  p : -9223372036854775808 ≤ f.1 ∧ f.1 ≤ 9223372036854775807
  q : -9223372036854775808 ≤ f.2.1 ∧ f.2.1 ≤ 9223372036854775807
  i : -9223372036854775808 ≤ f.2.2.1 ∧ f.2.2.1 ≤ 9223372036854775807
  k : -9223372036854775808 ≤ f.2.2.2.1 ∧ f.2.2.2.1 ≤ 9223372036854775807
  l : f.2.2.2.2.length ≤ 140737488351232
theorem InV.of {f : FrV} (h : okV f) : InV f := by
  obtain ⟨⟨o1, o2⟩, ⟨o3, o4⟩, ⟨o5, o6⟩, ⟨o7, o8⟩, o9⟩ := h
  exact ⟨by omega, by omega, by omega, by omega, by omega⟩
theorem InV.parse (l : List UInt8) : InV (parse l).1 := by
  have h1 := numF_lt l 0 8
  have h2 := numF_lt (numF l 0 8).2.1 (numF l 0 8).2.2 4
  have h3 := numF_lt (numF (numF l 0 8).2.1 (numF l 0 8).2.2 4).2.1 (numF (numF l 0 8).2.1 (numF l 0 8).2.2 4).2.2 2
  have h4 := numF_lt (numF (numF (numF l 0 8).2.1 (numF l 0 8).2.2 4).2.1 (numF (numF l 0 8).2.1 (numF l 0 8).2.2 4).2.2 2).2.1 (numF (numF (numF l 0 8).2.1 (numF l 0 8).2.2 4).2.1 (numF (numF l 0 8).2.1 (numF l 0 8).2.2 4).2.2 2).2.2 2
  have h5 : (Frame.parse l).1.2.2.2.2.length ≤ 40 := txtF_most _ _
  exact ⟨⟨by show (-9223372036854775808 : Int) ≤ ((numF l 0 8).1 : Int); omega, by show ((numF l 0 8).1 : Int) ≤ _; omega⟩, ⟨by show (-9223372036854775808 : Int) ≤ ((numF _ _ 4).1 : Int); omega, by show ((numF (numF l 0 8).2.1 (numF l 0 8).2.2 4).1 : Int) ≤ _; omega⟩,
    ⟨by show (-9223372036854775808 : Int) ≤ ((numF _ _ 2).1 : Int); omega, by show ((numF (numF (numF l 0 8).2.1 (numF l 0 8).2.2 4).2.1 (numF (numF l 0 8).2.1 (numF l 0 8).2.2 4).2.2 2).1 : Int) ≤ _; omega⟩,
    ⟨by show (-9223372036854775808 : Int) ≤ ((numF _ _ 2).1 : Int); omega, by show ((numF (numF (numF (numF l 0 8).2.1 (numF l 0 8).2.2 4).2.1 (numF (numF l 0 8).2.1 (numF l 0 8).2.2 4).2.2 2).2.1 (numF (numF (numF l 0 8).2.1 (numF l 0 8).2.2 4).2.1 (numF (numF l 0 8).2.1 (numF l 0 8).2.2 4).2.2 2).2.2 2).1 : Int) ≤ _; omega⟩, Nat.le_trans h5 (by decide)⟩

end Go.Proofs.Ytiiiplhfgblamaa
/-
  The walks of package frame: Spread, Gather.
-/
set_option linter.unusedVariables false
set_option linter.unusedSimpArgs false
namespace Go.Proofs.Ytiiiplhfgblamaa
open Go Brv Brv.Crc Brv.Pack Brv.Frame
structure SpSt where
  i : Nat
  a1 : Option Addr
  c1 : Nat
  M : List Nat

end Go.Proofs.Ytiiiplhfgblamaa
/-
  The walks of package record.
-/
set_option linter.unusedVariables false
set_option linter.unusedSimpArgs false
set_option maxRecDepth 4000
namespace Go.Proofs.Ytiiiplhfgblamaa
open Go Brv Brv.Pack Brv.Frame
structure GtSt where
  i : Nat
  la : Option Addr
  ln : Nat
  lc : Nat
  ll : List UInt8
  os : List WriteV
  ra : Option Addr
  rc : Nat
  MB : List Nat
  CB : List Nat
end Go.Proofs.Ytiiiplhfgblamaa
/-
  The walks of package record.
-/
set_option linter.unusedVariables false
set_option linter.unusedSimpArgs false
set_option maxRecDepth 4000
namespace Go.Proofs.Ytiiiplhfgblamaa
open Go Brv
end Go.Proofs.Ytiiiplhfgblamaa
/-
  The walks of package record.
-/
set_option linter.unusedVariables false
set_option linter.unusedSimpArgs false
set_option maxRecDepth 4000
namespace Go.Proofs.Ytiiiplhfgblamaa
open Go Brv Brv.Pack
structure GtS where
  i : Nat
  os : List WriteV
  ra : Option Addr
  rc : Nat
  ll : List UInt8
  e : Int
end Go.Proofs.Ytiiiplhfgblamaa
