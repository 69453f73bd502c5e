/-
  Ranges over functions: what an iterator promises (Iter), the statement (G.range), a round's walk, calls of yield.
-/
import Derived.Test.YthpolibakkmmeaaC10
import Derived.RangeFuncSeq
set_option linter.unusedVariables false
namespace Brv
open Go

/-! ## Worlds in which no cells were turned -/
structure Still (w w' : World) : Prop where
  os : w'.os = w.os
  tape : w'.tape = w.tape
  output : w'.output = w.output
  size : w.heap.size ≤ w'.heap.size
  keep : ∀ (k : Nat) (cs : Array Value) (T : TypeId) (fz : Nat × Nat), w.heap[k]? = some (.cells cs T fz) → w'.heap[k]? = some (.cells cs T fz)
theorem Still.of {w w' : World} (h : Ext [] w w') : Still w w' := ⟨h.os, h.tape, h.output, h.size, fun k cs T fz hk => (h.keep k (Array.getElem?_eq_some_iff.1 hk).1 (by simp)).trans hk⟩
theorem Still.trans {a b c : World} (h : Still a b) (k : Still b c) : Still a c := ⟨k.os.trans h.os, k.tape.trans h.tape, k.output.trans h.output, Nat.le_trans h.size k.size, fun i cs T fz hi => k.keep i cs T fz (h.keep i cs T fz hi)⟩
def isCells : Obj → Bool
  | .cells .. => true
  | _ => false
theorem cells_of_cell {W : World} {a : Addr} {v : Value} (h : W.cell? a = some v) : ∃ o : Obj, W.heap[a.block]? = some o ∧ isCells o = true := by
  unfold World.cell? at h
  cases ho : W.heap[a.block]? with
  | none => simp [ho] at h
  | some o => exact ⟨o, rfl, by cases o <;> simp_all [isCells]⟩
theorem Still.cell {w w' : World} (h : Still w w') {p : Addr} {v : Value} (hc : w.cell? p = some v) : w'.cell? p = some v := by
  obtain ⟨o, ho, hcs⟩ := cells_of_cell hc
  cases o with
  | cells cs T fz => exact (World.cell?_of_block ((h.keep _ cs T fz ho).trans ho.symm)).trans hc
  | _ => cases hcs
theorem Blk.still {w w' : World} {b : Nat} {cs : Array Value} {T : TypeId} {fz : Nat × Nat} (h : Blk w b cs T fz) (hc : Still w w') : Blk w' b cs T fz := hc.keep _ _ _ _ h
theorem Cells.still {w w' : World} {a : Option Addr} {vs : List Value} (h : Cells w a vs) (hc : Still w w') : Cells w' a vs := fun j v hv => let ⟨p, hp, hq⟩ := h j v hv; ⟨p, hp, hc.cell hq⟩
theorem Bs.still {w w' : World} {a : Option Addr} {n : Nat} {l : List UInt8} (h : Bs w a n l) (hc : Still w w') : Bs w' a n l := ⟨h.cells.still hc, h.len⟩
theorem Own.still {w w' : World} {E size : Nat} {a : Option Addr} {n cap : Nat} {xs : List Value} {M : List Nat} (h : Own w E size a n cap xs M) (hc : Still w w') : Own w' E size a n cap xs M := by
  refine ⟨h.1, ?_⟩
  rcases h.2 with h | ⟨g, cur, ha, hM, hb, h⟩
  · exact .inl h
  · exact .inr ⟨g, cur, ha, hM, hb.still hc, h⟩
theorem Ext.putObj (w : World) (l : Nat) (o : Obj) : Ext [l] w (w.putObj l o) := ⟨rfl, rfl, rfl, by simp, fun k _ hk => World.putObj_heap_other (fun e => hk (by simp [e]))⟩
theorem Still.putObj {w : World} {l : Nat} {o : Obj} (o' : Obj) (h : w.heap[l]? = some o) (ho : isCells o = false) : Still w (w.putObj l o') :=
  ⟨rfl, rfl, rfl, by simp, fun k cs T fz hk => by
    by_cases e : k = l
    · subst e; rw [h] at hk; cases hk; cases ho
    · exact (World.putObj_heap_other e).trans hk⟩

/-! ## Yield -/
/-- A call of the function that an iterator was handed: it gives a bool. -/
def YCall (P : Program) (y : Value) (vs : List Value) (W : World) (R : Bool → World → Prop) : Prop :=
  (∃ l, y = .func (.yield l) #[] #[] ∧ YieldAt Fence.wide 0 P l vs.toArray W (fun e w' => ∃ b, e = .returned (.bool b) ∧ R b w')) ∨
  (∃ f first cap, y = .func (.func f) first cap ∧ (∀ (vs : Array Value) w, (callFunc f vs).run P w = .ok (.enter f vs) w) ∧ Meets P f (first.toList ++ vs ++ cap.toList) W (fun v w' => ∃ b, v = .bool b ∧ R b w'))

section
variable {P : Program} {B : Exit → Act → World → Prop} {n : Fm} {ops : List Oper} {ks : List K} {ρ : Env} {w : World} {rest : List Oper}
theorem run_callY {a : Act} {d : Option Tmp} {x : Operand} {l : Nat} {args : Array Operand} {ats : Array TypeId} {ty : TypeId} {pos : String} {af : Array Edge} {gd : Option (Nat × Bool)} {vs : List Value}
    (hx : a.eval x = .func (.yield l) #[] #[]) (he : args.toList.map a.eval = vs) (w : World) {r : Next} (hr : (Instr.yield l vs.toArray).run P w = .ok r w) :
    (execOp a.eval ⟨d, .call ⟨.value x, args, ats⟩, ty, pos, af, gd⟩).run P w = .ok r w := by
  have he' : args.map a.eval = vs.toArray := by
    apply Array.toList_inj.1
    simpa using he
  have h2 : execOp a.eval ⟨d, .call ⟨.value x, args, ats⟩, ty, pos, af, gd⟩ = (do let x ← resolve a.eval ⟨.value x, args, ats⟩ ty; invoke x.target x.args) := rfl
  have h3 : resolve a.eval ⟨.value x, args, ats⟩ ty = pure ⟨.fn (.yield l) #[], #[] ++ vs.toArray⟩ := by
    simp only [resolve, he', hx]
    rfl
  rw [h2, h3]
  simp only [Sem.run_bind, Sem.run_pure, Result.andThen_ok]
  show (Instr.yield l (#[] ++ vs.toArray)).run P w = _
  rw [show #[] ++ vs.toArray = vs.toArray by simp]
  exact hr
theorem L.ycall {d : Nat} {x : Operand} {y : Value} {args : Array Operand} {ats : Array TypeId} {ty : TypeId} {pos : String} {af : Array Edge} {gd : Option (Nat × Bool)} {vs : List Value} {R : Bool → World → Prop}
    (hg : wants ops ρ gd = some true) (hd : Nat.blt d n = true) (hx : ev ρ x = some y) (hargs : evs ρ args.toList = some vs) (hY : YCall P y vs w R)
    (h : ∀ b w', R b w' → L P B n ops ks ((d, .bool b) :: ρ) w' rest) : L P B n ops ks ρ w (⟨some d, .call ⟨.value x, args, ats⟩, ty, pos, af, gd⟩ :: rest) := by
  intro a ha
  have hd' : d < n := by simpa [Nat.blt_eq] using hd
  unfold wpListIn
  rw [if_pos (wants_spec ha hg)]
  rcases hY with ⟨l, rfl, fn, tmps, assign, body, hrun, hround⟩ | ⟨f, first, cap, rfl, hc, hf⟩
  · refine wpIn_run rfl (run_callY (ha.eval hx) (ha.evals hargs) w hrun) ?_
    refine ⟨fun h => (by rw [fen_depth] at h; cases h), ?_⟩
    have hr2 : RoundIn (fen n.ro) 0 P l fn tmps assign body w (fun e w' => ∃ b, e = .returned (.bool b) ∧ R b w') := by
      cases n.ro
      · exact hround
      · exact hround
    refine RoundIn.mono hr2 ?_
    rintro e w' ⟨b, rfl, hR⟩
    exact h b w' hR _ (ha.put hd' _)
  · refine wpIn_run rfl (run_callV (ha.eval hx) (ha.evals hargs) rfl (hc _) w) ⟨fun h => (by rw [fen_depth] at h; cases h), fen_calls ?_⟩
    refine Calls.mono hf ?_
    intro e w' he
    cases e with
    | returned v => obtain ⟨b, rfl, hR⟩ := he; exact h b w' hR _ (ha.put hd' _)
    | panicked c => exact he.elim
    | outgrown => exact he.elim
end

section
variable {P : Program} {n : Fm} {ρ : Env} {w : World} {d : Nat} {ty : TypeId} {pos : String} {af : Array Edge} {gd : Option (Nat × Bool)}
theorem R.mkFunc {fn : Fn} {first cap : Array Operand} {us vs : List Value} (h1 : evs ρ first.toList = some us) (h2 : evs ρ cap.toList = some vs) :
    Runs P n ρ w ⟨some d, .makeFunc fn first cap, ty, pos, af, gd⟩ (.func fn us.toArray vs.toArray) w := (fun f hf => by
    have e1 : first.map f.eval = us.toArray := by apply Array.toList_inj.1; simpa using hf.evals h1
    have e2 : cap.map f.eval = vs.toArray := by apply Array.toList_inj.1; simpa using hf.evals h2
    simp [execOp, Instr.makeFunc, e1, e2])
theorem R.eqNilF {T T' : TypeId} {ps rs : Array TypeId} {va : Bool} {x y : Operand} {fn : Fn} {us vs : Array Value} (hu : P.underlying T = some (.func ps rs va)) (hx : ev ρ x = some (.func fn us vs)) (hy : ev ρ y = some .nilFunc) :
    Runs P n ρ w ⟨some d, .binOp .eql T x y T', ty, pos, af, gd⟩ (.bool false) w := R.bin hx hy (fun w => by
    have he := run_equal (P := P) (T := T) (x := .func fn us vs) (y := .nilFunc) (r := false) w (fun d => by simp only [Op.equalIn, Sem.run_bind, run_underlying hu, Result.andThen_ok]; rfl)
    have hg : (eqGuard .eql T x y (.func fn us vs) .nilFunc).run P w = .ok () w := rfl
    simp only [hg, binOp, Sem.run_bind, Sem.run_pure, Result.andThen_ok, he])
theorem run_loadV {T : TypeId} [t : TyOne P T] {p : Addr} {v : Value} (hc : w.cell? p = some v) : (loadVar T p).run P w = .ok v w := by
  have := run_load1 (P := P) (T := T) hc
  simpa [Instr.loadAt, Instr.sureAddr] using this
theorem res3C {fn : Func} {ρ : Env} {a : Act} {t u s : Nat} {T U V : TypeId} [TyOne P T] [TyOne P U] [TyOne P V] {p q r : Addr} {v x y : Value} (hr : fn.results = #[.cell t T, .cell u U, .cell s V])
    (hv : look ρ t = some (.pointer (some p))) (hx : look ρ u = some (.pointer (some q))) (hy : look ρ s = some (.pointer (some r))) (ha : Fr n ρ a) (h1 : w.cell? p = some v) (h2 : w.cell? q = some x) (h3 : w.cell? r = some y) :
    (results fn a.tmps).run P w = .ok (.tuple #[v, x, y]) w := by
  have e1 := ha.getD hv
  have e2 := ha.getD hx
  have e3 := ha.getD hy
  have l1 := run_loadV (P := P) (T := T) h1
  have l2 := run_loadV (P := P) (T := U) h2
  have l3 := run_loadV (P := P) (T := V) h3
  rw [Array.getD_eq_getD_getElem?] at e1 e2 e3
  simp [results, hr, e1, e2, e3, asAddr, l1, l2, l3]
end
theorem leave1 {P : Program} {w : World} {d : Nat} (h : w.heap[d]? = some (.deferred (some []))) : Leave P [⟨.collected d, #[]⟩] w (w.putObj d (.deferred none)) := ⟨d, _, rfl, run_takeDeferred h, rfl⟩

/-! ## Iterators -/
/-- What the function gf (with what it has captured, lb) promises when it is ranged over from world w on: it yields N times, the k-th time what E k tells; it reads the blocks of F, writes those of M; behind its k-th yield S k holds of those. The consumer writes blocks of its own list, which may grow. -/
def Iter (P : Program) (gf : FuncId) (lb : List Value) (w : World) (N : Nat) (E : Nat → List Value → World → Prop) (S : Nat → World → Prop) (F M : List Nat) : Prop :=
  ∀ (y : Value) (D₀ : List Nat) (J Jx : Nat → List Nat → World → Prop) (W : World), Ext [] w W → (∀ g ∈ D₀, g < W.heap.size ∧ g ∉ F ∧ g ∉ M) →
    (∀ k D W₁ W₂ M', J k D W₁ → Ext M' W₁ W₂ → (∀ g ∈ M', g ∉ D ∧ (g ∈ M ∨ w.heap.size ≤ g)) → J k D W₂) →
    (∀ k D W₁ W₂ M', Jx k D W₁ → Ext M' W₁ W₂ → (∀ g ∈ M', g ∉ D ∧ (g ∈ M ∨ w.heap.size ≤ g)) → Jx k D W₂) →
    (∀ k D vs W₁, k < N → J k D W₁ → E k vs W₁ → (∀ g ∈ D, g < W₁.heap.size) → YCall P y vs W₁ fun b W₂ => ∃ D', Ext D W₁ W₂ ∧ (∀ g ∈ D', g < W₂.heap.size ∧ (g ∈ D ∨ W₁.heap.size ≤ g)) ∧ (b = true → J (k + 1) D' W₂) ∧ (b = false → Jx (k + 1) D' W₂)) →
    J 0 D₀ W → Meets P gf (y :: lb) W fun _ W₂ => (∃ D, J N D W₂ ∧ S N W₂) ∨ ∃ k D, k ≤ N ∧ Jx k D W₂ ∧ S k W₂

/-- How a round's body may be left. -/
def roundB (k : Nat) (D : List Nat) (W : World) (I : Nat → List Nat → World → Prop) (Ix : Code → Nat → List Nat → World → Prop) : Exit → Act → World → Prop
  | .normal, _, w' => ∃ D', Ext D W w' ∧ (∀ g ∈ D', g < w'.heap.size ∧ (g ∈ D ∨ W.heap.size ≤ g)) ∧ I (k + 1) D' w'
  | .ret, _, w' => ∃ D', Ext D W w' ∧ (∀ g ∈ D', g < w'.heap.size ∧ (g ∈ D ∨ W.heap.size ≤ g)) ∧ Ix .ret (k + 1) D' w'
  | .exit id, _, w' => ∃ D', Ext D W w' ∧ (∀ g ∈ D', g < w'.heap.size ∧ (g ∈ D ∨ W.heap.size ≤ g)) ∧ Ix (.exit id) (k + 1) D' w'
  | .goto t, _, w' => ∃ D', Ext D W w' ∧ (∀ g ∈ D', g < w'.heap.size ∧ (g ∈ D ∨ W.heap.size ≤ g)) ∧ Ix (.goto t) (k + 1) D' w'
  | _, _, _ => False
/-- Behind the assignment of the loop's variables: the body. -/
def assignB (P : Program) (l k : Nat) (D : List Nat) (W : World) (I : Nat → List Nat → World → Prop) (Ix : Code → Nat → List Nat → World → Prop) (body : Code) : Exit → Act → World → Prop
  | .normal, a, w₂ => Ext [] W w₂ ∧ ∀ wb, Ext [l] w₂ wb → Still w₂ wb → body.wpIn (fen (some l)) 0 P (roundB k D wb I Ix) a wb
  | _, _, _ => False

def bindEnv : List Tmp → List Value → Env → Env
  | p :: ps, v :: vs, ρ => bindEnv ps vs ((p, v) :: ρ)
  | _, _, ρ => ρ

theorem bind_fr {n : Fm} : ∀ (ps : List Tmp) (vs : List Value) {ρ : Env} {a : Act}, Fr n ρ a → (∀ p ∈ ps, p < n.n) → Fr n (bindEnv ps vs ρ) { a with tmps := (ps.zip vs).foldl (fun t (p, v) => t.setIfInBounds p v) a.tmps }
  | [], _, ρ, a, h, _ => by cases a; exact h
  | p :: ps, [], ρ, a, h, _ => by cases a; exact h
  | p :: ps, v :: vs, ρ, a, h, hp => by
    have h1 : Fr n ((p, v) :: ρ) (a.put (some p) v) := h.put (hp p (by simp)) v
    exact bind_fr ps vs h1 (fun q hq => hp q (by simp [hq]))

section
variable {P : Program} {B : Exit → Act → World → Prop} {n : Nat} {df : List Deferred} {ks : List K} {ρ : Env} {w : World}
theorem N.round {l k : Nat} {D : List Nat} {W : World} {I : Nat → List Nat → World → Prop} {Ix : Code → Nat → List Nat → World → Prop} {body : Code} (hE : Ext [] W w)
    (h : ∀ wb, Ext [l] w wb → Still w wb → G P (roundB k D wb I Ix) ⟨n, [], some l⟩ [] ρ wb body) : N P (assignB P l k D W I Ix body) ⟨n, [], some l⟩ [] ρ w :=
  N.done fun a ha => ⟨hE, fun wb h1 h2 => h wb h1 h2 a ha⟩

/-- for .. := range g { body } -/
theorem G.range {g : Operand} {ps : Array Tmp} {assign body : Code} {gf : FuncId} {lb : List Value} {Nn : Nat} {E : Nat → List Value → World → Prop} {S : Nat → World → Prop} {F M : List Nat}
    (hps : ps.toList.all (fun p => Nat.blt p n) = true) (hg : ev ρ g = some (.func (.func gf) #[] lb.toArray)) (eg : ∀ (vs : Array Value) w, (callFunc gf vs).run P w = .ok (.enter gf vs) w)
    (hit : Iter P gf lb w Nn E S F M) (hS : ∀ k W W', S k W → Still W W' → S k W') (D₀ : List Nat) (hD : ∀ x ∈ D₀, x < w.heap.size ∧ x ∉ F ∧ x ∉ M) (hFM : ∀ x, x ∈ F ∨ x ∈ M → x < w.heap.size)
    (I : Nat → List Nat → World → Prop) (Ix : Code → Nat → List Nat → World → Prop)
    (hI : ∀ k D W₁ W₂ M', I k D W₁ → Ext M' W₁ W₂ → (∀ g ∈ M', g ∉ D ∧ (g ∈ M ∨ w.heap.size ≤ g)) → I k D W₂)
    (hIx : ∀ c k D W₁ W₂ M', Ix c k D W₁ → Ext M' W₁ W₂ → (∀ g ∈ M', g ∉ D ∧ (g ∈ M ∨ w.heap.size ≤ g)) → Ix c k D W₂)
    (h0 : I 0 D₀ w)
    (hround : ∀ l k D vs W₁, w.heap.size ≤ l → l < W₁.heap.size → l ∉ D → (∀ g ∈ D, g < W₁.heap.size) → k < Nn → I k D W₁ → E k vs W₁ → vs.length = ps.size ∧ G P (assignB P l k D W₁ I Ix body) ⟨n, [], some l⟩ [] (bindEnv ps.toList vs ρ) W₁ assign)
    (hdone : ∀ d D W₂, w.heap.size ≤ d → d ∉ D → W₂.heap[d]? = some (.deferred (some [])) → I Nn D W₂ → S Nn W₂ → N P B ⟨n, ⟨.collected d, #[]⟩ :: df, none⟩ ks ρ W₂)
    (hstop : ∀ d D k c W₂, w.heap.size ≤ d → d ∉ D → W₂.heap[d]? = some (.deferred (some [])) → k ≤ Nn → Ix c k D W₂ → S k W₂ → G P B ⟨n, ⟨.collected d, #[]⟩ :: df, none⟩ ks ρ W₂ c) :
    G P B ⟨n, df, none⟩ ks ρ w (.rangeFunc g ps assign body) := by
  intro a ha
  refine wpIn_rangeFunc (F := Fence.wide) ?_
  intro fn hfn
  obtain ⟨rec, hrec⟩ : ∃ rec : LoopState → Option Code → Loop, rec = fun st pe => { state := st, pending := pe, fn, tmps := a.tmps, params := ps, assign, body, defers := w.heap.size } := ⟨_, rfl⟩
  obtain ⟨W1, hW1⟩ : ∃ W1, (w.alloc (.deferred (some []))).alloc (.loop (rec .ready none)) = W1 := ⟨_, rfl⟩
  have hL1 : W1.heap[w.heap.size + 1]? = some (.loop (rec .ready none)) := by
    rw [← hW1]; have := World.alloc_heap_new (w.alloc (.deferred (some []))) (.loop (rec .ready none)); rwa [World.size_alloc] at this
  have hK1 : W1.heap[w.heap.size]? = some (.deferred (some [])) := by
    rw [← hW1]; exact ((Ext.alloc (w.alloc (.deferred (some []))) _).keep _ (by simp) (by simp)).trans (World.alloc_heap_new w _)
  have hE1 : Ext [] w W1 := by rw [← hW1]; exact (Ext.alloc w _).trans0 (Ext.alloc _ _)
  have hs1 : W1.heap.size = w.heap.size + 2 := by rw [← hW1]; simp
  refine ⟨w.heap.size + 1, [{ target := .collected w.heap.size, args := #[] }], W1, { target := .fn (.func gf) lb.toArray, args := #[.func (.yield (w.heap.size + 1)) #[] #[]] }, W1, gf,
    #[.func (.yield (w.heap.size + 1)) #[] #[]] ++ lb.toArray, W1, ?_, ?_, fun _ _ => trivial, ?_, fun h => (by cases h), ?_⟩
  · rw [← hW1, hrec]; exact run_enterLoop_outer _ _ _ _ _
  · simp only [resolve, ha.eval hg]
    simp [go_sem]
  · simp [invoke, go_sem, eg]
  · -- the iterator
    have hrel : ∀ {D : List Nat} {W A : World} {M' : List Nat}, (∀ g ∈ M', g ∉ (w.heap.size + 1) :: D ∧ g ≠ w.heap.size ∧ (g ∈ M ∨ w.heap.size ≤ g)) → Ext M' W A → ∀ {o : Obj} {j : Nat}, W.heap[j]? = some o → (j = w.heap.size + 1 ∨ j = w.heap.size) → A.heap[j]? = some o := by
      intro D W A M' hM' he o j hj hjj
      refine (he.keep j (Array.getElem?_eq_some_iff.1 hj).1 (fun hm => ?_)).trans hj
      obtain ⟨h1, h2, _⟩ := hM' j hm
      rcases hjj with rfl | rfl
      · exact h1 (by simp)
      · exact h2 rfl
    have hm := hit (.func (.yield (w.heap.size + 1)) #[] #[]) ((w.heap.size + 1) :: w.heap.size :: D₀)
      (fun k DD W => ∃ D, DD = (w.heap.size + 1) :: w.heap.size :: D ∧ I k D W ∧ W.heap[w.heap.size + 1]? = some (.loop (rec .ready none)) ∧ W.heap[w.heap.size]? = some (.deferred (some [])) ∧ w.heap.size + 1 ∉ D ∧ w.heap.size ∉ D)
      (fun k DD W => ∃ D c, DD = (w.heap.size + 1) :: w.heap.size :: D ∧ Ix c k D W ∧ W.heap[w.heap.size + 1]? = some (.loop (rec .done (some c))) ∧ W.heap[w.heap.size]? = some (.deferred (some [])) ∧ w.heap.size + 1 ∉ D ∧ w.heap.size ∉ D)
      W1 hE1 (by
        intro x hx
        simp only [List.mem_cons] at hx
        rcases hx with rfl | rfl | hx
        · exact ⟨by omega, fun h => by have := hFM _ (.inl h); omega, fun h => by have := hFM _ (.inr h); omega⟩
        · exact ⟨by omega, fun h => by have := hFM _ (.inl h); omega, fun h => by have := hFM _ (.inr h); omega⟩
        · exact ⟨by have := (hD x hx).1; omega, (hD x hx).2⟩)
      (by
        rintro k _ A A' M' ⟨D, rfl, hi, hl, hd, h1, h2⟩ he hM'
        refine ⟨D, rfl, hI k D A A' M' hi he (fun x hx => ⟨fun h => (hM' x hx).1 (by simp [h]), (hM' x hx).2⟩), ?_, ?_, h1, h2⟩
        · exact (he.keep _ (Array.getElem?_eq_some_iff.1 hl).1 (fun h => (hM' _ h).1 (by simp))).trans hl
        · exact (he.keep _ (Array.getElem?_eq_some_iff.1 hd).1 (fun h => (hM' _ h).1 (by simp))).trans hd)
      (by
        rintro k _ A A' M' ⟨D, c, rfl, hi, hl, hd, h1, h2⟩ he hM'
        refine ⟨D, c, rfl, hIx c k D A A' M' hi he (fun x hx => ⟨fun h => (hM' x hx).1 (by simp [h]), (hM' x hx).2⟩), ?_, ?_, h1, h2⟩
        · exact (he.keep _ (Array.getElem?_eq_some_iff.1 hl).1 (fun h => (hM' _ h).1 (by simp))).trans hl
        · exact (he.keep _ (Array.getElem?_eq_some_iff.1 hd).1 (fun h => (hM' _ h).1 (by simp))).trans hd)
      (by
        rintro k _ vs A hk ⟨D, rfl, hi, hl, hd, h1, h2⟩ hEv hDl
        refine .inl ⟨_, rfl, ?_⟩
        have hlt : w.heap.size + 1 < A.heap.size := (Array.getElem?_eq_some_iff.1 hl).1
        obtain ⟨hlen, hG⟩ := hround (w.heap.size + 1) k D vs A (by omega) hlt h1 (fun x hx => hDl x (by simp [hx])) hk hi hEv
        have hy := run_yield (P := P) (args := vs.toArray) hl (by rw [hrec]; simpa using hlen)
        rw [hrec] at hy
        refine ⟨fn, _, assign, body, hy, roundIn_of_wpIn hfn ?_⟩
        have hfr : Fr ⟨n, [], some (w.heap.size + 1)⟩ (bindEnv ps.toList vs ρ) { tmps := (ps.toList.zip vs).foldl (fun t (p, v) => t.setIfInBounds p v) a.tmps, defers := [] } :=
          bind_fr (n := ⟨n, [], some (w.heap.size + 1)⟩) ps.toList vs (a := { tmps := a.tmps, defers := [] }) ⟨ha.size, rfl, ha.vals⟩ (fun p hp => by simpa [Nat.blt_eq] using List.all_eq_true.1 hps p hp)
        have hz : (ps.zip vs.toArray).foldl (fun t (p, v) => t.setIfInBounds p v) a.tmps = (ps.toList.zip vs).foldl (fun t (p, v) => t.setIfInBounds p v) a.tmps := by
          rw [← Array.foldl_toList, Array.toList_zip]
        rw [hz]
        have hw := hG _ hfr
        refine wpIn_mono (F := Fence.wide.inRound (w.heap.size + 1)) (fen_wp (r := some (w.heap.size + 1)) hw) ?_
        intro e a₁ w₂ hq
        cases e with
        | normal =>
          obtain ⟨hE2, hq⟩ := hq
          have hl2 : w₂.heap[w.heap.size + 1]? = some (.loop (rec .ready none)) := (hE2.keep _ hlt (by simp)).trans hl
          have hd2 : w₂.heap[w.heap.size]? = some (.deferred (some [])) := (hE2.keep _ (by omega) (by simp)).trans hd
          have hbr := run_beginRound (P := P) hl2 (by rw [hrec])
          refine ⟨_, hbr, ?_⟩
          have hlt2 : w.heap.size + 1 < w₂.heap.size := Nat.lt_of_lt_of_le hlt hE2.size
          have hl3 : (w₂.putObj (w.heap.size + 1) (.loop { rec .ready none with state := .busy })).heap[w.heap.size + 1]? = some (.loop { rec .ready none with state := .busy }) := World.putObj_heap_same hlt2
          have hd3 : (w₂.putObj (w.heap.size + 1) (.loop { rec .ready none with state := .busy })).heap[w.heap.size]? = some (.deferred (some [])) := (World.putObj_heap_other (by omega)).trans hd2
          have hE3 := Ext.putObj w₂ (w.heap.size + 1) (.loop { rec .ready none with state := .busy })
          refine wpIn_mono (F := Fence.wide.inRound (w.heap.size + 1)) (fen_wp (r := some (w.heap.size + 1)) (hq _ hE3 (Still.putObj _ hl2 rfl))) ?_
          have fin : ∀ (jump : Option Code) (W3 : World) (D' : List Nat), Ext D (w₂.putObj (w.heap.size + 1) (.loop { rec .ready none with state := .busy })) W3 → (∀ g ∈ D', g < W3.heap.size ∧ (g ∈ D ∨ (w₂.putObj (w.heap.size + 1) (.loop { rec .ready none with state := .busy })).heap.size ≤ g)) →
              (Instr.endRound (w.heap.size + 1) jump).run P W3 = .ok (.bool jump.isNone) (W3.putObj (w.heap.size + 1) (.loop (rec (if jump.isNone then .ready else .done) jump))) ∧
              (W3.putObj (w.heap.size + 1) (.loop (rec (if jump.isNone then .ready else .done) jump))).heap[w.heap.size + 1]? = some (.loop (rec (if jump.isNone then .ready else .done) jump)) ∧
              (W3.putObj (w.heap.size + 1) (.loop (rec (if jump.isNone then .ready else .done) jump))).heap[w.heap.size]? = some (.deferred (some [])) ∧ w.heap.size + 1 ∉ D' ∧ w.heap.size ∉ D' ∧
              Ext ((w.heap.size + 1) :: w.heap.size :: D) A (W3.putObj (w.heap.size + 1) (.loop (rec (if jump.isNone then .ready else .done) jump))) ∧
              (∀ g ∈ (w.heap.size + 1) :: w.heap.size :: D', g < (W3.putObj (w.heap.size + 1) (.loop (rec (if jump.isNone then .ready else .done) jump))).heap.size ∧ (g ∈ (w.heap.size + 1) :: w.heap.size :: D ∨ A.heap.size ≤ g)) ∧
              Ext [w.heap.size + 1] W3 (W3.putObj (w.heap.size + 1) (.loop (rec (if jump.isNone then .ready else .done) jump))) := fun jump W3 D' hx hD' => by
            have hl4 : W3.heap[w.heap.size + 1]? = some (.loop { rec .ready none with state := .busy }) := (hx.keep _ (by simpa using hlt2) h1).trans hl3
            have hd4 : W3.heap[w.heap.size]? = some (.deferred (some [])) := (hx.keep _ (by simp; omega) h2).trans hd3
            have hlt4 : w.heap.size + 1 < W3.heap.size := (Array.getElem?_eq_some_iff.1 hl4).1
            have her := run_endRound (P := P) jump hl4
            rw [hrec] at her ⊢
            have hsz : w₂.heap.size ≤ W3.heap.size := by have := hx.size; simpa using this
            have n1 : w.heap.size + 1 ∉ D' := fun h => (hD' _ h).2.elim h1 (fun h => by simp at h; omega)
            have n2 : w.heap.size ∉ D' := fun h => (hD' _ h).2.elim h2 (fun h => by simp at h; omega)
            have hx2 := Ext.putObj W3 (w.heap.size + 1) (.loop { state := if jump.isNone = true then LoopState.ready else LoopState.done, pending := jump, fn := fn, tmps := a.tmps, params := ps, assign := assign, body := body, defers := w.heap.size })
            refine ⟨her, World.putObj_heap_same hlt4, (World.putObj_heap_other (by omega)).trans hd4, n1, n2, ?_, ?_, hx2⟩
            · have e1 : Ext ((w.heap.size + 1) :: w.heap.size :: D) A _ := hE3.after hE2 |>.mono (fun x hx => .inl (by simp at hx ⊢; exact .inl hx))
              have e2 := e1.transN hx (fun x hx => .inl (by simp [hx]))
              exact e2.transN hx2 (fun x hx => .inl (by simp at hx ⊢; exact .inl hx))
            · intro x hx'
              simp only [List.mem_cons] at hx'
              rcases hx' with rfl | rfl | hx'
              · exact ⟨by simpa using hlt4, .inl (by simp)⟩
              · exact ⟨by simp; omega, .inl (by simp)⟩
              · obtain ⟨h3, h4⟩ := hD' x hx'
                refine ⟨by simpa using h3, h4.elim (fun h => .inl (by simp [h])) (fun h => .inr ?_)⟩
                simp at h
                exact Nat.le_trans hE2.size h
          have stabM : ∀ {D' : List Nat}, w.heap.size + 1 ∉ D' → ∀ g ∈ [w.heap.size + 1], g ∉ D' ∧ (g ∈ M ∨ w.heap.size ≤ g) := fun h g hg => by
            rw [List.mem_singleton.1 hg]; exact ⟨h, .inr (by omega)⟩
          rintro e a3 W3 hp
          cases e with
          | normal =>
            obtain ⟨D', hx, hD', hi'⟩ := hp
            obtain ⟨f1, f2, f3, n1, n2, f4, f5, f6⟩ := fin none W3 D' hx hD'
            exact ⟨_, _, f1, true, rfl, _, f4, f5, fun _ => ⟨D', rfl, hI _ _ _ _ _ hi' f6 (stabM n1), f2, f3, n1, n2⟩, fun h => by cases h⟩
          | ret =>
            obtain ⟨D', hx, hD', hi'⟩ := hp
            obtain ⟨f1, f2, f3, n1, n2, f4, f5, f6⟩ := fin (some .ret) W3 D' hx hD'
            exact ⟨_, _, f1, false, rfl, _, f4, f5, fun h => (by cases h), fun _ => ⟨D', _, rfl, hIx _ _ _ _ _ _ hi' f6 (stabM n1), f2, f3, n1, n2⟩⟩
          | exit id =>
            obtain ⟨D', hx, hD', hi'⟩ := hp
            obtain ⟨f1, f2, f3, n1, n2, f4, f5, f6⟩ := fin (some (.exit id)) W3 D' hx hD'
            exact ⟨_, _, f1, false, rfl, _, f4, f5, fun h => (by cases h), fun _ => ⟨D', _, rfl, hIx _ _ _ _ _ _ hi' f6 (stabM n1), f2, f3, n1, n2⟩⟩
          | goto t =>
            obtain ⟨D', hx, hD', hi'⟩ := hp
            obtain ⟨f1, f2, f3, n1, n2, f4, f5, f6⟩ := fin (some (.goto t)) W3 D' hx hD'
            exact ⟨_, _, f1, false, rfl, _, f4, f5, fun h => (by cases h), fun _ => ⟨D', _, rfl, hIx _ _ _ _ _ _ hi' f6 (stabM n1), f2, f3, n1, n2⟩⟩
          | panic ch => exact hp.elim
          | outgrown => exact hp.elim
        | _ => exact hq.elim)
      ⟨D₀, rfl, hI 0 D₀ w W1 [] h0 hE1 (by simp), hL1, hK1, fun h => by have := (hD _ h).1; omega, fun h => by have := (hD _ h).1; omega⟩
    have e : (Value.func (.yield (w.heap.size + 1)) #[] #[] :: lb).toArray = #[.func (.yield (w.heap.size + 1)) #[] #[]] ++ lb.toArray := by simp
    unfold Meets at hm
    rw [e] at hm
    refine CallsIn.mono (callsIn_wide.2 hm) ?_
    intro e W2 he
    cases e with
    | returned v =>
      have stabM : ∀ {D' : List Nat}, w.heap.size + 1 ∉ D' → ∀ g ∈ [w.heap.size + 1], g ∉ D' ∧ (g ∈ M ∨ w.heap.size ≤ g) := fun h g hg => by
        rw [List.mem_singleton.1 hg]; exact ⟨h, .inr (by omega)⟩
      rcases he with ⟨_, ⟨D, rfl, hi, hl, hd, h1, h2⟩, hs⟩ | ⟨k, _, hk, ⟨D, c, rfl, hi, hl, hd, h1, h2⟩, hs⟩
      · refine ⟨none, _, by have := run_endLoop (P := P) hl (by rw [hrec]; simp); rw [hrec] at this; exact this, ?_⟩
        exact hdone w.heap.size D _ (Nat.le_refl _) h2 ((World.putObj_heap_other (by omega)).trans hd) (hI _ _ _ _ _ hi (Ext.putObj _ _ _) (stabM h1)) (hS _ _ _ hs (Still.putObj _ hl rfl)) _ ⟨ha.size, by simp [ha.defers], ha.vals⟩
      · refine ⟨some c, _, by have := run_endLoop (P := P) hl (by rw [hrec]; simp); rw [hrec] at this; exact this, ?_⟩
        exact fen_wp (r := none) (hstop w.heap.size D k c _ (Nat.le_refl _) h2 ((World.putObj_heap_other (by omega)).trans hd) hk (hIx _ _ _ _ _ _ hi (Ext.putObj _ _ _) (stabM h1)) (hS _ _ _ hs (Still.putObj _ hl rfl)) _ ⟨ha.size, by simp [ha.defers], ha.vals⟩)
    | panicked ch => exact he.elim
    | outgrown => exact he.elim
end
end Brv
