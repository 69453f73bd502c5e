/-
  Texts of this claim, put together.
-/
import Derived.RangeFuncSeq
import Derived.ChangeKeysEq
import Derived.Lib.Overlaps
import Derived.Test.YthpolibakkmmeaaProg
import Derived.Test.YthpolibakkmmeaaChecked
import Derived.Test.YthpolibakkmmeaaOrlPLz0
/-
  Ranges over functions: what an iterator promises (Iter), the statement (G.range), a round's walk, calls of yield.
-/
set_option linter.unusedVariables false
namespace Brv
open Go

/-! ## Worlds in which no cells were turned -/
structure Still (w w' : World) : Prop where
  os : w'.os = w.os
  tape : w'.tape = w.tape
  output : w'.output = w.output
  size : w.heap.size ≤ w'.heap.size
  keep : ∀ (k : Nat) (cs : Array Value) (T : TypeId) (fz : Nat × Nat), w.heap[k]? = some (.cells cs T fz) → w'.heap[k]? = some (.cells cs T fz)
theorem Still.of {w w' : World} (h : Ext [] w w') : Still w w' := ⟨h.os, h.tape, h.output, h.size, fun k cs T fz hk => (h.keep k (Array.getElem?_eq_some_iff.1 hk).1 (by simp)).trans hk⟩
theorem Still.trans {a b c : World} (h : Still a b) (k : Still b c) : Still a c := ⟨k.os.trans h.os, k.tape.trans h.tape, k.output.trans h.output, Nat.le_trans h.size k.size, fun i cs T fz hi => k.keep i cs T fz (h.keep i cs T fz hi)⟩
def isCells : Obj → Bool
  | .cells .. => true
  | _ => false
theorem cells_of_cell {W : World} {a : Addr} {v : Value} (h : W.cell? a = some v) : ∃ o : Obj, W.heap[a.block]? = some o ∧ isCells o = true := by
  unfold World.cell? at h
  cases ho : W.heap[a.block]? with
  | none => simp [ho] at h
  | some o => exact ⟨o, rfl, by cases o <;> simp_all [isCells]⟩
theorem Still.cell {w w' : World} (h : Still w w') {p : Addr} {v : Value} (hc : w.cell? p = some v) : w'.cell? p = some v := by
  obtain ⟨o, ho, hcs⟩ := cells_of_cell hc
  cases o with
  | cells cs T fz => exact (World.cell?_of_block ((h.keep _ cs T fz ho).trans ho.symm)).trans hc
  | _ => cases hcs
theorem Blk.still {w w' : World} {b : Nat} {cs : Array Value} {T : TypeId} {fz : Nat × Nat} (h : Blk w b cs T fz) (hc : Still w w') : Blk w' b cs T fz := hc.keep _ _ _ _ h
theorem Cells.still {w w' : World} {a : Option Addr} {vs : List Value} (h : Cells w a vs) (hc : Still w w') : Cells w' a vs := fun j v hv => let ⟨p, hp, hq⟩ := h j v hv; ⟨p, hp, hc.cell hq⟩
theorem Bs.still {w w' : World} {a : Option Addr} {n : Nat} {l : List UInt8} (h : Bs w a n l) (hc : Still w w') : Bs w' a n l := ⟨h.cells.still hc, h.len⟩
theorem Own.still {w w' : World} {E size : Nat} {a : Option Addr} {n cap : Nat} {xs : List Value} {M : List Nat} (h : Own w E size a n cap xs M) (hc : Still w w') : Own w' E size a n cap xs M := by
  refine ⟨h.1, ?_⟩
  rcases h.2 with h | ⟨g, cur, ha, hM, hb, h⟩
  · exact .inl h
  · exact .inr ⟨g, cur, ha, hM, hb.still hc, h⟩
theorem Ext.putObj (w : World) (l : Nat) (o : Obj) : Ext [l] w (w.putObj l o) := ⟨rfl, rfl, rfl, by simp, fun k _ hk => World.putObj_heap_other (fun e => hk (by simp [e]))⟩
theorem Still.putObj {w : World} {l : Nat} {o : Obj} (o' : Obj) (h : w.heap[l]? = some o) (ho : isCells o = false) : Still w (w.putObj l o') :=
  ⟨rfl, rfl, rfl, by simp, fun k cs T fz hk => by
    by_cases e : k = l
    · subst e; rw [h] at hk; cases hk; cases ho
    · exact (World.putObj_heap_other e).trans hk⟩

/-! ## Yield -/
/-- A call of the function that an iterator was handed: it gives a bool. -/
def YCall (P : Program) (y : Value) (vs : List Value) (W : World) (R : Bool → World → Prop) : Prop :=
  (∃ l, y = .func (.yield l) #[] #[] ∧ YieldAt Fence.wide 0 P l vs.toArray W (fun e w' => ∃ b, e = .returned (.bool b) ∧ R b w')) ∨
  (∃ f first cap, y = .func (.func f) first cap ∧ (∀ (vs : Array Value) w, (callFunc f vs).run P w = .ok (.enter f vs) w) ∧ Meets P f (first.toList ++ vs ++ cap.toList) W (fun v w' => ∃ b, v = .bool b ∧ R b w'))

section
variable {P : Program} {B : Exit → Act → World → Prop} {n : Fm} {ops : List Oper} {ks : List K} {ρ : Env} {w : World} {rest : List Oper}
theorem run_callY {a : Act} {d : Option Tmp} {x : Operand} {l : Nat} {args : Array Operand} {ats : Array TypeId} {ty : TypeId} {pos : String} {af : Array Edge} {gd : Option (Nat × Bool)} {vs : List Value}
    (hx : a.eval x = .func (.yield l) #[] #[]) (he : args.toList.map a.eval = vs) (w : World) {r : Next} (hr : (Instr.yield l vs.toArray).run P w = .ok r w) :
    (execOp a.eval ⟨d, .call ⟨.value x, args, ats⟩, ty, pos, af, gd⟩).run P w = .ok r w := by
  have he' : args.map a.eval = vs.toArray := by
    apply Array.toList_inj.1
    simpa using he
  have h2 : execOp a.eval ⟨d, .call ⟨.value x, args, ats⟩, ty, pos, af, gd⟩ = (do let x ← resolve a.eval ⟨.value x, args, ats⟩ ty; invoke x.target x.args) := rfl
  have h3 : resolve a.eval ⟨.value x, args, ats⟩ ty = pure ⟨.fn (.yield l) #[], #[] ++ vs.toArray⟩ := by
    simp only [resolve, he', hx]
    rfl
  rw [h2, h3]
  simp only [Sem.run_bind, Sem.run_pure, Result.andThen_ok]
  show (Instr.yield l (#[] ++ vs.toArray)).run P w = _
  rw [show #[] ++ vs.toArray = vs.toArray by simp]
  exact hr
theorem L.ycall {d : Nat} {x : Operand} {y : Value} {args : Array Operand} {ats : Array TypeId} {ty : TypeId} {pos : String} {af : Array Edge} {gd : Option (Nat × Bool)} {vs : List Value} {R : Bool → World → Prop}
    (hg : wants ops ρ gd = some true) (hd : Nat.blt d n = true) (hx : ev ρ x = some y) (hargs : evs ρ args.toList = some vs) (hY : YCall P y vs w R)
    (h : ∀ b w', R b w' → L P B n ops ks ((d, .bool b) :: ρ) w' rest) : L P B n ops ks ρ w (⟨some d, .call ⟨.value x, args, ats⟩, ty, pos, af, gd⟩ :: rest) := by
  intro a ha
  have hd' : d < n := by simpa [Nat.blt_eq] using hd
  unfold wpListIn
  rw [if_pos (wants_spec ha hg)]
  rcases hY with ⟨l, rfl, fn, tmps, assign, body, hrun, hround⟩ | ⟨f, first, cap, rfl, hc, hf⟩
  · refine wpIn_run rfl (run_callY (ha.eval hx) (ha.evals hargs) w hrun) ?_
    refine ⟨fun h => (by rw [fen_depth] at h; cases h), ?_⟩
    have hr2 : RoundIn (fen n.ro) 0 P l fn tmps assign body w (fun e w' => ∃ b, e = .returned (.bool b) ∧ R b w') := by
      cases n.ro
      · exact hround
      · exact hround
    refine RoundIn.mono hr2 ?_
    rintro e w' ⟨b, rfl, hR⟩
    exact h b w' hR _ (ha.put hd' _)
  · refine wpIn_run rfl (run_callV (ha.eval hx) (ha.evals hargs) rfl (hc _) w) ⟨fun h => (by rw [fen_depth] at h; cases h), fen_calls ?_⟩
    refine Calls.mono hf ?_
    intro e w' he
    cases e with
    | returned v => obtain ⟨b, rfl, hR⟩ := he; exact h b w' hR _ (ha.put hd' _)
    | panicked c => exact he.elim
    | outgrown => exact he.elim
end

section
variable {P : Program} {n : Fm} {ρ : Env} {w : World} {d : Nat} {ty : TypeId} {pos : String} {af : Array Edge} {gd : Option (Nat × Bool)}
theorem R.mkFunc {fn : Fn} {first cap : Array Operand} {us vs : List Value} (h1 : evs ρ first.toList = some us) (h2 : evs ρ cap.toList = some vs) :
    Runs P n ρ w ⟨some d, .makeFunc fn first cap, ty, pos, af, gd⟩ (.func fn us.toArray vs.toArray) w := (fun f hf => by
    have e1 : first.map f.eval = us.toArray := by apply Array.toList_inj.1; simpa using hf.evals h1
    have e2 : cap.map f.eval = vs.toArray := by apply Array.toList_inj.1; simpa using hf.evals h2
    simp [execOp, Instr.makeFunc, e1, e2])
theorem R.eqNilF {T T' : TypeId} {ps rs : Array TypeId} {va : Bool} {x y : Operand} {fn : Fn} {us vs : Array Value} (hu : P.underlying T = some (.func ps rs va)) (hx : ev ρ x = some (.func fn us vs)) (hy : ev ρ y = some .nilFunc) :
    Runs P n ρ w ⟨some d, .binOp .eql T x y T', ty, pos, af, gd⟩ (.bool false) w := R.bin hx hy (fun w => by
    have he := run_equal (P := P) (T := T) (x := .func fn us vs) (y := .nilFunc) (r := false) w (fun d => by simp only [Op.equalIn, Sem.run_bind, run_underlying hu, Result.andThen_ok]; rfl)
    have hg : (eqGuard .eql T x y (.func fn us vs) .nilFunc).run P w = .ok () w := rfl
    simp only [hg, binOp, Sem.run_bind, Sem.run_pure, Result.andThen_ok, he])
theorem run_loadV {T : TypeId} [t : TyOne P T] {p : Addr} {v : Value} (hc : w.cell? p = some v) : (loadVar T p).run P w = .ok v w := by
  have := run_load1 (P := P) (T := T) hc
  simpa [Instr.loadAt, Instr.sureAddr] using this
theorem res3C {fn : Func} {ρ : Env} {a : Act} {t u s : Nat} {T U V : TypeId} [TyOne P T] [TyOne P U] [TyOne P V] {p q r : Addr} {v x y : Value} (hr : fn.results = #[.cell t T, .cell u U, .cell s V])
    (hv : look ρ t = some (.pointer (some p))) (hx : look ρ u = some (.pointer (some q))) (hy : look ρ s = some (.pointer (some r))) (ha : Fr n ρ a) (h1 : w.cell? p = some v) (h2 : w.cell? q = some x) (h3 : w.cell? r = some y) :
    (results fn a.tmps).run P w = .ok (.tuple #[v, x, y]) w := by
  have e1 := ha.getD hv
  have e2 := ha.getD hx
  have e3 := ha.getD hy
  have l1 := run_loadV (P := P) (T := T) h1
  have l2 := run_loadV (P := P) (T := U) h2
  have l3 := run_loadV (P := P) (T := V) h3
  rw [Array.getD_eq_getD_getElem?] at e1 e2 e3
  simp [results, hr, e1, e2, e3, asAddr, l1, l2, l3]
end
theorem leave1 {P : Program} {w : World} {d : Nat} (h : w.heap[d]? = some (.deferred (some []))) : Leave P [⟨.collected d, #[]⟩] w (w.putObj d (.deferred none)) := ⟨d, _, rfl, run_takeDeferred h, rfl⟩

/-! ## Iterators -/
/-- What the function gf (with what it has captured, lb) promises when it is ranged over from world w on: it yields N times, the k-th time what E k tells; it reads the blocks of F, writes those of M; behind its k-th yield S k holds of those. The consumer writes blocks of its own list, which may grow. -/
def Iter (P : Program) (gf : FuncId) (lb : List Value) (w : World) (N : Nat) (E : Nat → List Value → World → Prop) (S : Nat → World → Prop) (F M : List Nat) : Prop :=
  ∀ (y : Value) (D₀ : List Nat) (J Jx : Nat → List Nat → World → Prop) (W : World), Ext [] w W → (∀ g ∈ D₀, g < W.heap.size ∧ g ∉ F ∧ g ∉ M) →
    (∀ k D W₁ W₂ M', J k D W₁ → Ext M' W₁ W₂ → (∀ g ∈ M', g ∉ D ∧ (g ∈ M ∨ w.heap.size ≤ g)) → J k D W₂) →
    (∀ k D W₁ W₂ M', Jx k D W₁ → Ext M' W₁ W₂ → (∀ g ∈ M', g ∉ D ∧ (g ∈ M ∨ w.heap.size ≤ g)) → Jx k D W₂) →
    (∀ k D vs W₁, k < N → J k D W₁ → E k vs W₁ → (∀ g ∈ D, g < W₁.heap.size) → YCall P y vs W₁ fun b W₂ => ∃ D', Ext D W₁ W₂ ∧ (∀ g ∈ D', g < W₂.heap.size ∧ (g ∈ D ∨ W₁.heap.size ≤ g)) ∧ (b = true → J (k + 1) D' W₂) ∧ (b = false → Jx (k + 1) D' W₂)) →
    J 0 D₀ W → Meets P gf (y :: lb) W fun _ W₂ => (∃ D, J N D W₂ ∧ S N W₂) ∨ ∃ k D, k ≤ N ∧ Jx k D W₂ ∧ S k W₂

/-- How a round's body may be left. -/
def roundB (k : Nat) (D : List Nat) (W : World) (I : Nat → List Nat → World → Prop) (Ix : Code → Nat → List Nat → World → Prop) : Exit → Act → World → Prop
  | .normal, _, w' => ∃ D', Ext D W w' ∧ (∀ g ∈ D', g < w'.heap.size ∧ (g ∈ D ∨ W.heap.size ≤ g)) ∧ I (k + 1) D' w'
  | .ret, _, w' => ∃ D', Ext D W w' ∧ (∀ g ∈ D', g < w'.heap.size ∧ (g ∈ D ∨ W.heap.size ≤ g)) ∧ Ix .ret (k + 1) D' w'
  | .exit id, _, w' => ∃ D', Ext D W w' ∧ (∀ g ∈ D', g < w'.heap.size ∧ (g ∈ D ∨ W.heap.size ≤ g)) ∧ Ix (.exit id) (k + 1) D' w'
  | .goto t, _, w' => ∃ D', Ext D W w' ∧ (∀ g ∈ D', g < w'.heap.size ∧ (g ∈ D ∨ W.heap.size ≤ g)) ∧ Ix (.goto t) (k + 1) D' w'
  | _, _, _ => False
/-- Behind the assignment of the loop's variables: the body. -/
def assignB (P : Program) (l k : Nat) (D : List Nat) (W : World) (I : Nat → List Nat → World → Prop) (Ix : Code → Nat → List Nat → World → Prop) (body : Code) : Exit → Act → World → Prop
  | .normal, a, w₂ => Ext [] W w₂ ∧ ∀ wb, Ext [l] w₂ wb → Still w₂ wb → body.wpIn (fen (some l)) 0 P (roundB k D wb I Ix) a wb
  | _, _, _ => False

def bindEnv : List Tmp → List Value → Env → Env
  | p :: ps, v :: vs, ρ => bindEnv ps vs ((p, v) :: ρ)
  | _, _, ρ => ρ

theorem bind_fr {n : Fm} : ∀ (ps : List Tmp) (vs : List Value) {ρ : Env} {a : Act}, Fr n ρ a → (∀ p ∈ ps, p < n.n) → Fr n (bindEnv ps vs ρ) { a with tmps := (ps.zip vs).foldl (fun t (p, v) => t.setIfInBounds p v) a.tmps }
  | [], _, ρ, a, h, _ => by cases a; exact h
  | p :: ps, [], ρ, a, h, _ => by cases a; exact h
  | p :: ps, v :: vs, ρ, a, h, hp => by
    have h1 : Fr n ((p, v) :: ρ) (a.put (some p) v) := h.put (hp p (by simp)) v
    exact bind_fr ps vs h1 (fun q hq => hp q (by simp [hq]))

section
variable {P : Program} {B : Exit → Act → World → Prop} {n : Nat} {df : List Deferred} {ks : List K} {ρ : Env} {w : World}
theorem N.round {l k : Nat} {D : List Nat} {W : World} {I : Nat → List Nat → World → Prop} {Ix : Code → Nat → List Nat → World → Prop} {body : Code} (hE : Ext [] W w)
    (h : ∀ wb, Ext [l] w wb → Still w wb → G P (roundB k D wb I Ix) ⟨n, [], some l⟩ [] ρ wb body) : N P (assignB P l k D W I Ix body) ⟨n, [], some l⟩ [] ρ w :=
  N.done fun a ha => ⟨hE, fun wb h1 h2 => h wb h1 h2 a ha⟩

/-- for .. := range g { body } -/
theorem G.range {g : Operand} {ps : Array Tmp} {assign body : Code} {gf : FuncId} {lb : List Value} {Nn : Nat} {E : Nat → List Value → World → Prop} {S : Nat → World → Prop} {F M : List Nat}
    (hps : ps.toList.all (fun p => Nat.blt p n) = true) (hg : ev ρ g = some (.func (.func gf) #[] lb.toArray)) (eg : ∀ (vs : Array Value) w, (callFunc gf vs).run P w = .ok (.enter gf vs) w)
    (hit : Iter P gf lb w Nn E S F M) (hS : ∀ k W W', S k W → Still W W' → S k W') (D₀ : List Nat) (hD : ∀ x ∈ D₀, x < w.heap.size ∧ x ∉ F ∧ x ∉ M) (hFM : ∀ x, x ∈ F ∨ x ∈ M → x < w.heap.size)
    (I : Nat → List Nat → World → Prop) (Ix : Code → Nat → List Nat → World → Prop)
    (hI : ∀ k D W₁ W₂ M', I k D W₁ → Ext M' W₁ W₂ → (∀ g ∈ M', g ∉ D ∧ (g ∈ M ∨ w.heap.size ≤ g)) → I k D W₂)
    (hIx : ∀ c k D W₁ W₂ M', Ix c k D W₁ → Ext M' W₁ W₂ → (∀ g ∈ M', g ∉ D ∧ (g ∈ M ∨ w.heap.size ≤ g)) → Ix c k D W₂)
    (h0 : I 0 D₀ w)
    (hround : ∀ l k D vs W₁, w.heap.size ≤ l → l < W₁.heap.size → l ∉ D → (∀ g ∈ D, g < W₁.heap.size) → k < Nn → I k D W₁ → E k vs W₁ → vs.length = ps.size ∧ G P (assignB P l k D W₁ I Ix body) ⟨n, [], some l⟩ [] (bindEnv ps.toList vs ρ) W₁ assign)
    (hdone : ∀ d D W₂, w.heap.size ≤ d → d ∉ D → W₂.heap[d]? = some (.deferred (some [])) → I Nn D W₂ → S Nn W₂ → N P B ⟨n, ⟨.collected d, #[]⟩ :: df, none⟩ ks ρ W₂)
    (hstop : ∀ d D k c W₂, w.heap.size ≤ d → d ∉ D → W₂.heap[d]? = some (.deferred (some [])) → k ≤ Nn → Ix c k D W₂ → S k W₂ → G P B ⟨n, ⟨.collected d, #[]⟩ :: df, none⟩ ks ρ W₂ c) :
    G P B ⟨n, df, none⟩ ks ρ w (.rangeFunc g ps assign body) := by
  intro a ha
  refine wpIn_rangeFunc (F := Fence.wide) ?_
  intro fn hfn
  obtain ⟨rec, hrec⟩ : ∃ rec : LoopState → Option Code → Loop, rec = fun st pe => { state := st, pending := pe, fn, tmps := a.tmps, params := ps, assign, body, defers := w.heap.size } := ⟨_, rfl⟩
  obtain ⟨W1, hW1⟩ : ∃ W1, (w.alloc (.deferred (some []))).alloc (.loop (rec .ready none)) = W1 := ⟨_, rfl⟩
  have hL1 : W1.heap[w.heap.size + 1]? = some (.loop (rec .ready none)) := by
    rw [← hW1]; have := World.alloc_heap_new (w.alloc (.deferred (some []))) (.loop (rec .ready none)); rwa [World.size_alloc] at this
  have hK1 : W1.heap[w.heap.size]? = some (.deferred (some [])) := by
    rw [← hW1]; exact ((Ext.alloc (w.alloc (.deferred (some []))) _).keep _ (by simp) (by simp)).trans (World.alloc_heap_new w _)
  have hE1 : Ext [] w W1 := by rw [← hW1]; exact (Ext.alloc w _).trans0 (Ext.alloc _ _)
  have hs1 : W1.heap.size = w.heap.size + 2 := by rw [← hW1]; simp
  refine ⟨w.heap.size + 1, [{ target := .collected w.heap.size, args := #[] }], W1, { target := .fn (.func gf) lb.toArray, args := #[.func (.yield (w.heap.size + 1)) #[] #[]] }, W1, gf,
    #[.func (.yield (w.heap.size + 1)) #[] #[]] ++ lb.toArray, W1, ?_, ?_, fun _ _ => trivial, ?_, fun h => (by cases h), ?_⟩
  · rw [← hW1, hrec]; exact run_enterLoop_outer _ _ _ _ _
  · simp only [resolve, ha.eval hg]
    simp [go_sem]
  · simp [invoke, go_sem, eg]
  · -- the iterator
    have hrel : ∀ {D : List Nat} {W A : World} {M' : List Nat}, (∀ g ∈ M', g ∉ (w.heap.size + 1) :: D ∧ g ≠ w.heap.size ∧ (g ∈ M ∨ w.heap.size ≤ g)) → Ext M' W A → ∀ {o : Obj} {j : Nat}, W.heap[j]? = some o → (j = w.heap.size + 1 ∨ j = w.heap.size) → A.heap[j]? = some o := by
      intro D W A M' hM' he o j hj hjj
      refine (he.keep j (Array.getElem?_eq_some_iff.1 hj).1 (fun hm => ?_)).trans hj
      obtain ⟨h1, h2, _⟩ := hM' j hm
      rcases hjj with rfl | rfl
      · exact h1 (by simp)
      · exact h2 rfl
    have hm := hit (.func (.yield (w.heap.size + 1)) #[] #[]) ((w.heap.size + 1) :: w.heap.size :: D₀)
      (fun k DD W => ∃ D, DD = (w.heap.size + 1) :: w.heap.size :: D ∧ I k D W ∧ W.heap[w.heap.size + 1]? = some (.loop (rec .ready none)) ∧ W.heap[w.heap.size]? = some (.deferred (some [])) ∧ w.heap.size + 1 ∉ D ∧ w.heap.size ∉ D)
      (fun k DD W => ∃ D c, DD = (w.heap.size + 1) :: w.heap.size :: D ∧ Ix c k D W ∧ W.heap[w.heap.size + 1]? = some (.loop (rec .done (some c))) ∧ W.heap[w.heap.size]? = some (.deferred (some [])) ∧ w.heap.size + 1 ∉ D ∧ w.heap.size ∉ D)
      W1 hE1 (by
        intro x hx
        simp only [List.mem_cons] at hx
        rcases hx with rfl | rfl | hx
        · exact ⟨by omega, fun h => by have := hFM _ (.inl h); omega, fun h => by have := hFM _ (.inr h); omega⟩
        · exact ⟨by omega, fun h => by have := hFM _ (.inl h); omega, fun h => by have := hFM _ (.inr h); omega⟩
        · exact ⟨by have := (hD x hx).1; omega, (hD x hx).2⟩)
      (by
        rintro k _ A A' M' ⟨D, rfl, hi, hl, hd, h1, h2⟩ he hM'
        refine ⟨D, rfl, hI k D A A' M' hi he (fun x hx => ⟨fun h => (hM' x hx).1 (by simp [h]), (hM' x hx).2⟩), ?_, ?_, h1, h2⟩
        · exact (he.keep _ (Array.getElem?_eq_some_iff.1 hl).1 (fun h => (hM' _ h).1 (by simp))).trans hl
        · exact (he.keep _ (Array.getElem?_eq_some_iff.1 hd).1 (fun h => (hM' _ h).1 (by simp))).trans hd)
      (by
        rintro k _ A A' M' ⟨D, c, rfl, hi, hl, hd, h1, h2⟩ he hM'
        refine ⟨D, c, rfl, hIx c k D A A' M' hi he (fun x hx => ⟨fun h => (hM' x hx).1 (by simp [h]), (hM' x hx).2⟩), ?_, ?_, h1, h2⟩
        · exact (he.keep _ (Array.getElem?_eq_some_iff.1 hl).1 (fun h => (hM' _ h).1 (by simp))).trans hl
        · exact (he.keep _ (Array.getElem?_eq_some_iff.1 hd).1 (fun h => (hM' _ h).1 (by simp))).trans hd)
      (by
        rintro k _ vs A hk ⟨D, rfl, hi, hl, hd, h1, h2⟩ hEv hDl
        refine .inl ⟨_, rfl, ?_⟩
        have hlt : w.heap.size + 1 < A.heap.size := (Array.getElem?_eq_some_iff.1 hl).1
        obtain ⟨hlen, hG⟩ := hround (w.heap.size + 1) k D vs A (by omega) hlt h1 (fun x hx => hDl x (by simp [hx])) hk hi hEv
        have hy := run_yield (P := P) (args := vs.toArray) hl (by rw [hrec]; simpa using hlen)
        rw [hrec] at hy
        refine ⟨fn, _, assign, body, hy, roundIn_of_wpIn hfn ?_⟩
        have hfr : Fr ⟨n, [], some (w.heap.size + 1)⟩ (bindEnv ps.toList vs ρ) { tmps := (ps.toList.zip vs).foldl (fun t (p, v) => t.setIfInBounds p v) a.tmps, defers := [] } :=
          bind_fr (n := ⟨n, [], some (w.heap.size + 1)⟩) ps.toList vs (a := { tmps := a.tmps, defers := [] }) ⟨ha.size, rfl, ha.vals⟩ (fun p hp => by simpa [Nat.blt_eq] using List.all_eq_true.1 hps p hp)
        have hz : (ps.zip vs.toArray).foldl (fun t (p, v) => t.setIfInBounds p v) a.tmps = (ps.toList.zip vs).foldl (fun t (p, v) => t.setIfInBounds p v) a.tmps := by
          rw [← Array.foldl_toList, Array.toList_zip]
        rw [hz]
        have hw := hG _ hfr
        refine wpIn_mono (F := Fence.wide.inRound (w.heap.size + 1)) (fen_wp (r := some (w.heap.size + 1)) hw) ?_
        intro e a₁ w₂ hq
        cases e with
        | normal =>
          obtain ⟨hE2, hq⟩ := hq
          have hl2 : w₂.heap[w.heap.size + 1]? = some (.loop (rec .ready none)) := (hE2.keep _ hlt (by simp)).trans hl
          have hd2 : w₂.heap[w.heap.size]? = some (.deferred (some [])) := (hE2.keep _ (by omega) (by simp)).trans hd
          have hbr := run_beginRound (P := P) hl2 (by rw [hrec])
          refine ⟨_, hbr, ?_⟩
          have hlt2 : w.heap.size + 1 < w₂.heap.size := Nat.lt_of_lt_of_le hlt hE2.size
          have hl3 : (w₂.putObj (w.heap.size + 1) (.loop { rec .ready none with state := .busy })).heap[w.heap.size + 1]? = some (.loop { rec .ready none with state := .busy }) := World.putObj_heap_same hlt2
          have hd3 : (w₂.putObj (w.heap.size + 1) (.loop { rec .ready none with state := .busy })).heap[w.heap.size]? = some (.deferred (some [])) := (World.putObj_heap_other (by omega)).trans hd2
          have hE3 := Ext.putObj w₂ (w.heap.size + 1) (.loop { rec .ready none with state := .busy })
          refine wpIn_mono (F := Fence.wide.inRound (w.heap.size + 1)) (fen_wp (r := some (w.heap.size + 1)) (hq _ hE3 (Still.putObj _ hl2 rfl))) ?_
          have fin : ∀ (jump : Option Code) (W3 : World) (D' : List Nat), Ext D (w₂.putObj (w.heap.size + 1) (.loop { rec .ready none with state := .busy })) W3 → (∀ g ∈ D', g < W3.heap.size ∧ (g ∈ D ∨ (w₂.putObj (w.heap.size + 1) (.loop { rec .ready none with state := .busy })).heap.size ≤ g)) →
              (Instr.endRound (w.heap.size + 1) jump).run P W3 = .ok (.bool jump.isNone) (W3.putObj (w.heap.size + 1) (.loop (rec (if jump.isNone then .ready else .done) jump))) ∧
              (W3.putObj (w.heap.size + 1) (.loop (rec (if jump.isNone then .ready else .done) jump))).heap[w.heap.size + 1]? = some (.loop (rec (if jump.isNone then .ready else .done) jump)) ∧
              (W3.putObj (w.heap.size + 1) (.loop (rec (if jump.isNone then .ready else .done) jump))).heap[w.heap.size]? = some (.deferred (some [])) ∧ w.heap.size + 1 ∉ D' ∧ w.heap.size ∉ D' ∧
              Ext ((w.heap.size + 1) :: w.heap.size :: D) A (W3.putObj (w.heap.size + 1) (.loop (rec (if jump.isNone then .ready else .done) jump))) ∧
              (∀ g ∈ (w.heap.size + 1) :: w.heap.size :: D', g < (W3.putObj (w.heap.size + 1) (.loop (rec (if jump.isNone then .ready else .done) jump))).heap.size ∧ (g ∈ (w.heap.size + 1) :: w.heap.size :: D ∨ A.heap.size ≤ g)) ∧
              Ext [w.heap.size + 1] W3 (W3.putObj (w.heap.size + 1) (.loop (rec (if jump.isNone then .ready else .done) jump))) := fun jump W3 D' hx hD' => by
            have hl4 : W3.heap[w.heap.size + 1]? = some (.loop { rec .ready none with state := .busy }) := (hx.keep _ (by simpa using hlt2) h1).trans hl3
            have hd4 : W3.heap[w.heap.size]? = some (.deferred (some [])) := (hx.keep _ (by simp; omega) h2).trans hd3
            have hlt4 : w.heap.size + 1 < W3.heap.size := (Array.getElem?_eq_some_iff.1 hl4).1
            have her := run_endRound (P := P) jump hl4
            rw [hrec] at her ⊢
            have hsz : w₂.heap.size ≤ W3.heap.size := by have := hx.size; simpa using this
            have n1 : w.heap.size + 1 ∉ D' := fun h => (hD' _ h).2.elim h1 (fun h => by simp at h; omega)
            have n2 : w.heap.size ∉ D' := fun h => (hD' _ h).2.elim h2 (fun h => by simp at h; omega)
            have hx2 := Ext.putObj W3 (w.heap.size + 1) (.loop { state := if jump.isNone = true then LoopState.ready else LoopState.done, pending := jump, fn := fn, tmps := a.tmps, params := ps, assign := assign, body := body, defers := w.heap.size })
            refine ⟨her, World.putObj_heap_same hlt4, (World.putObj_heap_other (by omega)).trans hd4, n1, n2, ?_, ?_, hx2⟩
            · have e1 : Ext ((w.heap.size + 1) :: w.heap.size :: D) A _ := hE3.after hE2 |>.mono (fun x hx => .inl (by simp at hx ⊢; exact .inl hx))
              have e2 := e1.transN hx (fun x hx => .inl (by simp [hx]))
              exact e2.transN hx2 (fun x hx => .inl (by simp at hx ⊢; exact .inl hx))
            · intro x hx'
              simp only [List.mem_cons] at hx'
              rcases hx' with rfl | rfl | hx'
              · exact ⟨by simpa using hlt4, .inl (by simp)⟩
              · exact ⟨by simp; omega, .inl (by simp)⟩
              · obtain ⟨h3, h4⟩ := hD' x hx'
                refine ⟨by simpa using h3, h4.elim (fun h => .inl (by simp [h])) (fun h => .inr ?_)⟩
                simp at h
                exact Nat.le_trans hE2.size h
          have stabM : ∀ {D' : List Nat}, w.heap.size + 1 ∉ D' → ∀ g ∈ [w.heap.size + 1], g ∉ D' ∧ (g ∈ M ∨ w.heap.size ≤ g) := fun h g hg => by
            rw [List.mem_singleton.1 hg]; exact ⟨h, .inr (by omega)⟩
          rintro e a3 W3 hp
          cases e with
          | normal =>
            obtain ⟨D', hx, hD', hi'⟩ := hp
            obtain ⟨f1, f2, f3, n1, n2, f4, f5, f6⟩ := fin none W3 D' hx hD'
            exact ⟨_, _, f1, true, rfl, _, f4, f5, fun _ => ⟨D', rfl, hI _ _ _ _ _ hi' f6 (stabM n1), f2, f3, n1, n2⟩, fun h => by cases h⟩
          | ret =>
            obtain ⟨D', hx, hD', hi'⟩ := hp
            obtain ⟨f1, f2, f3, n1, n2, f4, f5, f6⟩ := fin (some .ret) W3 D' hx hD'
            exact ⟨_, _, f1, false, rfl, _, f4, f5, fun h => (by cases h), fun _ => ⟨D', _, rfl, hIx _ _ _ _ _ _ hi' f6 (stabM n1), f2, f3, n1, n2⟩⟩
          | exit id =>
            obtain ⟨D', hx, hD', hi'⟩ := hp
            obtain ⟨f1, f2, f3, n1, n2, f4, f5, f6⟩ := fin (some (.exit id)) W3 D' hx hD'
            exact ⟨_, _, f1, false, rfl, _, f4, f5, fun h => (by cases h), fun _ => ⟨D', _, rfl, hIx _ _ _ _ _ _ hi' f6 (stabM n1), f2, f3, n1, n2⟩⟩
          | goto t =>
            obtain ⟨D', hx, hD', hi'⟩ := hp
            obtain ⟨f1, f2, f3, n1, n2, f4, f5, f6⟩ := fin (some (.goto t)) W3 D' hx hD'
            exact ⟨_, _, f1, false, rfl, _, f4, f5, fun h => (by cases h), fun _ => ⟨D', _, rfl, hIx _ _ _ _ _ _ hi' f6 (stabM n1), f2, f3, n1, n2⟩⟩
          | panic ch => exact hp.elim
          | outgrown => exact hp.elim
        | _ => exact hq.elim)
      ⟨D₀, rfl, hI 0 D₀ w W1 [] h0 hE1 (by simp), hL1, hK1, fun h => by have := (hD _ h).1; omega, fun h => by have := (hD _ h).1; omega⟩
    have e : (Value.func (.yield (w.heap.size + 1)) #[] #[] :: lb).toArray = #[.func (.yield (w.heap.size + 1)) #[] #[]] ++ lb.toArray := by simp
    unfold Meets at hm
    rw [e] at hm
    refine CallsIn.mono (callsIn_wide.2 hm) ?_
    intro e W2 he
    cases e with
    | returned v =>
      have stabM : ∀ {D' : List Nat}, w.heap.size + 1 ∉ D' → ∀ g ∈ [w.heap.size + 1], g ∉ D' ∧ (g ∈ M ∨ w.heap.size ≤ g) := fun h g hg => by
        rw [List.mem_singleton.1 hg]; exact ⟨h, .inr (by omega)⟩
      rcases he with ⟨_, ⟨D, rfl, hi, hl, hd, h1, h2⟩, hs⟩ | ⟨k, _, hk, ⟨D, c, rfl, hi, hl, hd, h1, h2⟩, hs⟩
      · refine ⟨none, _, by have := run_endLoop (P := P) hl (by rw [hrec]; simp); rw [hrec] at this; exact this, ?_⟩
        exact hdone w.heap.size D _ (Nat.le_refl _) h2 ((World.putObj_heap_other (by omega)).trans hd) (hI _ _ _ _ _ hi (Ext.putObj _ _ _) (stabM h1)) (hS _ _ _ hs (Still.putObj _ hl rfl)) _ ⟨ha.size, by simp [ha.defers], ha.vals⟩
      · refine ⟨some c, _, by have := run_endLoop (P := P) hl (by rw [hrec]; simp); rw [hrec] at this; exact this, ?_⟩
        exact fen_wp (r := none) (hstop w.heap.size D k c _ (Nat.le_refl _) h2 ((World.putObj_heap_other (by omega)).trans hd) hk (hIx _ _ _ _ _ _ hi (Ext.putObj _ _ _) (stabM h1)) (hS _ _ _ hs (Still.putObj _ hl rfl)) _ ⟨ha.size, by simp [ha.defers], ha.vals⟩)
    | panicked ch => exact he.elim
    | outgrown => exact he.elim
end
end Brv
/-
  Structures among a row's arguments.
-/
set_option linter.unusedVariables false
namespace Brv
open Go
theorem okWide_struct {P : Program} {w : World} {r : Reach} {base : Nat} {t : TypeId} {v : Value} {fs : Array Field} (ht : P.underlying t = some (.struct fs)) (h : Value.okWide P w r base t v) : ∃ cs, v = .agg cs ∧ cs.size = P.cellsOf t := by
  simp only [Value.okWide, ht] at h
  obtain ⟨cs, h1, h2, _⟩ := h
  exact ⟨cs, h1, h2⟩
end Brv
/-
  Arrays of bytes among a row's arguments.
-/
set_option linter.unusedVariables false
namespace Brv
open Go
theorem arrB_of {P : Program} {w : World} {f : Nat} {T m E : Nat} (ht : P.underlying T = some (.array m E)) [t : TyInt P E .u8] (hs : P.cellsOf E = 1) (hT : P.cellsOf T = m) {cs : List Value} (h : Rd P w f T cs) : ∃ l : List UInt8, cs = vbs l ∧ l.length = m := by
  cases f with
  | zero => exact h.elim
  | succ f =>
    unfold Rd at h
    rw [ht] at h
    obtain ⟨hl, hi⟩ := h
    rw [hT] at hl
    have key : ∀ v ∈ cs, vb (match v with | .int _ n => UInt8.ofNat n.toNat | _ => 0) = v := by
      intro v hv
      obtain ⟨i, hil, rfl⟩ := List.mem_iff_getElem.1 hv
      have hr := hi i (by omega)
      rw [hs, Nat.mul_one, show (cs.drop i).take 1 = [cs[i]] from by rw [List.drop_eq_getElem_cons hil]; rfl] at hr
      obtain ⟨n, hn, hw⟩ := hr.int (k := .u8)
      have hn : cs[i] = .int .u8 n := by simpa using hn
      rw [hn]
      have := wf_u8 hw
      unfold vb
      simp
      omega
    refine ⟨cs.map (fun v => match v with | .int _ n => UInt8.ofNat n.toNat | _ => 0), ?_, by rw [List.length_map]; exact hl⟩
    unfold vbs
    rw [List.map_map]
    refine List.ext_getElem (by simp) (fun i h1 h2 => ?_)
    rw [List.getElem_map]
    exact (key _ (List.getElem_mem h1)).symm
theorem arrs_rows {P : Program} {w : World} {f : Nat} {S T m E : Nat} (hS : P.underlying S = some (.slice T)) (ht : P.underlying T = some (.array m E)) [t : TyInt P E .u8] (hs : P.cellsOf E = 1) (hT : P.cellsOf T = m) {cs : List Value} (h : Rd P w f S cs) : ∃ a n c, ∃ ls : List (List UInt8), cs = [.slice a n c] ∧ n ≤ c ∧ Tab w a n m (ls.map vbs) ∧ ∀ l ∈ ls, l.length = m := by
  cases f with
  | zero => exact h.elim
  | succ f =>
    unfold Rd at h
    rw [hS] at h
    obtain ⟨a, n, c, rfl, hnc, _, hb, vss, hl, hcell, hv⟩ := h
    have hex : ∃ ls : List (List UInt8), vss = ls.map vbs ∧ ∀ l ∈ ls, l.length = m := by
      clear hcell hl
      induction vss with
      | nil => exact ⟨[], rfl, by simp⟩
      | cons vs r ih =>
        obtain ⟨l, rfl, hl⟩ := arrB_of ht hs hT (hv vs (by simp)).2
        obtain ⟨ls, rfl, hls⟩ := ih (fun x hx => hv x (by simp [hx]))
        exact ⟨l :: ls, rfl, fun x hx => (List.mem_cons.1 hx).elim (fun e => e ▸ hl) (hls x)⟩
    obtain ⟨ls, rfl, hls⟩ := hex
    exact ⟨a, n, c, ls, rfl, hnc, ⟨hcell, hl.symm, fun vs hvs => by obtain ⟨l, hl, rfl⟩ := List.mem_map.1 hvs; rw [vbs_length]; exact hls l hl⟩, hls⟩
/-- A slice of bools. -/
theorem Rd.bools {P : Program} {w : World} {f : Nat} {T E : TypeId} (hT : P.underlying T = some (.slice E)) [t : TyBool P E] (hby : P.bytesOf E = 1) {cs : List Value} (h : Rd P w f T cs) :
    ∃ a n c, ∃ l : List Bool, cs = [.slice a n c] ∧ n ≤ c ∧ c ≤ 140737488351232 ∧ Cells w a (l.map Value.bool) ∧ n = l.length := by
  cases f with
  | zero => exact h.elim
  | succ f =>
    unfold Rd at h
    rw [hT] at h
    obtain ⟨a, n, c, rfl, hnc, ha, hb, vss, hl, hcell, hv⟩ := h
    have hex : ∃ l : List Bool, vss = l.map (fun b => [Value.bool b]) := by
      clear hcell hl
      induction vss with
      | nil => exact ⟨[], rfl⟩
      | cons vs r ih =>
        obtain ⟨b, rfl⟩ := (hv vs (by simp)).2.bool
        obtain ⟨l, rfl⟩ := ih (fun x hx => hv x (by simp [hx]))
        exact ⟨b :: l, rfl⟩
    obtain ⟨l, rfl⟩ := hex
    refine ⟨a, n, c, l, rfl, hnc, by rw [hby] at hb; omega, ?_, by simpa using hl.symm⟩
    have : (l.map (fun b => [Value.bool b])).flatten = l.map Value.bool := by
      clear hcell hl hv
      induction l with
      | nil => rfl
      | cons b r ih => simp [ih]
    rw [this] at hcell; exact hcell
end Brv
/-
  Structs of plain fields, compared.
-/
set_option linter.unusedVariables false
namespace Brv
open Go
inductive Kd where
  | i (k : IntKind)
  | s
  | b
  | no
  | other
def Kd.eq : Kd → Kd → Bool
  | .i x, .i y => decide (x = y)
  | .s, .s => true
  | .b, .b => true
  | _, _ => false
theorem Kd.of_eq {x y : Kd} (h : Kd.eq x y = true) : x = y := by
  cases x <;> cases y <;> simp_all [Kd.eq]
def kindOf : Value → Kd
  | .int k _ => .i k
  | .string _ => .s
  | .bool _ => .b
  | _ => .no
def kindD : Option TypeDesc → Kd
  | some (.int k) => .i k
  | some .string => .s
  | some .bool => .b
  | _ => .other
def kindT (P : Program) (T : TypeId) : Kd := kindD (P.underlying T)
def veq : Value → Value → Bool
  | .int _ a, .int _ b => a == b
  | .string a, .string b => a.toList == b.toList
  | .bool a, .bool b => a == b
  | _, _ => false
def eqL : List Value → List Value → Bool
  | [], [] => true
  | x :: xs, y :: ys => veq x y && eqL xs ys
  | _, _ => false
/-- The fields lie one behind the other, each a cell, of these kinds. -/
def okFs (P : Program) : List Field → Nat → List Kd → Bool
  | [], _, [] => true
  | f :: fs, i, k :: ks => decide (f.name ≠ "_") && P.plainKey f.type && Nat.beq f.offset i && Kd.eq (kindT P f.type) k && okFs P fs (i + 1) ks
  | _, _, _ => false
class TyEqS (P : Program) (T : TypeId) (ks : outParam (List Kd)) : Prop where
  h : P.underlying T = some (.struct (P.fieldsOf T))
  s : P.stoodInHeld T = false
  g : P.eqGuardType P.depth T = false
  f : okFs P (P.fieldsOf T).toList 0 ks = true
theorem run_veq {P : Program} (w : World) (d : Nat) {T : TypeId} {u v : Value} {k : Kd} (hk : kindT P T = k) (hp : P.plainKey T = true) (hu : kindOf u = k) (hv : kindOf v = k) : (Op.equalIn (d + 1) T u v).run P w = .ok (veq u v) w := by
  unfold Program.plainKey at hp
  cases ht : P.underlying T with
  | none => simp [ht] at hp
  | some t =>
    unfold kindT at hk
    rw [ht] at hk
    cases t <;> simp [ht] at hp
    · simp only [kindD] at hk
      subst hk
      cases u <;> simp [kindOf] at hu
      cases v <;> simp [kindOf] at hv
      simp [Op.equalIn, run_underlying ht, veq]
    · simp only [kindD] at hk
      subst hk
      cases u <;> simp [kindOf] at hu
      cases v <;> simp [kindOf] at hv
      subst hu; subst hv
      exact run_equalIn_int w d T _ _ _ _ ht
    · simp only [kindD] at hk
      subst hk
      cases u <;> simp [kindOf] at hu
      cases v <;> simp [kindOf] at hv
      exact run_equalIn_string w d T _ _ ht
theorem run_eqFields {P : Program} (w : World) (d : Nat) (xs ys : Array Value) : ∀ (fs : List Field) (i : Nat) (ks : List Kd), okFs P fs i ks = true → (xs.toList.drop i).map kindOf = ks → (ys.toList.drop i).map kindOf = ks →
    (Op.eqFields (d + 1) xs ys fs).run P w = .ok (eqL (xs.toList.drop i) (ys.toList.drop i)) w
  | [], i, ks, h, hx, hy => by
    cases ks with
    | nil =>
      have h1 : xs.toList.drop i = [] := List.map_eq_nil_iff.1 hx
      have h2 : ys.toList.drop i = [] := List.map_eq_nil_iff.1 hy
      rw [h1, h2]; simp [Op.eqFields, eqL]
    | cons k ks => simp [okFs] at h
  | f :: fs, i, ks, h, hx, hy => by
    cases ks with
    | nil => simp [okFs] at h
    | cons k ks =>
      simp only [okFs, Bool.and_eq_true, decide_eq_true_eq] at h
      obtain ⟨⟨⟨⟨h1, h2⟩, h3⟩, h4⟩, h5⟩ := h
      replace h3 := Nat.eq_of_beq_eq_true h3
      replace h4 := Kd.of_eq h4
      have ex : ∀ {zs : Array Value}, (zs.toList.drop i).map kindOf = k :: ks → ∃ u, zs[i]? = some u ∧ zs.toList.drop i = u :: zs.toList.drop (i + 1) ∧ kindOf u = k ∧ (zs.toList.drop (i + 1)).map kindOf = ks := by
        intro zs hz
        cases hd : zs.toList.drop i with
        | nil => rw [hd] at hz; cases hz
        | cons u r =>
          rw [hd] at hz
          have hi : i < zs.toList.length := by
            rcases Nat.lt_or_ge i zs.toList.length with h | h
            · exact h
            · rw [List.drop_of_length_le h] at hd; cases hd
          rw [List.drop_eq_getElem_cons hi] at hd
          injection hd with e1 e2
          injection hz with e3 e4
          refine ⟨u, ?_, by rw [e2], e3, by rw [e2]; exact e4⟩
          rw [← Array.getElem?_toList, List.getElem?_eq_getElem hi, e1]
      obtain ⟨u, u1, u2, u3, u4⟩ := ex hx
      obtain ⟨v, v1, v2, v3, v4⟩ := ex hy
      have ih := run_eqFields (P := P) w d xs ys fs (i + 1) ks h5 u4 v4
      rw [u2, v2]
      simp only [Op.eqFields, if_pos h1, Sem.run_bind, h3, run_part_plain w h2 u1, run_part_plain w h2 v1, Result.andThen_ok, run_veq w d h4 h2 u3 v3, eqL]
      cases veq u v
      · simp
      · simpa using ih
section
variable {P : Program} {n : Fm} {ρ : Env} {w : World} {d : Nat} {ty : TypeId} {pos : String} {af : Array Edge} {gd : Option (Nat × Bool)}
theorem run_eqS {T : TypeId} {ks : List Kd} [t : TyEqS P T ks] {xs ys : Array Value} (hx : xs.toList.map kindOf = ks) (hy : ys.toList.map kindOf = ks) (w : World) : (Op.equalIn 10000 T (.agg xs) (.agg ys)).run P w = .ok (eqL xs.toList ys.toList) w := by
  have := run_eqFields (P := P) w 9998 xs ys (P.fieldsOf T).toList 0 ks t.f (by simpa using hx) (by simpa using hy)
  rw [run_equalIn_agg (w := w) 9999 T xs ys t.h t.s, this]
  simp
theorem R.eqS {T T' : TypeId} {ks : List Kd} [t : TyEqS P T ks] {x y : Operand} {xs ys : Array Value} {b : Bool} (hx : ev ρ x = some (.agg xs)) (hy : ev ρ y = some (.agg ys)) (h1 : xs.toList.map kindOf = ks) (h2 : ys.toList.map kindOf = ks) (hb : eqL xs.toList ys.toList = b) :
    Runs P n ρ w ⟨some d, .binOp .eql T x y T', ty, pos, af, gd⟩ (.bool b) w := R.bin hx hy (fun w => by
    subst hb
    simp only [Sem.run_bind, run_eqGuard_agg (w := w) .eql T x y _ _ t.g, Result.andThen_ok, run_eql_struct, run_eqS h1 h2])
theorem R.neS {T T' : TypeId} {ks : List Kd} [t : TyEqS P T ks] {x y : Operand} {xs ys : Array Value} {b : Bool} (hx : ev ρ x = some (.agg xs)) (hy : ev ρ y = some (.agg ys)) (h1 : xs.toList.map kindOf = ks) (h2 : ys.toList.map kindOf = ks) (hb : (!eqL xs.toList ys.toList) = b) :
    Runs P n ρ w ⟨some d, .binOp .neq T x y T', ty, pos, af, gd⟩ (.bool b) w := R.bin hx hy (fun w => by
    subst hb
    simp only [Sem.run_bind, run_eqGuard_agg (w := w) .neq T x y _ _ t.g, Result.andThen_ok, run_neq_struct, run_eqS h1 h2])
end
end Brv
/-
  Regions that draw their order, but end with one operation that comes behind all others: that one is walked last. Operations that make something new, at whatever stage.
-/
set_option linter.unusedVariables false
namespace Brv
open Go
/-- The last operation comes behind all others; the others look back only. -/
def chkLast (pre : List Oper) (o : Oper) : Bool :=
  (List.range pre.length).all (fun j => o.after.toList.any fun e => bindsAny e && Nat.beq e.on j) && o.after.toList.all (fun e => !bindsAny e || Nat.blt e.on pre.length) &&
  pre.zipIdx.all (fun p => p.1.after.toList.all (fun e => !bindsAny e || Nat.blt e.on p.2) && (match p.1.guard with | some (j, _) => Nat.blt j pre.length | none => true))
section
variable {P : Program} {F : Fence} {m : Nat}
theorem wpIn_then {o : Oper} {a : Act} {w : World} {K J : Act → World → Prop} {Q : Exit → Act → World → Prop} (h : o.wpIn F m P a w K (Exit.then J Q)) : o.wpIn F m P a w K Q := by
  unfold Oper.wpIn at h ⊢
  refine ⟨h.1, ?_⟩
  have h2 := h.2
  generalize (o.semAt F.round a.eval).run P w = r at h2 ⊢
  cases r with
  | ok x w' =>
    cases x
    all_goals first
      | exact h2
      | (refine ⟨h2.1, CallsIn.mono h2.2 fun e w2 he => ?_⟩
         cases e <;> exact he)
      | (refine ⟨h2.1, RoundIn.mono h2.2 fun e w2 he => ?_⟩
         cases e <;> exact he)
  | halt x w' => cases x <;> exact h2
theorem ready_nil {pre : List Oper} {listed : Array Bool} (hs : listed.size = pre.length) (hb : ∀ (i : Nat) (o : Oper), pre[i]? = some o → ∀ e ∈ o.after.toList, bindsAny e = true → e.on < i) (h : Region.ready .any pre.toArray listed = []) : ∀ i, i < pre.length → listed[i]? = some true := by
  intro i
  induction i using Nat.strongRecOn with
  | _ i ih =>
    intro hi
    refine Classical.byContradiction fun hne => ?_
    have hmem : i ∈ Region.ready .any pre.toArray listed := by
      simp only [Region.ready, List.mem_filter, List.mem_range, Bool.and_eq_true]
      refine ⟨by simpa using hi, ?_, ?_⟩
      · have hlt : i < listed.size := by omega
        rw [Array.getD_eq_getD_getElem?, Array.getElem?_eq_getElem hlt]
        rw [Array.getElem?_eq_getElem hlt] at hne
        cases hv : listed[i] with
        | true => rw [hv] at hne; exact absurd rfl hne
        | false => rfl
      · rw [List.getElem?_toArray, List.getElem?_eq_getElem hi]
        simp only [Option.map_some, Option.getD_some]
        rw [Array.all_eq_true_iff_forall_mem]
        intro e he
        cases hq : Region.binds .any e with
        | false => rfl
        | true =>
          have hlt := hb i _ (List.getElem?_eq_getElem hi) e (by simpa using he) hq
          have := ih e.on hlt (by omega)
          simp [Array.getD_eq_getD_getElem?, this]
    rw [h] at hmem; cases hmem
theorem push_getD {listed : Array Bool} {k : Nat} : (listed.push false).getD k false = listed.getD k false := by
  simp only [Array.getD_eq_getD_getElem?, Array.getElem?_push]
  split
  · rename_i h; subst h; simp
  · rfl
theorem wpAny_last {pre : List Oper} {o : Oper} {Q : Exit → Act → World → Prop} (hb : ∀ (i : Nat) (o : Oper), pre[i]? = some o → (∀ e ∈ o.after.toList, bindsAny e = true → e.on < i) ∧ ∀ j b, o.guard = some (j, b) → j < pre.length)
    (hl : ∀ j, j < pre.length → ∃ e ∈ o.after.toList, bindsAny e = true ∧ e.on = j) (hl2 : ∀ e ∈ o.after.toList, bindsAny e = true → e.on < pre.length) : ∀ (fuel : Nat) (listed : Array Bool) (a : Act) (w : World), listed.size = pre.length →
    wpAnyIn F m P .any pre.toArray (Exit.then (fun a w => wpListIn F m P (pre ++ [o]).toArray Q [o] a w) Q) fuel listed a w → wpAnyIn F m P .any (pre ++ [o]).toArray Q (fuel + 1) (listed.push false) a w := by
  have hready : ∀ (listed : Array Bool), listed.size = pre.length → ∀ i, i ∈ Region.ready .any (pre ++ [o]).toArray (listed.push false) → (i < pre.length ∧ i ∈ Region.ready .any pre.toArray listed) ∨ (i = pre.length ∧ ∀ j, j < pre.length → listed[j]? = some true) := by
    intro listed hs i hi
    simp only [Region.ready, List.mem_filter, List.mem_range, Bool.and_eq_true] at hi
    obtain ⟨h1, h2, h3⟩ := hi
    have h1' : i < pre.length + 1 := by simpa using h1
    rcases Nat.lt_or_ge i pre.length with hlt | hge
    · refine .inl ⟨hlt, ?_⟩
      simp only [Region.ready, List.mem_filter, List.mem_range, Bool.and_eq_true]
      refine ⟨by simpa using hlt, ?_, ?_⟩
      · simp only [Array.getD_eq_getD_getElem?, Array.getElem?_push] at h2 ⊢
        rw [if_neg (by omega)] at h2
        exact h2
      · rw [List.getElem?_toArray, List.getElem?_append_left hlt] at h3
        rw [List.getElem?_toArray]
        simpa only [push_getD] using h3
    · have e : i = pre.length := by omega
      subst e
      refine .inr ⟨rfl, fun j hj => ?_⟩
      rw [List.getElem?_toArray, List.getElem?_append_right (Nat.le_refl _), Nat.sub_self] at h3
      simp only [List.getElem?_cons_zero, Option.map_some, Option.getD_some] at h3
      obtain ⟨e, he, hbd, rfl⟩ := hl j hj
      have := (Array.all_eq_true_iff_forall_mem.1 h3) e (by simpa using he)
      simp only [bindsAny] at hbd
      rw [hbd, push_getD, Array.getD_eq_getD_getElem?] at this
      cases hq : listed[e.on]? with
      | none => rw [hq] at this; cases this
      | some b =>
        rw [hq] at this
        cases b with
        | true => rfl
        | false => cases this
  have hrl : ∀ (listed : Array Bool), listed.size = pre.length → (∀ j, j < pre.length → listed[j]? = some true) → pre.length ∈ Region.ready .any (pre ++ [o]).toArray (listed.push false) := by
    intro listed hs hall
    simp only [Region.ready, List.mem_filter, List.mem_range, Bool.and_eq_true]
    refine ⟨by simp, ?_, ?_⟩
    · rw [Array.getD_eq_getD_getElem?, ← hs]; simp
    · rw [List.getElem?_toArray, List.getElem?_append_right (Nat.le_refl _), Nat.sub_self]
      simp only [List.getElem?_cons_zero, Option.map_some, Option.getD_some]
      rw [Array.all_eq_true_iff_forall_mem]
      intro e he
      cases hq : Region.binds .any e with
      | false => rfl
      | true =>
        have := hall e.on (hl2 e (by simpa using he) hq)
        rw [push_getD, Array.getD_eq_getD_getElem?, this]; rfl
  have hyield : ∀ (a : Act) (i : Nat) (o' : Oper), pre[i]? = some o' → Region.wanted o' (yielded (pre ++ [o]).toArray a.tmps) = Region.wanted o' (yielded pre.toArray a.tmps) := by
    intro a i o' hi
    unfold Region.wanted
    cases hg : o'.guard with
    | none => rfl
    | some g =>
      obtain ⟨j, b⟩ := g
      have := (hb i o' hi).2 j b hg
      simp only [yielded, List.getElem?_toArray, List.getElem?_append_left this]
  have hdone : ∀ (fuel : Nat) (a : Act) (w : World) (l : Array Bool), l.size = pre.length + 1 → (∀ j, j < pre.length + 1 → l[j]? = some true) → Q .normal a w → wpAnyIn F m P .any (pre ++ [o]).toArray Q fuel l a w := by
    intro fuel a w l hs hall hq
    have hnil : Region.ready .any (pre ++ [o]).toArray l = [] := by
      apply List.eq_nil_iff_forall_not_mem.2
      intro i hi
      simp only [Region.ready, List.mem_filter, List.mem_range, Bool.and_eq_true] at hi
      have hlt : i < pre.length + 1 := by simpa using hi.1
      have h2 := hi.2.1
      rw [Array.getD_eq_getD_getElem?, hall i hlt] at h2
      simp at h2
    cases fuel with
    | zero => exact ⟨hnil, hq⟩
    | succ fuel => exact ⟨fun _ => hq, fun i hi => by rw [hnil] at hi; cases hi⟩
  have hlast : ∀ (fuel : Nat) (listed : Array Bool) (a : Act) (w : World), listed.size = pre.length → (∀ j, j < pre.length → listed[j]? = some true) → wpListIn F m P (pre ++ [o]).toArray Q [o] a w →
      wpOpIn F m P (pre ++ [o]).toArray Q pre.length (wpAnyIn F m P .any (pre ++ [o]).toArray Q fuel ((listed.push false).setIfInBounds pre.length true)) a w := by
    intro fuel listed a w hs hall h
    have hd : ∀ a' w', Q .normal a' w' → wpAnyIn F m P .any (pre ++ [o]).toArray Q fuel ((listed.push false).setIfInBounds pre.length true) a' w' := by
      intro a' w' hq
      refine hdone fuel a' w' _ (by simp [hs]) (fun j hj => ?_) hq
      rw [Array.getElem?_setIfInBounds]
      split
      · rename_i e; subst e; simp [hs]
      · rename_i e
        rw [Array.getElem?_push, if_neg (by omega)]
        exact hall j (by omega)
    unfold wpOpIn
    have ho : (pre ++ [o]).toArray[pre.length]? = some o := by rw [List.getElem?_toArray, List.getElem?_append_right (Nat.le_refl _), Nat.sub_self]; rfl
    rw [ho]
    unfold wpListIn at h
    dsimp only
    split
    · rename_i hw
      rw [if_pos hw] at h
      exact Oper.wpIn_mono (fun a' w' h9 => hd a' w' h9) h
    · rename_i hw
      rw [if_neg hw] at h
      exact ⟨h.1, hd _ _ h.2⟩
  intro fuel
  induction fuel with
  | zero =>
    intro listed a w hs h
    obtain ⟨h1, h2⟩ := h
    have hall := ready_nil hs (fun i o' hi => (hb i o' hi).1) h1
    refine ⟨fun hnil => ?_, fun i hi => ?_⟩
    · have := hrl listed hs hall
      rw [hnil] at this; cases this
    · rcases hready listed hs i hi with ⟨_, hm⟩ | ⟨rfl, _⟩
      · rw [h1] at hm; cases hm
      · exact hlast 0 listed a w hs hall h2
  | succ fuel ih =>
    intro listed a w hs h
    obtain ⟨h1, h2⟩ := h
    refine ⟨fun hnil => ?_, fun i hi => ?_⟩
    · have hn : Region.ready .any pre.toArray listed = [] := by
        apply List.eq_nil_iff_forall_not_mem.2
        intro i hi
        have hmem : i ∈ Region.ready .any (pre ++ [o]).toArray (listed.push false) := by
          simp only [Region.ready, List.mem_filter, List.mem_range, Bool.and_eq_true] at hi ⊢
          obtain ⟨g1, g2, g3⟩ := hi
          have hlt : i < pre.length := by simpa using g1
          refine ⟨by simp; omega, ?_, ?_⟩
          · rw [Array.getD_eq_getD_getElem?] at g2 ⊢
            rw [Array.getElem?_push, if_neg (by omega)]
            exact g2
          · rw [List.getElem?_toArray] at g3
            rw [List.getElem?_toArray, List.getElem?_append_left hlt]
            simpa only [push_getD] using g3
        rw [hnil] at hmem; cases hmem
      have := hrl listed hs (ready_nil hs (fun i o' hi => (hb i o' hi).1) hn)
      rw [hnil] at this; cases this
    · rcases hready listed hs i hi with ⟨hlt, hm⟩ | ⟨rfl, hall⟩
      · have h3 := h2 i hm
        unfold wpOpIn at h3 ⊢
        have e1 : pre.toArray[i]? = some pre[i] := by rw [List.getElem?_toArray, List.getElem?_eq_getElem hlt]
        have e2 : (pre ++ [o]).toArray[i]? = some pre[i] := by rw [List.getElem?_toArray, List.getElem?_append_left hlt, List.getElem?_eq_getElem hlt]
        rw [e1] at h3
        rw [e2]
        dsimp only at h3 ⊢
        rw [hyield a i _ (List.getElem?_eq_getElem hlt)]
        have hset : (listed.push false).setIfInBounds i true = (listed.setIfInBounds i true).push false := by
          apply Array.ext_getElem?
          intro j
          simp only [Array.getElem?_setIfInBounds, Array.getElem?_push, Array.size_push, Array.size_setIfInBounds]
          by_cases h4 : i = j
          · subst h4
            rw [if_pos rfl, if_pos (by omega), if_neg (by omega), if_pos rfl, if_pos (by omega)]
          · rw [if_neg h4, if_neg h4]
        rw [hset]
        split
        · rename_i hw
          rw [if_pos hw] at h3
          exact Oper.wpIn_mono (fun a' w' h9 => ih _ a' w' (by simpa using hs) h9) (wpIn_then h3)
        · rename_i hw
          rw [if_neg hw] at h3
          exact ⟨h3.1, ih _ _ _ (by simpa using hs) h3.2⟩
      · have hn : Region.ready .any pre.toArray listed = [] := by
          apply List.eq_nil_iff_forall_not_mem.2
          intro i hi
          simp only [Region.ready, List.mem_filter, List.mem_range, Bool.and_eq_true] at hi
          have hlt : i < pre.length := by simpa using hi.1
          have h2 := hi.2.1
          rw [Array.getD_eq_getD_getElem?, hall i hlt] at h2
          simp at h2
        exact hlast (fuel + 1) listed a w hs hall (h1 hn)
end
theorem chkLast_spec {pre : List Oper} {o : Oper} (h : chkLast pre o = true) : (∀ (i : Nat) (o : Oper), pre[i]? = some o → (∀ e ∈ o.after.toList, bindsAny e = true → e.on < i) ∧ ∀ j b, o.guard = some (j, b) → j < pre.length) ∧
    (∀ j, j < pre.length → ∃ e ∈ o.after.toList, bindsAny e = true ∧ e.on = j) ∧ (∀ e ∈ o.after.toList, bindsAny e = true → e.on < pre.length) := by
  simp only [chkLast, Bool.and_eq_true] at h
  obtain ⟨⟨h1, h2⟩, h3⟩ := h
  refine ⟨fun i o' hi => ?_, fun j hj => ?_, fun e he hb => ?_⟩
  · have h4 := List.all_eq_true.1 h3 (o', i) (by rw [List.mem_zipIdx_iff_getElem?]; simpa using hi)
    simp only [Bool.and_eq_true] at h4
    refine ⟨fun e he hb => ?_, fun j b hg => ?_⟩
    · have h5 := List.all_eq_true.1 h4.1 e he
      rw [hb] at h5
      simpa [Nat.blt_eq] using h5
    · have h5 := h4.2
      rw [hg] at h5
      simpa [Nat.blt_eq] using h5
  · have h4 := List.all_eq_true.1 h1 j (List.mem_range.2 hj)
    obtain ⟨e, he, h5⟩ := List.any_eq_true.1 h4
    simp only [Bool.and_eq_true] at h5
    exact ⟨e, he, h5.1, Nat.eq_of_beq_eq_true h5.2⟩
  · have h4 := List.all_eq_true.1 h2 e he
    rw [hb] at h4
    simpa [Nat.blt_eq] using h4
section
variable {P : Program} {B : Exit → Act → World → Prop} {n : Fm} {ks : List K} {ρ : Env} {w : World} {σ : List Nat} {Ms : List Foot} {Js : List (World → Prop)} {X : List (Nat × Nat)}
/-- What is left to do behind all but the last operation of a region. -/
def lastK (P : Program) (n : Fm) (B : Exit → Act → World → Prop) (ks : List K) (full : List Oper) (o : Oper) : K := .hand fun a w => wpListIn (fen n.ro) 0 P full.toArray (sem P n.ro B ks) [o] a w
theorem N.last {full : List Oper} {o : Oper} (h : L P B n full ks ρ w [o]) : N P B n (lastK P n B ks full o :: ks) ρ w := N.hand fun a ha => h a ha
def splitLast : List Oper → Option (List Oper × Oper)
  | [] => none
  | [x] => some ([], x)
  | x :: y :: r => match splitLast (y :: r) with
    | some (p, o) => some (x :: p, o)
    | none => none
theorem splitLast_eq : ∀ {l p : List Oper} {o : Oper}, splitLast l = some (p, o) → l = p ++ [o]
  | [], p, o, h => by cases h
  | [x], p, o, h => by
    simp only [splitLast, Option.some.injEq, Prod.mk.injEq] at h
    obtain ⟨rfl, rfl⟩ := h
    rfl
  | x :: y :: r, p, o, h => by
    simp only [splitLast] at h
    split at h
    · rename_i p' o' h'
      simp only [Option.some.injEq, Prod.mk.injEq] at h
      obtain ⟨rfl, rfl⟩ := h
      have := splitLast_eq h'
      rw [this]; rfl
    · cases h
theorem G.stagedL [hm : Mixed P] {id : Nat} {full pre : List Oper} {o : Oper} (hsp : splitLast full = some (pre, o)) (hlast : chkLast pre o = true) (σ : List Nat) (Ms : List Foot) (Js : List (World → Prop)) (X : List (Nat × Nat)) (hchk : chk pre σ = true) (hkill : chkKill pre X = true) (hσ : σ.all (fun s => Nat.blt s pre.length) = true) (hlt : ρ.all (fun p => Nat.blt p.1 n) = true)
    {Ψ : World → Prop} (hΨ : Js[0]? = some Ψ) (hJ : ∀ w', Ext [] w w' → Ψ w') (h : DZ P n pre (sem P n.ro B (lastK P n B ks full o :: ks)) Js σ Ms X ρ [] 0 pre) : G P B n ks ρ w (.region id full.toArray true) := by
  intro a ha
  have hlk : ∀ t s, lookD (mkD ρ []) t = some s → ∃ v, look ρ t = some v ∧ s = .eq v := by
    intro t s hs
    rw [lookD_mkD] at hs
    simp only [lookT] at hs
    cases hv : look ρ t with
    | none => rw [hv] at hs; cases hs
    | some v => rw [hv] at hs; cases hs; exact ⟨v, rfl, rfl⟩
  have hmem : ∀ (r : Env) t v, look r t = some v → (t, v) ∈ r := by
    intro r
    induction r with
    | nil => intro t v h; cases h
    | cons p r ih =>
      obtain ⟨s, u⟩ := p
      intro t v h
      rw [look_cons] at h
      split at h
      · rename_i e; subst e; cases h; simp
      · exact List.mem_cons_of_mem _ (ih t v h)
  obtain ⟨h1, h2, h3⟩ := chkLast_spec hlast
  refine wpIn_region_any hm.h ?_
  have := D.sound (P := P) (Q := sem P n.ro B (lastK P n B ks full o :: ks)) (R := RS σ Ms) (X := X) hchk hkill (fun s hs => by simpa [Nat.blt_eq] using List.all_eq_true.1 hσ s hs) (fun A t hA => by obtain ⟨v, _, e⟩ := hlk t _ hA; cases e)
    (fun t s hs => by
      obtain ⟨v, hv, _⟩ := hlk t s hs
      have := List.all_eq_true.1 hlt (t, v) (hmem ρ t v hv)
      simpa [Nat.blt_eq] using this) (h (fun t ht => absurd rfl ht)) (a := a) (w := { w with drawn := w.drawn + 1 }) ha.size ha.defers (fun t s hs => by
      obtain ⟨v, hv, rfl⟩ := hlk t s hs
      exact ⟨v, ha.vals t v hv, rfl⟩) ⟨_, hΨ, hJ _ (Ext.drawn w)⟩
  have hf := splitLast_eq hsp
  subst hf
  have h5 := wpAny_last (Q := sem P n.ro B ks) h1 h2 h3 pre.length (Array.replicate pre.length false) a { w with drawn := w.drawn + 1 } (by simp) this
  rw [show (pre ++ [o]).toArray.size = pre.length + 1 by simp, show Array.replicate (pre.length + 1) false = (Array.replicate pre.length false).push false from Array.replicate_succ]
  exact h5
end
section
variable {P : Program} {n : Fm} {ops : List Oper} {Q : Exit → Act → World → Prop} {Js : List (World → Prop)} {σ : List Nat} {Ms : List Foot} {X : List (Nat × Nat)}
variable {ρ : Env} {τ : RelEnv} {i : Nat} {rest : List Oper} {d : Nat} {op : Op} {ty : TypeId} {pos : String} {af : Array Edge} {gd : Option (Nat × Bool)}
/-- One that makes something new, at any stage. -/
theorem Z.newI {A : Value → World → Prop} (hA : Lasts ops X σ Ms d i A) {I : World → Prop} (hI : ∀ k w, stage Js k w → I w) (hK : ∀ Ψ ∈ Js, ∀ w w', Ext [] w w' → Ψ w → Ψ w') (hst : stepsOf σ i = 0)
    (hg : wants ops ρ gd = some true) (hd : Nat.blt d n = true) (hns : isSelect op = false)
    (h : ∀ w, I w → RelsT τ w (slots ops ⟨some d, op, ty, pos, af, gd⟩) ρ (fun ρ' => Does P n ρ' w ⟨some d, op, ty, pos, af, gd⟩ (fun v w' => A v w' ∧ Ext [] w w')))
    (hnext : DZ P n ops Q Js σ Ms X (dropS d ρ) ((d, A) :: τ) (i + 1) rest) : DZ P n ops Q Js σ Ms X ρ τ i (⟨some d, op, ty, pos, af, gd⟩ :: rest) :=
  DS.rel A hA hg hd hns (fun w k hr hJ => by
    refine RelsT.mono (fun _ hx => hx.mono fun _ _ h => ⟨h.1, RS.of0 h.2, ?_⟩) (h w (hI k w hJ))
    rw [hst]
    obtain ⟨Ψ, h1, h2⟩ := hJ
    exact ⟨Ψ, h1, hK Ψ (List.mem_of_getElem? h1) _ _ h.2 h2⟩) hnext
end
end Brv
namespace Brv
open Go
section
variable {P : Program} {n : Fm} {ρ : Env} {w : World} {d : Nat} {ty : TypeId} {pos : String} {af : Array Edge} {gd : Option (Nat × Bool)}
/-- xs[i] of an array that is a value. -/
theorem R.idxV {T m E : Nat} [t : TyArr P T m E 1] [te : TyOne P E] {x y : Operand} {k : IntKind} {cs : Array Value} {i : Int} {v : Value} (hx : ev ρ x = some (.agg cs)) (hy : ev ρ y = some (.int k i)) (h0 : 0 ≤ i) (h1 : i < m) (hv : cs[i.toNat]? = some v) :
    Runs P n ρ w ⟨some d, .index T x y, ty, pos, af, gd⟩ v w := (fun f hf => by
    cases hq : P.info? E with
    | none => have := t.i; simp [hq] at this
    | some q =>
      have hs : q.size = 1 := by have := t.i; simpa [hq] using this
      simp [execOp, hf.eval hx, hf.eval hy, Instr.index, asIntOf, run_underlying t.h, h0, h1, Go.sizeOf, typeInfo, hq, hs, part, TyOne.agg, hv])
end
end Brv
namespace Brv
open Go
/-- A struct's parts, each of one cell, laid one by one. -/
def fillL (pl : Nat → Option (Nat × Nat)) : List Value → List (Nat × Value) → Option (List Value)
  | cs, [] => some cs
  | cs, (i, v) :: rest => match pl i with
    | some (off, sz) => match Nat.beq sz 1 && Nat.blt off cs.length with
      | true => fillL pl (cs.set off v) rest
      | false => none
    | none => none
theorem fillL_spec {pl : Nat → Option (Nat × Nat)} : ∀ {vs : List (Nat × Value)} {cs : Array Value} {l : List Value}, (∀ p ∈ vs, p.2.oneCell' = true) → fillL pl cs.toList vs = some l → Instr.fill pl cs vs = some l.toArray
  | [], cs, l, _, h => by
    simp only [fillL, Option.some.injEq] at h
    subst h
    simp [Instr.fill]
  | (i, v) :: rest, cs, l, h1, h => by
    simp only [fillL] at h
    split at h
    · rename_i off sz hp
      split at h
      · rename_i hb
        rw [Bool.and_eq_true] at hb
        have hsz := Nat.eq_of_beq_eq_true hb.1
        have hlt : off < cs.size := by simpa [Nat.blt_eq] using hb.2
        subst hsz
        have hv : v.cells = #[v] := by
          have := h1 (i, v) (by simp)
          cases v <;> simp_all [Value.cells, Value.oneCell']
        have e : cs.toList.set off v = (cs.setIfInBounds off v).toList := by simp
        rw [e] at h
        have ih := fillL_spec (fun p hp => h1 p (by simp [hp])) h
        simp only [Instr.fill, hp, hv]
        rw [if_neg (by simp; omega)]
        simpa using ih
      · cases h
    · cases h
def oneCells : List (Nat × Value) → Bool
  | [] => true
  | (_, v) :: r => v.oneCell' && oneCells r
theorem oneCells_spec : ∀ {vs : List (Nat × Value)}, oneCells vs = true → ∀ p ∈ vs, p.2.oneCell' = true
  | [], _, p, hp => by cases hp
  | (i, v) :: r, h, p, hp => by
    simp only [oneCells, Bool.and_eq_true] at h
    rcases List.mem_cons.1 hp with rfl | hp
    · exact h.1
    · exact oneCells_spec h.2 p hp
section
variable {P : Program} {n : Fm} {ρ : Env} {w : World} {d : Nat} {ty : TypeId} {pos : String} {af : Array Edge} {gd : Option (Nat × Bool)}
theorem R.build1 {T : TypeId} {pl : Nat → Option (Nat × Nat)} {z : Value} [t : TyBuilt P T pl z] {parts : Array (Nat × Operand)} {vs : List (Nat × Value)} {cs : Array Value} (hp : evps ρ parts.toList = some vs) (h1 : oneCells vs = true) (hb : fillL pl z.cells.toList vs = some cs.toList) :
    Runs P n ρ w ⟨some d, .build T parts, ty, pos, af, gd⟩ (.agg cs) w := R.build hp (by
    have := fillL_spec (oneCells_spec h1) hb
    simpa using this)
end
end Brv
/-
  Rows of structs: appends that tell whether they grow, copies, clears, the entry slices.overlaps.
-/
set_option linter.unusedVariables false
namespace Brv
open Go
section
variable {P : Program} {w : World}
theorem run_app2 {T E size bytes : Nat} {z : Value} [t : TySlice P T E size bytes z] {a : Option Addr} {n cap : Nat} {xs : List Value} {M : List Nat} (hown : Own w E size a n cap xs M)
    {b : Option Addr} {m c : Nat} {news : List Value} (hnews : Cells w b news) (hl : news.length = m * size) (h1 : ∀ u ∈ news, u.oneCell' = true) (h63 : n + m ≤ maxLen) (hby : (n + m) * bytes ≤ 140737488355328) (ty : Nat) :
    ∃ a' cap' M' w', (Builtin.append_ #[T, T] ty #[.slice a n cap, .slice b m c]).run P w = .ok (.slice a' (n + m) cap') w' ∧ Own w' E size a' (n + m) cap' (xs ++ news) M' ∧ Ext M w w' ∧ (∀ g ∈ M', g ∈ M ∨ w.heap.size ≤ g) ∧ (cap < n + m → Ext [] w w' ∧ ∀ g ∈ M', w.heap.size ≤ g) ∧ (n + m ≤ cap → a' = a ∧ cap' = cap ∧ M' = M) := by
  obtain ⟨j, hj, hs, hb, hz⟩ := t.i
  have hzs := t.zs
  subst hs hb
  have hsmall : n + m ≤ 9223372036854775807 := by simp only [maxLen] at h63; omega
  have hlen : (xs ++ news).length = (n + m) * j.size := by rw [List.length_append, hown.1, hl, Nat.add_mul]
  by_cases hroom : n + m ≤ cap
  · rcases hown.2 with ⟨rfl, rfl, rfl, rfl⟩ | ⟨g, cur, rfl, rfl, hg, hnc, hcm, hcs, ht⟩
    · have hm0 : m = 0 := by omega
      subst hm0
      have : news = [] := List.eq_nil_of_length_eq_zero (by simpa using hl)
      subst this
      refine ⟨none, 0, [], w, ?_, ⟨by simpa using hown.1, .inl ⟨rfl, rfl, rfl, rfl⟩⟩, Ext.refl _ _, by simp, fun h => absurd h (by omega), fun _ => ⟨rfl, rfl, rfl⟩⟩
      have hf := run_first (P := P) (size := j.size) (c := c) hnews hl
      simp [Builtin.append_, run_underlying t.h, Go.sizeOf, typeInfo, hj, Builtin.lenOf, hf]
    · have hf := run_first (P := P) (size := j.size) (c := c) hnews hl
      have hfit : n * j.size + news.length ≤ cur.size := by rw [hl, ← Nat.add_mul]; exact Nat.le_trans (Nat.mul_le_mul_right _ hroom) hcs
      have hst := run_storeCells_at P g (n * j.size) E news 0 cur w hg (by simpa using hfit) h1
      simp only [Nat.add_zero] at hst
      refine ⟨some ⟨g, 0, none⟩, cap, [g], w.setRow g (cur.toList.take (n * j.size) ++ news ++ cur.toList.drop (n * j.size + news.length)).toArray, ?_, ⟨hlen, .inr ⟨g, _, rfl, rfl, setRow_heap w g cur _ E _ hg, hroom, hcm, ?_, ?_⟩⟩, ⟨rfl, rfl, rfl, by simp, fun k _ hk => setRow_other w g k _ (fun e => hk (by simp [e]))⟩, fun x hx => .inl hx, fun h => absurd h (by omega), fun _ => ⟨rfl, rfl, rfl⟩⟩
      · simp [Builtin.append_, run_underlying t.h, Go.sizeOf, typeInfo, hj, Builtin.lenOf, hroom, hf, Go.Addr.add_lit, hst]
      · simp only [List.size_toArray, List.length_append, List.length_take, List.length_drop, Array.length_toList]
        refine Nat.le_trans hcs ?_
        omega
      · rw [ht, ← hlen]
        exact List.take_left
  · have hf := run_first (P := P) (size := j.size) (c := c) (w := w.drew) (b := b) (cs := news) (fun i v hv => by
      obtain ⟨p, hp, hc⟩ := hnews i v hv; exact ⟨p, hp, by simpa using hc⟩) hl
    have hfo := run_first (P := P) (size := j.size) (c := cap) (w := w.drew) (b := a) (cs := xs) (m := n) (fun i v hv => by
      obtain ⟨p, hp, hc⟩ := hown.cells i v hv; exact ⟨p, hp, by simpa using hc⟩) hown.1
    have h63' : ¬ (9223372036854775807 < ((n : Int) + (m : Int))) := by omega
    have hfit := growslice_fits (need := n + m) (old := cap) (bytes := j.bytes) (by omega) hby
    have h48' : ¬ (281474976710656 < Builtin.nextslicecap (n + m) cap * j.bytes) := by omega
    have hge := grownCap_ge w (n + m) cap E
    have hcm := grownCap_le_maxLen w (n + m) cap E h63
    refine ⟨some ⟨w.heap.size, 0, none⟩, grownCap w (n + m) cap E, [w.heap.size], w.drew.alloc (.cells (xs.toArray ++ news.toArray ++ Builtin.zeroCells z.cells (grownCap w (n + m) cap E - (n + m))) E), ?_, ⟨hlen, .inr ⟨w.heap.size, _, rfl, rfl, Blk.new w.drew _ _ _, hge, hcm, ?_, ?_⟩⟩, ?_, fun x hx => .inr (by simp at hx; omega), fun _ => ⟨(Ext.drew w).trans0 (Ext.alloc w.drew _), fun x hx => by simp at hx; omega⟩, fun h => absurd h hroom⟩
    · simp [Builtin.append_, run_underlying t.h, Go.sizeOf, typeInfo, zeroValue, hj, hz, Builtin.lenOf, show ¬ n + m ≤ cap by omega, h63', h48', Question.forced, hf, hfo, newRow, grownCap]
      congr 2
      apply Array.ext'
      simp [List.append_assoc]
    · simp only [Array.size_append, List.size_toArray, size_zeroCells, hzs, hown.1, hl, ← Nat.add_mul]
      refine Nat.le_of_eq ?_
      congr 1
      omega
    · simp only [Array.toList_append, List.append_assoc]
      rw [← List.append_assoc, ← hlen]
      exact List.take_left
    · have h1 := (Ext.drew w).trans0 (Ext.alloc w.drew (.cells (xs.toArray ++ news.toArray ++ Builtin.zeroCells z.cells (grownCap w (n + m) cap E - (n + m))) E))
      exact h1.mono (by simp)
theorem run_appZ2 {T E I size bytes : Nat} {z : Value} [t : TySlice P T E size bytes z] [ti : TyInt P I .i64] {a : Option Addr} {n cap : Nat} {xs : List Value} {M : List Nat} (hown : Own w E size a n cap xs M)
    {m : Nat} (h1 : ∀ u ∈ z.cells.toList, u.oneCell' = true) (h63 : n + m ≤ maxLen) (hby : (n + m) * bytes ≤ 140737488355328) (hpos : 0 < size) (hbp : 0 < bytes) (ty : Nat) :
    ∃ a' cap' M' w', (Builtin.append_ #[T, I] ty #[.slice a n cap, .int .i64 m]).run P w = .ok (.slice a' (n + m) cap') w' ∧ Own w' E size a' (n + m) cap' (xs ++ (Builtin.zeroCells z.cells m).toList) M' ∧ Ext M w w' ∧ (∀ g ∈ M', g ∈ M ∨ w.heap.size ≤ g) ∧ (cap < n + m → Ext [] w w' ∧ ∀ g ∈ M', w.heap.size ≤ g) ∧ (n + m ≤ cap → a' = a ∧ cap' = cap ∧ M' = M) := by
  obtain ⟨j, hj, hs, hb, hz⟩ := t.i
  have hzs := t.zs
  subst hs hb
  have hI := ti.h
  have hl : (Builtin.zeroCells z.cells m).toList.length = m * j.size := by rw [Array.length_toList, size_zeroCells, hzs]
  have hmm : m ≤ m * j.bytes := Nat.le_mul_of_pos_right _ hbp
  have hmb : m * j.bytes ≤ (n + m) * j.bytes := Nat.mul_le_mul_right _ (by omega)
  have hsmall : n + m ≤ 9223372036854775807 := by simp only [maxLen] at h63; omega
  have hwr : IntKind.i64.wrap ((m : Nat) : Int) = m := wrap_i64 (by omega)
  have hbig : ¬ (281474976710656 : Int) < (m : Int) * (j.bytes : Int) := by
    have : ((m * j.bytes : Nat) : Int) = (m : Int) * (j.bytes : Int) := by simp
    omega
  have hneg : ¬ ((m : Nat) : Int) < 0 := by omega
  have hai : (asInt (.int .i64 (m : Int))).run P w = .ok (m : Int) w := by simp [asInt, asIntOf]
  have hlen : (xs ++ (Builtin.zeroCells z.cells m).toList).length = (n + m) * j.size := by rw [List.length_append, hown.1, hl, Nat.add_mul]
  have h1' : ∀ u ∈ (Builtin.zeroCells z.cells m).toList, u.oneCell' = true := by
    intro u hu
    simp only [Builtin.zeroCells, Array.toList_map, List.mem_map, Array.mem_toList_iff, Array.mem_range] at hu
    obtain ⟨i, hi, rfl⟩ := hu
    have : i % z.cells.size < z.cells.size := Nat.mod_lt _ (by rw [hzs]; exact hpos)
    rw [getElem!_pos z.cells _ this]
    exact h1 _ (by simp)
  have hzl : m * j.size = 0 → (Builtin.zeroCells z.cells m) = #[] := by
    intro h0
    exact Array.eq_empty_of_size_eq_zero (by rw [size_zeroCells, hzs]; exact h0)
  by_cases hroom : n + m ≤ cap
  · rcases hown.2 with ⟨rfl, rfl, rfl, rfl⟩ | ⟨g, cur, rfl, rfl, hg, hnc, hcm, hcs, ht⟩
    · have hm0 : m = 0 := by omega
      subst hm0
      refine ⟨none, 0, [], w, ?_, ⟨hlen, .inl ⟨rfl, rfl, rfl, rfl⟩⟩, Ext.refl _ _, by simp, fun h => absurd h (by omega), fun _ => ⟨rfl, rfl, rfl⟩⟩
      have hai0 : (asInt (.int .i64 0)).run P w = .ok 0 w := hai
      have hwr0 : IntKind.i64.wrap 0 = 0 := hwr
      simp [Builtin.append_, run_underlying t.h, run_underlying hI, Go.sizeOf, typeInfo, hj, hai0, hwr0]
    · have hfit : n * j.size + (Builtin.zeroCells z.cells m).toList.length ≤ cur.size := by rw [hl, ← Nat.add_mul]; exact Nat.le_trans (Nat.mul_le_mul_right _ hroom) hcs
      have hst := run_storeCells_at P g (n * j.size) E (Builtin.zeroCells z.cells m).toList 0 cur w hg (by simpa using hfit) h1'
      simp only [Nat.add_zero] at hst
      refine ⟨some ⟨g, 0, none⟩, cap, [g], w.setRow g (cur.toList.take (n * j.size) ++ (Builtin.zeroCells z.cells m).toList ++ cur.toList.drop (n * j.size + (Builtin.zeroCells z.cells m).toList.length)).toArray, ?_, ⟨hlen, .inr ⟨g, _, rfl, rfl, setRow_heap w g cur _ E _ hg, hroom, hcm, ?_, ?_⟩⟩, ⟨rfl, rfl, rfl, by simp, fun k _ hk => setRow_other w g k _ (fun e => hk (by simp [e]))⟩, fun x hx => .inl hx, fun h => absurd h (by omega), fun _ => ⟨rfl, rfl, rfl⟩⟩
      · by_cases h0 : m * j.size = 0
        · rw [hzl h0] at hst ⊢
          simp [Builtin.append_, run_underlying t.h, run_underlying hI, Go.sizeOf, typeInfo, hj, hroom, h0, hwr, hneg, hbig, hai, Go.Addr.add_lit] at hst ⊢
          simp [hst]
        · simp [Builtin.append_, run_underlying t.h, run_underlying hI, Go.sizeOf, typeInfo, zeroValue, hz, hj, hroom, h0, hwr, hneg, hbig, hai, Go.Addr.add_lit, hst]
      · simp only [List.size_toArray, List.length_append, List.length_take, List.length_drop, Array.length_toList]
        refine Nat.le_trans hcs ?_
        omega
      · rw [ht, ← hlen]
        exact List.take_left
  · have hfo := run_first (P := P) (size := j.size) (c := cap) (w := w.drew) (b := a) (cs := xs) (m := n) (fun i v hv => by
      obtain ⟨p, hp, hc⟩ := hown.cells i v hv; exact ⟨p, hp, by simpa using hc⟩) hown.1
    have h63' : ¬ (9223372036854775807 < ((n : Int) + (m : Int))) := by omega
    have hfit := growslice_fits (need := n + m) (old := cap) (bytes := j.bytes) (by omega) hby
    have h48' : ¬ (281474976710656 < Builtin.nextslicecap (n + m) cap * j.bytes) := by omega
    have hge := grownCap_ge w (n + m) cap E
    have hcm := grownCap_le_maxLen w (n + m) cap E h63
    refine ⟨some ⟨w.heap.size, 0, none⟩, grownCap w (n + m) cap E, [w.heap.size], w.drew.alloc (.cells (xs.toArray ++ (Builtin.zeroCells z.cells m) ++ Builtin.zeroCells z.cells (grownCap w (n + m) cap E - (n + m))) E), ?_, ⟨hlen, .inr ⟨w.heap.size, _, rfl, rfl, Blk.new w.drew _ _ _, hge, hcm, ?_, ?_⟩⟩, ?_, fun x hx => .inr (by simp at hx; omega), fun _ => ⟨(Ext.drew w).trans0 (Ext.alloc w.drew _), fun x hx => by simp at hx; omega⟩, fun h => absurd h hroom⟩
    · by_cases h0 : m * j.size = 0
      · rw [hzl h0]
        simp [Builtin.append_, run_underlying t.h, run_underlying hI, Go.sizeOf, typeInfo, zeroValue, hj, hz, h0, hwr, hneg, hbig, hai, show ¬ n + m ≤ cap by omega, h63', h48', Question.forced, hfo, newRow, grownCap]
      · simp [Builtin.append_, run_underlying t.h, run_underlying hI, Go.sizeOf, typeInfo, zeroValue, hj, hz, h0, hwr, hneg, hbig, hai, show ¬ n + m ≤ cap by omega, h63', h48', Question.forced, hfo, newRow, grownCap]
    · simp only [Array.size_append, List.size_toArray, size_zeroCells, hzs, hown.1, ← Nat.add_mul]
      refine Nat.le_of_eq ?_
      congr 1
      omega
    · simp only [Array.toList_append, List.append_assoc]
      rw [← List.append_assoc, ← hlen]
      exact List.take_left
    · have h1 := (Ext.drew w).trans0 (Ext.alloc w.drew (.cells (xs.toArray ++ (Builtin.zeroCells z.cells m) ++ Builtin.zeroCells z.cells (grownCap w (n + m) cap E - (n + m))) E))
      exact h1.mono (by simp)
end
/-- The first elements of an owned row. -/
theorem Own.pre {w : World} {E size : Nat} {a : Option Addr} {n cap : Nat} {xs : List Value} {M : List Nat} (h : Own w E size a n cap xs M) {i : Nat} (hi : i ≤ n) : Own w E size a i cap (xs.take (i * size)) M := by
  have hl := h.1
  have hm : i * size ≤ n * size := Nat.mul_le_mul_right _ hi
  refine ⟨by rw [List.length_take, hl]; omega, ?_⟩
  rcases h.2 with ⟨h1, h2, h3, h4⟩ | ⟨g, cur, h1, h2, h3, h4, h5, h6, h7⟩
  · exact .inl ⟨h1, by omega, h3, h4⟩
  · exact .inr ⟨g, cur, h1, h2, h3, by omega, h5, h6, by rw [← h7, List.take_take, Nat.min_eq_left hm]⟩
/-- An element put in between, in place: the cells. -/
theorem over_insert {cur : Array Value} {xs v : List Value} {A L s : Nat} (hx : cur.toList.take L = xs) (hxl : xs.length = L) (hA : A ≤ L) (hv : v.length = s) (hr : L + s ≤ cur.size) :
    (Over (Over cur (A + s) (xs.drop A)) A v).toList.take (L + s) = xs.take A ++ v ++ xs.drop A ∧ (Over cur (A + s) (xs.drop A)).size = cur.size ∧ (Over (Over cur (A + s) (xs.drop A)) A v).size = cur.size := by
  have hdl : (xs.drop A).length = L - A := by rw [List.length_drop, hxl]
  have s1 : (Over cur (A + s) (xs.drop A)).size = cur.size := Over.size (by rw [hdl]; omega)
  have s2 : (Over (Over cur (A + s) (xs.drop A)) A v).size = cur.size := by rw [Over.size (by rw [s1, hv]; omega), s1]
  refine ⟨?_, s1, s2⟩
  have hcl : cur.toList.length = cur.size := Array.length_toList
  have e1 : (Over cur (A + s) (xs.drop A)).toList = cur.toList.take (A + s) ++ xs.drop A ++ cur.toList.drop (A + s + (xs.drop A).length) := rfl
  have e2 : (Over (Over cur (A + s) (xs.drop A)) A v).toList = (Over cur (A + s) (xs.drop A)).toList.take A ++ v ++ (Over cur (A + s) (xs.drop A)).toList.drop (A + v.length) := rfl
  have t1 : (cur.toList.take (A + s)).length = A + s := by rw [List.length_take]; omega
  have a1 : (Over cur (A + s) (xs.drop A)).toList.take A = xs.take A := by
    rw [e1, List.append_assoc, List.take_append, show A - (cur.toList.take (A + s)).length = 0 by omega, List.take_zero, List.append_nil, List.take_take, Nat.min_eq_left (by omega), ← hx, List.take_take, Nat.min_eq_left hA]
  have a2 : (Over cur (A + s) (xs.drop A)).toList.drop (A + v.length) = xs.drop A ++ cur.toList.drop (A + s + (xs.drop A).length) := by
    rw [e1, List.append_assoc, hv, List.drop_append, List.drop_of_length_le (by omega), List.nil_append, t1, Nat.sub_self, List.drop_zero]
  rw [e2, a1, a2]
  have l3 : (xs.take A ++ v ++ xs.drop A).length = L + s := by simp only [List.length_append, List.length_take, List.length_drop]; omega
  rw [← List.append_assoc, ← l3, List.take_left]
section
variable {P : Program} {n : Fm} {ρ : Env} {w : World} {ty : TypeId} {pos : String} {af : Array Edge} {gd : Option (Nat × Bool)}
/-- append, in place or in a new row. -/
theorem R.app2 {T E size bytes : Nat} {z : Value} [t : TySlice P T E size bytes z] {d : Nat} {s x : Operand} {a : Option Addr} {m0 cap : Nat} {xs : List Value} {M : List Nat} {b : Option Addr} {m c : Nat} {news : List Value}
    (hs : ev ρ s = some (.slice a m0 cap)) (hx : ev ρ x = some (.slice b m c)) (hown : Own w E size a m0 cap xs M)
    (hnews : Cells w b news) (hl : news.length = m * size) (h1 : ∀ u ∈ news, u.oneCell' = true) (h63 : m0 + m ≤ maxLen) (hby : (m0 + m) * bytes ≤ 140737488355328) :
    Does P n ρ w ⟨some d, .call ⟨.builtin .append, #[s, x], #[T, T]⟩, ty, pos, af, gd⟩ (fun v w' => ∃ a' cap' M', v = .slice a' (m0 + m) cap' ∧ Ext M w w' ∧ (∀ g ∈ M', g ∈ M ∨ w.heap.size ≤ g) ∧ Own w' E size a' (m0 + m) cap' (xs ++ news) M' ∧ (m0 + m ≤ cap → a' = a ∧ cap' = cap ∧ M' = M)) := by
  obtain ⟨a', cap', M', w', hr, ho, he, hm, _, hin⟩ := run_app2 (P := P) (T := T) hown (c := c) hnews hl h1 h63 hby ty
  exact ⟨_, _, fun f hf => by
    simp only [execOp, resolve, invoke, builtin, Sem.run_bind, Sem.run_pure, Result.andThen_ok, List.map_toArray, List.map_cons, List.map_nil, hf.eval hs, hf.eval hx, hr], a', cap', M', rfl, he, hm, ho, hin⟩
/-- append(xs, make(_, m)...), where it grows. -/
theorem R.appZN {T E I size bytes : Nat} {z : Value} [t : TySlice P T E size bytes z] [ti : TyInt P I .i64] {d : Nat} {s x : Operand} {a : Option Addr} {m0 cap m : Nat} {xs : List Value} {M : List Nat}
    (hs : ev ρ s = some (.slice a m0 cap)) (hx : ev ρ x = some (.int .i64 m)) (hown : Own w E size a m0 cap xs M)
    (h1 : ∀ u ∈ z.cells.toList, u.oneCell' = true) (h63 : m0 + m ≤ maxLen) (hby : (m0 + m) * bytes ≤ 140737488355328) (hpos : 0 < size) (hbp : 0 < bytes) (hg : cap < m0 + m) :
    Does P n ρ w ⟨some d, .call ⟨.builtin .append, #[s, x], #[T, I]⟩, ty, pos, af, gd⟩ (Cloned w E size (m0 + m) (xs ++ (Builtin.zeroCells z.cells m).toList)) := by
  obtain ⟨a', cap', M', w', hr, ho, he, hm, hnew, _⟩ := run_appZ2 (P := P) (T := T) (I := I) hown (m := m) h1 h63 hby hpos hbp ty
  exact ⟨_, _, fun f hf => by
    simp only [execOp, resolve, invoke, builtin, Sem.run_bind, Sem.run_pure, Result.andThen_ok, List.map_toArray, List.map_cons, List.map_nil, hf.eval hs, hf.eval hx, hr], a', cap', M', rfl, (hnew hg).1, ho, (hnew hg).2⟩
/-- copy, of elements of any size: m elements go over. -/
theorem R.copyN {T S E size bytes : Nat} {z : Value} [t : TySlice P T E size bytes z] {d : Option Nat} {x y : Operand} {g o dl dc sl sc m : Nat} {b : Option Addr} {cur : Array Value} {U : TypeId} {cs : List Value}
    (hx : ev ρ x = some (.slice (some ⟨g, o, none⟩) dl dc)) (hy : ev ρ y = some (.slice b sl sc)) (hb : Blk w g cur U (0, 0)) (hc : Cells w b cs) (hm : Nat.min sl dl = m) (hn : cs.length = m * size) (hfit : o + cs.length ≤ cur.size)
    (h1 : ∀ u ∈ cs, u.oneCell' = true) :
    Does P n ρ w ⟨d, .call ⟨.builtin .copy, #[x, y], #[T, S]⟩, ty, pos, af, gd⟩ (fun v w' => v = .int .i64 (m : Int) ∧ Put w g (Over cur o cs) U w') := by
  obtain ⟨i, hi, hs, _, _⟩ := t.i
  have hf := run_first (P := P) (size := size) (c := sc) hc hn
  have hst := run_storeCells_at P g o U cs 0 cur w hb (by simpa using hfit) h1
  simp only [Nat.add_zero] at hst
  have hf2 : (Builtin.firstCells size m (.slice b sl sc)).run P w = .ok cs.toArray w := by
    cases b with
    | none => have := cells_none hc; subst this; simp [Builtin.firstCells] at hf ⊢
    | some p => simpa [Builtin.firstCells] using hf
  refine ⟨.int .i64 (m : Int), w.setRow g (Over cur o cs), fun f hff => ?_, rfl, ⟨rfl, rfl, rfl, by simp, fun k _ hk => setRow_other w g k _ (fun e => hk (by simp [e]))⟩, by simp, setRow_heap w g cur _ U _ hb⟩
  simp only [execOp, resolve, invoke, builtin, Sem.run_bind, Sem.run_pure, Result.andThen_ok, List.map_toArray, List.map_cons, List.map_nil, hff.eval hx, hff.eval hy]
  simp [Builtin.copy_, run_underlying t.h, Builtin.lenOf, Go.sizeOf, typeInfo, hi, hs, hm, hf2, hst, Over, goInt]
/-- clear of a slice that has elements. -/
theorem R.clearN {T E size bytes : Nat} {z : Value} [t : TySlice P T E size bytes z] {d : Option Nat} {x : Operand} {g o m c : Nat} {cur : Array Value} {U : TypeId}
    (hx : ev ρ x = some (.slice (some ⟨g, o, none⟩) (m + 1) c)) (hb : Blk w g cur U (0, 0)) (hfit : o + (m + 1) * size ≤ cur.size) (hpos : 0 < size) (h1 : ∀ u ∈ z.cells.toList, u.oneCell' = true) :
    Does P n ρ w ⟨d, .call ⟨.builtin .clear, #[x], #[T]⟩, ty, pos, af, gd⟩ (fun _ w' => Put w g (Over cur o (Builtin.zeroCells z.cells (m + 1)).toList) U w') := by
  obtain ⟨i, hi, hs, _, hz⟩ := t.i
  have hzs := t.zs
  have hl : (Builtin.zeroCells z.cells (m + 1)).toList.length = (m + 1) * size := by rw [Array.length_toList, size_zeroCells, hzs]
  have h1' : ∀ u ∈ (Builtin.zeroCells z.cells (m + 1)).toList, u.oneCell' = true := by
    intro u hu
    simp only [Builtin.zeroCells, Array.toList_map, List.mem_map, Array.mem_toList_iff, Array.mem_range] at hu
    obtain ⟨i, hi, rfl⟩ := hu
    have : i % z.cells.size < z.cells.size := Nat.mod_lt _ (by rw [hzs]; exact hpos)
    rw [getElem!_pos z.cells _ this]
    exact h1 _ (by simp)
  have hst := run_storeCells_at P g o U (Builtin.zeroCells z.cells (m + 1)).toList 0 cur w hb (by rw [hl]; simpa using hfit) h1'
  simp only [Nat.add_zero] at hst
  refine ⟨.tuple #[], w.setRow g (Over cur o (Builtin.zeroCells z.cells (m + 1)).toList), fun f hff => ?_, ⟨rfl, rfl, rfl, by simp, fun k _ hk => setRow_other w g k _ (fun e => hk (by simp [e]))⟩, by simp, setRow_heap w g cur _ U _ hb⟩
  simp only [execOp, resolve, invoke, builtin, Sem.run_bind, Sem.run_pure, Result.andThen_ok, List.map_toArray, List.map_cons, List.map_nil, hff.eval hx]
  simp [Builtin.clear_, run_underlying t.h, zeroValue, typeInfo, hi, hz, hst, Over]
theorem R.capS {T E size bytes : Nat} {z : Value} [t : TySlice P T E size bytes z] {x : Operand} {d : Nat} {a : Option Addr} {m c : Nat} (hx : ev ρ x = some (.slice a m c)) :
    Runs P n ρ w ⟨some d, .call ⟨.builtin .cap, #[x], #[T]⟩, ty, pos, af, gd⟩ (.int .i64 (c : Int)) w := (fun f hf => by
    simp only [execOp, resolve, invoke, builtin, Sem.run_bind, Sem.run_pure, Result.andThen_ok, List.map_toArray, List.map_cons, List.map_nil, hf.eval hx]
    simp [Builtin.cap_, goInt, run_underlying t.h])
/-- slices.overlaps, of two blocks. -/
theorem R.overlaps {tS tR E size bytes : Nat} {z : Value} [t : TySlice P tS E size bytes z] {d : Nat} {f : FuncId} {fn : Func} {x y : Operand} {ats : Array TypeId} {a b : Addr} {la ca lb cb : Nat} {A B : Array Value} {tA tB : Nat}
    (hf : P.funcs[f]? = some fn) (hname : (fn.name == "runtime.NumGoroutine") = false) (hbd : fn.body.isNone = true) (hn : Extern.findNext fn = none) (he : Extern.find fn = some (Extern.SlicesOverlaps.overlaps #[tS, tS] #[tR]))
    (hx : ev ρ x = some (.slice (some a) la ca)) (hy : ev ρ y = some (.slice (some b) lb cb)) (hA : Blk w a.block A tA (0, 0)) (hB : Blk w b.block B tB (0, 0)) (hne : a.block ≠ b.block) (hB0 : 0 < B.size) :
    Runs P n ρ w ⟨some d, .call ⟨.value (.func f), #[x, y], ats⟩, ty, pos, af, gd⟩ (.bool false) w := by
  obtain ⟨i, hi, hs, _, _⟩ := t.i
  refine R.callX (vs := [.slice (some a) la ca, .slice (some b) lb cb]) (by simp [evs, hx, hy]) ?_
  have hz : ∀ w, (Go.sizeOf E).run P w = .ok size w := fun w => by simp [Go.sizeOf, typeInfo, hi, hs]
  have hfr : ∀ o, w.frozen? { block := a.block, off := o } = false := by
    intro o
    simp only [World.frozen?]
    rw [show w.heap[a.block]? = some (.cells A tA (0, 0)) from hA]
    simp
  have hfa : w.frozen? a = false := by
    simp only [World.frozen?]
    rw [show w.heap[a.block]? = some (.cells A tA (0, 0)) from hA]
    simp
  rw [run_callFunc_extern hf hname hbd hn he]
  have := Lib.run_overlaps_apart (P := P) w tS tR E t.h size hz a b la ca lb cb hne tA tB A.size B.size (by unfold World.shape?; rw [show w.heap[a.block]? = some (.cells A tA (0, 0)) from hA]) (by unfold World.shape?; rw [show w.heap[b.block]? = some (.cells B tB (0, 0)) from hB]) (by omega) hfa (hfr _)
  exact (congrArg (fun r => r.andThen fun v w' => Result.ok (Next.value v) w') this)
end
end Brv
/-
  Orders: keys, rows of pairs, what is found, put and deleted.
-/
set_option linter.unusedVariables false
namespace Brv
open Go
/-- What keys are: values that are compared. -/
class Key (κ : Type) where
  val : κ → Value
  lt : κ → κ → Bool
  one : ∀ k, (val k).oneCell' = true
  cell : ∀ k, (val k).cells = #[val k]
  irr : ∀ k, lt k k = false
  trans : ∀ a b c, lt a b = true → lt b c = true → lt a c = true
  tri : ∀ a b, lt a b = false → lt b a = false → a = b
theorem bl_irr : ∀ a : List UInt8, Op.bytesLess a a = false
  | [] => rfl
  | x :: r => by simp [Op.bytesLess, bl_irr r]
theorem bl_trans : ∀ a b c : List UInt8, Op.bytesLess a b = true → Op.bytesLess b c = true → Op.bytesLess a c = true
  | _, _, [], _, h => by simp [Op.bytesLess] at h
  | _, [], _ :: _, h, _ => by simp [Op.bytesLess] at h
  | [], _ :: _, _ :: _, _, _ => rfl
  | x :: a, y :: b, z :: c, h, k => by
    simp only [Op.bytesLess, Bool.or_eq_true, decide_eq_true_eq, Bool.and_eq_true, beq_iff_eq] at h k ⊢
    rcases h with h | ⟨rfl, h⟩
    · rcases k with k | ⟨rfl, k⟩
      · exact .inl (UInt8.lt_trans h k)
      · exact .inl h
    · rcases k with k | ⟨rfl, k⟩
      · exact .inl k
      · exact .inr ⟨rfl, bl_trans a b c h k⟩
theorem bl_tri : ∀ a b : List UInt8, Op.bytesLess a b = false → Op.bytesLess b a = false → a = b
  | [], [], _, _ => rfl
  | [], y :: b, h, _ => by simp [Op.bytesLess] at h
  | x :: a, [], _, h => by simp [Op.bytesLess] at h
  | x :: a, y :: b, h, k => by
    simp only [Op.bytesLess, Bool.or_eq_false_iff, decide_eq_false_iff_not] at h k
    have e : x = y := by
      have h1 := h.1; have k1 := k.1
      rw [UInt8.not_lt] at h1 k1
      exact UInt8.le_antisymm k1 h1
    subst e
    have h2 := h.2; have k2 := k.2
    simp at h2 k2
    rw [bl_tri a b h2 k2]
instance : Key Int := ⟨.int .i64, fun a b => decide (a < b), fun _ => rfl, fun _ => rfl, fun k => by simp, fun a b c h k => by simp at h k ⊢; omega, fun a b h k => by simp at h k; omega⟩
instance : Key (List UInt8) := ⟨fun k => .string (str k), Op.bytesLess, fun _ => rfl, fun _ => rfl, bl_irr, bl_trans, bl_tri⟩
section
variable {κ : Type} [Key κ]
/-- A key and a value's cells. -/
abbrev Pr (κ : Type) := κ × List Value
def pcell (p : Pr κ) : List Value := Key.val p.1 :: p.2
def pcells (ps : List (Pr κ)) : List Value := (ps.map pcell).flatten
def Sorted (ps : List (Pr κ)) : Prop := ps.Pairwise fun a b => Key.lt a.1 b.1 = true
/-- How many keys are below k. -/
def low (ps : List (Pr κ)) (k : κ) : Nat := (ps.takeWhile fun p => Key.lt p.1 k).length
def hasK (ps : List (Pr κ)) (k : κ) : Bool := match ps[low ps k]? with
  | some p => !Key.lt k p.1
  | none => false
theorem low_le (ps : List (Pr κ)) (k : κ) : low ps k ≤ ps.length := by
  unfold low
  exact (List.takeWhile_sublist _).length_le
theorem low_lt {ps : List (Pr κ)} {k : κ} {i : Nat} {p : Pr κ} (hi : i < low ps k) (hp : ps[i]? = some p) : Key.lt p.1 k = true := by
  unfold low at hi
  induction ps generalizing i with
  | nil => simp at hi
  | cons q r ih =>
    rw [List.takeWhile_cons] at hi
    split at hi
    · rename_i hq
      cases i with
      | zero => simp at hp; subst hp; exact hq
      | succ i => exact ih (by simpa using hi) (by simpa using hp)
    · simp at hi
theorem low_ge {ps : List (Pr κ)} (hs : Sorted ps) {k : κ} {i : Nat} {p : Pr κ} (hi : low ps k ≤ i) (hp : ps[i]? = some p) : Key.lt p.1 k = false := by
  unfold low at hi
  induction ps generalizing i with
  | nil => simp at hp
  | cons q r ih =>
    have hs' := List.pairwise_cons.1 hs
    rw [List.takeWhile_cons] at hi
    split at hi
    · rename_i hq
      cases i with
      | zero => simp at hi
      | succ i => exact ih hs'.2 (by simpa using hi) (by simpa using hp)
    · rename_i hq
      have hq' : Key.lt q.1 k = false := by simpa using hq
      cases i with
      | zero => simp at hp; subst hp; exact hq'
      | succ i =>
        have hm : p ∈ r := List.mem_of_getElem? (by simpa using hp)
        have h1 := hs'.1 p hm
        cases hc : Key.lt p.1 k with
        | false => rfl
        | true => rw [Key.trans _ _ _ h1 hc] at hq'; cases hq'
theorem hasK_iff {ps : List (Pr κ)} (hs : Sorted ps) {k : κ} : hasK ps k = true ↔ ∃ v, ps[low ps k]? = some (k, v) := by
  unfold hasK
  cases h : ps[low ps k]? with
  | none => simp
  | some p =>
    have hg := low_ge hs (Nat.le_refl _) h
    constructor
    · intro h1
      have h1 : Key.lt k p.1 = false := by simpa using h1
      have := Key.tri _ _ hg h1
      exact ⟨p.2, by rw [← this]⟩
    · rintro ⟨v, h1⟩
      cases h1
      have := Key.irr k
      simp [this]
def getK (ps : List (Pr κ)) (k : κ) : Option (List Value) := if hasK ps k then (ps[low ps k]?).map Prod.snd else none
def putK (ps : List (Pr κ)) (k : κ) (v : List Value) : List (Pr κ) := if hasK ps k then ps.set (low ps k) (k, v) else ps.take (low ps k) ++ (k, v) :: ps.drop (low ps k)
def delK (ps : List (Pr κ)) (k : κ) : List (Pr κ) := if hasK ps k then ps.take (low ps k) ++ ps.drop (low ps k + 1) else ps
theorem sorted_put {ps : List (Pr κ)} (hs : Sorted ps) (k : κ) (v : List Value) : Sorted (putK ps k v) := by
  have key : ∀ i p, ps[i]? = some p → i < low ps k → Key.lt p.1 k = true := fun i p hp hi => low_lt hi hp
  unfold putK
  split
  · rename_i hk
    obtain ⟨u, hu⟩ := (hasK_iff hs).1 hk
    unfold Sorted at hs ⊢
    rw [List.pairwise_iff_getElem] at hs ⊢
    intro i j hi hj hij
    rw [List.length_set] at hi hj
    have e : ∀ m (hm : m < ps.length), ((ps.set (low ps k) (k, v))[m]'(by rw [List.length_set]; exact hm)).1 = ps[m].1 := by
      intro m hm
      rw [List.getElem_set]
      split
      · rename_i e
        subst e
        rw [List.getElem?_eq_getElem hm] at hu
        cases hu' : ps[low ps k] with
        | mk a b => rw [hu'] at hu; cases hu; rfl
      · rfl
    rw [e i hi, e j hj]
    exact hs i j hi hj hij
  · rename_i hk
    unfold Sorted at hs ⊢
    rw [List.pairwise_append]
    refine ⟨hs.sublist (List.take_sublist _ _), List.pairwise_cons.2 ⟨fun p hp => ?_, hs.sublist (List.drop_sublist _ _)⟩, fun a ha b hb => ?_⟩
    · obtain ⟨j, hj, e⟩ := List.mem_iff_getElem.1 hp
      have hj' : low ps k + j < ps.length := by simp at hj; omega
      have hpp : ps[low ps k + j]? = some p := by rw [List.getElem?_eq_getElem hj', ← e, List.getElem_drop]
      have hg := low_ge hs (Nat.le_add_right _ _) hpp
      cases hc : Key.lt k p.1 with
      | true => rfl
      | false =>
        exfalso
        have e2 := Key.tri _ _ hg hc
        rcases Nat.eq_zero_or_pos j with rfl | hj0
        · refine hk ?_
          unfold hasK
          rw [show low ps k = low ps k + 0 from rfl, hpp]
          simp [hc]
        · have hl : low ps k < ps.length := by omega
          rw [List.pairwise_iff_getElem] at hs
          have h1 := hs (low ps k) (low ps k + j) hl hj' (by omega)
          have h2 := low_ge (k := k) (by rw [Sorted, List.pairwise_iff_getElem]; exact hs) (Nat.le_refl _) (List.getElem?_eq_getElem hl)
          rw [List.getElem?_eq_getElem hj'] at hpp
          have h3 : ps[low ps k + j] = p := by simpa using hpp
          rw [h3, e2] at h1
          rw [h1] at h2; cases h2
    · obtain ⟨i, hi, e⟩ := List.mem_iff_getElem.1 ha
      have hi' : i < low ps k := by simp at hi; omega
      have hil : i < ps.length := by simp at hi; omega
      have hak : Key.lt a.1 k = true := low_lt hi' (by rw [List.getElem?_eq_getElem hil, ← e, List.getElem_take])
      rcases List.mem_cons.1 hb with rfl | hb
      · exact hak
      · obtain ⟨j, hj, e'⟩ := List.mem_iff_getElem.1 hb
        have hj' : low ps k + j < ps.length := by simp at hj; omega
        rw [List.pairwise_iff_getElem] at hs
        have := hs i (low ps k + j) hil hj' (by omega)
        rw [← e, ← e', List.getElem_take, List.getElem_drop]
        exact this
theorem sorted_del {ps : List (Pr κ)} (hs : Sorted ps) (k : κ) : Sorted (delK ps k) := by
  unfold delK
  split
  · unfold Sorted at hs ⊢
    refine hs.sublist ?_
    have h1 : (ps.take (low ps k) ++ ps.drop (low ps k + 1)).Sublist (ps.take (low ps k) ++ ps.drop (low ps k)) := List.Sublist.append (List.Sublist.refl _) (List.drop_sublist_drop_left _ (by omega))
    rwa [List.take_append_drop] at h1
  · exact hs
theorem put_len {ps : List (Pr κ)} (k : κ) (v : List Value) : (putK ps k v).length = if hasK ps k then ps.length else ps.length + 1 := by
  have := low_le ps k
  unfold putK
  split
  · rw [List.length_set]
  · rw [List.length_append, List.length_cons, List.length_take, List.length_drop]; omega
theorem pcells_len {sv : Nat} {ps : List (Pr κ)} (h : ∀ p ∈ ps, p.2.length = sv) : (pcells ps).length = ps.length * (1 + sv) := by
  unfold pcells
  induction ps with
  | nil => simp
  | cons p r ih =>
    simp only [List.map_cons, List.flatten_cons, List.length_append, List.length_cons, pcell]
    rw [ih (fun q hq => h q (by simp [hq])), h p (by simp), Nat.add_mul]
    omega
theorem pcells_append (a b : List (Pr κ)) : pcells (a ++ b) = pcells a ++ pcells b := by simp [pcells]
theorem pcells_take {sv : Nat} {ps : List (Pr κ)} (h : ∀ p ∈ ps, p.2.length = sv) (i : Nat) (hi : i ≤ ps.length) : (pcells ps).take (i * (1 + sv)) = pcells (ps.take i) ∧ (pcells ps).drop (i * (1 + sv)) = pcells (ps.drop i) := by
  have e : pcells ps = pcells (ps.take i) ++ pcells (ps.drop i) := by rw [← pcells_append, List.take_append_drop]
  have hl : (pcells (ps.take i)).length = i * (1 + sv) := by
    rw [pcells_len (sv := sv) (fun p hp => h p (List.mem_of_mem_take hp)), List.length_take, Nat.min_eq_left hi]
  rw [e, ← hl, List.take_left, List.drop_left]
  exact ⟨rfl, rfl⟩
/-- Values of so many cells, each a cell. -/
def OkP (sv : Nat) (ps : List (Pr κ)) : Prop := ∀ p ∈ ps, p.2.length = sv ∧ ∀ u ∈ p.2, u.oneCell' = true
omit [Key κ] in
theorem OkP.len {sv : Nat} {ps : List (Pr κ)} (h : OkP sv ps) : ∀ p ∈ ps, p.2.length = sv := fun p hp => (h p hp).1
theorem pcell_one {sv : Nat} {ps : List (Pr κ)} (h : OkP sv ps) : ∀ u ∈ pcells ps, u.oneCell' = true := by
  intro u hu
  obtain ⟨c, hc, hu⟩ := List.mem_flatten.1 hu
  obtain ⟨p, hp, rfl⟩ := List.mem_map.1 hc
  rcases List.mem_cons.1 hu with rfl | hu
  · exact Key.one _
  · exact (h p hp).2 u hu
theorem OkP.put {sv : Nat} {ps : List (Pr κ)} (h : OkP sv ps) {k : κ} {v : List Value} (hv : v.length = sv ∧ ∀ u ∈ v, u.oneCell' = true) : OkP sv (putK ps k v) := by
  unfold putK
  split
  · intro p hp
    rcases List.mem_or_eq_of_mem_set hp with hp | rfl
    · exact h p hp
    · exact hv
  · intro p hp
    rcases List.mem_append.1 hp with hp | hp
    · exact h p (List.mem_of_mem_take hp)
    · rcases List.mem_cons.1 hp with rfl | hp
      · exact hv
      · exact h p (List.mem_of_mem_drop hp)
theorem OkP.del {sv : Nat} {ps : List (Pr κ)} (h : OkP sv ps) {k : κ} : OkP sv (delK ps k) := by
  unfold delK
  split
  · intro p hp
    rcases List.mem_append.1 hp with hp | hp
    · exact h p (List.mem_of_mem_take hp)
    · exact h p (List.mem_of_mem_drop hp)
  · exact h
/-- An order at m (TM: the type of orders, TP: of pairs). S: its blocks. -/
def MapAt (TM TP sv : Nat) (w : World) (m : Nat) (ps : List (Pr κ)) (S : List Nat) : Prop :=
  ∃ a c M, S = m :: M ∧ m ∉ M ∧ Blk w m #[.slice a ps.length c] TM (0, 0) ∧ Own w TP (1 + sv) a ps.length c (pcells ps) M ∧ OkP sv ps ∧ Sorted ps
theorem MapAt.ext {TM TP sv : Nat} {w w' : World} {m : Nat} {ps : List (Pr κ)} {S M' : List Nat} (h : MapAt TM TP sv w m ps S) (he : Ext M' w w') (hm : ∀ y ∈ S, y ∉ M') : MapAt TM TP sv w' m ps S := by
  obtain ⟨a, c, M, rfl, h0, h1, h2, h3, h4⟩ := h
  exact ⟨a, c, M, rfl, h0, h1.ext he (hm m (by simp)), h2.ext he (fun g hg => hm g (by simp [hg])), h3, h4⟩
theorem MapAt.ext0 {TM TP sv : Nat} {w w' : World} {m : Nat} {ps : List (Pr κ)} {S : List Nat} (h : MapAt TM TP sv w m ps S) (he : Ext [] w w') : MapAt TM TP sv w' m ps S := h.ext he (by simp)
theorem MapAt.lt {TM TP sv : Nat} {w : World} {m : Nat} {ps : List (Pr κ)} {S : List Nat} (h : MapAt TM TP sv w m ps S) : ∀ y ∈ S, y < w.heap.size := by
  obtain ⟨a, c, M, rfl, h0, h1, h2, h3, h4⟩ := h
  intro y hy
  rcases List.mem_cons.1 hy with rfl | hy
  · exact h1.lt
  · exact h2.lt y hy
theorem MapAt.still {TM TP sv : Nat} {w w' : World} {m : Nat} {ps : List (Pr κ)} {S : List Nat} (h : MapAt TM TP sv w m ps S) (hs : Still w w') : MapAt TM TP sv w' m ps S := by
  obtain ⟨a, c, M, rfl, h0, h1, h2, h3, h4⟩ := h
  exact ⟨a, c, M, rfl, h0, h1.still hs, h2.still hs, h3, h4⟩
theorem MapAt.neT {TM TP sv : Nat} {w : World} {m : Nat} {ps : List (Pr κ)} {S : List Nat} (h : MapAt TM TP sv w m ps S) {b : Nat} {cs : Array Value} {T : Nat} {fz : Nat × Nat} (hb : Blk w b cs T fz) (h1 : T ≠ TM) (h2 : T ≠ TP) : b ∉ S := by
  obtain ⟨a, c, M, rfl, g0, g1, g2, g3, g4⟩ := h
  intro hm
  rcases List.mem_cons.1 hm with rfl | hm
  · exact hb.ne g1 h1 rfl
  · obtain ⟨_, hq⟩ := g2.typ _ hm
    exact hb.ne hq h2 rfl
theorem MapAt.sorted {TM TP sv : Nat} {w : World} {m : Nat} {ps : List (Pr κ)} {S : List Nat} (h : MapAt TM TP sv w m ps S) : Sorted ps := by
  obtain ⟨a, c, M, rfl, g0, g1, g2, g3, g4⟩ := h
  exact g4
theorem MapAt.ok {TM TP sv : Nat} {w : World} {m : Nat} {ps : List (Pr κ)} {S : List Nat} (h : MapAt TM TP sv w m ps S) : OkP sv ps := by
  obtain ⟨a, c, M, rfl, g0, g1, g2, g3, g4⟩ := h
  exact g3
end
section
variable {P : Program} {n : Fm} {ρ : Env} {w : World} {d : Nat} {ty : TypeId} {pos : String} {af : Array Edge} {gd : Option (Nat × Bool)}
theorem bl_gt (a b : List UInt8) : (!(Op.bytesLess a b || a == b)) = Op.bytesLess b a := by
  cases h : Op.bytesLess a b with
  | true =>
    cases h2 : Op.bytesLess b a with
    | true => have := bl_trans _ _ _ h h2; rw [bl_irr] at this; cases this
    | false => simp
  | false =>
    cases h2 : Op.bytesLess b a with
    | true =>
      have : a ≠ b := fun e => by subst e; rw [bl_irr] at h2; cases h2
      simp [this]
    | false => simp [bl_tri a b h h2]
theorem R.gtStr {T T' : TypeId} {x y : Operand} {a b : List UInt8}  (hx : ev ρ x = some (.string (str a))) (hy : ev ρ y = some (.string (str b))) :
    Runs P n ρ w ⟨some d, .binOp .gtr T x y T', ty, pos, af, gd⟩ (.bool (Op.bytesLess b a)) w := R.bin hx hy (fun w => by rw [← bl_gt]; simp [eqGuard_at_string, binOp, Op.stringOp, ba_toList, str])
end
theorem shr1 (a : Int) : a.fdiv (2 ^ (Min.min (1 : Int).toNat IntKind.u64.bits)) = a / 2 := Int.fdiv_eq_ediv_of_nonneg a (by decide)
section
variable {κ : Type} [Key κ]
def cmpF (x y : κ) : Int := if Key.lt x y then -1 else if Key.lt y x then 1 else 0
theorem cmpF_lt {x y : κ} (h : Key.lt x y = true) : cmpF x y = -1 := if_pos h
theorem cmpF_gt {x y : κ} (h : Key.lt x y = false) (h2 : Key.lt y x = true) : cmpF x y = 1 := by unfold cmpF; rw [if_neg (by simp [h]), if_pos h2]
theorem cmpF_eq {x y : κ} (h : Key.lt x y = false) (h2 : Key.lt y x = false) : cmpF x y = 0 := by unfold cmpF; rw [if_neg (by simp [h]), if_neg (by simp [h2])]
theorem cmpF_neg {x y : κ} : cmpF x y < 0 ↔ Key.lt x y = true := by
  unfold cmpF
  cases h : Key.lt x y
  · cases h2 : Key.lt y x <;> simp
  · simp
theorem cmpF_zero {x y : κ} (h : Key.lt x y = false) : cmpF x y = 0 ↔ Key.lt y x = false := by
  unfold cmpF
  rw [if_neg (by simp [h])]
  cases h2 : Key.lt y x <;> simp
theorem lt_low {ps : List (Pr κ)} (hs : Sorted ps) {k : κ} {i : Nat} {p : Pr κ} (hp : ps[i]? = some p) : (cmpF p.1 k < 0) ↔ i < low ps k := by
  rw [cmpF_neg]
  constructor
  · intro h
    rcases Nat.lt_or_ge i (low ps k) with h2 | h2
    · exact h2
    · rw [low_ge hs h2 hp] at h; cases h
  · exact fun h => low_lt h hp
theorem hasK_at {ps : List (Pr κ)} (hs : Sorted ps) {k : κ} {p : Pr κ} (hp : ps[low ps k]? = some p) : hasK ps k = decide (cmpF p.1 k = 0) := by
  unfold hasK
  rw [hp]
  have := cmpF_zero (low_ge hs (Nat.le_refl _) hp)
  cases h : Key.lt k p.1 <;> simp [h] at this ⊢ <;> simp [this]
theorem hasK_end {ps : List (Pr κ)} {k : κ} (h : ps.length ≤ low ps k) : hasK ps k = false := by
  unfold hasK
  rw [List.getElem?_eq_none h]
theorem Tab.pairs {w : World} {a : Option Addr} {n sv : Nat} {ps : List (Pr κ)} (h : Cells w a (pcells ps)) (hn : n = ps.length) (hok : OkP sv ps) : Tab w a n (1 + sv) (ps.map pcell) :=
  ⟨h, by rw [List.length_map]; exact hn, fun vs hv => by obtain ⟨p, hp, rfl⟩ := List.mem_map.1 hv; show p.2.length + 1 = _; rw [(hok p hp).1]; omega⟩
theorem Own.some {w : World} {E size : Nat} {a : Option Addr} {n cap : Nat} {xs : List Value} {M : List Nat} (h : Own w E size a n cap xs M) (hn : 0 < n) :
    ∃ g cur, a = Option.some ⟨g, 0, none⟩ ∧ M = [g] ∧ Blk w g cur E (0, 0) ∧ n ≤ cap ∧ cap ≤ maxLen ∧ cap * size ≤ cur.size ∧ cur.toList.take (n * size) = xs := by
  rcases h.2 with ⟨_, h2, _⟩ | h
  · omega
  · exact h
theorem over_grow {cur : Array Value} {X c1 c2 : List Value} {A s K : Nat} (hx : cur.toList.take A = X) (hA : A ≤ cur.size) (h1 : c1.length = s) (h2 : c2.length = K) (hr : A + s + K ≤ cur.size) : (Over (Over cur A c1) (A + s) c2).toList.take (A + s + K) = X ++ c1 ++ c2 ∧ (Over cur A c1).size = cur.size ∧ (Over (Over cur A c1) (A + s) c2).size = cur.size := by
  have s1 : (Over cur A c1).size = cur.size := Over.size (by omega)
  refine ⟨?_, s1, by rw [Over.size (by rw [s1]; omega), s1]⟩
  rw [← h2, Over.take (by rw [s1]; omega), ← h1, Over.take hA, hx]
theorem pcells_set {sv : Nat} {ps : List (Pr κ)} (h : OkP sv ps) {i : Nat} {k : κ} {u v : List Value} (hi : ps[i]? = some (k, u)) (hv : v.length = sv) :
    (pcells ps).take (i * (1 + sv) + 1) ++ v ++ (pcells ps).drop (i * (1 + sv) + 1 + v.length) = pcells (ps.set i (k, v)) := by
  have hlt : i < ps.length := (List.getElem?_eq_some_iff.1 hi).1
  have he : ps[i] = (k, u) := (List.getElem?_eq_some_iff.1 hi).2
  have e : ps = ps.take i ++ (k, u) :: ps.drop (i + 1) := by
    rw [← he, ← List.drop_eq_getElem_cons hlt, List.take_append_drop]
  have hu : u.length = sv := (h (k, u) (List.mem_of_getElem? hi)).1
  have hl : (pcells (ps.take i)).length = i * (1 + sv) := by rw [pcells_len (sv := sv) (fun p hp => (h p (List.mem_of_mem_take hp)).1), List.length_take, Nat.min_eq_left (by omega)]
  have e2 : pcells ps = (pcells (ps.take i) ++ [Key.val k]) ++ (u ++ pcells (ps.drop (i + 1))) := by
    conv => lhs; rw [e]
    rw [pcells_append]
    simp [pcells, pcell]
  have l2 : (pcells (ps.take i) ++ [Key.val k]).length = i * (1 + sv) + 1 := by rw [List.length_append, hl]; rfl
  have e3 : ps.set i (k, v) = ps.take i ++ (k, v) :: ps.drop (i + 1) := by rw [List.set_eq_take_append_cons_drop, if_pos hlt]
  rw [e3, pcells_append, e2, ← l2, List.take_left, List.drop_append, List.drop_of_length_le (by omega), List.nil_append, show (pcells (ps.take i) ++ [Key.val k]).length + v.length - (pcells (ps.take i) ++ [Key.val k]).length = u.length by omega, List.drop_left]
  simp [pcells, pcell]
theorem pcell1 {p : Pr κ} (h : ∀ u ∈ p.2, u.oneCell' = true) : ∀ u ∈ pcell p, u.oneCell' = true := by
  intro u hu
  rcases List.mem_cons.1 hu with rfl | hu
  · exact Key.one _
  · exact h u hu
omit [Key κ] in
theorem okIns {sv : Nat} {ps : List (Pr κ)} {i : Nat} {p : Pr κ} (h : OkP sv ps) (hp : p.2.length = sv ∧ ∀ u ∈ p.2, u.oneCell' = true) : OkP sv (ps.take i ++ p :: ps.drop i) := by
  intro q hq
  rcases List.mem_append.1 hq with hq | hq
  · exact h q (List.mem_of_mem_take hq)
  · rcases List.mem_cons.1 hq with rfl | hq
    · exact hp
    · exact h q (List.mem_of_mem_drop hq)
theorem pcells_ins {ps : List (Pr κ)} {i : Nat} {p : Pr κ} : pcells (ps.take i) ++ pcell p ++ pcells (ps.drop i) = pcells (ps.take i ++ p :: ps.drop i) := by simp [pcells]
end
theorem Over.one {cur : Array Value} {o : Nat} {v : Value} (h : o < cur.size) : cur.setIfInBounds o v = Over cur o [v] := by
  apply Array.toList_inj.1
  rw [Array.toList_setIfInBounds, List.set_eq_take_append_cons_drop, if_pos (by simpa using h)]
  simp [Over]
end Brv
/-
  What this seat's types are, as instances.
-/
namespace Go.Proofs.Ythpolibakkmmeaa
open Go Brv
instance : TyOne Try.prog 1 := ⟨by kernel_rfl, by kernel_rfl⟩
instance : TyInt Try.prog 2 .i64 := ⟨Try.underlying2⟩
instance : TyOne Try.prog 2 := ⟨by kernel_rfl, by kernel_rfl⟩
instance : TyZero Try.prog 2 (.int .i64 0) := ⟨by kernel_rfl⟩
instance : TyInt Try.prog 3 .i64 := ⟨Try.underlying3⟩
instance : TyOne Try.prog 3 := ⟨by kernel_rfl, by kernel_rfl⟩
instance : TyZero Try.prog 3 (.int .i64 0) := ⟨by kernel_rfl⟩
instance : TyBool Try.prog 4 := ⟨Try.underlying4⟩
instance : TyOne Try.prog 4 := ⟨by kernel_rfl, by kernel_rfl⟩
instance : TyZero Try.prog 4 (.bool false) := ⟨by kernel_rfl⟩
instance : TyInt Try.prog 5 .u8 := ⟨Try.underlying5⟩
instance : TyOne Try.prog 5 := ⟨by kernel_rfl, by kernel_rfl⟩
instance : TyZero Try.prog 5 (.int .u8 0) := ⟨by kernel_rfl⟩
instance : TyAgg Try.prog 7 4 := ⟨by kernel_rfl, by kernel_rfl⟩
instance : TyField Try.prog 7 0 0 := ⟨_, _, Try.underlying7, rfl, rfl, by kernel_rfl⟩
instance : TyField Try.prog 7 1 1 := ⟨_, _, Try.underlying7, rfl, rfl, by kernel_rfl⟩
instance : TyField Try.prog 7 2 2 := ⟨_, _, Try.underlying7, rfl, rfl, by kernel_rfl⟩
instance : TyField Try.prog 7 3 3 := ⟨_, _, Try.underlying7, rfl, rfl, by kernel_rfl⟩
instance : TyBuilt Try.prog 7 (fun i => (#[(0, 1), (1, 1), (2, 1), (3, 1)] : Array (Nat × Nat))[i]?) (.agg #[.int .i64 0, .int .i64 0, .bool false, .int .u8 0]) := TyBuilt.struct (ps := [(0, 1), (1, 1), (2, 1), (3, 1)]) Try.underlying7 (by kernel_rfl) (by kernel_rfl)
instance : TyZero Try.prog 7 (.agg #[.int .i64 0, .int .i64 0, .bool false, .int .u8 0]) := ⟨by kernel_rfl⟩
instance : TyStr Try.prog 9 := ⟨Try.underlying9⟩
instance : TyOne Try.prog 9 := ⟨by kernel_rfl, by kernel_rfl⟩
instance : TyZero Try.prog 9 (.string ByteArray.empty) := ⟨by kernel_rfl⟩
instance : TyInt Try.prog 12 .u64 := ⟨Try.underlying12⟩
instance : TyOne Try.prog 12 := ⟨by kernel_rfl, by kernel_rfl⟩
instance : TyZero Try.prog 12 (.int .u64 0) := ⟨by kernel_rfl⟩
instance : TyAgg Try.prog 13 2 := ⟨by kernel_rfl, by kernel_rfl⟩
instance : TyField Try.prog 13 0 0 := ⟨_, _, Try.underlying13, rfl, rfl, by kernel_rfl⟩
instance : TyField Try.prog 13 1 1 := ⟨_, _, Try.underlying13, rfl, rfl, by kernel_rfl⟩
instance : TyBuilt Try.prog 13 (fun i => (#[(0, 1), (1, 1)] : Array (Nat × Nat))[i]?) (.agg #[.string ByteArray.empty, .int .u64 0]) := TyBuilt.struct (ps := [(0, 1), (1, 1)]) Try.underlying13 (by kernel_rfl) (by kernel_rfl)
instance : TyZero Try.prog 13 (.agg #[.string ByteArray.empty, .int .u64 0]) := ⟨by kernel_rfl⟩
instance : TyAgg Try.prog 18 1 := ⟨by kernel_rfl, by kernel_rfl⟩
instance : TyField Try.prog 18 0 0 := ⟨_, _, Try.underlying18, rfl, rfl, by kernel_rfl⟩
instance : TyBuilt Try.prog 18 (fun i => (#[(0, 1)] : Array (Nat × Nat))[i]?) (.agg #[.pointer none]) := TyBuilt.struct (ps := [(0, 1)]) Try.underlying18 (by kernel_rfl) (by kernel_rfl)
instance : TyZero Try.prog 18 (.agg #[.pointer none]) := ⟨by kernel_rfl⟩
instance : TyOne Try.prog 20 := ⟨by kernel_rfl, by kernel_rfl⟩
instance : TyInt Try.prog 21 .i32 := ⟨Try.underlying21⟩
instance : TyOne Try.prog 21 := ⟨by kernel_rfl, by kernel_rfl⟩
instance : TyZero Try.prog 21 (.int .i32 0) := ⟨by kernel_rfl⟩
instance : TyOne Try.prog 22 := ⟨by kernel_rfl, by kernel_rfl⟩
instance : TyZero Try.prog 22 (.slice none 0 0) := ⟨by kernel_rfl⟩
instance : TySlice Try.prog 22 5 1 1 (.int .u8 0) := TySlice.of Try.underlying22 (by kernel_rfl) (by kernel_rfl) (by decide)
instance : TyBytes Try.prog 22 5 := ⟨Try.underlying22, Try.underlying5⟩
instance : TyOne Try.prog 23 := ⟨by kernel_rfl, by kernel_rfl⟩
instance : TyZero Try.prog 23 (.slice none 0 0) := ⟨by kernel_rfl⟩
instance : TySlice Try.prog 23 25 1 8 (.int .u64 0) := TySlice.of Try.underlying23 (by kernel_rfl) (by kernel_rfl) (by decide)
instance : TyOne Try.prog 24 := ⟨by kernel_rfl, by kernel_rfl⟩
instance : TyInt Try.prog 25 .u64 := ⟨Try.underlying25⟩
instance : TyOne Try.prog 25 := ⟨by kernel_rfl, by kernel_rfl⟩
instance : TyZero Try.prog 25 (.int .u64 0) := ⟨by kernel_rfl⟩
instance : TyOne Try.prog 26 := ⟨by kernel_rfl, by kernel_rfl⟩
instance : TyOne Try.prog 27 := ⟨by kernel_rfl, by kernel_rfl⟩
instance : TyOne Try.prog 28 := ⟨by kernel_rfl, by kernel_rfl⟩
instance : TyOne Try.prog 29 := ⟨by kernel_rfl, by kernel_rfl⟩
instance : TyPtr Try.prog 30 := ⟨_, Try.underlying30⟩
instance : TyOne Try.prog 30 := ⟨by kernel_rfl, by kernel_rfl⟩
instance : TyZero Try.prog 30 (.pointer none) := ⟨by kernel_rfl⟩
instance : TyInt Try.prog 31 .i64 := ⟨Try.underlying31⟩
instance : TyOne Try.prog 31 := ⟨by kernel_rfl, by kernel_rfl⟩
instance : TyZero Try.prog 31 (.int .i64 0) := ⟨by kernel_rfl⟩
instance : TyOne Try.prog 33 := ⟨by kernel_rfl, by kernel_rfl⟩
instance : TyOne Try.prog 34 := ⟨by kernel_rfl, by kernel_rfl⟩
instance : TyZero Try.prog 34 (.slice none 0 0) := ⟨by kernel_rfl⟩
instance : TySlice Try.prog 34 23 1 24 (.slice none 0 0) := TySlice.of Try.underlying34 (by kernel_rfl) (by kernel_rfl) (by decide)
instance : TyOne Try.prog 35 := ⟨by kernel_rfl, by kernel_rfl⟩
instance : TyOne Try.prog 36 := ⟨by kernel_rfl, by kernel_rfl⟩
instance : TyZero Try.prog 36 (.slice none 0 0) := ⟨by kernel_rfl⟩
instance : TySlice Try.prog 36 3 1 8 (.int .i64 0) := TySlice.of Try.underlying36 (by kernel_rfl) (by kernel_rfl) (by decide)
instance : TyOne Try.prog 38 := ⟨by kernel_rfl, by kernel_rfl⟩
instance : TyOne Try.prog 39 := ⟨by kernel_rfl, by kernel_rfl⟩
instance : TyOne Try.prog 40 := ⟨by kernel_rfl, by kernel_rfl⟩
instance : TyOne Try.prog 41 := ⟨by kernel_rfl, by kernel_rfl⟩
instance : TyOne Try.prog 42 := ⟨by kernel_rfl, by kernel_rfl⟩
instance : TyOne Try.prog 43 := ⟨by kernel_rfl, by kernel_rfl⟩
instance : TyOne Try.prog 44 := ⟨by kernel_rfl, by kernel_rfl⟩
instance : TyOne Try.prog 45 := ⟨by kernel_rfl, by kernel_rfl⟩
instance : TyOne Try.prog 46 := ⟨by kernel_rfl, by kernel_rfl⟩
instance : TyOne Try.prog 48 := ⟨by kernel_rfl, by kernel_rfl⟩
instance : TyOne Try.prog 49 := ⟨by kernel_rfl, by kernel_rfl⟩
instance : TyOne Try.prog 50 := ⟨by kernel_rfl, by kernel_rfl⟩
instance : TyOne Try.prog 51 := ⟨by kernel_rfl, by kernel_rfl⟩
instance : TyOne Try.prog 52 := ⟨by kernel_rfl, by kernel_rfl⟩
instance : TyZero Try.prog 52 (.slice none 0 0) := ⟨by kernel_rfl⟩
instance : TySlice Try.prog 52 9 1 16 (.string ByteArray.empty) := TySlice.of Try.underlying52 (by kernel_rfl) (by kernel_rfl) (by decide)
instance : TyPtr Try.prog 53 := ⟨_, Try.underlying53⟩
instance : TyOne Try.prog 53 := ⟨by kernel_rfl, by kernel_rfl⟩
instance : TyZero Try.prog 53 (.pointer none) := ⟨by kernel_rfl⟩
instance : TyOne Try.prog 54 := ⟨by kernel_rfl, by kernel_rfl⟩
instance : TyOne Try.prog 55 := ⟨by kernel_rfl, by kernel_rfl⟩
instance : TyOne Try.prog 56 := ⟨by kernel_rfl, by kernel_rfl⟩
instance : TyOne Try.prog 57 := ⟨by kernel_rfl, by kernel_rfl⟩
instance : TyOne Try.prog 59 := ⟨by kernel_rfl, by kernel_rfl⟩
instance : TyOne Try.prog 60 := ⟨by kernel_rfl, by kernel_rfl⟩
instance : TyOne Try.prog 61 := ⟨by kernel_rfl, by kernel_rfl⟩
instance : TyZero Try.prog 61 (.slice none 0 0) := ⟨by kernel_rfl⟩
instance : TySlice Try.prog 61 66 4 40 (.agg #[.int .i64 0, .int .i64 0, .int .i64 0, .string ByteArray.empty]) := TySlice.of Try.underlying61 (by kernel_rfl) (by kernel_rfl) (by decide)
instance : TyPtr Try.prog 62 := ⟨_, Try.underlying62⟩
instance : TyOne Try.prog 62 := ⟨by kernel_rfl, by kernel_rfl⟩
instance : TyZero Try.prog 62 (.pointer none) := ⟨by kernel_rfl⟩
instance : TyOne Try.prog 63 := ⟨by kernel_rfl, by kernel_rfl⟩
instance : TyOne Try.prog 64 := ⟨by kernel_rfl, by kernel_rfl⟩
instance : TyZero Try.prog 64 (.slice none 0 0) := ⟨by kernel_rfl⟩
instance : TySlice Try.prog 64 77 2 24 (.agg #[.int .i64 0, .string ByteArray.empty]) := TySlice.of Try.underlying64 (by kernel_rfl) (by kernel_rfl) (by decide)
instance : TyAgg Try.prog 65 4 := ⟨by kernel_rfl, by kernel_rfl⟩
instance : TyField Try.prog 65 0 0 := ⟨_, _, Try.underlying65, rfl, rfl, by kernel_rfl⟩
instance : TyField Try.prog 65 1 1 := ⟨_, _, Try.underlying65, rfl, rfl, by kernel_rfl⟩
instance : TyField Try.prog 65 2 2 := ⟨_, _, Try.underlying65, rfl, rfl, by kernel_rfl⟩
instance : TyField Try.prog 65 3 3 := ⟨_, _, Try.underlying65, rfl, rfl, by kernel_rfl⟩
instance : TyBuilt Try.prog 65 (fun i => (#[(0, 1), (1, 1), (2, 1), (3, 1)] : Array (Nat × Nat))[i]?) (.agg #[.int .i64 0, .int .i64 0, .int .i64 0, .string ByteArray.empty]) := TyBuilt.struct (ps := [(0, 1), (1, 1), (2, 1), (3, 1)]) Try.underlying65 (by kernel_rfl) (by kernel_rfl)
instance : TyZero Try.prog 65 (.agg #[.int .i64 0, .int .i64 0, .int .i64 0, .string ByteArray.empty]) := ⟨by kernel_rfl⟩
instance : TyAgg Try.prog 66 4 := ⟨by kernel_rfl, by kernel_rfl⟩
instance : TyField Try.prog 66 0 0 := ⟨_, _, Try.underlying66, rfl, rfl, by kernel_rfl⟩
instance : TyField Try.prog 66 1 1 := ⟨_, _, Try.underlying66, rfl, rfl, by kernel_rfl⟩
instance : TyField Try.prog 66 2 2 := ⟨_, _, Try.underlying66, rfl, rfl, by kernel_rfl⟩
instance : TyField Try.prog 66 3 3 := ⟨_, _, Try.underlying66, rfl, rfl, by kernel_rfl⟩
instance : TyBuilt Try.prog 66 (fun i => (#[(0, 1), (1, 1), (2, 1), (3, 1)] : Array (Nat × Nat))[i]?) (.agg #[.int .i64 0, .int .i64 0, .int .i64 0, .string ByteArray.empty]) := TyBuilt.struct (ps := [(0, 1), (1, 1), (2, 1), (3, 1)]) Try.underlying66 (by kernel_rfl) (by kernel_rfl)
instance : TyZero Try.prog 66 (.agg #[.int .i64 0, .int .i64 0, .int .i64 0, .string ByteArray.empty]) := ⟨by kernel_rfl⟩
instance : TyInt Try.prog 67 .u64 := ⟨Try.underlying67⟩
instance : TyOne Try.prog 67 := ⟨by kernel_rfl, by kernel_rfl⟩
instance : TyZero Try.prog 67 (.int .u64 0) := ⟨by kernel_rfl⟩
instance : TyOne Try.prog 69 := ⟨by kernel_rfl, by kernel_rfl⟩
instance : TyOne Try.prog 70 := ⟨by kernel_rfl, by kernel_rfl⟩
instance : TyOne Try.prog 72 := ⟨by kernel_rfl, by kernel_rfl⟩
instance : TyOne Try.prog 73 := ⟨by kernel_rfl, by kernel_rfl⟩
instance : TyOne Try.prog 74 := ⟨by kernel_rfl, by kernel_rfl⟩
instance : TyOne Try.prog 75 := ⟨by kernel_rfl, by kernel_rfl⟩
instance : TyAgg Try.prog 76 2 := ⟨by kernel_rfl, by kernel_rfl⟩
instance : TyField Try.prog 76 0 0 := ⟨_, _, Try.underlying76, rfl, rfl, by kernel_rfl⟩
instance : TyField Try.prog 76 1 1 := ⟨_, _, Try.underlying76, rfl, rfl, by kernel_rfl⟩
instance : TyBuilt Try.prog 76 (fun i => (#[(0, 1), (1, 1)] : Array (Nat × Nat))[i]?) (.agg #[.int .i64 0, .string ByteArray.empty]) := TyBuilt.struct (ps := [(0, 1), (1, 1)]) Try.underlying76 (by kernel_rfl) (by kernel_rfl)
instance : TyZero Try.prog 76 (.agg #[.int .i64 0, .string ByteArray.empty]) := ⟨by kernel_rfl⟩
instance : TyAgg Try.prog 77 2 := ⟨by kernel_rfl, by kernel_rfl⟩
instance : TyField Try.prog 77 0 0 := ⟨_, _, Try.underlying77, rfl, rfl, by kernel_rfl⟩
instance : TyField Try.prog 77 1 1 := ⟨_, _, Try.underlying77, rfl, rfl, by kernel_rfl⟩
instance : TyBuilt Try.prog 77 (fun i => (#[(0, 1), (1, 1)] : Array (Nat × Nat))[i]?) (.agg #[.int .i64 0, .string ByteArray.empty]) := TyBuilt.struct (ps := [(0, 1), (1, 1)]) Try.underlying77 (by kernel_rfl) (by kernel_rfl)
instance : TyZero Try.prog 77 (.agg #[.int .i64 0, .string ByteArray.empty]) := ⟨by kernel_rfl⟩
instance : TyOne Try.prog 78 := ⟨by kernel_rfl, by kernel_rfl⟩
instance : TyOne Try.prog 80 := ⟨by kernel_rfl, by kernel_rfl⟩
instance : TyOne Try.prog 81 := ⟨by kernel_rfl, by kernel_rfl⟩
instance : TyOne Try.prog 82 := ⟨by kernel_rfl, by kernel_rfl⟩
instance : TyOne Try.prog 83 := ⟨by kernel_rfl, by kernel_rfl⟩
instance : TyOne Try.prog 84 := ⟨by kernel_rfl, by kernel_rfl⟩
instance : TyZero Try.prog 84 (.slice none 0 0) := ⟨by kernel_rfl⟩
instance : TySlice Try.prog 84 92 4 48 (.agg #[.int .i64 0, .int .i64 0, .int .i64 0, .slice none 0 0]) := TySlice.of Try.underlying84 (by kernel_rfl) (by kernel_rfl) (by decide)
instance : TyPtr Try.prog 85 := ⟨_, Try.underlying85⟩
instance : TyOne Try.prog 85 := ⟨by kernel_rfl, by kernel_rfl⟩
instance : TyZero Try.prog 85 (.pointer none) := ⟨by kernel_rfl⟩
instance : TyOne Try.prog 87 := ⟨by kernel_rfl, by kernel_rfl⟩
instance : TyOne Try.prog 89 := ⟨by kernel_rfl, by kernel_rfl⟩
instance : TyOne Try.prog 90 := ⟨by kernel_rfl, by kernel_rfl⟩
instance : TyAgg Try.prog 91 4 := ⟨by kernel_rfl, by kernel_rfl⟩
instance : TyField Try.prog 91 0 0 := ⟨_, _, Try.underlying91, rfl, rfl, by kernel_rfl⟩
instance : TyField Try.prog 91 1 1 := ⟨_, _, Try.underlying91, rfl, rfl, by kernel_rfl⟩
instance : TyField Try.prog 91 2 2 := ⟨_, _, Try.underlying91, rfl, rfl, by kernel_rfl⟩
instance : TyField Try.prog 91 3 3 := ⟨_, _, Try.underlying91, rfl, rfl, by kernel_rfl⟩
instance : TyBuilt Try.prog 91 (fun i => (#[(0, 1), (1, 1), (2, 1), (3, 1)] : Array (Nat × Nat))[i]?) (.agg #[.int .i64 0, .int .i64 0, .int .i64 0, .slice none 0 0]) := TyBuilt.struct (ps := [(0, 1), (1, 1), (2, 1), (3, 1)]) Try.underlying91 (by kernel_rfl) (by kernel_rfl)
instance : TyZero Try.prog 91 (.agg #[.int .i64 0, .int .i64 0, .int .i64 0, .slice none 0 0]) := ⟨by kernel_rfl⟩
instance : TyAgg Try.prog 92 4 := ⟨by kernel_rfl, by kernel_rfl⟩
instance : TyField Try.prog 92 0 0 := ⟨_, _, Try.underlying92, rfl, rfl, by kernel_rfl⟩
instance : TyField Try.prog 92 1 1 := ⟨_, _, Try.underlying92, rfl, rfl, by kernel_rfl⟩
instance : TyField Try.prog 92 2 2 := ⟨_, _, Try.underlying92, rfl, rfl, by kernel_rfl⟩
instance : TyField Try.prog 92 3 3 := ⟨_, _, Try.underlying92, rfl, rfl, by kernel_rfl⟩
instance : TyBuilt Try.prog 92 (fun i => (#[(0, 1), (1, 1), (2, 1), (3, 1)] : Array (Nat × Nat))[i]?) (.agg #[.int .i64 0, .int .i64 0, .int .i64 0, .slice none 0 0]) := TyBuilt.struct (ps := [(0, 1), (1, 1), (2, 1), (3, 1)]) Try.underlying92 (by kernel_rfl) (by kernel_rfl)
instance : TyZero Try.prog 92 (.agg #[.int .i64 0, .int .i64 0, .int .i64 0, .slice none 0 0]) := ⟨by kernel_rfl⟩
instance : TyOne Try.prog 93 := ⟨by kernel_rfl, by kernel_rfl⟩
instance : TyOne Try.prog 95 := ⟨by kernel_rfl, by kernel_rfl⟩
instance : TyOne Try.prog 96 := ⟨by kernel_rfl, by kernel_rfl⟩
instance : TyZero Try.prog 96 (.slice none 0 0) := ⟨by kernel_rfl⟩
instance : TySlice Try.prog 96 101 2 32 (.agg #[.int .i64 0, .slice none 0 0]) := TySlice.of Try.underlying96 (by kernel_rfl) (by kernel_rfl) (by decide)
instance : TyOne Try.prog 98 := ⟨by kernel_rfl, by kernel_rfl⟩
instance : TyOne Try.prog 99 := ⟨by kernel_rfl, by kernel_rfl⟩
instance : TyAgg Try.prog 100 2 := ⟨by kernel_rfl, by kernel_rfl⟩
instance : TyField Try.prog 100 0 0 := ⟨_, _, Try.underlying100, rfl, rfl, by kernel_rfl⟩
instance : TyField Try.prog 100 1 1 := ⟨_, _, Try.underlying100, rfl, rfl, by kernel_rfl⟩
instance : TyBuilt Try.prog 100 (fun i => (#[(0, 1), (1, 1)] : Array (Nat × Nat))[i]?) (.agg #[.int .i64 0, .slice none 0 0]) := TyBuilt.struct (ps := [(0, 1), (1, 1)]) Try.underlying100 (by kernel_rfl) (by kernel_rfl)
instance : TyZero Try.prog 100 (.agg #[.int .i64 0, .slice none 0 0]) := ⟨by kernel_rfl⟩
instance : TyAgg Try.prog 101 2 := ⟨by kernel_rfl, by kernel_rfl⟩
instance : TyField Try.prog 101 0 0 := ⟨_, _, Try.underlying101, rfl, rfl, by kernel_rfl⟩
instance : TyField Try.prog 101 1 1 := ⟨_, _, Try.underlying101, rfl, rfl, by kernel_rfl⟩
instance : TyBuilt Try.prog 101 (fun i => (#[(0, 1), (1, 1)] : Array (Nat × Nat))[i]?) (.agg #[.int .i64 0, .slice none 0 0]) := TyBuilt.struct (ps := [(0, 1), (1, 1)]) Try.underlying101 (by kernel_rfl) (by kernel_rfl)
instance : TyZero Try.prog 101 (.agg #[.int .i64 0, .slice none 0 0]) := ⟨by kernel_rfl⟩
instance : TyOne Try.prog 102 := ⟨by kernel_rfl, by kernel_rfl⟩
instance : TyOne Try.prog 103 := ⟨by kernel_rfl, by kernel_rfl⟩
instance : TyZero Try.prog 103 (.slice none 0 0) := ⟨by kernel_rfl⟩
instance : TySlice Try.prog 103 118 2 32 (.agg #[.int .i64 0, .slice none 0 0]) := TySlice.of Try.underlying103 (by kernel_rfl) (by kernel_rfl) (by decide)
instance : TyAgg Try.prog 104 3 := ⟨by kernel_rfl, by kernel_rfl⟩
instance : TyField Try.prog 104 0 0 := ⟨_, _, Try.underlying104, rfl, rfl, by kernel_rfl⟩
instance : TyField Try.prog 104 1 1 := ⟨_, _, Try.underlying104, rfl, rfl, by kernel_rfl⟩
instance : TyField Try.prog 104 2 2 := ⟨_, _, Try.underlying104, rfl, rfl, by kernel_rfl⟩
instance : TyBuilt Try.prog 104 (fun i => (#[(0, 1), (1, 1), (2, 1)] : Array (Nat × Nat))[i]?) (.agg #[.int .i64 0, .int .i64 0, .slice none 0 0]) := TyBuilt.struct (ps := [(0, 1), (1, 1), (2, 1)]) Try.underlying104 (by kernel_rfl) (by kernel_rfl)
instance : TyZero Try.prog 104 (.agg #[.int .i64 0, .int .i64 0, .slice none 0 0]) := ⟨by kernel_rfl⟩
instance : TyAgg Try.prog 105 3 := ⟨by kernel_rfl, by kernel_rfl⟩
instance : TyField Try.prog 105 0 0 := ⟨_, _, Try.underlying105, rfl, rfl, by kernel_rfl⟩
instance : TyField Try.prog 105 1 1 := ⟨_, _, Try.underlying105, rfl, rfl, by kernel_rfl⟩
instance : TyField Try.prog 105 2 2 := ⟨_, _, Try.underlying105, rfl, rfl, by kernel_rfl⟩
instance : TyBuilt Try.prog 105 (fun i => (#[(0, 1), (1, 1), (2, 1)] : Array (Nat × Nat))[i]?) (.agg #[.int .i64 0, .int .i64 0, .slice none 0 0]) := TyBuilt.struct (ps := [(0, 1), (1, 1), (2, 1)]) Try.underlying105 (by kernel_rfl) (by kernel_rfl)
instance : TyZero Try.prog 105 (.agg #[.int .i64 0, .int .i64 0, .slice none 0 0]) := ⟨by kernel_rfl⟩
instance : TyOne Try.prog 106 := ⟨by kernel_rfl, by kernel_rfl⟩
instance : TyOne Try.prog 108 := ⟨by kernel_rfl, by kernel_rfl⟩
instance : TyOne Try.prog 110 := ⟨by kernel_rfl, by kernel_rfl⟩
instance : TyOne Try.prog 112 := ⟨by kernel_rfl, by kernel_rfl⟩
instance : TyOne Try.prog 114 := ⟨by kernel_rfl, by kernel_rfl⟩
instance : TyOne Try.prog 115 := ⟨by kernel_rfl, by kernel_rfl⟩
instance : TyOne Try.prog 116 := ⟨by kernel_rfl, by kernel_rfl⟩
instance : TyAgg Try.prog 117 2 := ⟨by kernel_rfl, by kernel_rfl⟩
instance : TyField Try.prog 117 0 0 := ⟨_, _, Try.underlying117, rfl, rfl, by kernel_rfl⟩
instance : TyField Try.prog 117 1 1 := ⟨_, _, Try.underlying117, rfl, rfl, by kernel_rfl⟩
instance : TyBuilt Try.prog 117 (fun i => (#[(0, 1), (1, 1)] : Array (Nat × Nat))[i]?) (.agg #[.int .i64 0, .slice none 0 0]) := TyBuilt.struct (ps := [(0, 1), (1, 1)]) Try.underlying117 (by kernel_rfl) (by kernel_rfl)
instance : TyZero Try.prog 117 (.agg #[.int .i64 0, .slice none 0 0]) := ⟨by kernel_rfl⟩
instance : TyAgg Try.prog 118 2 := ⟨by kernel_rfl, by kernel_rfl⟩
instance : TyField Try.prog 118 0 0 := ⟨_, _, Try.underlying118, rfl, rfl, by kernel_rfl⟩
instance : TyField Try.prog 118 1 1 := ⟨_, _, Try.underlying118, rfl, rfl, by kernel_rfl⟩
instance : TyBuilt Try.prog 118 (fun i => (#[(0, 1), (1, 1)] : Array (Nat × Nat))[i]?) (.agg #[.int .i64 0, .slice none 0 0]) := TyBuilt.struct (ps := [(0, 1), (1, 1)]) Try.underlying118 (by kernel_rfl) (by kernel_rfl)
instance : TyZero Try.prog 118 (.agg #[.int .i64 0, .slice none 0 0]) := ⟨by kernel_rfl⟩
instance : TyOne Try.prog 119 := ⟨by kernel_rfl, by kernel_rfl⟩
instance : TyAgg Try.prog 120 7 := ⟨by kernel_rfl, by kernel_rfl⟩
instance : TyField Try.prog 120 0 0 := ⟨_, _, Try.underlying120, rfl, rfl, by kernel_rfl⟩
instance : TyField Try.prog 120 1 1 := ⟨_, _, Try.underlying120, rfl, rfl, by kernel_rfl⟩
instance : TyField Try.prog 120 2 2 := ⟨_, _, Try.underlying120, rfl, rfl, by kernel_rfl⟩
instance : TyField Try.prog 120 3 3 := ⟨_, _, Try.underlying120, rfl, rfl, by kernel_rfl⟩
instance : TyField Try.prog 120 4 4 := ⟨_, _, Try.underlying120, rfl, rfl, by kernel_rfl⟩
instance : TyField Try.prog 120 5 5 := ⟨_, _, Try.underlying120, rfl, rfl, by kernel_rfl⟩
instance : TyField Try.prog 120 6 6 := ⟨_, _, Try.underlying120, rfl, rfl, by kernel_rfl⟩
instance : TyBuilt Try.prog 120 (fun i => (#[(0, 1), (1, 1), (2, 1), (3, 1), (4, 1), (5, 1), (6, 1)] : Array (Nat × Nat))[i]?) (.agg #[.int .i64 0, .int .i64 0, .int .i64 0, .int .i64 0, .int .i64 0, .int .i64 0, .int .i64 0]) := TyBuilt.struct (ps := [(0, 1), (1, 1), (2, 1), (3, 1), (4, 1), (5, 1), (6, 1)]) Try.underlying120 (by kernel_rfl) (by kernel_rfl)
instance : TyZero Try.prog 120 (.agg #[.int .i64 0, .int .i64 0, .int .i64 0, .int .i64 0, .int .i64 0, .int .i64 0, .int .i64 0]) := ⟨by kernel_rfl⟩
instance : TyAgg Try.prog 121 7 := ⟨by kernel_rfl, by kernel_rfl⟩
instance : TyField Try.prog 121 0 0 := ⟨_, _, Try.underlying121, rfl, rfl, by kernel_rfl⟩
instance : TyField Try.prog 121 1 1 := ⟨_, _, Try.underlying121, rfl, rfl, by kernel_rfl⟩
instance : TyField Try.prog 121 2 2 := ⟨_, _, Try.underlying121, rfl, rfl, by kernel_rfl⟩
instance : TyField Try.prog 121 3 3 := ⟨_, _, Try.underlying121, rfl, rfl, by kernel_rfl⟩
instance : TyField Try.prog 121 4 4 := ⟨_, _, Try.underlying121, rfl, rfl, by kernel_rfl⟩
instance : TyField Try.prog 121 5 5 := ⟨_, _, Try.underlying121, rfl, rfl, by kernel_rfl⟩
instance : TyField Try.prog 121 6 6 := ⟨_, _, Try.underlying121, rfl, rfl, by kernel_rfl⟩
instance : TyBuilt Try.prog 121 (fun i => (#[(0, 1), (1, 1), (2, 1), (3, 1), (4, 1), (5, 1), (6, 1)] : Array (Nat × Nat))[i]?) (.agg #[.int .i64 0, .int .i64 0, .int .i64 0, .int .i64 0, .int .i64 0, .int .i64 0, .int .i64 0]) := TyBuilt.struct (ps := [(0, 1), (1, 1), (2, 1), (3, 1), (4, 1), (5, 1), (6, 1)]) Try.underlying121 (by kernel_rfl) (by kernel_rfl)
instance : TyZero Try.prog 121 (.agg #[.int .i64 0, .int .i64 0, .int .i64 0, .int .i64 0, .int .i64 0, .int .i64 0, .int .i64 0]) := ⟨by kernel_rfl⟩
instance : TyOne Try.prog 122 := ⟨by kernel_rfl, by kernel_rfl⟩
instance : TyOne Try.prog 123 := ⟨by kernel_rfl, by kernel_rfl⟩
instance : TyOne Try.prog 125 := ⟨by kernel_rfl, by kernel_rfl⟩
instance : TyOne Try.prog 127 := ⟨by kernel_rfl, by kernel_rfl⟩
instance : TyOne Try.prog 128 := ⟨by kernel_rfl, by kernel_rfl⟩
instance : TyOne Try.prog 129 := ⟨by kernel_rfl, by kernel_rfl⟩
instance : TyOne Try.prog 130 := ⟨by kernel_rfl, by kernel_rfl⟩
instance : TyZero Try.prog 130 (.slice none 0 0) := ⟨by kernel_rfl⟩
instance : TySlice Try.prog 130 121 7 56 (.agg #[.int .i64 0, .int .i64 0, .int .i64 0, .int .i64 0, .int .i64 0, .int .i64 0, .int .i64 0]) := TySlice.of Try.underlying130 (by kernel_rfl) (by kernel_rfl) (by decide)
instance : TyPtr Try.prog 131 := ⟨_, Try.underlying131⟩
instance : TyOne Try.prog 131 := ⟨by kernel_rfl, by kernel_rfl⟩
instance : TyZero Try.prog 131 (.pointer none) := ⟨by kernel_rfl⟩
instance : TyOne Try.prog 133 := ⟨by kernel_rfl, by kernel_rfl⟩
instance : TyOne Try.prog 134 := ⟨by kernel_rfl, by kernel_rfl⟩
instance : TyOne Try.prog 135 := ⟨by kernel_rfl, by kernel_rfl⟩
instance : TyOne Try.prog 136 := ⟨by kernel_rfl, by kernel_rfl⟩
instance : TyOne Try.prog 137 := ⟨by kernel_rfl, by kernel_rfl⟩
instance : TyOne Try.prog 138 := ⟨by kernel_rfl, by kernel_rfl⟩
instance : TyZero Try.prog 138 (.slice none 0 0) := ⟨by kernel_rfl⟩
instance : TySlice Try.prog 138 4 1 1 (.bool false) := TySlice.of Try.underlying138 (by kernel_rfl) (by kernel_rfl) (by decide)
instance : TyOne Try.prog 139 := ⟨by kernel_rfl, by kernel_rfl⟩
instance : TyOne Try.prog 140 := ⟨by kernel_rfl, by kernel_rfl⟩
instance : TyOne Try.prog 141 := ⟨by kernel_rfl, by kernel_rfl⟩
instance : TyAgg Try.prog 142 4 := ⟨by kernel_rfl, by kernel_rfl⟩
instance : TyField Try.prog 142 0 0 := ⟨_, _, Try.underlying142, rfl, rfl, by kernel_rfl⟩
instance : TyField Try.prog 142 1 1 := ⟨_, _, Try.underlying142, rfl, rfl, by kernel_rfl⟩
instance : TyField Try.prog 142 2 2 := ⟨_, _, Try.underlying142, rfl, rfl, by kernel_rfl⟩
instance : TyField Try.prog 142 3 3 := ⟨_, _, Try.underlying142, rfl, rfl, by kernel_rfl⟩
instance : TyBuilt Try.prog 142 (fun i => (#[(0, 1), (1, 1), (2, 1), (3, 1)] : Array (Nat × Nat))[i]?) (.agg #[.int .i64 0, .int .i64 0, .int .i64 0, .slice none 0 0]) := TyBuilt.struct (ps := [(0, 1), (1, 1), (2, 1), (3, 1)]) Try.underlying142 (by kernel_rfl) (by kernel_rfl)
instance : TyZero Try.prog 142 (.agg #[.int .i64 0, .int .i64 0, .int .i64 0, .slice none 0 0]) := ⟨by kernel_rfl⟩
instance : TyAgg Try.prog 143 4 := ⟨by kernel_rfl, by kernel_rfl⟩
instance : TyField Try.prog 143 0 0 := ⟨_, _, Try.underlying143, rfl, rfl, by kernel_rfl⟩
instance : TyField Try.prog 143 1 1 := ⟨_, _, Try.underlying143, rfl, rfl, by kernel_rfl⟩
instance : TyField Try.prog 143 2 2 := ⟨_, _, Try.underlying143, rfl, rfl, by kernel_rfl⟩
instance : TyField Try.prog 143 3 3 := ⟨_, _, Try.underlying143, rfl, rfl, by kernel_rfl⟩
instance : TyBuilt Try.prog 143 (fun i => (#[(0, 1), (1, 1), (2, 1), (3, 1)] : Array (Nat × Nat))[i]?) (.agg #[.int .i64 0, .int .i64 0, .int .i64 0, .slice none 0 0]) := TyBuilt.struct (ps := [(0, 1), (1, 1), (2, 1), (3, 1)]) Try.underlying143 (by kernel_rfl) (by kernel_rfl)
instance : TyZero Try.prog 143 (.agg #[.int .i64 0, .int .i64 0, .int .i64 0, .slice none 0 0]) := ⟨by kernel_rfl⟩
instance : TyOne Try.prog 144 := ⟨by kernel_rfl, by kernel_rfl⟩
instance : TyOne Try.prog 145 := ⟨by kernel_rfl, by kernel_rfl⟩
instance : TyOne Try.prog 146 := ⟨by kernel_rfl, by kernel_rfl⟩
instance : TyOne Try.prog 148 := ⟨by kernel_rfl, by kernel_rfl⟩
instance : TyOne Try.prog 150 := ⟨by kernel_rfl, by kernel_rfl⟩
instance : TyOne Try.prog 151 := ⟨by kernel_rfl, by kernel_rfl⟩
instance : TyOne Try.prog 152 := ⟨by kernel_rfl, by kernel_rfl⟩
instance : TyOne Try.prog 153 := ⟨by kernel_rfl, by kernel_rfl⟩
instance : TyOne Try.prog 154 := ⟨by kernel_rfl, by kernel_rfl⟩
instance : TyZero Try.prog 154 (.slice none 0 0) := ⟨by kernel_rfl⟩
instance : TySlice Try.prog 154 96 1 24 (.slice none 0 0) := TySlice.of Try.underlying154 (by kernel_rfl) (by kernel_rfl) (by decide)
instance : TyOne Try.prog 155 := ⟨by kernel_rfl, by kernel_rfl⟩
instance : TyOne Try.prog 156 := ⟨by kernel_rfl, by kernel_rfl⟩
instance : TyOne Try.prog 157 := ⟨by kernel_rfl, by kernel_rfl⟩
instance : TyOne Try.prog 158 := ⟨by kernel_rfl, by kernel_rfl⟩
instance : TyOne Try.prog 159 := ⟨by kernel_rfl, by kernel_rfl⟩
instance : TyOne Try.prog 160 := ⟨by kernel_rfl, by kernel_rfl⟩
instance : TyOne Try.prog 161 := ⟨by kernel_rfl, by kernel_rfl⟩
instance : TyOne Try.prog 162 := ⟨by kernel_rfl, by kernel_rfl⟩
instance : TyZero Try.prog 162 (.slice none 0 0) := ⟨by kernel_rfl⟩
instance : TySlice Try.prog 162 167 1 8 (.pointer none) := TySlice.of Try.underlying162 (by kernel_rfl) (by kernel_rfl) (by decide)
instance : TyAgg Try.prog 163 1 := ⟨by kernel_rfl, by kernel_rfl⟩
instance : TyField Try.prog 163 0 0 := ⟨_, _, Try.underlying163, rfl, rfl, by kernel_rfl⟩
instance : TyBuilt Try.prog 163 (fun i => (#[(0, 1)] : Array (Nat × Nat))[i]?) (.agg #[.slice none 0 0]) := TyBuilt.struct (ps := [(0, 1)]) Try.underlying163 (by kernel_rfl) (by kernel_rfl)
instance : TyZero Try.prog 163 (.agg #[.slice none 0 0]) := ⟨by kernel_rfl⟩
instance : TyAgg Try.prog 164 1 := ⟨by kernel_rfl, by kernel_rfl⟩
instance : TyField Try.prog 164 0 0 := ⟨_, _, Try.underlying164, rfl, rfl, by kernel_rfl⟩
instance : TyBuilt Try.prog 164 (fun i => (#[(0, 1)] : Array (Nat × Nat))[i]?) (.agg #[.slice none 0 0]) := TyBuilt.struct (ps := [(0, 1)]) Try.underlying164 (by kernel_rfl) (by kernel_rfl)
instance : TyZero Try.prog 164 (.agg #[.slice none 0 0]) := ⟨by kernel_rfl⟩
instance : TyAgg Try.prog 165 64 := ⟨by kernel_rfl, by kernel_rfl⟩
instance : TyArr Try.prog 165 64 5 1 := ⟨Try.underlying165, by kernel_rfl⟩
instance : TyBuilt Try.prog 165 (fun i => some (i * 1, 1)) (.agg (Array.replicate 64 (.int .u8 0))) := TyBuilt.array Try.underlying165 (by kernel_rfl) (by kernel_rfl)
instance : TyZero Try.prog 165 (.agg (Array.replicate 64 (.int .u8 0))) := ⟨by kernel_rfl⟩
instance : TyAgg Try.prog 166 64 := ⟨by kernel_rfl, by kernel_rfl⟩
instance : TyArr Try.prog 166 64 5 1 := ⟨Try.underlying166, by kernel_rfl⟩
instance : TyBuilt Try.prog 166 (fun i => some (i * 1, 1)) (.agg (Array.replicate 64 (.int .u8 0))) := TyBuilt.array Try.underlying166 (by kernel_rfl) (by kernel_rfl)
instance : TyZero Try.prog 166 (.agg (Array.replicate 64 (.int .u8 0))) := ⟨by kernel_rfl⟩
instance : TyPtr Try.prog 167 := ⟨_, Try.underlying167⟩
instance : TyOne Try.prog 167 := ⟨by kernel_rfl, by kernel_rfl⟩
instance : TyZero Try.prog 167 (.pointer none) := ⟨by kernel_rfl⟩
instance : TyOne Try.prog 168 := ⟨by kernel_rfl, by kernel_rfl⟩
instance : TyOne Try.prog 169 := ⟨by kernel_rfl, by kernel_rfl⟩
instance : TyOne Try.prog 170 := ⟨by kernel_rfl, by kernel_rfl⟩
instance : TyOne Try.prog 171 := ⟨by kernel_rfl, by kernel_rfl⟩
instance : TyOne Try.prog 172 := ⟨by kernel_rfl, by kernel_rfl⟩
instance : TyOne Try.prog 173 := ⟨by kernel_rfl, by kernel_rfl⟩
instance : TyOne Try.prog 174 := ⟨by kernel_rfl, by kernel_rfl⟩
instance : TyOne Try.prog 175 := ⟨by kernel_rfl, by kernel_rfl⟩
instance : TyOne Try.prog 176 := ⟨by kernel_rfl, by kernel_rfl⟩
instance : TyOne Try.prog 177 := ⟨by kernel_rfl, by kernel_rfl⟩
instance : TyOne Try.prog 178 := ⟨by kernel_rfl, by kernel_rfl⟩
instance : TyZero Try.prog 178 (.slice none 0 0) := ⟨by kernel_rfl⟩
instance : TySlice Try.prog 178 182 2 24 (.agg #[.string ByteArray.empty, .int .i64 0]) := TySlice.of Try.underlying178 (by kernel_rfl) (by kernel_rfl) (by decide)
instance : TyAgg Try.prog 179 1 := ⟨by kernel_rfl, by kernel_rfl⟩
instance : TyField Try.prog 179 0 0 := ⟨_, _, Try.underlying179, rfl, rfl, by kernel_rfl⟩
instance : TyBuilt Try.prog 179 (fun i => (#[(0, 1)] : Array (Nat × Nat))[i]?) (.agg #[.slice none 0 0]) := TyBuilt.struct (ps := [(0, 1)]) Try.underlying179 (by kernel_rfl) (by kernel_rfl)
instance : TyZero Try.prog 179 (.agg #[.slice none 0 0]) := ⟨by kernel_rfl⟩
instance : TyAgg Try.prog 180 1 := ⟨by kernel_rfl, by kernel_rfl⟩
instance : TyField Try.prog 180 0 0 := ⟨_, _, Try.underlying180, rfl, rfl, by kernel_rfl⟩
instance : TyBuilt Try.prog 180 (fun i => (#[(0, 1)] : Array (Nat × Nat))[i]?) (.agg #[.slice none 0 0]) := TyBuilt.struct (ps := [(0, 1)]) Try.underlying180 (by kernel_rfl) (by kernel_rfl)
instance : TyZero Try.prog 180 (.agg #[.slice none 0 0]) := ⟨by kernel_rfl⟩
instance : TyAgg Try.prog 181 2 := ⟨by kernel_rfl, by kernel_rfl⟩
instance : TyField Try.prog 181 0 0 := ⟨_, _, Try.underlying181, rfl, rfl, by kernel_rfl⟩
instance : TyField Try.prog 181 1 1 := ⟨_, _, Try.underlying181, rfl, rfl, by kernel_rfl⟩
instance : TyBuilt Try.prog 181 (fun i => (#[(0, 1), (1, 1)] : Array (Nat × Nat))[i]?) (.agg #[.string ByteArray.empty, .int .i64 0]) := TyBuilt.struct (ps := [(0, 1), (1, 1)]) Try.underlying181 (by kernel_rfl) (by kernel_rfl)
instance : TyZero Try.prog 181 (.agg #[.string ByteArray.empty, .int .i64 0]) := ⟨by kernel_rfl⟩
instance : TyAgg Try.prog 182 2 := ⟨by kernel_rfl, by kernel_rfl⟩
instance : TyField Try.prog 182 0 0 := ⟨_, _, Try.underlying182, rfl, rfl, by kernel_rfl⟩
instance : TyField Try.prog 182 1 1 := ⟨_, _, Try.underlying182, rfl, rfl, by kernel_rfl⟩
instance : TyBuilt Try.prog 182 (fun i => (#[(0, 1), (1, 1)] : Array (Nat × Nat))[i]?) (.agg #[.string ByteArray.empty, .int .i64 0]) := TyBuilt.struct (ps := [(0, 1), (1, 1)]) Try.underlying182 (by kernel_rfl) (by kernel_rfl)
instance : TyZero Try.prog 182 (.agg #[.string ByteArray.empty, .int .i64 0]) := ⟨by kernel_rfl⟩
instance : TyOne Try.prog 183 := ⟨by kernel_rfl, by kernel_rfl⟩
instance : TyOne Try.prog 184 := ⟨by kernel_rfl, by kernel_rfl⟩
instance : TyOne Try.prog 185 := ⟨by kernel_rfl, by kernel_rfl⟩
instance : TyOne Try.prog 186 := ⟨by kernel_rfl, by kernel_rfl⟩
instance : TyOne Try.prog 187 := ⟨by kernel_rfl, by kernel_rfl⟩
instance : TyOne Try.prog 188 := ⟨by kernel_rfl, by kernel_rfl⟩
instance : TyOne Try.prog 189 := ⟨by kernel_rfl, by kernel_rfl⟩
instance : TyZero Try.prog 189 (.slice none 0 0) := ⟨by kernel_rfl⟩
instance : TySlice Try.prog 189 194 2 24 (.agg #[.int .i64 0, .string ByteArray.empty]) := TySlice.of Try.underlying189 (by kernel_rfl) (by kernel_rfl) (by decide)
instance : TyAgg Try.prog 190 1 := ⟨by kernel_rfl, by kernel_rfl⟩
instance : TyField Try.prog 190 0 0 := ⟨_, _, Try.underlying190, rfl, rfl, by kernel_rfl⟩
instance : TyBuilt Try.prog 190 (fun i => (#[(0, 1)] : Array (Nat × Nat))[i]?) (.agg #[.slice none 0 0]) := TyBuilt.struct (ps := [(0, 1)]) Try.underlying190 (by kernel_rfl) (by kernel_rfl)
instance : TyZero Try.prog 190 (.agg #[.slice none 0 0]) := ⟨by kernel_rfl⟩
instance : TyAgg Try.prog 191 1 := ⟨by kernel_rfl, by kernel_rfl⟩
instance : TyField Try.prog 191 0 0 := ⟨_, _, Try.underlying191, rfl, rfl, by kernel_rfl⟩
instance : TyBuilt Try.prog 191 (fun i => (#[(0, 1)] : Array (Nat × Nat))[i]?) (.agg #[.slice none 0 0]) := TyBuilt.struct (ps := [(0, 1)]) Try.underlying191 (by kernel_rfl) (by kernel_rfl)
instance : TyZero Try.prog 191 (.agg #[.slice none 0 0]) := ⟨by kernel_rfl⟩
instance : TyOne Try.prog 192 := ⟨by kernel_rfl, by kernel_rfl⟩
instance : TyAgg Try.prog 193 2 := ⟨by kernel_rfl, by kernel_rfl⟩
instance : TyField Try.prog 193 0 0 := ⟨_, _, Try.underlying193, rfl, rfl, by kernel_rfl⟩
instance : TyField Try.prog 193 1 1 := ⟨_, _, Try.underlying193, rfl, rfl, by kernel_rfl⟩
instance : TyBuilt Try.prog 193 (fun i => (#[(0, 1), (1, 1)] : Array (Nat × Nat))[i]?) (.agg #[.int .i64 0, .string ByteArray.empty]) := TyBuilt.struct (ps := [(0, 1), (1, 1)]) Try.underlying193 (by kernel_rfl) (by kernel_rfl)
instance : TyZero Try.prog 193 (.agg #[.int .i64 0, .string ByteArray.empty]) := ⟨by kernel_rfl⟩
instance : TyAgg Try.prog 194 2 := ⟨by kernel_rfl, by kernel_rfl⟩
instance : TyField Try.prog 194 0 0 := ⟨_, _, Try.underlying194, rfl, rfl, by kernel_rfl⟩
instance : TyField Try.prog 194 1 1 := ⟨_, _, Try.underlying194, rfl, rfl, by kernel_rfl⟩
instance : TyBuilt Try.prog 194 (fun i => (#[(0, 1), (1, 1)] : Array (Nat × Nat))[i]?) (.agg #[.int .i64 0, .string ByteArray.empty]) := TyBuilt.struct (ps := [(0, 1), (1, 1)]) Try.underlying194 (by kernel_rfl) (by kernel_rfl)
instance : TyZero Try.prog 194 (.agg #[.int .i64 0, .string ByteArray.empty]) := ⟨by kernel_rfl⟩
instance : TyOne Try.prog 195 := ⟨by kernel_rfl, by kernel_rfl⟩
instance : TyOne Try.prog 196 := ⟨by kernel_rfl, by kernel_rfl⟩
instance : TyOne Try.prog 198 := ⟨by kernel_rfl, by kernel_rfl⟩
instance : TyOne Try.prog 199 := ⟨by kernel_rfl, by kernel_rfl⟩
instance : TyOne Try.prog 200 := ⟨by kernel_rfl, by kernel_rfl⟩
instance : TyOne Try.prog 201 := ⟨by kernel_rfl, by kernel_rfl⟩
instance : TyOne Try.prog 202 := ⟨by kernel_rfl, by kernel_rfl⟩
instance : TyOne Try.prog 203 := ⟨by kernel_rfl, by kernel_rfl⟩
instance : TyPtr Try.prog 204 := ⟨_, Try.underlying204⟩
instance : TyOne Try.prog 204 := ⟨by kernel_rfl, by kernel_rfl⟩
instance : TyZero Try.prog 204 (.pointer none) := ⟨by kernel_rfl⟩
instance : TyOne Try.prog 205 := ⟨by kernel_rfl, by kernel_rfl⟩
instance : TyAgg Try.prog 206 3 := ⟨by kernel_rfl, by kernel_rfl⟩
instance : TyField Try.prog 206 0 0 := ⟨_, _, Try.underlying206, rfl, rfl, by kernel_rfl⟩
instance : TyField Try.prog 206 1 1 := ⟨_, _, Try.underlying206, rfl, rfl, by kernel_rfl⟩
instance : TyField Try.prog 206 2 2 := ⟨_, _, Try.underlying206, rfl, rfl, by kernel_rfl⟩
instance : TyBuilt Try.prog 206 (fun i => (#[(0, 1), (1, 1), (2, 1)] : Array (Nat × Nat))[i]?) (.agg #[.int .i64 0, .int .i64 0, .pointer none]) := TyBuilt.struct (ps := [(0, 1), (1, 1), (2, 1)]) Try.underlying206 (by kernel_rfl) (by kernel_rfl)
instance : TyZero Try.prog 206 (.agg #[.int .i64 0, .int .i64 0, .pointer none]) := ⟨by kernel_rfl⟩
instance : TyAgg Try.prog 207 3 := ⟨by kernel_rfl, by kernel_rfl⟩
instance : TyField Try.prog 207 0 0 := ⟨_, _, Try.underlying207, rfl, rfl, by kernel_rfl⟩
instance : TyField Try.prog 207 1 1 := ⟨_, _, Try.underlying207, rfl, rfl, by kernel_rfl⟩
instance : TyField Try.prog 207 2 2 := ⟨_, _, Try.underlying207, rfl, rfl, by kernel_rfl⟩
instance : TyBuilt Try.prog 207 (fun i => (#[(0, 1), (1, 1), (2, 1)] : Array (Nat × Nat))[i]?) (.agg #[.int .i64 0, .int .i64 0, .pointer none]) := TyBuilt.struct (ps := [(0, 1), (1, 1), (2, 1)]) Try.underlying207 (by kernel_rfl) (by kernel_rfl)
instance : TyZero Try.prog 207 (.agg #[.int .i64 0, .int .i64 0, .pointer none]) := ⟨by kernel_rfl⟩
instance : TyOne Try.prog 208 := ⟨by kernel_rfl, by kernel_rfl⟩
instance : TyOne Try.prog 209 := ⟨by kernel_rfl, by kernel_rfl⟩
instance : TyOne Try.prog 210 := ⟨by kernel_rfl, by kernel_rfl⟩
instance : TyOne Try.prog 211 := ⟨by kernel_rfl, by kernel_rfl⟩
instance : TyOne Try.prog 212 := ⟨by kernel_rfl, by kernel_rfl⟩
instance : TyAgg Try.prog 213 5 := ⟨by kernel_rfl, by kernel_rfl⟩
instance : TyField Try.prog 213 0 0 := ⟨_, _, Try.underlying213, rfl, rfl, by kernel_rfl⟩
instance : TyField Try.prog 213 1 1 := ⟨_, _, Try.underlying213, rfl, rfl, by kernel_rfl⟩
instance : TyField Try.prog 213 2 2 := ⟨_, _, Try.underlying213, rfl, rfl, by kernel_rfl⟩
instance : TyField Try.prog 213 3 3 := ⟨_, _, Try.underlying213, rfl, rfl, by kernel_rfl⟩
instance : TyField Try.prog 213 4 4 := ⟨_, _, Try.underlying213, rfl, rfl, by kernel_rfl⟩
instance : TyBuilt Try.prog 213 (fun i => (#[(0, 1), (1, 1), (2, 1), (3, 1), (4, 1)] : Array (Nat × Nat))[i]?) (.agg #[.int .i64 0, .int .i64 0, .int .i64 0, .int .i64 0, .slice none 0 0]) := TyBuilt.struct (ps := [(0, 1), (1, 1), (2, 1), (3, 1), (4, 1)]) Try.underlying213 (by kernel_rfl) (by kernel_rfl)
instance : TyZero Try.prog 213 (.agg #[.int .i64 0, .int .i64 0, .int .i64 0, .int .i64 0, .slice none 0 0]) := ⟨by kernel_rfl⟩
instance : TyAgg Try.prog 214 5 := ⟨by kernel_rfl, by kernel_rfl⟩
instance : TyField Try.prog 214 0 0 := ⟨_, _, Try.underlying214, rfl, rfl, by kernel_rfl⟩
instance : TyField Try.prog 214 1 1 := ⟨_, _, Try.underlying214, rfl, rfl, by kernel_rfl⟩
instance : TyField Try.prog 214 2 2 := ⟨_, _, Try.underlying214, rfl, rfl, by kernel_rfl⟩
instance : TyField Try.prog 214 3 3 := ⟨_, _, Try.underlying214, rfl, rfl, by kernel_rfl⟩
instance : TyField Try.prog 214 4 4 := ⟨_, _, Try.underlying214, rfl, rfl, by kernel_rfl⟩
instance : TyBuilt Try.prog 214 (fun i => (#[(0, 1), (1, 1), (2, 1), (3, 1), (4, 1)] : Array (Nat × Nat))[i]?) (.agg #[.int .i64 0, .int .i64 0, .int .i64 0, .int .i64 0, .slice none 0 0]) := TyBuilt.struct (ps := [(0, 1), (1, 1), (2, 1), (3, 1), (4, 1)]) Try.underlying214 (by kernel_rfl) (by kernel_rfl)
instance : TyZero Try.prog 214 (.agg #[.int .i64 0, .int .i64 0, .int .i64 0, .int .i64 0, .slice none 0 0]) := ⟨by kernel_rfl⟩
instance : TyOne Try.prog 216 := ⟨by kernel_rfl, by kernel_rfl⟩
instance : TyPtr Try.prog 217 := ⟨_, Try.underlying217⟩
instance : TyOne Try.prog 217 := ⟨by kernel_rfl, by kernel_rfl⟩
instance : TyZero Try.prog 217 (.pointer none) := ⟨by kernel_rfl⟩
instance : TyOne Try.prog 218 := ⟨by kernel_rfl, by kernel_rfl⟩
instance : TyOne Try.prog 219 := ⟨by kernel_rfl, by kernel_rfl⟩
instance : TyOne Try.prog 221 := ⟨by kernel_rfl, by kernel_rfl⟩
instance : TyPtr Try.prog 222 := ⟨_, Try.underlying222⟩
instance : TyOne Try.prog 222 := ⟨by kernel_rfl, by kernel_rfl⟩
instance : TyZero Try.prog 222 (.pointer none) := ⟨by kernel_rfl⟩
instance : TyAgg Try.prog 223 2 := ⟨by kernel_rfl, by kernel_rfl⟩
instance : TyField Try.prog 223 0 0 := ⟨_, _, Try.underlying223, rfl, rfl, by kernel_rfl⟩
instance : TyField Try.prog 223 1 1 := ⟨_, _, Try.underlying223, rfl, rfl, by kernel_rfl⟩
instance : TyBuilt Try.prog 223 (fun i => (#[(0, 1), (1, 1)] : Array (Nat × Nat))[i]?) (.agg #[.string ByteArray.empty, .int .i64 0]) := TyBuilt.struct (ps := [(0, 1), (1, 1)]) Try.underlying223 (by kernel_rfl) (by kernel_rfl)
instance : TyZero Try.prog 223 (.agg #[.string ByteArray.empty, .int .i64 0]) := ⟨by kernel_rfl⟩
instance : TyAgg Try.prog 224 2 := ⟨by kernel_rfl, by kernel_rfl⟩
instance : TyField Try.prog 224 0 0 := ⟨_, _, Try.underlying224, rfl, rfl, by kernel_rfl⟩
instance : TyField Try.prog 224 1 1 := ⟨_, _, Try.underlying224, rfl, rfl, by kernel_rfl⟩
instance : TyBuilt Try.prog 224 (fun i => (#[(0, 1), (1, 1)] : Array (Nat × Nat))[i]?) (.agg #[.string ByteArray.empty, .int .i64 0]) := TyBuilt.struct (ps := [(0, 1), (1, 1)]) Try.underlying224 (by kernel_rfl) (by kernel_rfl)
instance : TyZero Try.prog 224 (.agg #[.string ByteArray.empty, .int .i64 0]) := ⟨by kernel_rfl⟩
instance : TyOne Try.prog 225 := ⟨by kernel_rfl, by kernel_rfl⟩
instance : TyPtr Try.prog 226 := ⟨_, Try.underlying226⟩
instance : TyOne Try.prog 226 := ⟨by kernel_rfl, by kernel_rfl⟩
instance : TyZero Try.prog 226 (.pointer none) := ⟨by kernel_rfl⟩
instance : TyAgg Try.prog 227 1 := ⟨by kernel_rfl, by kernel_rfl⟩
instance : TyField Try.prog 227 0 0 := ⟨_, _, Try.underlying227, rfl, rfl, by kernel_rfl⟩
instance : TyBuilt Try.prog 227 (fun i => (#[(0, 1)] : Array (Nat × Nat))[i]?) (.agg #[.slice none 0 0]) := TyBuilt.struct (ps := [(0, 1)]) Try.underlying227 (by kernel_rfl) (by kernel_rfl)
instance : TyZero Try.prog 227 (.agg #[.slice none 0 0]) := ⟨by kernel_rfl⟩
instance : TyAgg Try.prog 228 1 := ⟨by kernel_rfl, by kernel_rfl⟩
instance : TyField Try.prog 228 0 0 := ⟨_, _, Try.underlying228, rfl, rfl, by kernel_rfl⟩
instance : TyBuilt Try.prog 228 (fun i => (#[(0, 1)] : Array (Nat × Nat))[i]?) (.agg #[.slice none 0 0]) := TyBuilt.struct (ps := [(0, 1)]) Try.underlying228 (by kernel_rfl) (by kernel_rfl)
instance : TyZero Try.prog 228 (.agg #[.slice none 0 0]) := ⟨by kernel_rfl⟩
instance : TyOne Try.prog 229 := ⟨by kernel_rfl, by kernel_rfl⟩
instance : TyAgg Try.prog 230 3 := ⟨by kernel_rfl, by kernel_rfl⟩
instance : TyArr Try.prog 230 3 3 1 := ⟨Try.underlying230, by kernel_rfl⟩
instance : TyBuilt Try.prog 230 (fun i => some (i * 1, 1)) (.agg #[.int .i64 0, .int .i64 0, .int .i64 0]) := TyBuilt.array Try.underlying230 (by kernel_rfl) (by kernel_rfl)
instance : TyZero Try.prog 230 (.agg #[.int .i64 0, .int .i64 0, .int .i64 0]) := ⟨by kernel_rfl⟩
instance : TyOne Try.prog 231 := ⟨by kernel_rfl, by kernel_rfl⟩
instance : TyOne Try.prog 232 := ⟨by kernel_rfl, by kernel_rfl⟩
instance : TyZero Try.prog 232 (.slice none 0 0) := ⟨by kernel_rfl⟩
instance : TySlice Try.prog 232 238 65 72 (.agg #[.int .i64 0, .int .u8 0, .int .u8 0, .int .u8 0, .int .u8 0, .int .u8 0, .int .u8 0, .int .u8 0, .int .u8 0, .int .u8 0, .int .u8 0, .int .u8 0, .int .u8 0, .int .u8 0, .int .u8 0, .int .u8 0, .int .u8 0, .int .u8 0, .int .u8 0, .int .u8 0, .int .u8 0, .int .u8 0, .int .u8 0, .int .u8 0, .int .u8 0, .int .u8 0, .int .u8 0, .int .u8 0, .int .u8 0, .int .u8 0, .int .u8 0, .int .u8 0, .int .u8 0, .int .u8 0, .int .u8 0, .int .u8 0, .int .u8 0, .int .u8 0, .int .u8 0, .int .u8 0, .int .u8 0, .int .u8 0, .int .u8 0, .int .u8 0, .int .u8 0, .int .u8 0, .int .u8 0, .int .u8 0, .int .u8 0, .int .u8 0, .int .u8 0, .int .u8 0, .int .u8 0, .int .u8 0, .int .u8 0, .int .u8 0, .int .u8 0, .int .u8 0, .int .u8 0, .int .u8 0, .int .u8 0, .int .u8 0, .int .u8 0, .int .u8 0, .int .u8 0]) := TySlice.of Try.underlying232 (by kernel_rfl) (by kernel_rfl) (by decide)
instance : TyAgg Try.prog 233 5 := ⟨by kernel_rfl, by kernel_rfl⟩
instance : TyField Try.prog 233 0 0 := ⟨_, _, Try.underlying233, rfl, rfl, by kernel_rfl⟩
instance : TyField Try.prog 233 1 1 := ⟨_, _, Try.underlying233, rfl, rfl, by kernel_rfl⟩
instance : TyField Try.prog 233 2 2 := ⟨_, _, Try.underlying233, rfl, rfl, by kernel_rfl⟩
instance : TyField Try.prog 233 3 3 := ⟨_, _, Try.underlying233, rfl, rfl, by kernel_rfl⟩
instance : TyField Try.prog 233 4 4 := ⟨_, _, Try.underlying233, rfl, rfl, by kernel_rfl⟩
instance : TyBuilt Try.prog 233 (fun i => (#[(0, 1), (1, 1), (2, 1), (3, 1), (4, 1)] : Array (Nat × Nat))[i]?) (.agg #[.slice none 0 0, .slice none 0 0, .int .i64 0, .int .i64 0, .bool false]) := TyBuilt.struct (ps := [(0, 1), (1, 1), (2, 1), (3, 1), (4, 1)]) Try.underlying233 (by kernel_rfl) (by kernel_rfl)
instance : TyZero Try.prog 233 (.agg #[.slice none 0 0, .slice none 0 0, .int .i64 0, .int .i64 0, .bool false]) := ⟨by kernel_rfl⟩
instance : TyAgg Try.prog 234 5 := ⟨by kernel_rfl, by kernel_rfl⟩
instance : TyField Try.prog 234 0 0 := ⟨_, _, Try.underlying234, rfl, rfl, by kernel_rfl⟩
instance : TyField Try.prog 234 1 1 := ⟨_, _, Try.underlying234, rfl, rfl, by kernel_rfl⟩
instance : TyField Try.prog 234 2 2 := ⟨_, _, Try.underlying234, rfl, rfl, by kernel_rfl⟩
instance : TyField Try.prog 234 3 3 := ⟨_, _, Try.underlying234, rfl, rfl, by kernel_rfl⟩
instance : TyField Try.prog 234 4 4 := ⟨_, _, Try.underlying234, rfl, rfl, by kernel_rfl⟩
instance : TyBuilt Try.prog 234 (fun i => (#[(0, 1), (1, 1), (2, 1), (3, 1), (4, 1)] : Array (Nat × Nat))[i]?) (.agg #[.slice none 0 0, .slice none 0 0, .int .i64 0, .int .i64 0, .bool false]) := TyBuilt.struct (ps := [(0, 1), (1, 1), (2, 1), (3, 1), (4, 1)]) Try.underlying234 (by kernel_rfl) (by kernel_rfl)
instance : TyZero Try.prog 234 (.agg #[.slice none 0 0, .slice none 0 0, .int .i64 0, .int .i64 0, .bool false]) := ⟨by kernel_rfl⟩
instance : TyOne Try.prog 235 := ⟨by kernel_rfl, by kernel_rfl⟩
instance : TyOne Try.prog 236 := ⟨by kernel_rfl, by kernel_rfl⟩
instance : TyAgg Try.prog 237 65 := ⟨by kernel_rfl, by kernel_rfl⟩
instance : TyField Try.prog 237 0 0 := ⟨_, _, Try.underlying237, rfl, rfl, by kernel_rfl⟩
instance : TyField Try.prog 237 1 1 := ⟨_, _, Try.underlying237, rfl, rfl, by kernel_rfl⟩
instance : TyBuilt Try.prog 237 (fun i => (#[(0, 1), (1, 64)] : Array (Nat × Nat))[i]?) (.agg #[.int .i64 0, .int .u8 0, .int .u8 0, .int .u8 0, .int .u8 0, .int .u8 0, .int .u8 0, .int .u8 0, .int .u8 0, .int .u8 0, .int .u8 0, .int .u8 0, .int .u8 0, .int .u8 0, .int .u8 0, .int .u8 0, .int .u8 0, .int .u8 0, .int .u8 0, .int .u8 0, .int .u8 0, .int .u8 0, .int .u8 0, .int .u8 0, .int .u8 0, .int .u8 0, .int .u8 0, .int .u8 0, .int .u8 0, .int .u8 0, .int .u8 0, .int .u8 0, .int .u8 0, .int .u8 0, .int .u8 0, .int .u8 0, .int .u8 0, .int .u8 0, .int .u8 0, .int .u8 0, .int .u8 0, .int .u8 0, .int .u8 0, .int .u8 0, .int .u8 0, .int .u8 0, .int .u8 0, .int .u8 0, .int .u8 0, .int .u8 0, .int .u8 0, .int .u8 0, .int .u8 0, .int .u8 0, .int .u8 0, .int .u8 0, .int .u8 0, .int .u8 0, .int .u8 0, .int .u8 0, .int .u8 0, .int .u8 0, .int .u8 0, .int .u8 0, .int .u8 0]) := TyBuilt.struct (ps := [(0, 1), (1, 64)]) Try.underlying237 (by kernel_rfl) (by kernel_rfl)
instance : TyZero Try.prog 237 (.agg #[.int .i64 0, .int .u8 0, .int .u8 0, .int .u8 0, .int .u8 0, .int .u8 0, .int .u8 0, .int .u8 0, .int .u8 0, .int .u8 0, .int .u8 0, .int .u8 0, .int .u8 0, .int .u8 0, .int .u8 0, .int .u8 0, .int .u8 0, .int .u8 0, .int .u8 0, .int .u8 0, .int .u8 0, .int .u8 0, .int .u8 0, .int .u8 0, .int .u8 0, .int .u8 0, .int .u8 0, .int .u8 0, .int .u8 0, .int .u8 0, .int .u8 0, .int .u8 0, .int .u8 0, .int .u8 0, .int .u8 0, .int .u8 0, .int .u8 0, .int .u8 0, .int .u8 0, .int .u8 0, .int .u8 0, .int .u8 0, .int .u8 0, .int .u8 0, .int .u8 0, .int .u8 0, .int .u8 0, .int .u8 0, .int .u8 0, .int .u8 0, .int .u8 0, .int .u8 0, .int .u8 0, .int .u8 0, .int .u8 0, .int .u8 0, .int .u8 0, .int .u8 0, .int .u8 0, .int .u8 0, .int .u8 0, .int .u8 0, .int .u8 0, .int .u8 0, .int .u8 0]) := ⟨by kernel_rfl⟩
instance : TyAgg Try.prog 238 65 := ⟨by kernel_rfl, by kernel_rfl⟩
instance : TyField Try.prog 238 0 0 := ⟨_, _, Try.underlying238, rfl, rfl, by kernel_rfl⟩
instance : TyField Try.prog 238 1 1 := ⟨_, _, Try.underlying238, rfl, rfl, by kernel_rfl⟩
instance : TyBuilt Try.prog 238 (fun i => (#[(0, 1), (1, 64)] : Array (Nat × Nat))[i]?) (.agg #[.int .i64 0, .int .u8 0, .int .u8 0, .int .u8 0, .int .u8 0, .int .u8 0, .int .u8 0, .int .u8 0, .int .u8 0, .int .u8 0, .int .u8 0, .int .u8 0, .int .u8 0, .int .u8 0, .int .u8 0, .int .u8 0, .int .u8 0, .int .u8 0, .int .u8 0, .int .u8 0, .int .u8 0, .int .u8 0, .int .u8 0, .int .u8 0, .int .u8 0, .int .u8 0, .int .u8 0, .int .u8 0, .int .u8 0, .int .u8 0, .int .u8 0, .int .u8 0, .int .u8 0, .int .u8 0, .int .u8 0, .int .u8 0, .int .u8 0, .int .u8 0, .int .u8 0, .int .u8 0, .int .u8 0, .int .u8 0, .int .u8 0, .int .u8 0, .int .u8 0, .int .u8 0, .int .u8 0, .int .u8 0, .int .u8 0, .int .u8 0, .int .u8 0, .int .u8 0, .int .u8 0, .int .u8 0, .int .u8 0, .int .u8 0, .int .u8 0, .int .u8 0, .int .u8 0, .int .u8 0, .int .u8 0, .int .u8 0, .int .u8 0, .int .u8 0, .int .u8 0]) := TyBuilt.struct (ps := [(0, 1), (1, 64)]) Try.underlying238 (by kernel_rfl) (by kernel_rfl)
instance : TyZero Try.prog 238 (.agg #[.int .i64 0, .int .u8 0, .int .u8 0, .int .u8 0, .int .u8 0, .int .u8 0, .int .u8 0, .int .u8 0, .int .u8 0, .int .u8 0, .int .u8 0, .int .u8 0, .int .u8 0, .int .u8 0, .int .u8 0, .int .u8 0, .int .u8 0, .int .u8 0, .int .u8 0, .int .u8 0, .int .u8 0, .int .u8 0, .int .u8 0, .int .u8 0, .int .u8 0, .int .u8 0, .int .u8 0, .int .u8 0, .int .u8 0, .int .u8 0, .int .u8 0, .int .u8 0, .int .u8 0, .int .u8 0, .int .u8 0, .int .u8 0, .int .u8 0, .int .u8 0, .int .u8 0, .int .u8 0, .int .u8 0, .int .u8 0, .int .u8 0, .int .u8 0, .int .u8 0, .int .u8 0, .int .u8 0, .int .u8 0, .int .u8 0, .int .u8 0, .int .u8 0, .int .u8 0, .int .u8 0, .int .u8 0, .int .u8 0, .int .u8 0, .int .u8 0, .int .u8 0, .int .u8 0, .int .u8 0, .int .u8 0, .int .u8 0, .int .u8 0, .int .u8 0, .int .u8 0]) := ⟨by kernel_rfl⟩
instance : TyOne Try.prog 239 := ⟨by kernel_rfl, by kernel_rfl⟩
instance : TyOne Try.prog 241 := ⟨by kernel_rfl, by kernel_rfl⟩
instance : TyOne Try.prog 242 := ⟨by kernel_rfl, by kernel_rfl⟩
instance : TyOne Try.prog 243 := ⟨by kernel_rfl, by kernel_rfl⟩
instance : TyOne Try.prog 244 := ⟨by kernel_rfl, by kernel_rfl⟩
instance : TyPtr Try.prog 245 := ⟨_, Try.underlying245⟩
instance : TyOne Try.prog 245 := ⟨by kernel_rfl, by kernel_rfl⟩
instance : TyZero Try.prog 245 (.pointer none) := ⟨by kernel_rfl⟩
instance : TyOne Try.prog 246 := ⟨by kernel_rfl, by kernel_rfl⟩
instance : TyOne Try.prog 247 := ⟨by kernel_rfl, by kernel_rfl⟩
instance : TyOne Try.prog 248 := ⟨by kernel_rfl, by kernel_rfl⟩
instance : TyOne Try.prog 249 := ⟨by kernel_rfl, by kernel_rfl⟩
instance : TyOne Try.prog 250 := ⟨by kernel_rfl, by kernel_rfl⟩
instance : TyOne Try.prog 251 := ⟨by kernel_rfl, by kernel_rfl⟩
instance : TyOne Try.prog 252 := ⟨by kernel_rfl, by kernel_rfl⟩
instance : TyOne Try.prog 253 := ⟨by kernel_rfl, by kernel_rfl⟩
instance : TyOne Try.prog 254 := ⟨by kernel_rfl, by kernel_rfl⟩
instance : TyOne Try.prog 255 := ⟨by kernel_rfl, by kernel_rfl⟩
instance : TyOne Try.prog 256 := ⟨by kernel_rfl, by kernel_rfl⟩
instance : TyOne Try.prog 257 := ⟨by kernel_rfl, by kernel_rfl⟩
instance : TyOne Try.prog 258 := ⟨by kernel_rfl, by kernel_rfl⟩
instance : TyOne Try.prog 259 := ⟨by kernel_rfl, by kernel_rfl⟩
instance : TyOne Try.prog 260 := ⟨by kernel_rfl, by kernel_rfl⟩
instance : TyOne Try.prog 261 := ⟨by kernel_rfl, by kernel_rfl⟩
instance : TyOne Try.prog 262 := ⟨by kernel_rfl, by kernel_rfl⟩
instance : TyOne Try.prog 263 := ⟨by kernel_rfl, by kernel_rfl⟩
instance : TyOne Try.prog 264 := ⟨by kernel_rfl, by kernel_rfl⟩
instance : TyOne Try.prog 265 := ⟨by kernel_rfl, by kernel_rfl⟩
instance : TyOne Try.prog 266 := ⟨by kernel_rfl, by kernel_rfl⟩
instance : TyOne Try.prog 267 := ⟨by kernel_rfl, by kernel_rfl⟩
instance : TyOne Try.prog 268 := ⟨by kernel_rfl, by kernel_rfl⟩
instance : TyOne Try.prog 269 := ⟨by kernel_rfl, by kernel_rfl⟩
instance : TyOne Try.prog 270 := ⟨by kernel_rfl, by kernel_rfl⟩
instance : TyZero Try.prog 270 (.slice none 0 0) := ⟨by kernel_rfl⟩
instance : TySlice Try.prog 270 274 2 32 (.agg #[.int .i64 0, .slice none 0 0]) := TySlice.of Try.underlying270 (by kernel_rfl) (by kernel_rfl) (by decide)
instance : TyAgg Try.prog 271 1 := ⟨by kernel_rfl, by kernel_rfl⟩
instance : TyField Try.prog 271 0 0 := ⟨_, _, Try.underlying271, rfl, rfl, by kernel_rfl⟩
instance : TyBuilt Try.prog 271 (fun i => (#[(0, 1)] : Array (Nat × Nat))[i]?) (.agg #[.slice none 0 0]) := TyBuilt.struct (ps := [(0, 1)]) Try.underlying271 (by kernel_rfl) (by kernel_rfl)
instance : TyZero Try.prog 271 (.agg #[.slice none 0 0]) := ⟨by kernel_rfl⟩
instance : TyAgg Try.prog 272 1 := ⟨by kernel_rfl, by kernel_rfl⟩
instance : TyField Try.prog 272 0 0 := ⟨_, _, Try.underlying272, rfl, rfl, by kernel_rfl⟩
instance : TyBuilt Try.prog 272 (fun i => (#[(0, 1)] : Array (Nat × Nat))[i]?) (.agg #[.slice none 0 0]) := TyBuilt.struct (ps := [(0, 1)]) Try.underlying272 (by kernel_rfl) (by kernel_rfl)
instance : TyZero Try.prog 272 (.agg #[.slice none 0 0]) := ⟨by kernel_rfl⟩
instance : TyAgg Try.prog 273 2 := ⟨by kernel_rfl, by kernel_rfl⟩
instance : TyField Try.prog 273 0 0 := ⟨_, _, Try.underlying273, rfl, rfl, by kernel_rfl⟩
instance : TyField Try.prog 273 1 1 := ⟨_, _, Try.underlying273, rfl, rfl, by kernel_rfl⟩
instance : TyBuilt Try.prog 273 (fun i => (#[(0, 1), (1, 1)] : Array (Nat × Nat))[i]?) (.agg #[.int .i64 0, .slice none 0 0]) := TyBuilt.struct (ps := [(0, 1), (1, 1)]) Try.underlying273 (by kernel_rfl) (by kernel_rfl)
instance : TyZero Try.prog 273 (.agg #[.int .i64 0, .slice none 0 0]) := ⟨by kernel_rfl⟩
instance : TyAgg Try.prog 274 2 := ⟨by kernel_rfl, by kernel_rfl⟩
instance : TyField Try.prog 274 0 0 := ⟨_, _, Try.underlying274, rfl, rfl, by kernel_rfl⟩
instance : TyField Try.prog 274 1 1 := ⟨_, _, Try.underlying274, rfl, rfl, by kernel_rfl⟩
instance : TyBuilt Try.prog 274 (fun i => (#[(0, 1), (1, 1)] : Array (Nat × Nat))[i]?) (.agg #[.int .i64 0, .slice none 0 0]) := TyBuilt.struct (ps := [(0, 1), (1, 1)]) Try.underlying274 (by kernel_rfl) (by kernel_rfl)
instance : TyZero Try.prog 274 (.agg #[.int .i64 0, .slice none 0 0]) := ⟨by kernel_rfl⟩
instance : TyOne Try.prog 275 := ⟨by kernel_rfl, by kernel_rfl⟩
instance : TyOne Try.prog 277 := ⟨by kernel_rfl, by kernel_rfl⟩
instance : TyOne Try.prog 278 := ⟨by kernel_rfl, by kernel_rfl⟩
instance : TyOne Try.prog 279 := ⟨by kernel_rfl, by kernel_rfl⟩
instance : TyOne Try.prog 280 := ⟨by kernel_rfl, by kernel_rfl⟩
instance : TyOne Try.prog 281 := ⟨by kernel_rfl, by kernel_rfl⟩
instance : TyOne Try.prog 282 := ⟨by kernel_rfl, by kernel_rfl⟩
instance : TyOne Try.prog 283 := ⟨by kernel_rfl, by kernel_rfl⟩
instance : TyOne Try.prog 284 := ⟨by kernel_rfl, by kernel_rfl⟩
instance : TyOne Try.prog 285 := ⟨by kernel_rfl, by kernel_rfl⟩
instance : TyAgg Try.prog 286 2 := ⟨by kernel_rfl, by kernel_rfl⟩
instance : TyField Try.prog 286 0 0 := ⟨_, _, Try.underlying286, rfl, rfl, by kernel_rfl⟩
instance : TyField Try.prog 286 1 1 := ⟨_, _, Try.underlying286, rfl, rfl, by kernel_rfl⟩
instance : TyBuilt Try.prog 286 (fun i => (#[(0, 1), (1, 1)] : Array (Nat × Nat))[i]?) (.agg #[.slice none 0 0, .int .i64 0]) := TyBuilt.struct (ps := [(0, 1), (1, 1)]) Try.underlying286 (by kernel_rfl) (by kernel_rfl)
instance : TyZero Try.prog 286 (.agg #[.slice none 0 0, .int .i64 0]) := ⟨by kernel_rfl⟩
instance : TyAgg Try.prog 287 2 := ⟨by kernel_rfl, by kernel_rfl⟩
instance : TyField Try.prog 287 0 0 := ⟨_, _, Try.underlying287, rfl, rfl, by kernel_rfl⟩
instance : TyField Try.prog 287 1 1 := ⟨_, _, Try.underlying287, rfl, rfl, by kernel_rfl⟩
instance : TyBuilt Try.prog 287 (fun i => (#[(0, 1), (1, 1)] : Array (Nat × Nat))[i]?) (.agg #[.slice none 0 0, .int .i64 0]) := TyBuilt.struct (ps := [(0, 1), (1, 1)]) Try.underlying287 (by kernel_rfl) (by kernel_rfl)
instance : TyZero Try.prog 287 (.agg #[.slice none 0 0, .int .i64 0]) := ⟨by kernel_rfl⟩
instance : TyOne Try.prog 289 := ⟨by kernel_rfl, by kernel_rfl⟩
instance : TyOne Try.prog 290 := ⟨by kernel_rfl, by kernel_rfl⟩
instance : TyOne Try.prog 291 := ⟨by kernel_rfl, by kernel_rfl⟩
instance : TyOne Try.prog 292 := ⟨by kernel_rfl, by kernel_rfl⟩
instance : TyOne Try.prog 293 := ⟨by kernel_rfl, by kernel_rfl⟩
instance : TyOne Try.prog 294 := ⟨by kernel_rfl, by kernel_rfl⟩
instance : TyOne Try.prog 295 := ⟨by kernel_rfl, by kernel_rfl⟩
instance : TyZero Try.prog 295 (.slice none 0 0) := ⟨by kernel_rfl⟩
instance : TySlice Try.prog 295 299 2 32 (.agg #[.int .i64 0, .slice none 0 0]) := TySlice.of Try.underlying295 (by kernel_rfl) (by kernel_rfl) (by decide)
instance : TyAgg Try.prog 296 1 := ⟨by kernel_rfl, by kernel_rfl⟩
instance : TyField Try.prog 296 0 0 := ⟨_, _, Try.underlying296, rfl, rfl, by kernel_rfl⟩
instance : TyBuilt Try.prog 296 (fun i => (#[(0, 1)] : Array (Nat × Nat))[i]?) (.agg #[.slice none 0 0]) := TyBuilt.struct (ps := [(0, 1)]) Try.underlying296 (by kernel_rfl) (by kernel_rfl)
instance : TyZero Try.prog 296 (.agg #[.slice none 0 0]) := ⟨by kernel_rfl⟩
instance : TyAgg Try.prog 297 1 := ⟨by kernel_rfl, by kernel_rfl⟩
instance : TyField Try.prog 297 0 0 := ⟨_, _, Try.underlying297, rfl, rfl, by kernel_rfl⟩
instance : TyBuilt Try.prog 297 (fun i => (#[(0, 1)] : Array (Nat × Nat))[i]?) (.agg #[.slice none 0 0]) := TyBuilt.struct (ps := [(0, 1)]) Try.underlying297 (by kernel_rfl) (by kernel_rfl)
instance : TyZero Try.prog 297 (.agg #[.slice none 0 0]) := ⟨by kernel_rfl⟩
instance : TyAgg Try.prog 298 2 := ⟨by kernel_rfl, by kernel_rfl⟩
instance : TyField Try.prog 298 0 0 := ⟨_, _, Try.underlying298, rfl, rfl, by kernel_rfl⟩
instance : TyField Try.prog 298 1 1 := ⟨_, _, Try.underlying298, rfl, rfl, by kernel_rfl⟩
instance : TyBuilt Try.prog 298 (fun i => (#[(0, 1), (1, 1)] : Array (Nat × Nat))[i]?) (.agg #[.int .i64 0, .slice none 0 0]) := TyBuilt.struct (ps := [(0, 1), (1, 1)]) Try.underlying298 (by kernel_rfl) (by kernel_rfl)
instance : TyZero Try.prog 298 (.agg #[.int .i64 0, .slice none 0 0]) := ⟨by kernel_rfl⟩
instance : TyAgg Try.prog 299 2 := ⟨by kernel_rfl, by kernel_rfl⟩
instance : TyField Try.prog 299 0 0 := ⟨_, _, Try.underlying299, rfl, rfl, by kernel_rfl⟩
instance : TyField Try.prog 299 1 1 := ⟨_, _, Try.underlying299, rfl, rfl, by kernel_rfl⟩
instance : TyBuilt Try.prog 299 (fun i => (#[(0, 1), (1, 1)] : Array (Nat × Nat))[i]?) (.agg #[.int .i64 0, .slice none 0 0]) := TyBuilt.struct (ps := [(0, 1), (1, 1)]) Try.underlying299 (by kernel_rfl) (by kernel_rfl)
instance : TyZero Try.prog 299 (.agg #[.int .i64 0, .slice none 0 0]) := ⟨by kernel_rfl⟩
instance : TyOne Try.prog 300 := ⟨by kernel_rfl, by kernel_rfl⟩
instance : TyOne Try.prog 301 := ⟨by kernel_rfl, by kernel_rfl⟩
instance : TyOne Try.prog 302 := ⟨by kernel_rfl, by kernel_rfl⟩
instance : TyOne Try.prog 303 := ⟨by kernel_rfl, by kernel_rfl⟩
instance : TyOne Try.prog 304 := ⟨by kernel_rfl, by kernel_rfl⟩
instance : TyOne Try.prog 305 := ⟨by kernel_rfl, by kernel_rfl⟩
instance : TyOne Try.prog 307 := ⟨by kernel_rfl, by kernel_rfl⟩
instance : TyOne Try.prog 308 := ⟨by kernel_rfl, by kernel_rfl⟩
instance : TyOne Try.prog 309 := ⟨by kernel_rfl, by kernel_rfl⟩
instance : TyOne Try.prog 310 := ⟨by kernel_rfl, by kernel_rfl⟩
instance : TyOne Try.prog 311 := ⟨by kernel_rfl, by kernel_rfl⟩
instance : TyOne Try.prog 312 := ⟨by kernel_rfl, by kernel_rfl⟩
instance : TyOne Try.prog 313 := ⟨by kernel_rfl, by kernel_rfl⟩
instance : TyOne Try.prog 314 := ⟨by kernel_rfl, by kernel_rfl⟩
instance : TyOne Try.prog 315 := ⟨by kernel_rfl, by kernel_rfl⟩
instance : TyOne Try.prog 316 := ⟨by kernel_rfl, by kernel_rfl⟩
instance : TyOne Try.prog 317 := ⟨by kernel_rfl, by kernel_rfl⟩
instance : TyOne Try.prog 318 := ⟨by kernel_rfl, by kernel_rfl⟩
instance : TyOne Try.prog 319 := ⟨by kernel_rfl, by kernel_rfl⟩
instance : TyInt Try.prog 320 .u32 := ⟨Try.underlying320⟩
instance : TyOne Try.prog 320 := ⟨by kernel_rfl, by kernel_rfl⟩
instance : TyZero Try.prog 320 (.int .u32 0) := ⟨by kernel_rfl⟩
instance : TyOne Try.prog 321 := ⟨by kernel_rfl, by kernel_rfl⟩
instance : TyOne Try.prog 322 := ⟨by kernel_rfl, by kernel_rfl⟩
instance : TyOne Try.prog 323 := ⟨by kernel_rfl, by kernel_rfl⟩
instance : TyOne Try.prog 324 := ⟨by kernel_rfl, by kernel_rfl⟩
instance : TyOne Try.prog 325 := ⟨by kernel_rfl, by kernel_rfl⟩
instance : TyOne Try.prog 326 := ⟨by kernel_rfl, by kernel_rfl⟩
instance : TyOne Try.prog 327 := ⟨by kernel_rfl, by kernel_rfl⟩
instance : TyOne Try.prog 329 := ⟨by kernel_rfl, by kernel_rfl⟩
instance : TyOne Try.prog 331 := ⟨by kernel_rfl, by kernel_rfl⟩
instance : TyOne Try.prog 332 := ⟨by kernel_rfl, by kernel_rfl⟩
instance : TyOne Try.prog 333 := ⟨by kernel_rfl, by kernel_rfl⟩
instance : TyOne Try.prog 334 := ⟨by kernel_rfl, by kernel_rfl⟩
instance : TyOne Try.prog 335 := ⟨by kernel_rfl, by kernel_rfl⟩
instance : TyOne Try.prog 336 := ⟨by kernel_rfl, by kernel_rfl⟩
instance : TyOne Try.prog 337 := ⟨by kernel_rfl, by kernel_rfl⟩
instance : TyOne Try.prog 338 := ⟨by kernel_rfl, by kernel_rfl⟩
instance : TyAgg Try.prog 339 4 := ⟨by kernel_rfl, by kernel_rfl⟩
instance : TyField Try.prog 339 0 0 := ⟨_, _, Try.underlying339, rfl, rfl, by kernel_rfl⟩
instance : TyField Try.prog 339 1 1 := ⟨_, _, Try.underlying339, rfl, rfl, by kernel_rfl⟩
instance : TyField Try.prog 339 2 2 := ⟨_, _, Try.underlying339, rfl, rfl, by kernel_rfl⟩
instance : TyField Try.prog 339 3 3 := ⟨_, _, Try.underlying339, rfl, rfl, by kernel_rfl⟩
instance : TyBuilt Try.prog 339 (fun i => (#[(0, 1), (1, 1), (2, 1), (3, 1)] : Array (Nat × Nat))[i]?) (.agg #[.pointer none, .pointer none, .pointer none, .string ByteArray.empty]) := TyBuilt.struct (ps := [(0, 1), (1, 1), (2, 1), (3, 1)]) Try.underlying339 (by kernel_rfl) (by kernel_rfl)
instance : TyZero Try.prog 339 (.agg #[.pointer none, .pointer none, .pointer none, .string ByteArray.empty]) := ⟨by kernel_rfl⟩
instance : TyAgg Try.prog 341 0 := ⟨by kernel_rfl, by kernel_rfl⟩
instance : TyArr Try.prog 341 0 16 1 := ⟨Try.underlying341, by kernel_rfl⟩
instance : TyBuilt Try.prog 341 (fun i => some (i * 1, 1)) (.agg #[]) := TyBuilt.array Try.underlying341 (by kernel_rfl) (by kernel_rfl)
instance : TyZero Try.prog 341 (.agg #[]) := ⟨by kernel_rfl⟩
instance : TyAgg Try.prog 342 0 := ⟨by kernel_rfl, by kernel_rfl⟩
instance : TyBuilt Try.prog 342 (fun i => (#[(0, 0)] : Array (Nat × Nat))[i]?) (.agg #[]) := TyBuilt.struct (ps := [(0, 0)]) Try.underlying342 (by kernel_rfl) (by kernel_rfl)
instance : TyZero Try.prog 342 (.agg #[]) := ⟨by kernel_rfl⟩
instance : TyOne Try.prog 346 := ⟨by kernel_rfl, by kernel_rfl⟩
instance : TyPtr Try.prog 347 := ⟨_, Try.underlying347⟩
instance : TyOne Try.prog 347 := ⟨by kernel_rfl, by kernel_rfl⟩
instance : TyZero Try.prog 347 (.pointer none) := ⟨by kernel_rfl⟩
instance : TyOne Try.prog 352 := ⟨by kernel_rfl, by kernel_rfl⟩
instance : TyOne Try.prog 353 := ⟨by kernel_rfl, by kernel_rfl⟩
instance : TyOne Try.prog 354 := ⟨by kernel_rfl, by kernel_rfl⟩
instance : TyOne Try.prog 355 := ⟨by kernel_rfl, by kernel_rfl⟩
instance : TyOne Try.prog 356 := ⟨by kernel_rfl, by kernel_rfl⟩
instance : TyOne Try.prog 357 := ⟨by kernel_rfl, by kernel_rfl⟩
instance : Mixed Try.prog := ⟨by kernel_rfl⟩
end Go.Proofs.Ythpolibakkmmeaa
/-
  What a call of each function enters.
-/
set_option maxRecDepth 100000
namespace Go.Proofs.Ythpolibakkmmeaa
open Go Brv
theorem go3 : ∀ (vs : Array Value) w, (callFunc 3 vs).run Try.prog w = .ok (.enter 3 vs) w := callFunc_run Try.func3 (by decide) rfl
theorem go4 : ∀ (vs : Array Value) w, (callFunc 4 vs).run Try.prog w = .ok (.enter 4 vs) w := callFunc_run Try.func4 (by decide) rfl
theorem go5 : ∀ (vs : Array Value) w, (callFunc 5 vs).run Try.prog w = .ok (.enter 5 vs) w := callFunc_run Try.func5 (by decide) rfl
theorem go6 : ∀ (vs : Array Value) w, (callFunc 6 vs).run Try.prog w = .ok (.enter 6 vs) w := callFunc_run Try.func6 (by decide) rfl
theorem go7 : ∀ (vs : Array Value) w, (callFunc 7 vs).run Try.prog w = .ok (.enter 7 vs) w := callFunc_run Try.func7 (by decide) rfl
theorem go8 : ∀ (vs : Array Value) w, (callFunc 8 vs).run Try.prog w = .ok (.enter 8 vs) w := callFunc_run Try.func8 (by decide) rfl
theorem go9 : ∀ (vs : Array Value) w, (callFunc 9 vs).run Try.prog w = .ok (.enter 9 vs) w := callFunc_run Try.func9 (by decide) rfl
theorem go10 : ∀ (vs : Array Value) w, (callFunc 10 vs).run Try.prog w = .ok (.enter 10 vs) w := callFunc_run Try.func10 (by decide) rfl
theorem go11 : ∀ (vs : Array Value) w, (callFunc 11 vs).run Try.prog w = .ok (.enter 11 vs) w := callFunc_run Try.func11 (by decide) rfl
theorem go12 : ∀ (vs : Array Value) w, (callFunc 12 vs).run Try.prog w = .ok (.enter 12 vs) w := callFunc_run Try.func12 (by decide) rfl
theorem go13 : ∀ (vs : Array Value) w, (callFunc 13 vs).run Try.prog w = .ok (.enter 13 vs) w := callFunc_run Try.func13 (by decide) rfl
theorem go14 : ∀ (vs : Array Value) w, (callFunc 14 vs).run Try.prog w = .ok (.enter 14 vs) w := callFunc_run Try.func14 (by decide) rfl
theorem go15 : ∀ (vs : Array Value) w, (callFunc 15 vs).run Try.prog w = .ok (.enter 15 vs) w := callFunc_run Try.func15 (by decide) rfl
theorem go16 : ∀ (vs : Array Value) w, (callFunc 16 vs).run Try.prog w = .ok (.enter 16 vs) w := callFunc_run Try.func16 (by decide) rfl
theorem go17 : ∀ (vs : Array Value) w, (callFunc 17 vs).run Try.prog w = .ok (.enter 17 vs) w := callFunc_run Try.func17 (by decide) rfl
theorem go18 : ∀ (vs : Array Value) w, (callFunc 18 vs).run Try.prog w = .ok (.enter 18 vs) w := callFunc_run Try.func18 (by decide) rfl
theorem go19 : ∀ (vs : Array Value) w, (callFunc 19 vs).run Try.prog w = .ok (.enter 19 vs) w := callFunc_run Try.func19 (by decide) rfl
theorem go20 : ∀ (vs : Array Value) w, (callFunc 20 vs).run Try.prog w = .ok (.enter 20 vs) w := callFunc_run Try.func20 (by decide) rfl
theorem go21 : ∀ (vs : Array Value) w, (callFunc 21 vs).run Try.prog w = .ok (.enter 21 vs) w := callFunc_run Try.func21 (by decide) rfl
theorem go22 : ∀ (vs : Array Value) w, (callFunc 22 vs).run Try.prog w = .ok (.enter 22 vs) w := callFunc_run Try.func22 (by decide) rfl
theorem go23 : ∀ (vs : Array Value) w, (callFunc 23 vs).run Try.prog w = .ok (.enter 23 vs) w := callFunc_run Try.func23 (by decide) rfl
theorem go24 : ∀ (vs : Array Value) w, (callFunc 24 vs).run Try.prog w = .ok (.enter 24 vs) w := callFunc_run Try.func24 (by decide) rfl
theorem go25 : ∀ (vs : Array Value) w, (callFunc 25 vs).run Try.prog w = .ok (.enter 25 vs) w := callFunc_run Try.func25 (by decide) rfl
theorem go26 : ∀ (vs : Array Value) w, (callFunc 26 vs).run Try.prog w = .ok (.enter 26 vs) w := callFunc_run Try.func26 (by decide) rfl
theorem go27 : ∀ (vs : Array Value) w, (callFunc 27 vs).run Try.prog w = .ok (.enter 27 vs) w := callFunc_run Try.func27 (by decide) rfl
theorem go28 : ∀ (vs : Array Value) w, (callFunc 28 vs).run Try.prog w = .ok (.enter 28 vs) w := callFunc_run Try.func28 (by decide) rfl
theorem go29 : ∀ (vs : Array Value) w, (callFunc 29 vs).run Try.prog w = .ok (.enter 29 vs) w := callFunc_run Try.func29 (by decide) rfl
theorem go30 : ∀ (vs : Array Value) w, (callFunc 30 vs).run Try.prog w = .ok (.enter 30 vs) w := callFunc_run Try.func30 (by decide) rfl
theorem go31 : ∀ (vs : Array Value) w, (callFunc 31 vs).run Try.prog w = .ok (.enter 31 vs) w := callFunc_run Try.func31 (by decide) rfl
theorem go32 : ∀ (vs : Array Value) w, (callFunc 32 vs).run Try.prog w = .ok (.enter 32 vs) w := callFunc_run Try.func32 (by decide) rfl
theorem go33 : ∀ (vs : Array Value) w, (callFunc 33 vs).run Try.prog w = .ok (.enter 33 vs) w := callFunc_run Try.func33 (by decide) rfl
theorem go34 : ∀ (vs : Array Value) w, (callFunc 34 vs).run Try.prog w = .ok (.enter 34 vs) w := callFunc_run Try.func34 (by decide) rfl
theorem go35 : ∀ (vs : Array Value) w, (callFunc 35 vs).run Try.prog w = .ok (.enter 35 vs) w := callFunc_run Try.func35 (by decide) rfl
theorem go36 : ∀ (vs : Array Value) w, (callFunc 36 vs).run Try.prog w = .ok (.enter 36 vs) w := callFunc_run Try.func36 (by decide) rfl
theorem go37 : ∀ (vs : Array Value) w, (callFunc 37 vs).run Try.prog w = .ok (.enter 37 vs) w := callFunc_run Try.func37 (by decide) rfl
theorem go38 : ∀ (vs : Array Value) w, (callFunc 38 vs).run Try.prog w = .ok (.enter 38 vs) w := callFunc_run Try.func38 (by decide) rfl
theorem go39 : ∀ (vs : Array Value) w, (callFunc 39 vs).run Try.prog w = .ok (.enter 39 vs) w := callFunc_run Try.func39 (by decide) rfl
theorem go40 : ∀ (vs : Array Value) w, (callFunc 40 vs).run Try.prog w = .ok (.enter 40 vs) w := callFunc_run Try.func40 (by decide) rfl
theorem go41 : ∀ (vs : Array Value) w, (callFunc 41 vs).run Try.prog w = .ok (.enter 41 vs) w := callFunc_run Try.func41 (by decide) rfl
theorem go42 : ∀ (vs : Array Value) w, (callFunc 42 vs).run Try.prog w = .ok (.enter 42 vs) w := callFunc_run Try.func42 (by decide) rfl
theorem go43 : ∀ (vs : Array Value) w, (callFunc 43 vs).run Try.prog w = .ok (.enter 43 vs) w := callFunc_run Try.func43 (by decide) rfl
theorem go44 : ∀ (vs : Array Value) w, (callFunc 44 vs).run Try.prog w = .ok (.enter 44 vs) w := callFunc_run Try.func44 (by decide) rfl
theorem go45 : ∀ (vs : Array Value) w, (callFunc 45 vs).run Try.prog w = .ok (.enter 45 vs) w := callFunc_run Try.func45 (by decide) rfl
theorem go46 : ∀ (vs : Array Value) w, (callFunc 46 vs).run Try.prog w = .ok (.enter 46 vs) w := callFunc_run Try.func46 (by decide) rfl
theorem go47 : ∀ (vs : Array Value) w, (callFunc 47 vs).run Try.prog w = .ok (.enter 47 vs) w := callFunc_run Try.func47 (by decide) rfl
theorem go48 : ∀ (vs : Array Value) w, (callFunc 48 vs).run Try.prog w = .ok (.enter 48 vs) w := callFunc_run Try.func48 (by decide) rfl
theorem go49 : ∀ (vs : Array Value) w, (callFunc 49 vs).run Try.prog w = .ok (.enter 49 vs) w := callFunc_run Try.func49 (by decide) rfl
theorem go50 : ∀ (vs : Array Value) w, (callFunc 50 vs).run Try.prog w = .ok (.enter 50 vs) w := callFunc_run Try.func50 (by decide) rfl
theorem go51 : ∀ (vs : Array Value) w, (callFunc 51 vs).run Try.prog w = .ok (.enter 51 vs) w := callFunc_run Try.func51 (by decide) rfl
theorem go52 : ∀ (vs : Array Value) w, (callFunc 52 vs).run Try.prog w = .ok (.enter 52 vs) w := callFunc_run Try.func52 (by decide) rfl
theorem go53 : ∀ (vs : Array Value) w, (callFunc 53 vs).run Try.prog w = .ok (.enter 53 vs) w := callFunc_run Try.func53 (by decide) rfl
theorem go54 : ∀ (vs : Array Value) w, (callFunc 54 vs).run Try.prog w = .ok (.enter 54 vs) w := callFunc_run Try.func54 (by decide) rfl
theorem go55 : ∀ (vs : Array Value) w, (callFunc 55 vs).run Try.prog w = .ok (.enter 55 vs) w := callFunc_run Try.func55 (by decide) rfl
theorem go56 : ∀ (vs : Array Value) w, (callFunc 56 vs).run Try.prog w = .ok (.enter 56 vs) w := callFunc_run Try.func56 (by decide) rfl
theorem go57 : ∀ (vs : Array Value) w, (callFunc 57 vs).run Try.prog w = .ok (.enter 57 vs) w := callFunc_run Try.func57 (by decide) rfl
theorem go58 : ∀ (vs : Array Value) w, (callFunc 58 vs).run Try.prog w = .ok (.enter 58 vs) w := callFunc_run Try.func58 (by decide) rfl
theorem go59 : ∀ (vs : Array Value) w, (callFunc 59 vs).run Try.prog w = .ok (.enter 59 vs) w := callFunc_run Try.func59 (by decide) rfl
theorem go60 : ∀ (vs : Array Value) w, (callFunc 60 vs).run Try.prog w = .ok (.enter 60 vs) w := callFunc_run Try.func60 (by decide) rfl
theorem go61 : ∀ (vs : Array Value) w, (callFunc 61 vs).run Try.prog w = .ok (.enter 61 vs) w := callFunc_run Try.func61 (by decide) rfl
theorem go62 : ∀ (vs : Array Value) w, (callFunc 62 vs).run Try.prog w = .ok (.enter 62 vs) w := callFunc_run Try.func62 (by decide) rfl
theorem go63 : ∀ (vs : Array Value) w, (callFunc 63 vs).run Try.prog w = .ok (.enter 63 vs) w := callFunc_run Try.func63 (by decide) rfl
theorem go64 : ∀ (vs : Array Value) w, (callFunc 64 vs).run Try.prog w = .ok (.enter 64 vs) w := callFunc_run Try.func64 (by decide) rfl
theorem go65 : ∀ (vs : Array Value) w, (callFunc 65 vs).run Try.prog w = .ok (.enter 65 vs) w := callFunc_run Try.func65 (by decide) rfl
theorem go66 : ∀ (vs : Array Value) w, (callFunc 66 vs).run Try.prog w = .ok (.enter 66 vs) w := callFunc_run Try.func66 (by decide) rfl
theorem go67 : ∀ (vs : Array Value) w, (callFunc 67 vs).run Try.prog w = .ok (.enter 67 vs) w := callFunc_run Try.func67 (by decide) rfl
theorem go68 : ∀ (vs : Array Value) w, (callFunc 68 vs).run Try.prog w = .ok (.enter 68 vs) w := callFunc_run Try.func68 (by decide) rfl
theorem go69 : ∀ (vs : Array Value) w, (callFunc 69 vs).run Try.prog w = .ok (.enter 69 vs) w := callFunc_run Try.func69 (by decide) rfl
theorem go70 : ∀ (vs : Array Value) w, (callFunc 70 vs).run Try.prog w = .ok (.enter 70 vs) w := callFunc_run Try.func70 (by decide) rfl
theorem go71 : ∀ (vs : Array Value) w, (callFunc 71 vs).run Try.prog w = .ok (.enter 71 vs) w := callFunc_run Try.func71 (by decide) rfl
theorem go72 : ∀ (vs : Array Value) w, (callFunc 72 vs).run Try.prog w = .ok (.enter 72 vs) w := callFunc_run Try.func72 (by decide) rfl
theorem go73 : ∀ (vs : Array Value) w, (callFunc 73 vs).run Try.prog w = .ok (.enter 73 vs) w := callFunc_run Try.func73 (by decide) rfl
theorem go74 : ∀ (vs : Array Value) w, (callFunc 74 vs).run Try.prog w = .ok (.enter 74 vs) w := callFunc_run Try.func74 (by decide) rfl
theorem go75 : ∀ (vs : Array Value) w, (callFunc 75 vs).run Try.prog w = .ok (.enter 75 vs) w := callFunc_run Try.func75 (by decide) rfl
theorem go76 : ∀ (vs : Array Value) w, (callFunc 76 vs).run Try.prog w = .ok (.enter 76 vs) w := callFunc_run Try.func76 (by decide) rfl
theorem go77 : ∀ (vs : Array Value) w, (callFunc 77 vs).run Try.prog w = .ok (.enter 77 vs) w := callFunc_run Try.func77 (by decide) rfl
theorem go78 : ∀ (vs : Array Value) w, (callFunc 78 vs).run Try.prog w = .ok (.enter 78 vs) w := callFunc_run Try.func78 (by decide) rfl
theorem go79 : ∀ (vs : Array Value) w, (callFunc 79 vs).run Try.prog w = .ok (.enter 79 vs) w := callFunc_run Try.func79 (by decide) rfl
theorem go80 : ∀ (vs : Array Value) w, (callFunc 80 vs).run Try.prog w = .ok (.enter 80 vs) w := callFunc_run Try.func80 (by decide) rfl
theorem go81 : ∀ (vs : Array Value) w, (callFunc 81 vs).run Try.prog w = .ok (.enter 81 vs) w := callFunc_run Try.func81 (by decide) rfl
theorem go82 : ∀ (vs : Array Value) w, (callFunc 82 vs).run Try.prog w = .ok (.enter 82 vs) w := callFunc_run Try.func82 (by decide) rfl
theorem go83 : ∀ (vs : Array Value) w, (callFunc 83 vs).run Try.prog w = .ok (.enter 83 vs) w := callFunc_run Try.func83 (by decide) rfl
theorem go84 : ∀ (vs : Array Value) w, (callFunc 84 vs).run Try.prog w = .ok (.enter 84 vs) w := callFunc_run Try.func84 (by decide) rfl
theorem go85 : ∀ (vs : Array Value) w, (callFunc 85 vs).run Try.prog w = .ok (.enter 85 vs) w := callFunc_run Try.func85 (by decide) rfl
theorem go86 : ∀ (vs : Array Value) w, (callFunc 86 vs).run Try.prog w = .ok (.enter 86 vs) w := callFunc_run Try.func86 (by decide) rfl
theorem go87 : ∀ (vs : Array Value) w, (callFunc 87 vs).run Try.prog w = .ok (.enter 87 vs) w := callFunc_run Try.func87 (by decide) rfl
theorem go88 : ∀ (vs : Array Value) w, (callFunc 88 vs).run Try.prog w = .ok (.enter 88 vs) w := callFunc_run Try.func88 (by decide) rfl
theorem go89 : ∀ (vs : Array Value) w, (callFunc 89 vs).run Try.prog w = .ok (.enter 89 vs) w := callFunc_run Try.func89 (by decide) rfl
theorem go90 : ∀ (vs : Array Value) w, (callFunc 90 vs).run Try.prog w = .ok (.enter 90 vs) w := callFunc_run Try.func90 (by decide) rfl
theorem go91 : ∀ (vs : Array Value) w, (callFunc 91 vs).run Try.prog w = .ok (.enter 91 vs) w := callFunc_run Try.func91 (by decide) rfl
theorem go92 : ∀ (vs : Array Value) w, (callFunc 92 vs).run Try.prog w = .ok (.enter 92 vs) w := callFunc_run Try.func92 (by decide) rfl
theorem go93 : ∀ (vs : Array Value) w, (callFunc 93 vs).run Try.prog w = .ok (.enter 93 vs) w := callFunc_run Try.func93 (by decide) rfl
theorem go94 : ∀ (vs : Array Value) w, (callFunc 94 vs).run Try.prog w = .ok (.enter 94 vs) w := callFunc_run Try.func94 (by decide) rfl
theorem go95 : ∀ (vs : Array Value) w, (callFunc 95 vs).run Try.prog w = .ok (.enter 95 vs) w := callFunc_run Try.func95 (by decide) rfl
theorem go96 : ∀ (vs : Array Value) w, (callFunc 96 vs).run Try.prog w = .ok (.enter 96 vs) w := callFunc_run Try.func96 (by decide) rfl
theorem go97 : ∀ (vs : Array Value) w, (callFunc 97 vs).run Try.prog w = .ok (.enter 97 vs) w := callFunc_run Try.func97 (by decide) rfl
theorem go98 : ∀ (vs : Array Value) w, (callFunc 98 vs).run Try.prog w = .ok (.enter 98 vs) w := callFunc_run Try.func98 (by decide) rfl
theorem go99 : ∀ (vs : Array Value) w, (callFunc 99 vs).run Try.prog w = .ok (.enter 99 vs) w := callFunc_run Try.func99 (by decide) rfl
theorem go100 : ∀ (vs : Array Value) w, (callFunc 100 vs).run Try.prog w = .ok (.enter 100 vs) w := callFunc_run Try.func100 (by decide) rfl
theorem go101 : ∀ (vs : Array Value) w, (callFunc 101 vs).run Try.prog w = .ok (.enter 101 vs) w := callFunc_run Try.func101 (by decide) rfl
theorem go102 : ∀ (vs : Array Value) w, (callFunc 102 vs).run Try.prog w = .ok (.enter 102 vs) w := callFunc_run Try.func102 (by decide) rfl
theorem go103 : ∀ (vs : Array Value) w, (callFunc 103 vs).run Try.prog w = .ok (.enter 103 vs) w := callFunc_run Try.func103 (by decide) rfl
theorem go104 : ∀ (vs : Array Value) w, (callFunc 104 vs).run Try.prog w = .ok (.enter 104 vs) w := callFunc_run Try.func104 (by decide) rfl
theorem go105 : ∀ (vs : Array Value) w, (callFunc 105 vs).run Try.prog w = .ok (.enter 105 vs) w := callFunc_run Try.func105 (by decide) rfl
theorem go106 : ∀ (vs : Array Value) w, (callFunc 106 vs).run Try.prog w = .ok (.enter 106 vs) w := callFunc_run Try.func106 (by decide) rfl
theorem go107 : ∀ (vs : Array Value) w, (callFunc 107 vs).run Try.prog w = .ok (.enter 107 vs) w := callFunc_run Try.func107 (by decide) rfl
theorem go108 : ∀ (vs : Array Value) w, (callFunc 108 vs).run Try.prog w = .ok (.enter 108 vs) w := callFunc_run Try.func108 (by decide) rfl
theorem go109 : ∀ (vs : Array Value) w, (callFunc 109 vs).run Try.prog w = .ok (.enter 109 vs) w := callFunc_run Try.func109 (by decide) rfl
theorem go110 : ∀ (vs : Array Value) w, (callFunc 110 vs).run Try.prog w = .ok (.enter 110 vs) w := callFunc_run Try.func110 (by decide) rfl
theorem go111 : ∀ (vs : Array Value) w, (callFunc 111 vs).run Try.prog w = .ok (.enter 111 vs) w := callFunc_run Try.func111 (by decide) rfl
theorem go112 : ∀ (vs : Array Value) w, (callFunc 112 vs).run Try.prog w = .ok (.enter 112 vs) w := callFunc_run Try.func112 (by decide) rfl
theorem go113 : ∀ (vs : Array Value) w, (callFunc 113 vs).run Try.prog w = .ok (.enter 113 vs) w := callFunc_run Try.func113 (by decide) rfl
theorem go114 : ∀ (vs : Array Value) w, (callFunc 114 vs).run Try.prog w = .ok (.enter 114 vs) w := callFunc_run Try.func114 (by decide) rfl
theorem go115 : ∀ (vs : Array Value) w, (callFunc 115 vs).run Try.prog w = .ok (.enter 115 vs) w := callFunc_run Try.func115 (by decide) rfl
theorem go116 : ∀ (vs : Array Value) w, (callFunc 116 vs).run Try.prog w = .ok (.enter 116 vs) w := callFunc_run Try.func116 (by decide) rfl
theorem go117 : ∀ (vs : Array Value) w, (callFunc 117 vs).run Try.prog w = .ok (.enter 117 vs) w := callFunc_run Try.func117 (by decide) rfl
theorem go118 : ∀ (vs : Array Value) w, (callFunc 118 vs).run Try.prog w = .ok (.enter 118 vs) w := callFunc_run Try.func118 (by decide) rfl
theorem go119 : ∀ (vs : Array Value) w, (callFunc 119 vs).run Try.prog w = .ok (.enter 119 vs) w := callFunc_run Try.func119 (by decide) rfl
theorem go120 : ∀ (vs : Array Value) w, (callFunc 120 vs).run Try.prog w = .ok (.enter 120 vs) w := callFunc_run Try.func120 (by decide) rfl
theorem go121 : ∀ (vs : Array Value) w, (callFunc 121 vs).run Try.prog w = .ok (.enter 121 vs) w := callFunc_run Try.func121 (by decide) rfl
theorem go122 : ∀ (vs : Array Value) w, (callFunc 122 vs).run Try.prog w = .ok (.enter 122 vs) w := callFunc_run Try.func122 (by decide) rfl
theorem go123 : ∀ (vs : Array Value) w, (callFunc 123 vs).run Try.prog w = .ok (.enter 123 vs) w := callFunc_run Try.func123 (by decide) rfl
theorem go124 : ∀ (vs : Array Value) w, (callFunc 124 vs).run Try.prog w = .ok (.enter 124 vs) w := callFunc_run Try.func124 (by decide) rfl
theorem go125 : ∀ (vs : Array Value) w, (callFunc 125 vs).run Try.prog w = .ok (.enter 125 vs) w := callFunc_run Try.func125 (by decide) rfl
theorem go126 : ∀ (vs : Array Value) w, (callFunc 126 vs).run Try.prog w = .ok (.enter 126 vs) w := callFunc_run Try.func126 (by decide) rfl
theorem go127 : ∀ (vs : Array Value) w, (callFunc 127 vs).run Try.prog w = .ok (.enter 127 vs) w := callFunc_run Try.func127 (by decide) rfl
theorem go128 : ∀ (vs : Array Value) w, (callFunc 128 vs).run Try.prog w = .ok (.enter 128 vs) w := callFunc_run Try.func128 (by decide) rfl
theorem go129 : ∀ (vs : Array Value) w, (callFunc 129 vs).run Try.prog w = .ok (.enter 129 vs) w := callFunc_run Try.func129 (by decide) rfl
theorem go130 : ∀ (vs : Array Value) w, (callFunc 130 vs).run Try.prog w = .ok (.enter 130 vs) w := callFunc_run Try.func130 (by decide) rfl
theorem go131 : ∀ (vs : Array Value) w, (callFunc 131 vs).run Try.prog w = .ok (.enter 131 vs) w := callFunc_run Try.func131 (by decide) rfl
theorem go132 : ∀ (vs : Array Value) w, (callFunc 132 vs).run Try.prog w = .ok (.enter 132 vs) w := callFunc_run Try.func132 (by decide) rfl
theorem go133 : ∀ (vs : Array Value) w, (callFunc 133 vs).run Try.prog w = .ok (.enter 133 vs) w := callFunc_run Try.func133 (by decide) rfl
theorem go134 : ∀ (vs : Array Value) w, (callFunc 134 vs).run Try.prog w = .ok (.enter 134 vs) w := callFunc_run Try.func134 (by decide) rfl
theorem go135 : ∀ (vs : Array Value) w, (callFunc 135 vs).run Try.prog w = .ok (.enter 135 vs) w := callFunc_run Try.func135 (by decide) rfl
theorem go136 : ∀ (vs : Array Value) w, (callFunc 136 vs).run Try.prog w = .ok (.enter 136 vs) w := callFunc_run Try.func136 (by decide) rfl
theorem go137 : ∀ (vs : Array Value) w, (callFunc 137 vs).run Try.prog w = .ok (.enter 137 vs) w := callFunc_run Try.func137 (by decide) rfl
theorem go138 : ∀ (vs : Array Value) w, (callFunc 138 vs).run Try.prog w = .ok (.enter 138 vs) w := callFunc_run Try.func138 (by decide) rfl
theorem go139 : ∀ (vs : Array Value) w, (callFunc 139 vs).run Try.prog w = .ok (.enter 139 vs) w := callFunc_run Try.func139 (by decide) rfl
theorem go140 : ∀ (vs : Array Value) w, (callFunc 140 vs).run Try.prog w = .ok (.enter 140 vs) w := callFunc_run Try.func140 (by decide) rfl
theorem go141 : ∀ (vs : Array Value) w, (callFunc 141 vs).run Try.prog w = .ok (.enter 141 vs) w := callFunc_run Try.func141 (by decide) rfl
theorem go142 : ∀ (vs : Array Value) w, (callFunc 142 vs).run Try.prog w = .ok (.enter 142 vs) w := callFunc_run Try.func142 (by decide) rfl
theorem go143 : ∀ (vs : Array Value) w, (callFunc 143 vs).run Try.prog w = .ok (.enter 143 vs) w := callFunc_run Try.func143 (by decide) rfl
theorem go144 : ∀ (vs : Array Value) w, (callFunc 144 vs).run Try.prog w = .ok (.enter 144 vs) w := callFunc_run Try.func144 (by decide) rfl
theorem go145 : ∀ (vs : Array Value) w, (callFunc 145 vs).run Try.prog w = .ok (.enter 145 vs) w := callFunc_run Try.func145 (by decide) rfl
theorem go146 : ∀ (vs : Array Value) w, (callFunc 146 vs).run Try.prog w = .ok (.enter 146 vs) w := callFunc_run Try.func146 (by decide) rfl
theorem go147 : ∀ (vs : Array Value) w, (callFunc 147 vs).run Try.prog w = .ok (.enter 147 vs) w := callFunc_run Try.func147 (by decide) rfl
theorem go148 : ∀ (vs : Array Value) w, (callFunc 148 vs).run Try.prog w = .ok (.enter 148 vs) w := callFunc_run Try.func148 (by decide) rfl
theorem go149 : ∀ (vs : Array Value) w, (callFunc 149 vs).run Try.prog w = .ok (.enter 149 vs) w := callFunc_run Try.func149 (by decide) rfl
theorem go150 : ∀ (vs : Array Value) w, (callFunc 150 vs).run Try.prog w = .ok (.enter 150 vs) w := callFunc_run Try.func150 (by decide) rfl
theorem go151 : ∀ (vs : Array Value) w, (callFunc 151 vs).run Try.prog w = .ok (.enter 151 vs) w := callFunc_run Try.func151 (by decide) rfl
theorem go152 : ∀ (vs : Array Value) w, (callFunc 152 vs).run Try.prog w = .ok (.enter 152 vs) w := callFunc_run Try.func152 (by decide) rfl
theorem go153 : ∀ (vs : Array Value) w, (callFunc 153 vs).run Try.prog w = .ok (.enter 153 vs) w := callFunc_run Try.func153 (by decide) rfl
theorem go154 : ∀ (vs : Array Value) w, (callFunc 154 vs).run Try.prog w = .ok (.enter 154 vs) w := callFunc_run Try.func154 (by decide) rfl
theorem go155 : ∀ (vs : Array Value) w, (callFunc 155 vs).run Try.prog w = .ok (.enter 155 vs) w := callFunc_run Try.func155 (by decide) rfl
theorem go156 : ∀ (vs : Array Value) w, (callFunc 156 vs).run Try.prog w = .ok (.enter 156 vs) w := callFunc_run Try.func156 (by decide) rfl
theorem go157 : ∀ (vs : Array Value) w, (callFunc 157 vs).run Try.prog w = .ok (.enter 157 vs) w := callFunc_run Try.func157 (by decide) rfl
theorem go158 : ∀ (vs : Array Value) w, (callFunc 158 vs).run Try.prog w = .ok (.enter 158 vs) w := callFunc_run Try.func158 (by decide) rfl
theorem go159 : ∀ (vs : Array Value) w, (callFunc 159 vs).run Try.prog w = .ok (.enter 159 vs) w := callFunc_run Try.func159 (by decide) rfl
theorem go160 : ∀ (vs : Array Value) w, (callFunc 160 vs).run Try.prog w = .ok (.enter 160 vs) w := callFunc_run Try.func160 (by decide) rfl
theorem go161 : ∀ (vs : Array Value) w, (callFunc 161 vs).run Try.prog w = .ok (.enter 161 vs) w := callFunc_run Try.func161 (by decide) rfl
theorem go162 : ∀ (vs : Array Value) w, (callFunc 162 vs).run Try.prog w = .ok (.enter 162 vs) w := callFunc_run Try.func162 (by decide) rfl
theorem go163 : ∀ (vs : Array Value) w, (callFunc 163 vs).run Try.prog w = .ok (.enter 163 vs) w := callFunc_run Try.func163 (by decide) rfl
theorem go164 : ∀ (vs : Array Value) w, (callFunc 164 vs).run Try.prog w = .ok (.enter 164 vs) w := callFunc_run Try.func164 (by decide) rfl
theorem go165 : ∀ (vs : Array Value) w, (callFunc 165 vs).run Try.prog w = .ok (.enter 165 vs) w := callFunc_run Try.func165 (by decide) rfl
theorem go166 : ∀ (vs : Array Value) w, (callFunc 166 vs).run Try.prog w = .ok (.enter 166 vs) w := callFunc_run Try.func166 (by decide) rfl
theorem go167 : ∀ (vs : Array Value) w, (callFunc 167 vs).run Try.prog w = .ok (.enter 167 vs) w := callFunc_run Try.func167 (by decide) rfl
theorem go169 : ∀ (vs : Array Value) w, (callFunc 169 vs).run Try.prog w = .ok (.enter 169 vs) w := callFunc_run Try.func169 (by decide) rfl
theorem go170 : ∀ (vs : Array Value) w, (callFunc 170 vs).run Try.prog w = .ok (.enter 170 vs) w := callFunc_run Try.func170 (by decide) rfl
theorem go171 : ∀ (vs : Array Value) w, (callFunc 171 vs).run Try.prog w = .ok (.enter 171 vs) w := callFunc_run Try.func171 (by decide) rfl
theorem go172 : ∀ (vs : Array Value) w, (callFunc 172 vs).run Try.prog w = .ok (.enter 172 vs) w := callFunc_run Try.func172 (by decide) rfl
theorem go173 : ∀ (vs : Array Value) w, (callFunc 173 vs).run Try.prog w = .ok (.enter 173 vs) w := callFunc_run Try.func173 (by decide) rfl
theorem go174 : ∀ (vs : Array Value) w, (callFunc 174 vs).run Try.prog w = .ok (.enter 174 vs) w := callFunc_run Try.func174 (by decide) rfl
theorem go176 : ∀ (vs : Array Value) w, (callFunc 176 vs).run Try.prog w = .ok (.enter 176 vs) w := callFunc_run Try.func176 (by decide) rfl
theorem go177 : ∀ (vs : Array Value) w, (callFunc 177 vs).run Try.prog w = .ok (.enter 177 vs) w := callFunc_run Try.func177 (by decide) rfl
theorem go178 : ∀ (vs : Array Value) w, (callFunc 178 vs).run Try.prog w = .ok (.enter 178 vs) w := callFunc_run Try.func178 (by decide) rfl
theorem go179 : ∀ (vs : Array Value) w, (callFunc 179 vs).run Try.prog w = .ok (.enter 179 vs) w := callFunc_run Try.func179 (by decide) rfl
theorem go180 : ∀ (vs : Array Value) w, (callFunc 180 vs).run Try.prog w = .ok (.enter 180 vs) w := callFunc_run Try.func180 (by decide) rfl
theorem go181 : ∀ (vs : Array Value) w, (callFunc 181 vs).run Try.prog w = .ok (.enter 181 vs) w := callFunc_run Try.func181 (by decide) rfl
theorem go182 : ∀ (vs : Array Value) w, (callFunc 182 vs).run Try.prog w = .ok (.enter 182 vs) w := callFunc_run Try.func182 (by decide) rfl
theorem go183 : ∀ (vs : Array Value) w, (callFunc 183 vs).run Try.prog w = .ok (.enter 183 vs) w := callFunc_run Try.func183 (by decide) rfl
theorem go184 : ∀ (vs : Array Value) w, (callFunc 184 vs).run Try.prog w = .ok (.enter 184 vs) w := callFunc_run Try.func184 (by decide) rfl
theorem go185 : ∀ (vs : Array Value) w, (callFunc 185 vs).run Try.prog w = .ok (.enter 185 vs) w := callFunc_run Try.func185 (by decide) rfl
theorem go186 : ∀ (vs : Array Value) w, (callFunc 186 vs).run Try.prog w = .ok (.enter 186 vs) w := callFunc_run Try.func186 (by decide) rfl
theorem go187 : ∀ (vs : Array Value) w, (callFunc 187 vs).run Try.prog w = .ok (.enter 187 vs) w := callFunc_run Try.func187 (by decide) rfl
theorem go188 : ∀ (vs : Array Value) w, (callFunc 188 vs).run Try.prog w = .ok (.enter 188 vs) w := callFunc_run Try.func188 (by decide) rfl
theorem go189 : ∀ (vs : Array Value) w, (callFunc 189 vs).run Try.prog w = .ok (.enter 189 vs) w := callFunc_run Try.func189 (by decide) rfl
theorem go190 : ∀ (vs : Array Value) w, (callFunc 190 vs).run Try.prog w = .ok (.enter 190 vs) w := callFunc_run Try.func190 (by decide) rfl
theorem go191 : ∀ (vs : Array Value) w, (callFunc 191 vs).run Try.prog w = .ok (.enter 191 vs) w := callFunc_run Try.func191 (by decide) rfl
theorem go192 : ∀ (vs : Array Value) w, (callFunc 192 vs).run Try.prog w = .ok (.enter 192 vs) w := callFunc_run Try.func192 (by decide) rfl
theorem go193 : ∀ (vs : Array Value) w, (callFunc 193 vs).run Try.prog w = .ok (.enter 193 vs) w := callFunc_run Try.func193 (by decide) rfl
theorem go194 : ∀ (vs : Array Value) w, (callFunc 194 vs).run Try.prog w = .ok (.enter 194 vs) w := callFunc_run Try.func194 (by decide) rfl
theorem go195 : ∀ (vs : Array Value) w, (callFunc 195 vs).run Try.prog w = .ok (.enter 195 vs) w := callFunc_run Try.func195 (by decide) rfl
theorem go196 : ∀ (vs : Array Value) w, (callFunc 196 vs).run Try.prog w = .ok (.enter 196 vs) w := callFunc_run Try.func196 (by decide) rfl
theorem go197 : ∀ (vs : Array Value) w, (callFunc 197 vs).run Try.prog w = .ok (.enter 197 vs) w := callFunc_run Try.func197 (by decide) rfl
theorem go198 : ∀ (vs : Array Value) w, (callFunc 198 vs).run Try.prog w = .ok (.enter 198 vs) w := callFunc_run Try.func198 (by decide) rfl
theorem go199 : ∀ (vs : Array Value) w, (callFunc 199 vs).run Try.prog w = .ok (.enter 199 vs) w := callFunc_run Try.func199 (by decide) rfl
theorem go200 : ∀ (vs : Array Value) w, (callFunc 200 vs).run Try.prog w = .ok (.enter 200 vs) w := callFunc_run Try.func200 (by decide) rfl
theorem go201 : ∀ (vs : Array Value) w, (callFunc 201 vs).run Try.prog w = .ok (.enter 201 vs) w := callFunc_run Try.func201 (by decide) rfl
theorem go202 : ∀ (vs : Array Value) w, (callFunc 202 vs).run Try.prog w = .ok (.enter 202 vs) w := callFunc_run Try.func202 (by decide) rfl
theorem go203 : ∀ (vs : Array Value) w, (callFunc 203 vs).run Try.prog w = .ok (.enter 203 vs) w := callFunc_run Try.func203 (by decide) rfl
theorem go204 : ∀ (vs : Array Value) w, (callFunc 204 vs).run Try.prog w = .ok (.enter 204 vs) w := callFunc_run Try.func204 (by decide) rfl
theorem go205 : ∀ (vs : Array Value) w, (callFunc 205 vs).run Try.prog w = .ok (.enter 205 vs) w := callFunc_run Try.func205 (by decide) rfl
theorem go206 : ∀ (vs : Array Value) w, (callFunc 206 vs).run Try.prog w = .ok (.enter 206 vs) w := callFunc_run Try.func206 (by decide) rfl
theorem go207 : ∀ (vs : Array Value) w, (callFunc 207 vs).run Try.prog w = .ok (.enter 207 vs) w := callFunc_run Try.func207 (by decide) rfl
theorem go208 : ∀ (vs : Array Value) w, (callFunc 208 vs).run Try.prog w = .ok (.enter 208 vs) w := callFunc_run Try.func208 (by decide) rfl
theorem go210 : ∀ (vs : Array Value) w, (callFunc 210 vs).run Try.prog w = .ok (.enter 210 vs) w := callFunc_run Try.func210 (by decide) rfl
theorem go211 : ∀ (vs : Array Value) w, (callFunc 211 vs).run Try.prog w = .ok (.enter 211 vs) w := callFunc_run Try.func211 (by decide) rfl
theorem go212 : ∀ (vs : Array Value) w, (callFunc 212 vs).run Try.prog w = .ok (.enter 212 vs) w := callFunc_run Try.func212 (by decide) rfl
theorem go213 : ∀ (vs : Array Value) w, (callFunc 213 vs).run Try.prog w = .ok (.enter 213 vs) w := callFunc_run Try.func213 (by decide) rfl
theorem go214 : ∀ (vs : Array Value) w, (callFunc 214 vs).run Try.prog w = .ok (.enter 214 vs) w := callFunc_run Try.func214 (by decide) rfl
theorem go215 : ∀ (vs : Array Value) w, (callFunc 215 vs).run Try.prog w = .ok (.enter 215 vs) w := callFunc_run Try.func215 (by decide) rfl
theorem go216 : ∀ (vs : Array Value) w, (callFunc 216 vs).run Try.prog w = .ok (.enter 216 vs) w := callFunc_run Try.func216 (by decide) rfl
theorem go217 : ∀ (vs : Array Value) w, (callFunc 217 vs).run Try.prog w = .ok (.enter 217 vs) w := callFunc_run Try.func217 (by decide) rfl
theorem go218 : ∀ (vs : Array Value) w, (callFunc 218 vs).run Try.prog w = .ok (.enter 218 vs) w := callFunc_run Try.func218 (by decide) rfl
theorem go219 : ∀ (vs : Array Value) w, (callFunc 219 vs).run Try.prog w = .ok (.enter 219 vs) w := callFunc_run Try.func219 (by decide) rfl
theorem go220 : ∀ (vs : Array Value) w, (callFunc 220 vs).run Try.prog w = .ok (.enter 220 vs) w := callFunc_run Try.func220 (by decide) rfl
theorem go222 : ∀ (vs : Array Value) w, (callFunc 222 vs).run Try.prog w = .ok (.enter 222 vs) w := callFunc_run Try.func222 (by decide) rfl
theorem go223 : ∀ (vs : Array Value) w, (callFunc 223 vs).run Try.prog w = .ok (.enter 223 vs) w := callFunc_run Try.func223 (by decide) rfl
theorem go224 : ∀ (vs : Array Value) w, (callFunc 224 vs).run Try.prog w = .ok (.enter 224 vs) w := callFunc_run Try.func224 (by decide) rfl
theorem go225 : ∀ (vs : Array Value) w, (callFunc 225 vs).run Try.prog w = .ok (.enter 225 vs) w := callFunc_run Try.func225 (by decide) rfl
theorem go226 : ∀ (vs : Array Value) w, (callFunc 226 vs).run Try.prog w = .ok (.enter 226 vs) w := callFunc_run Try.func226 (by decide) rfl
theorem go227 : ∀ (vs : Array Value) w, (callFunc 227 vs).run Try.prog w = .ok (.enter 227 vs) w := callFunc_run Try.func227 (by decide) rfl
theorem go228 : ∀ (vs : Array Value) w, (callFunc 228 vs).run Try.prog w = .ok (.enter 228 vs) w := callFunc_run Try.func228 (by decide) rfl
theorem go229 : ∀ (vs : Array Value) w, (callFunc 229 vs).run Try.prog w = .ok (.enter 229 vs) w := callFunc_run Try.func229 (by decide) rfl
theorem go230 : ∀ (vs : Array Value) w, (callFunc 230 vs).run Try.prog w = .ok (.enter 230 vs) w := callFunc_run Try.func230 (by decide) rfl
theorem go231 : ∀ (vs : Array Value) w, (callFunc 231 vs).run Try.prog w = .ok (.enter 231 vs) w := callFunc_run Try.func231 (by decide) rfl
theorem go232 : ∀ (vs : Array Value) w, (callFunc 232 vs).run Try.prog w = .ok (.enter 232 vs) w := callFunc_run Try.func232 (by decide) rfl
theorem go233 : ∀ (vs : Array Value) w, (callFunc 233 vs).run Try.prog w = .ok (.enter 233 vs) w := callFunc_run Try.func233 (by decide) rfl
theorem go235 : ∀ (vs : Array Value) w, (callFunc 235 vs).run Try.prog w = .ok (.enter 235 vs) w := callFunc_run Try.func235 (by decide) rfl
theorem go236 : ∀ (vs : Array Value) w, (callFunc 236 vs).run Try.prog w = .ok (.enter 236 vs) w := callFunc_run Try.func236 (by decide) rfl
theorem go237 : ∀ (vs : Array Value) w, (callFunc 237 vs).run Try.prog w = .ok (.enter 237 vs) w := callFunc_run Try.func237 (by decide) rfl
theorem go240 : ∀ (vs : Array Value) w, (callFunc 240 vs).run Try.prog w = .ok (.enter 240 vs) w := callFunc_run Try.func240 (by decide) rfl
theorem go241 : ∀ (vs : Array Value) w, (callFunc 241 vs).run Try.prog w = .ok (.enter 241 vs) w := callFunc_run Try.func241 (by decide) rfl
theorem go242 : ∀ (vs : Array Value) w, (callFunc 242 vs).run Try.prog w = .ok (.enter 242 vs) w := callFunc_run Try.func242 (by decide) rfl
theorem go243 : ∀ (vs : Array Value) w, (callFunc 243 vs).run Try.prog w = .ok (.enter 243 vs) w := callFunc_run Try.func243 (by decide) rfl
theorem go244 : ∀ (vs : Array Value) w, (callFunc 244 vs).run Try.prog w = .ok (.enter 244 vs) w := callFunc_run Try.func244 (by decide) rfl
theorem go245 : ∀ (vs : Array Value) w, (callFunc 245 vs).run Try.prog w = .ok (.enter 245 vs) w := callFunc_run Try.func245 (by decide) rfl
theorem go246 : ∀ (vs : Array Value) w, (callFunc 246 vs).run Try.prog w = .ok (.enter 246 vs) w := callFunc_run Try.func246 (by decide) rfl
theorem go247 : ∀ (vs : Array Value) w, (callFunc 247 vs).run Try.prog w = .ok (.enter 247 vs) w := callFunc_run Try.func247 (by decide) rfl
theorem go248 : ∀ (vs : Array Value) w, (callFunc 248 vs).run Try.prog w = .ok (.enter 248 vs) w := callFunc_run Try.func248 (by decide) rfl
theorem go249 : ∀ (vs : Array Value) w, (callFunc 249 vs).run Try.prog w = .ok (.enter 249 vs) w := callFunc_run Try.func249 (by decide) rfl

end Go.Proofs.Ythpolibakkmmeaa
/-
  The walks of package order.
-/
set_option linter.unusedVariables false
set_option linter.unusedSimpArgs false
set_option maxRecDepth 4000
namespace Go.Proofs.Ythpolibakkmmeaa
open Go Brv
theorem nanI_ok (x : Int) (w : World) : Meets Try.prog 214 [.int .i64 x] w (fun v w' => v = .bool false ∧ w' = w) := by
  refine Meets.enter Try.func214 rfl 6 rfl (Nat.le_of_ble_eq_true rfl) ?_
  refine G.seq ?_
  refine G.region ?_
  refine L.val rfl rfl (R.as rfl) ?_
  refine L.nil ?_
  refine N.seq ?_
  refine G.seq ?_
  refine G.region ?_
  refine L.val rfl rfl (R.mv rfl) ?_
  refine L.val rfl rfl (R.mv rfl) ?_
  refine L.val rfl rfl (R.neI rfl rfl) ?_
  refine L.val rfl rfl (R.as rfl) ?_
  refine L.nil ?_
  refine N.seq ?_
  refine G.ret1 rfl rfl ?_
  exact ⟨congrArg Value.bool (by simp), rfl⟩

theorem cmpI_ok (x y : Int) (w : World) : Meets Try.prog 174 [.int .i64 x, .int .i64 y] w (fun v w' => v = .int .i64 (cmpF x y) ∧ w' = w) := by
  refine Meets.enter Try.func174 rfl 20 rfl (Nat.le_of_ble_eq_true rfl) ?_
  refine G.seq ?_
  refine G.region ?_
  refine L.val rfl rfl (R.as rfl) ?_
  refine L.nil ?_
  refine N.seq ?_
  refine G.seq ?_
  refine G.region ?_
  refine L.val rfl rfl (R.mv rfl) ?_
  refine L.callF rfl rfl rfl go214 (nanI_ok _ _) ?_
  rintro _ _ ⟨rfl, hw⟩
  obtain rfl := hw.symm
  refine L.val rfl rfl (R.as rfl) ?_
  refine L.nil ?_
  refine N.seq ?_
  refine G.seq ?_
  refine G.region ?_
  refine L.val rfl rfl (R.mv rfl) ?_
  refine L.callF rfl rfl rfl go214 (nanI_ok _ _) ?_
  rintro _ _ ⟨rfl, hw⟩
  obtain rfl := hw.symm
  refine L.val rfl rfl (R.as rfl) ?_
  refine L.nil ?_
  refine N.seq ?_
  refine G.seq ?_
  refine G.seq ?_
  refine G.region ?_
  refine L.val rfl rfl (R.mv rfl) ?_
  refine L.nil ?_
  refine N.seq ?_
  refine G.condF rfl ?_
  refine G.skip ?_
  refine N.seq ?_
  refine G.seq ?_
  refine G.seq ?_
  refine G.region ?_
  refine L.val rfl rfl (R.mv rfl) ?_
  refine L.nil ?_
  refine N.seq ?_
  refine G.condF rfl ?_
  refine G.skip ?_
  refine N.seq ?_
  refine G.seq ?_
  refine G.seq ?_
  refine G.region ?_
  refine L.val rfl rfl (R.mv rfl) ?_
  refine L.val rfl rfl (R.mv rfl) ?_
  refine L.val rfl rfl (R.lss rfl rfl) ?_
  refine L.nil ?_
  refine N.seq ?_
  refine G.condB rfl (fun h3 => ?_) (fun h3 => ?_)
  · refine G.seq ?_
    refine G.region ?_
    refine L.val rfl rfl (R.as rfl) ?_
    refine L.nil ?_
    refine N.seq ?_
    refine G.ret1 rfl rfl ?_
    first
      | exact ⟨congrArg (Value.int .i64) (cmpF_lt (show Key.lt x y = true from h3)).symm, rfl⟩
      | exact ⟨congrArg (Value.int .i64) (cmpF_gt (show Key.lt x y = false from h3) (show Key.lt y x = true from h4)).symm, rfl⟩
      | exact ⟨congrArg (Value.int .i64) (cmpF_eq (show Key.lt x y = false from h3) (show Key.lt y x = false from h4)).symm, rfl⟩
  · refine G.skip ?_
    refine N.seq ?_
    refine G.seq ?_
    refine G.seq ?_
    refine G.region ?_
    refine L.val rfl rfl (R.mv rfl) ?_
    refine L.val rfl rfl (R.mv rfl) ?_
    refine L.val rfl rfl (R.gtr rfl rfl) ?_
    refine L.nil ?_
    refine N.seq ?_
    refine G.condB rfl (fun h4 => ?_) (fun h4 => ?_)
    · refine G.seq ?_
      refine G.region ?_
      refine L.val rfl rfl (R.as rfl) ?_
      refine L.nil ?_
      refine N.seq ?_
      refine G.ret1 rfl rfl ?_
      first
        | exact ⟨congrArg (Value.int .i64) (cmpF_lt (show Key.lt x y = true from h3)).symm, rfl⟩
        | exact ⟨congrArg (Value.int .i64) (cmpF_gt (show Key.lt x y = false from h3) (show Key.lt y x = true from h4)).symm, rfl⟩
        | exact ⟨congrArg (Value.int .i64) (cmpF_eq (show Key.lt x y = false from h3) (show Key.lt y x = false from h4)).symm, rfl⟩
    · refine G.skip ?_
      refine N.seq ?_
      refine G.seq ?_
      refine G.region ?_
      refine L.val rfl rfl (R.as rfl) ?_
      refine L.nil ?_
      refine N.seq ?_
      refine G.ret1 rfl rfl ?_
      first
        | exact ⟨congrArg (Value.int .i64) (cmpF_lt (show Key.lt x y = true from h3)).symm, rfl⟩
        | exact ⟨congrArg (Value.int .i64) (cmpF_gt (show Key.lt x y = false from h3) (show Key.lt y x = true from h4)).symm, rfl⟩
        | exact ⟨congrArg (Value.int .i64) (cmpF_eq (show Key.lt x y = false from h3) (show Key.lt y x = false from h4)).symm, rfl⟩

theorem nanS_ok (x : List UInt8) (w : World) : Meets Try.prog 210 [.string (str x)] w (fun v w' => v = .bool false ∧ w' = w) := by
  refine Meets.enter Try.func210 rfl 6 rfl (Nat.le_of_ble_eq_true rfl) ?_
  refine G.seq ?_
  refine G.region ?_
  refine L.val rfl rfl (R.as rfl) ?_
  refine L.nil ?_
  refine N.seq ?_
  refine G.seq ?_
  refine G.region ?_
  refine L.val rfl rfl (R.mv rfl) ?_
  refine L.val rfl rfl (R.mv rfl) ?_
  refine L.val rfl rfl (R.neStr rfl rfl) ?_
  refine L.val rfl rfl (R.as rfl) ?_
  refine L.nil ?_
  refine N.seq ?_
  refine G.ret1 rfl rfl ?_
  exact ⟨congrArg Value.bool (by simp), rfl⟩

theorem cmpS_ok (x y : List UInt8) (w : World) : Meets Try.prog 167 [.string (str x), .string (str y)] w (fun v w' => v = .int .i64 (cmpF x y) ∧ w' = w) := by
  refine Meets.enter Try.func167 rfl 20 rfl (Nat.le_of_ble_eq_true rfl) ?_
  refine G.seq ?_
  refine G.region ?_
  refine L.val rfl rfl (R.as rfl) ?_
  refine L.nil ?_
  refine N.seq ?_
  refine G.seq ?_
  refine G.region ?_
  refine L.val rfl rfl (R.mv rfl) ?_
  refine L.callF rfl rfl rfl go210 (nanS_ok _ _) ?_
  rintro _ _ ⟨rfl, hw⟩
  obtain rfl := hw.symm
  refine L.val rfl rfl (R.as rfl) ?_
  refine L.nil ?_
  refine N.seq ?_
  refine G.seq ?_
  refine G.region ?_
  refine L.val rfl rfl (R.mv rfl) ?_
  refine L.callF rfl rfl rfl go210 (nanS_ok _ _) ?_
  rintro _ _ ⟨rfl, hw⟩
  obtain rfl := hw.symm
  refine L.val rfl rfl (R.as rfl) ?_
  refine L.nil ?_
  refine N.seq ?_
  refine G.seq ?_
  refine G.seq ?_
  refine G.region ?_
  refine L.val rfl rfl (R.mv rfl) ?_
  refine L.nil ?_
  refine N.seq ?_
  refine G.condF rfl ?_
  refine G.skip ?_
  refine N.seq ?_
  refine G.seq ?_
  refine G.seq ?_
  refine G.region ?_
  refine L.val rfl rfl (R.mv rfl) ?_
  refine L.nil ?_
  refine N.seq ?_
  refine G.condF rfl ?_
  refine G.skip ?_
  refine N.seq ?_
  refine G.seq ?_
  refine G.seq ?_
  refine G.region ?_
  refine L.val rfl rfl (R.mv rfl) ?_
  refine L.val rfl rfl (R.mv rfl) ?_
  refine L.val rfl rfl (R.ltStr rfl rfl) ?_
  refine L.nil ?_
  refine N.seq ?_
  refine G.condB rfl (fun h3 => ?_) (fun h3 => ?_)
  · refine G.seq ?_
    refine G.region ?_
    refine L.val rfl rfl (R.as rfl) ?_
    refine L.nil ?_
    refine N.seq ?_
    refine G.ret1 rfl rfl ?_
    first
      | exact ⟨congrArg (Value.int .i64) (cmpF_lt (show Key.lt x y = true from h3)).symm, rfl⟩
      | exact ⟨congrArg (Value.int .i64) (cmpF_gt (show Key.lt x y = false from h3) (show Key.lt y x = true from h4)).symm, rfl⟩
      | exact ⟨congrArg (Value.int .i64) (cmpF_eq (show Key.lt x y = false from h3) (show Key.lt y x = false from h4)).symm, rfl⟩
  · refine G.skip ?_
    refine N.seq ?_
    refine G.seq ?_
    refine G.seq ?_
    refine G.region ?_
    refine L.val rfl rfl (R.mv rfl) ?_
    refine L.val rfl rfl (R.mv rfl) ?_
    refine L.val rfl rfl (R.gtStr rfl rfl) ?_
    refine L.nil ?_
    refine N.seq ?_
    refine G.condB rfl (fun h4 => ?_) (fun h4 => ?_)
    · refine G.seq ?_
      refine G.region ?_
      refine L.val rfl rfl (R.as rfl) ?_
      refine L.nil ?_
      refine N.seq ?_
      refine G.ret1 rfl rfl ?_
      first
        | exact ⟨congrArg (Value.int .i64) (cmpF_lt (show Key.lt x y = true from h3)).symm, rfl⟩
        | exact ⟨congrArg (Value.int .i64) (cmpF_gt (show Key.lt x y = false from h3) (show Key.lt y x = true from h4)).symm, rfl⟩
        | exact ⟨congrArg (Value.int .i64) (cmpF_eq (show Key.lt x y = false from h3) (show Key.lt y x = false from h4)).symm, rfl⟩
    · refine G.skip ?_
      refine N.seq ?_
      refine G.seq ?_
      refine G.region ?_
      refine L.val rfl rfl (R.as rfl) ?_
      refine L.nil ?_
      refine N.seq ?_
      refine G.ret1 rfl rfl ?_
      first
        | exact ⟨congrArg (Value.int .i64) (cmpF_lt (show Key.lt x y = true from h3)).symm, rfl⟩
        | exact ⟨congrArg (Value.int .i64) (cmpF_gt (show Key.lt x y = false from h3) (show Key.lt y x = true from h4)).symm, rfl⟩
        | exact ⟨congrArg (Value.int .i64) (cmpF_eq (show Key.lt x y = false from h3) (show Key.lt y x = false from h4)).symm, rfl⟩

end Go.Proofs.Ythpolibakkmmeaa
/-
  The walks of package order.
-/
set_option linter.unusedVariables false
set_option linter.unusedSimpArgs false
set_option maxRecDepth 4000
namespace Go.Proofs.Ythpolibakkmmeaa
open Go Brv
theorem find1S_ok (p : Pr (Int)) (k : Int) (w : World) : Meets Try.prog 173 [.agg (pcell p).toArray, .int .i64 k] w (fun v w' => v = .int .i64 (cmpF p.1 k) ∧ Ext [] w w') := by
  refine Meets.enter Try.func173 rfl 9 rfl (Nat.le_of_ble_eq_true rfl) ?_
  have E := Ext.refl [] w
  refine G.seq ?_
  refine G.region ?_
  refine L.do rfl rfl (R.box rfl) ?_
  rintro _ w1 ⟨b2, rfl, hb2, hs2, e1, B2⟩
  replace B2 : Blk w1 b2 (pcell p).toArray 194 (0, 0) := B2
  replace E := E.trans0 e1
  refine L.val rfl rfl (R.as rfl) ?_
  refine L.nil ?_
  refine N.seq ?_
  refine G.seq ?_
  refine G.region ?_
  refine L.val rfl rfl (R.fld rfl) ?_
  refine L.val rfl rfl (R.ldB (v := .int .i64 p.1) rfl B2 rfl) ?_
  refine L.val rfl rfl (R.mv rfl) ?_
  refine L.callF rfl rfl rfl go174 (cmpI_ok _ _ _) ?_
  rintro _ _ ⟨rfl, hw⟩
  obtain rfl := hw.symm
  refine L.val rfl rfl (R.as rfl) ?_
  refine L.nil ?_
  refine N.seq ?_
  refine G.ret1 rfl rfl ?_
  exact ⟨rfl, E⟩

theorem bsS_ok (a : Option Addr) (n c : Nat) (ps : List (Pr (Int))) (k : Int) (w : World) (hc : Cells w a (pcells ps)) (hn : n = ps.length) (hok : OkP 1 ps) (hs : Sorted ps) (hnl : n ≤ 1000000) : Meets Try.prog 172 [.slice a n c, .int .i64 k, .func (.func 173) #[] #[]] w (fun v w' => v = .tuple #[.int .i64 (low ps k : Int), .bool (hasK ps k)] ∧ Ext [] w w') := by
  refine Meets.enter Try.func172 rfl 49 rfl (Nat.le_of_ble_eq_true rfl) ?_
  have E := Ext.refl [] w
  have hT := Tab.pairs hc hn hok
  have hlo := low_le ps k
  refine G.seq ?_
  refine G.region ?_
  refine L.val rfl rfl (R.as rfl) ?_
  refine L.val rfl rfl (R.as rfl) ?_
  refine L.nil ?_
  refine N.seq ?_
  refine G.seq ?_
  refine G.region ?_
  refine L.val rfl rfl (R.mv rfl) ?_
  refine L.val rfl rfl (R.lenS rfl) ?_
  refine L.val rfl rfl (R.as rfl) ?_
  refine L.nil ?_
  refine N.seq ?_
  refine G.seq ?_
  refine G.region ?_
  refine L.val rfl rfl (R.mv rfl) ?_
  refine L.val rfl rfl (R.as rfl) ?_
  refine L.val rfl rfl (R.as rfl) ?_
  refine L.nil ?_
  refine N.seq ?_
  refine G.seq ?_
  refine G.block ?_
  refine G.loop (X := Nat × Nat) (fun s => [(0, .slice a n c), (1, .int .i64 k), (2, .func (.func 173) #[] #[]), (8, .int .i64 (n : Int)), (9, .int .i64 (s.1 : Int)), (10, .int .i64 (s.2 : Int))]) (fun s w' => s.1 ≤ s.2 ∧ s.2 ≤ n ∧ s.1 ≤ low ps k ∧ low ps k ≤ s.2 ∧ Ext [] w w') (fun s => s.2 - s.1) ((0, n)) (Sub.cons rfl (Sub.cons rfl (Sub.cons rfl (Sub.cons rfl (Sub.cons rfl (Sub.cons rfl (Sub.nil _))))))) ⟨Nat.zero_le _, Nat.le_refl _, Nat.zero_le _, by show low ps k ≤ n; omega, E⟩ ?_
  rintro ⟨i, j⟩ w1 ⟨hi1, hi2, hi3, hi4, E⟩
  dsimp only at hi1 hi2 hi3 hi4
  refine G.sub [(0, .slice a n c), (1, .int .i64 k), (2, .func (.func 173) #[] #[]), (8, .int .i64 (n : Int)), (9, .int .i64 (i : Int)), (10, .int .i64 (j : Int))] (Sub.cons rfl (Sub.cons rfl (Sub.cons rfl (Sub.cons rfl (Sub.cons rfl (Sub.cons rfl (Sub.nil _))))))) ?_
  refine G.seq ?_
  refine G.seq ?_
  refine G.region ?_
  refine L.val rfl rfl (R.mv rfl) ?_
  refine L.val rfl rfl (R.mv rfl) ?_
  refine L.val rfl rfl (R.lss rfl rfl) ?_
  refine L.nil ?_
  refine N.seq ?_
  refine G.condP rfl (fun h0 => ?_) (fun h0 => ?_)
  · have hij : i < j := by omega
    obtain ⟨hm, hhm⟩ : ∃ hm, hm = (i + j) / 2 := ⟨_, rfl⟩
    have hm1 : i ≤ hm := by omega
    have hm2 : hm < j := by omega
    refine G.skip ?_
    refine N.seq ?_
    refine G.block ?_
    refine G.seq ?_
    refine G.region ?_
    refine L.val rfl rfl (R.mv rfl) ?_
    refine L.val rfl rfl (R.mv rfl) ?_
    refine L.val rfl rfl (R.add rfl rfl (by omega)) ?_
    refine L.val rfl rfl (R.conv rfl ((i + j : Nat) : Int) (by rw [wrap_u64 (by omega)]; omega)) ?_
    refine L.val rfl rfl (R.shrW rfl rfl (by decide) (hm : Int) (by rw [shr1]; omega)) ?_
    refine L.val rfl rfl (R.conv rfl (hm : Int) (wrap_i64 (by omega))) ?_
    refine L.val rfl rfl (R.as rfl) ?_
    refine L.nil ?_
    refine N.seq ?_
    refine G.seq ?_
    refine G.region ?_
    refine L.val rfl rfl (R.mv rfl) ?_
    refine L.val rfl rfl (R.mv rfl) ?_
    refine L.val rfl rfl (R.mv rfl) ?_
    obtain ⟨p1, hp1⟩ : ∃ p, ps[hm]? = some p := ⟨_, List.getElem?_eq_getElem (by omega)⟩
    obtain ⟨qp1, hqp1, hclp1⟩ := hT.at (by decide) hm (by rw [List.length_map]; omega)
    have hep1 : (ps.map pcell)[hm]'(by rw [List.length_map]; omega) = pcell p1 := by rw [List.getElem_map]; exact congrArg pcell (List.getElem?_eq_some_iff.1 hp1).2
    rw [hep1] at hclp1
    have hszp1 : (pcell p1).length = 2 := by show p1.2.length + 1 = _; rw [(hok p1 (List.mem_of_getElem? hp1)).1]
    refine L.val rfl rfl (R.idx rfl rfl (by omega) (by omega) qp1 hqp1) ?_
    refine L.val rfl rfl (R.ldN (vs := pcell p1) rfl (hclp1.ext0 E) hszp1) ?_
    refine L.val rfl rfl (R.mv rfl) ?_
    refine L.callV rfl rfl rfl rfl rfl go173 (find1S_ok p1 k _) ?_
    rintro _ w2 ⟨rfl, e2⟩
    replace E := E.trans0 e2
    refine L.val rfl rfl (R.lss rfl rfl) ?_
    refine L.nil ?_
    refine N.seq ?_
    refine G.condP rfl (fun h1 => ?_) (fun h1 => ?_)
    · have hcmp : cmpF p1.1 k < 0 := h1
      refine G.region ?_
      refine L.val rfl rfl (R.mv rfl) ?_
      refine L.val rfl rfl (R.add rfl rfl (by omega)) ?_
      refine L.val rfl rfl (R.as rfl) ?_
      refine L.nil ?_
      refine N.block ?_
      first
        | exact N.again (hm + 1, j) (by show j - (hm + 1) < j - i; omega) (Sub.cons rfl (Sub.cons rfl (Sub.cons rfl (Sub.cons rfl (Sub.cons rfl (Sub.cons rfl (Sub.nil _))))))) ⟨by show hm + 1 ≤ j; omega, hi2, by show hm + 1 ≤ low ps k; have := (lt_low hs hp1).1 hcmp; omega, hi4, E⟩
        | exact N.again (i, hm) (by show hm - i < j - i; omega) (Sub.cons rfl (Sub.cons rfl (Sub.cons rfl (Sub.cons rfl (Sub.cons rfl (Sub.cons rfl (Sub.nil _))))))) ⟨by show i ≤ hm; omega, by show hm ≤ n; omega, hi3, by show low ps k ≤ hm; have : ¬ hm < low ps k := fun h9 => hcmp ((lt_low hs hp1).2 h9); omega, E⟩
    · have hcmp : ¬ cmpF p1.1 k < 0 := h1
      refine G.region ?_
      refine L.val rfl rfl (R.mv rfl) ?_
      refine L.val rfl rfl (R.as rfl) ?_
      refine L.nil ?_
      refine N.block ?_
      first
        | exact N.again (hm + 1, j) (by show j - (hm + 1) < j - i; omega) (Sub.cons rfl (Sub.cons rfl (Sub.cons rfl (Sub.cons rfl (Sub.cons rfl (Sub.cons rfl (Sub.nil _))))))) ⟨by show hm + 1 ≤ j; omega, hi2, by show hm + 1 ≤ low ps k; have := (lt_low hs hp1).1 hcmp; omega, hi4, E⟩
        | exact N.again (i, hm) (by show hm - i < j - i; omega) (Sub.cons rfl (Sub.cons rfl (Sub.cons rfl (Sub.cons rfl (Sub.cons rfl (Sub.cons rfl (Sub.nil _))))))) ⟨by show i ≤ hm; omega, by show hm ≤ n; omega, hi3, by show low ps k ≤ hm; have : ¬ hm < low ps k := fun h9 => hcmp ((lt_low hs hp1).2 h9); omega, E⟩
  · have hij : i = low ps k := by omega
    refine G.exit _ rfl ?_
    refine N.seq ?_
    refine G.seq ?_
    refine G.region ?_
    refine L.val rfl rfl (R.mv rfl) ?_
    refine L.val rfl rfl (R.mv rfl) ?_
    refine L.val rfl rfl (R.mv rfl) ?_
    refine L.val rfl rfl (R.lss rfl rfl) ?_
    refine L.val rfl rfl (R.mv rfl) ?_
    refine L.caseP 39 rfl (fun hg8_4 => ?_) (fun hg8_4 => ?_)
    · refine L.val rfl rfl (R.mv rfl) ?_
      refine L.val rfl rfl (R.mv rfl) ?_
      refine L.val rfl rfl (R.mv rfl) ?_
      obtain ⟨p2, hp2⟩ : ∃ p, ps[i]? = some p := ⟨_, List.getElem?_eq_getElem (by omega)⟩
      obtain ⟨qp2, hqp2, hclp2⟩ := hT.at (by decide) i (by rw [List.length_map]; omega)
      have hep2 : (ps.map pcell)[i]'(by rw [List.length_map]; omega) = pcell p2 := by rw [List.getElem_map]; exact congrArg pcell (List.getElem?_eq_some_iff.1 hp2).2
      rw [hep2] at hclp2
      have hszp2 : (pcell p2).length = 2 := by show p2.2.length + 1 = _; rw [(hok p2 (List.mem_of_getElem? hp2)).1]
      refine L.val rfl rfl (R.idx rfl rfl (by omega) (by omega) qp2 hqp2) ?_
      refine L.val rfl rfl (R.ldN (vs := pcell p2) rfl (hclp2.ext0 E) hszp2) ?_
      refine L.val rfl rfl (R.mv rfl) ?_
      refine L.callV rfl rfl rfl rfl rfl go173 (find1S_ok p2 k _) ?_
      rintro _ w3 ⟨rfl, e3⟩
      replace E := E.trans0 e3
      refine L.val rfl rfl (R.eqI rfl rfl) ?_
      first | refine L.val rfl rfl (R.pickT rfl rfl) ?_ | refine L.val rfl rfl (R.pickF rfl rfl) ?_
      refine L.val rfl rfl (R.as rfl) ?_
      refine L.val rfl rfl (R.as rfl) ?_
      refine L.nil ?_
      refine N.seq ?_
      refine G.ret2 rfl rfl rfl ?_
      first
        | exact ⟨by rw [hfound, ← hij], E⟩
        | exact ⟨by rw [hasK_at hs (by rw [← hij]; exact hp2), ← hij], E⟩
    · have hfound : hasK ps k = false := hasK_end (by omega)
      refine L.pass rfl rfl ?_
      refine L.pass rfl rfl ?_
      refine L.pass rfl rfl ?_
      refine L.pass rfl rfl ?_
      refine L.pass rfl rfl ?_
      refine L.pass rfl rfl ?_
      refine L.pass rfl rfl ?_
      refine L.pass rfl rfl ?_
      first | refine L.val rfl rfl (R.pickT rfl rfl) ?_ | refine L.val rfl rfl (R.pickF rfl rfl) ?_
      refine L.val rfl rfl (R.as rfl) ?_
      refine L.val rfl rfl (R.as rfl) ?_
      refine L.nil ?_
      refine N.seq ?_
      refine G.ret2 rfl rfl rfl ?_
      first
        | exact ⟨by rw [hfound, ← hij], E⟩
        | exact ⟨by rw [hasK_at hs (by rw [← hij]; exact hp2), ← hij], E⟩

theorem findS_ok (m : Nat) (ps : List (Pr (Int))) (S : List Nat) (k : Int) (w : World) (hd : MapAt (κ := Int) 191 194 1 w m ps S) (hl : ps.length ≤ 100000) : Meets Try.prog 111 [.pointer (some ⟨m, 0, none⟩), .int .i64 k] w (fun v w' => v = .tuple #[.int .i64 (low ps k : Int), .bool (hasK ps k)] ∧ Ext [] w w') := by
  refine Meets.enter Try.func111 rfl 14 rfl (Nat.le_of_ble_eq_true rfl) ?_
  have E := Ext.refl [] w
  obtain ⟨a, c, M, rfl, hm0, Bm, om, hok, hs⟩ := hd
  refine G.seq ?_
  refine G.region ?_
  refine L.val rfl rfl (R.as rfl) ?_
  refine L.val rfl rfl (R.as rfl) ?_
  refine L.nil ?_
  refine N.seq ?_
  refine G.seq ?_
  refine G.region ?_
  refine L.val rfl rfl (R.mv rfl) ?_
  refine L.val rfl rfl (R.nilChk rfl) ?_
  refine L.val rfl rfl (R.fld rfl) ?_
  refine L.val rfl rfl (R.ldB rfl Bm rfl) ?_
  refine L.val rfl rfl (R.mv rfl) ?_
  refine L.callF rfl rfl rfl go172 (bsS_ok _ _ _ ps k _ om.cells rfl hok hs (by omega)) ?_
  rintro _ w1 ⟨rfl, e1⟩
  replace E := E.trans0 e1
  refine L.val rfl rfl (R.ext rfl rfl) ?_
  refine L.val rfl rfl (R.ext rfl rfl) ?_
  refine L.val rfl rfl (R.as rfl) ?_
  refine L.val rfl rfl (R.as rfl) ?_
  refine L.nil ?_
  refine N.seq ?_
  refine G.ret2 rfl rfl rfl ?_
  exact ⟨rfl, E⟩

theorem insS_ok (a : Option Addr) (n c : Nat) (ps : List (Pr (Int))) (M : List Nat) (i : Nat) (p : Pr (Int)) (vb : Nat) (w : World) (ho : Own w 194 (1 + 1) a n c (pcells ps) M) (hn : n = ps.length) (hok : OkP 1 ps) (hi : i ≤ n) (hp : p.2.length = 1 ∧ ∀ u ∈ p.2, u.oneCell' = true) (Bv : Blk w vb (pcell p).toArray 194 (0, 0)) (hvM : vb ∉ M) (hnl : n ≤ 100000) : Meets Try.prog 112 [.slice a n c, .int .i64 (i : Int), .slice (some ⟨vb, 0, none⟩) 1 1] w (fun v w' => ∃ a' c' M', v = .slice a' (n + 1) c' ∧ Ext M w w' ∧ (∀ g ∈ M', g ∈ M ∨ w.heap.size ≤ g) ∧ Own w' 194 (1 + 1) a' (n + 1) c' (pcells (ps.take i ++ p :: ps.drop i)) M') := by
  refine Meets.enter Try.func112 rfl 95 rfl (Nat.le_of_ble_eq_true rfl) ?_
  have hl2 : (pcell p).length = 2 := by show p.2.length + 1 = _; rw [hp.1]
  have hp1 : ∀ u ∈ pcell p, u.oneCell' = true := pcell1 hp.2
  have hoc := ho.le
  have hps := (pcells_take (sv := 1) hok.len i (by omega))
  rw [show 1 + 1 = 2 from rfl] at hps
  have hcd : (pcells (ps.drop i)).length = (n - i) * 2 := by rw [pcells_len (sv := 1) (fun q hq => (hok q (List.mem_of_mem_drop hq)).1), List.length_drop, hn]
  have hci : (pcells (ps.take i)).length = i * 2 := by rw [pcells_len (sv := 1) (fun q hq => (hok q (List.mem_of_mem_take hq)).1), List.length_take, Nat.min_eq_left (by omega)]
  have hone := pcell_one hok
  have hone2 : ∀ u ∈ pcells (ps.drop i), u.oneCell' = true := fun u hu => hone u (by have h9 := hps.2; rw [← h9] at hu; exact List.mem_of_mem_drop hu)
  have Cv : Cells w (some ⟨vb, 0, none⟩) (pcell p) := Cells.of_blk Bv 0 _ (fun j v hj => by simpa using hj)
  refine G.seq ?_
  refine G.region ?_
  refine L.val rfl rfl (R.as rfl) ?_
  refine L.nil ?_
  refine N.seq ?_
  refine G.seq ?_
  refine G.region ?_
  refine L.val rfl rfl (R.mv rfl) ?_
  refine L.val rfl rfl (R.mv rfl) ?_
  refine L.val rfl rfl (R.slL rfl rfl (by omega) (by omega)) ?_
  refine L.nil ?_
  refine N.seq ?_
  refine G.seq ?_
  refine G.region ?_
  refine L.val rfl rfl (R.mv rfl) ?_
  refine L.val rfl rfl (R.lenS rfl) ?_
  refine L.val rfl rfl (R.as rfl) ?_
  refine L.nil ?_
  refine N.seq ?_
  refine G.seq ?_
  refine G.seq ?_
  refine G.region ?_
  refine L.val rfl rfl (R.mv rfl) ?_
  refine L.val rfl rfl (R.eqI rfl rfl) ?_
  refine L.nil ?_
  refine N.seq ?_
  refine G.condP rfl (fun h0 => ?_) (fun h0 => ?_)
  · exfalso; omega
  · refine G.skip ?_
    refine N.seq ?_
    refine G.seq ?_
    refine G.region ?_
    refine L.val rfl rfl (R.mv rfl) ?_
    refine L.val rfl rfl (R.lenS rfl) ?_
    refine L.val rfl rfl (R.as rfl) ?_
    refine L.nil ?_
    refine N.seq ?_
    refine G.seq ?_
    refine G.seq ?_
    refine G.region ?_
    refine L.val rfl rfl (R.mv rfl) ?_
    refine L.val rfl rfl (R.mv rfl) ?_
    refine L.val rfl rfl (R.eqI rfl rfl) ?_
    refine L.nil ?_
    refine N.seq ?_
    refine G.condP rfl (fun h1 => ?_) (fun h1 => ?_)
    · obtain rfl : i = n := by omega
      refine G.seq ?_
      refine G.region ?_
      refine L.val rfl rfl (R.mv rfl) ?_
      refine L.val rfl rfl (R.mv rfl) ?_
      refine L.do rfl rfl (R.app rfl rfl ho Cv (by rw [hl2]) hp1 (by simp [maxLen]; omega) (by omega)) ?_
      rintro _ w1 ⟨a1, c1, M1, rfl, e1, hM1, o1⟩
      refine L.val rfl rfl (R.as rfl) ?_
      refine L.nil ?_
      refine N.seq ?_
      refine G.ret1 rfl rfl ?_
      first
        | (have e9 : pcells ps ++ pcell p = pcells (ps.take i ++ p :: ps.drop i) := by rw [← pcells_ins, List.take_of_length_le (by omega), List.drop_of_length_le (by omega)]; simp [pcells]
           rw [e9] at o1; exact ⟨a1, c1, M1, rfl, e1, hM1, o1⟩)
        | (refine ⟨_, c1, [g1], rfl, n3.mono (by simp), fun x hx => .inr (by rw [List.mem_singleton.1 hx]; exact hg1), ?_⟩
           have hfin := hog.1; rw [pcells_ins, ← Nat.add_one_mul, ← Nat.add_mul, show i + 1 + (n - i) = n + 1 by omega] at hfin
           refine ⟨by rw [pcells_len (sv := 1) (fun q hq => (okIns hok hp q hq).1), List.length_append, List.length_cons, List.length_take, List.length_drop]; congr 1; omega, .inr ⟨g1, _, rfl, rfl, B3, by omega, hx1, ?_, hfin⟩⟩
           rw [← Nat.add_one_mul] at hog; rw [hog.2.2]; exact hz1)
        | (refine ⟨_, c, [g0], rfl, hE5, fun x hx => .inl hx, ?_⟩
           have hfin := hoi.1; rw [pcells_ins, ← Nat.add_one_mul] at hfin
           refine ⟨by rw [pcells_len (sv := 1) (fun q hq => (okIns hok hp q hq).1), List.length_append, List.length_cons, List.length_take, List.length_drop]; congr 1; omega, .inr ⟨g0, _, rfl, rfl, B5, by omega, hx0, ?_, hfin⟩⟩
           rw [hoi.2.2]; exact hz0)
    · have hin : i < n := by omega
      refine G.skip ?_
      refine N.seq ?_
      refine G.seq ?_
      refine G.seq ?_
      refine G.region ?_
      refine L.val rfl rfl (R.mv rfl) ?_
      refine L.val rfl rfl (R.mv rfl) ?_
      refine L.val rfl rfl (R.add rfl rfl (by omega)) ?_
      refine L.val rfl rfl (R.mv rfl) ?_
      refine L.val rfl rfl (R.capS rfl) ?_
      refine L.val rfl rfl (R.gtr rfl rfl) ?_
      refine L.nil ?_
      refine N.seq ?_
      refine G.condP rfl (fun h2 => ?_) (fun h2 => ?_)
      · have hgc : c < n + 1 := by omega
        refine G.seq ?_
        refine G.region ?_
        refine L.val rfl rfl (R.mv rfl) ?_
        refine L.val rfl rfl (R.mv rfl) ?_
        refine L.val rfl rfl (R.slH rfl rfl (by omega) (by omega)) ?_
        refine L.be 34 rfl (show _ = Value.slice a i c by rw [subA_zero, Int.toNat_natCast]) ?_
        refine L.val rfl rfl (R.mv rfl) ?_
        refine L.val rfl rfl (R.mv rfl) ?_
        refine L.val rfl rfl (R.add rfl rfl (by omega)) ?_
        refine L.val rfl rfl (R.mv rfl) ?_
        refine L.val rfl rfl (R.sub' rfl rfl (by omega)) ?_
        refine L.be 39 rfl (show _ = Value.int .i64 ((n + 1 - i : Nat) : Int) by congr 1; omega) ?_
        refine L.do rfl rfl (R.appZN (m := n + 1 - i) rfl rfl (ho.pre (i := i) (by omega)) (by intro u hu; simp [Value.cells] at hu; first | (rcases hu with rfl | rfl <;> rfl) | (rcases hu with rfl | rfl | rfl <;> rfl) | (rcases hu with rfl | rfl | rfl | rfl <;> rfl) | (rcases hu with rfl | rfl | rfl | rfl | rfl <;> rfl)) (by simp [maxLen]; omega) (by omega) (by decide) (by decide) (by omega)) ?_
        rintro _ w1 ⟨a1, c1, M1, rfl, e1, o1, hM1⟩
        rw [show i + (n + 1 - i) = n + 1 by omega] at o1 ⊢
        obtain ⟨g1, cur1, rfl, rfl, B1, hc1, hx1, hz1, ht1⟩ := o1.some (by omega)
        have hg1 := hM1 g1 (by simp)
        have hcu : (cur1.toList.take (i * 2)) = pcells (ps.take i) := by
          have h9 := congrArg (List.take (i * 2)) ht1
          rw [List.take_take, Nat.min_eq_left (Nat.mul_le_mul_right _ (by omega))] at h9
          refine h9.trans ?_
          show List.take (i * 2) (List.take (i * 2) (pcells ps) ++ _) = _
          rw [List.take_append_of_le_length (by rw [hps.1, hci]; exact Nat.le_refl _), List.take_take, Nat.min_self]
          exact hps.1
        have hzz : (n + 1) * 2 ≤ cur1.size := Nat.le_trans (Nat.mul_le_mul_right _ hc1) hz1
        have hog := over_grow (c1 := pcell p) (c2 := pcells (ps.drop i)) (s := 2) (K := (n - i) * 2) hcu (by omega) hl2 hcd (by omega)
        refine L.val rfl rfl (R.as rfl) ?_
        refine L.nil ?_
        refine N.seq ?_
        refine G.seq ?_
        refine G.region ?_
        refine L.val rfl rfl (R.mv rfl) ?_
        refine L.val rfl rfl (R.mv rfl) ?_
        refine L.val rfl rfl (R.slL rfl rfl (by omega) (by omega)) ?_
        refine L.be 43 rfl (show _ = Value.slice (some ⟨g1, i * 2, none⟩) (n + 1 - i) (c1 - i) by rw [Int.toNat_natCast, subA_lit (by omega), Nat.zero_add]) ?_
        refine L.val rfl rfl (R.mv rfl) ?_
        refine L.do rfl rfl (R.copyN (m := 1) rfl rfl B1 (Cv.ext0 e1) (Nat.min_eq_left (by omega)) (by rw [hl2]) (by rw [hl2]; omega) hp1) ?_
        rintro _ w2 ⟨rfl, P2⟩
        obtain ⟨e2, hs2, B2⟩ := P2
        have n2 := e1.news2 e2 hg1
        have Cd : Cells w2 (subA a i c 2) (pcells (ps.drop i)) := by
          have h9 := (ho.cells.ext0 n2).sub i c 2 ((n - i) * 2) (by rw [ho.1, show 1 + 1 = 2 from rfl, ← Nat.add_mul]; exact Nat.mul_le_mul_right _ (by omega)) (by omega)
          rw [hps.2, List.take_of_length_le (by omega)] at h9
          exact h9
        refine L.nil ?_
        refine N.seq ?_
        refine G.seq ?_
        refine G.staged [8] [.blocks ([g1])] [fun w' => Ext [] w2 w', fun w' => Ext [g1] w2 w' ∧ Blk w' g1 (Over (Over cur1 (i * 2) (pcell p)) ((i + 1) * 2) (pcells (ps.drop i))) 194 (0, 0)] [] (by decide +kernel) (by decide +kernel) rfl rfl rfl (fun _ h => h) ?_
        refine Z.val rfl rfl rfl rfl rfl (fun w3 => R.mv rfl) ?_
        refine Z.val rfl rfl rfl rfl rfl (fun w3 => R.mv rfl) ?_
        refine Z.val rfl rfl rfl rfl rfl (fun w3 => R.mv rfl) ?_
        refine Z.val rfl rfl rfl rfl rfl (fun w3 => R.add rfl rfl (by omega)) ?_
        refine Z.val rfl rfl rfl rfl rfl (fun w3 => R.slL rfl rfl (by omega) (by omega)) ?_
        refine Z.be 50 rfl (show _ = Value.slice (some ⟨g1, (i + 1) * 2, none⟩) (n - i) (c1 - (i + 1)) by rw [show ((i : Int) + ((1 : Nat) : Int)).toNat = i + 1 by omega, subA_lit (by omega), Nat.zero_add, show n + 1 - (i + 1) = n - i by omega]) ?_
        refine Z.val rfl rfl rfl rfl rfl (fun w3 => R.mv rfl) ?_
        refine Z.val rfl rfl rfl rfl rfl (fun w3 => R.mv rfl) ?_
        refine Z.val rfl rfl rfl rfl rfl (fun w3 => R.slL rfl rfl (by omega) (by omega)) ?_
        refine Z.be 53 rfl (show _ = Value.slice (subA a i c 2) (n - i) (c - i) by rw [Int.toNat_natCast]) ?_
        refine Z.put (A := fun v _ => True) (Lasts.kill (fun _ _ _ _ h => h) (by decide +kernel)) 0 (by decide +kernel) rfl rfl rfl rfl rfl rfl rfl (fun w3 hJ => (R.copyN (m := n - i) rfl rfl (B2.ext0 hJ) (Cd.ext0 hJ) (Nat.min_self _) hcd (by rw [hcd, hog.2.1]; omega) hone2).mono (fun v w9 h => by obtain ⟨_, h1, h2, h3⟩ := h; exact ⟨trivial, h1, h1.after hJ, h3⟩)) ?_
        refine Z.nil rfl rfl (fun w3 hJ => ?_)
        obtain ⟨e3, B3⟩ := hJ
        intro v54 _
        have n3 := n2.news2 e3 hg1
        refine N.seq ?_
        refine G.seq ?_
        refine G.region ?_
        refine L.val rfl rfl (R.mv rfl) ?_
        refine L.val rfl rfl (R.as rfl) ?_
        refine L.nil ?_
        refine N.seq ?_
        refine G.ret1 rfl rfl ?_
        first
          | (have e9 : pcells ps ++ pcell p = pcells (ps.take i ++ p :: ps.drop i) := by rw [← pcells_ins, List.take_of_length_le (by omega), List.drop_of_length_le (by omega)]; simp [pcells]
             rw [e9] at o1; exact ⟨a1, c1, M1, rfl, e1, hM1, o1⟩)
          | (refine ⟨_, c1, [g1], rfl, n3.mono (by simp), fun x hx => .inr (by rw [List.mem_singleton.1 hx]; exact hg1), ?_⟩
             have hfin := hog.1; rw [pcells_ins, ← Nat.add_one_mul, ← Nat.add_mul, show i + 1 + (n - i) = n + 1 by omega] at hfin
             refine ⟨by rw [pcells_len (sv := 1) (fun q hq => (okIns hok hp q hq).1), List.length_append, List.length_cons, List.length_take, List.length_drop]; congr 1; omega, .inr ⟨g1, _, rfl, rfl, B3, by omega, hx1, ?_, hfin⟩⟩
             rw [← Nat.add_one_mul] at hog; rw [hog.2.2]; exact hz1)
          | (refine ⟨_, c, [g0], rfl, hE5, fun x hx => .inl hx, ?_⟩
             have hfin := hoi.1; rw [pcells_ins, ← Nat.add_one_mul] at hfin
             refine ⟨by rw [pcells_len (sv := 1) (fun q hq => (okIns hok hp q hq).1), List.length_append, List.length_cons, List.length_take, List.length_drop]; congr 1; omega, .inr ⟨g0, _, rfl, rfl, B5, by omega, hx0, ?_, hfin⟩⟩
             rw [hoi.2.2]; exact hz0)
      · have hroom : n + 1 ≤ c := by omega
        obtain ⟨g0, cur0, rfl, rfl, B0, hc0, hx0, hz0, ht0⟩ := ho.some (by omega)
        have hzz : (n + 1) * 2 ≤ cur0.size := Nat.le_trans (Nat.mul_le_mul_right _ hroom) hz0
        have hxl : (pcells ps).length = n * 2 := ho.1
        have hoi := over_insert (s := 2) (A := i * 2) (L := n * 2) ht0 hxl (Nat.mul_le_mul_right _ (by omega)) hl2 (by omega)
        rw [hps.1, hps.2] at hoi
        have hro : i * 2 + 2 + (n - i) * 2 ≤ cur0.size := by
          have h9 : (i + 1 + (n - i)) * 2 ≤ cur0.size := by rw [show i + 1 + (n - i) = n + 1 by omega]; exact hzz
          rwa [Nat.add_mul, Nat.add_mul, Nat.one_mul] at h9
        have Cd : Cells w (some ⟨g0, i * 2, none⟩) (pcells (ps.drop i)) := Cells.of_blk B0 (i * 2) (pcells (ps.drop i)) (fun j v hj => by
          rw [← hps.2, ← ht0, List.drop_take, List.getElem?_take] at hj
          split at hj
          · simpa [List.getElem?_drop] using hj
          · cases hj)
        refine G.skip ?_
        refine N.seq ?_
        refine G.seq ?_
        refine G.region ?_
        refine L.val rfl rfl (R.mv rfl) ?_
        refine L.val rfl rfl (R.mv rfl) ?_
        refine L.val rfl rfl (R.mv rfl) ?_
        refine L.val rfl rfl (R.add rfl rfl (by omega)) ?_
        refine L.val rfl rfl (R.slH rfl rfl (by omega) (by omega)) ?_
        refine L.be 60 rfl (show _ = Value.slice (some ⟨g0, 0, none⟩) (n + 1) c by rw [subA_zero, show ((n : Int) + ((1 : Nat) : Int)).toNat = n + 1 by omega]) ?_
        refine L.val rfl rfl (R.as rfl) ?_
        refine L.nil ?_
        refine N.seq ?_
        refine G.seq ?_
        refine G.seq ?_
        refine G.region ?_
        refine L.val rfl rfl (R.mv rfl) ?_
        refine L.val rfl rfl (R.mv rfl) ?_
        refine L.val rfl rfl (R.mv rfl) ?_
        refine L.val rfl rfl (R.mv rfl) ?_
        refine L.val rfl rfl (R.add rfl rfl (by omega)) ?_
        refine L.val rfl rfl (R.slL rfl rfl (by omega) (by omega)) ?_
        refine L.be 66 rfl (show _ = Value.slice (subA (some ⟨g0, 0, none⟩) (i + 1) c 2) (n + 1 - (i + 1)) (c - (i + 1)) by rw [show ((i : Int) + ((1 : Nat) : Int)).toNat = i + 1 by omega]) ?_
        refine L.be 66 rfl (show _ = Value.slice (some ⟨g0, (i + 1) * 2, none⟩) (n - i) (c - (i + 1)) by rw [subA_lit (by omega), Nat.zero_add, show n + 1 - (i + 1) = n - i by omega]) ?_
        refine L.val rfl rfl (R.overlaps (A := (pcell p).toArray) (B := cur0) Try.func175 (by decide) rfl rfl rfl rfl rfl Bv B0 (by simpa using hvM) (by omega)) ?_
        refine L.val rfl rfl (R.not rfl) ?_
        refine L.nil ?_
        refine N.seq ?_
        refine G.condT rfl ?_
        refine G.seq ?_
        refine G.staged [8] [.blocks ([g0])] [fun w' => Ext [] w w', fun w' => Ext [g0] w w' ∧ Blk w' g0 (Over cur0 (i * 2 + 2) (pcells (ps.drop i))) 194 (0, 0)] [] (by decide +kernel) (by decide +kernel) rfl rfl rfl (fun _ h => h) ?_
        refine Z.val rfl rfl rfl rfl rfl (fun w1 => R.mv rfl) ?_
        refine Z.val rfl rfl rfl rfl rfl (fun w1 => R.mv rfl) ?_
        refine Z.val rfl rfl rfl rfl rfl (fun w1 => R.mv rfl) ?_
        refine Z.val rfl rfl rfl rfl rfl (fun w1 => R.add rfl rfl (by omega)) ?_
        refine Z.val rfl rfl rfl rfl rfl (fun w1 => R.slL rfl rfl (by omega) (by omega)) ?_
        refine Z.be 73 rfl (show _ = Value.slice (some ⟨g0, i * 2 + 2, none⟩) (n - i) (c - (i + 1)) by rw [show ((i : Int) + ((1 : Nat) : Int)).toNat = i + 1 by omega, subA_lit (by omega), Nat.zero_add, show n + 1 - (i + 1) = n - i by omega, Nat.add_mul]) ?_
        refine Z.val rfl rfl rfl rfl rfl (fun w1 => R.mv rfl) ?_
        refine Z.val rfl rfl rfl rfl rfl (fun w1 => R.mv rfl) ?_
        refine Z.val rfl rfl rfl rfl rfl (fun w1 => R.slL rfl rfl (by omega) (by omega)) ?_
        refine Z.be 76 rfl (show _ = Value.slice (some ⟨g0, i * 2, none⟩) (n + 1 - i) (c - i) by rw [Int.toNat_natCast, subA_lit (by omega), Nat.zero_add]) ?_
        refine Z.put (A := fun v _ => True) (Lasts.kill (fun _ _ _ _ h => h) (by decide +kernel)) 0 (by decide +kernel) rfl rfl rfl rfl rfl rfl rfl (fun w1 hJ => (R.copyN (m := n - i) rfl rfl (B0.ext0 hJ) (Cd.ext0 hJ) (Nat.min_eq_right (by omega)) hcd (by rw [hcd]; omega) hone2).mono (fun v w9 h => by obtain ⟨_, h1, h2, h3⟩ := h; exact ⟨trivial, h1, h1.after hJ, h3⟩)) ?_
        refine Z.nil rfl rfl (fun w1 hJ => ?_)
        obtain ⟨e3, B3⟩ := hJ
        intro v77 _
        have hvg : vb ≠ g0 := fun h => hvM (by rw [h]; simp)
        refine N.seq ?_
        refine G.seq ?_
        refine G.region ?_
        refine L.val rfl rfl (R.mv rfl) ?_
        refine L.val rfl rfl (R.mv rfl) ?_
        refine L.val rfl rfl (R.slL rfl rfl (by omega) (by omega)) ?_
        refine L.be 80 rfl (show _ = Value.slice (some ⟨g0, i * 2, none⟩) (n + 1 - i) (c - i) by rw [Int.toNat_natCast, subA_lit (by omega), Nat.zero_add]) ?_
        refine L.val rfl rfl (R.mv rfl) ?_
        refine L.do rfl rfl (R.copyN (m := 1) rfl rfl B3 (Cv.ext e3 (by intro q hq; cases hq; simpa using hvg)) (Nat.min_eq_left (by omega)) (by rw [hl2]) (by rw [hl2, hoi.2.1]; omega) hp1) ?_
        rintro _ w5 ⟨rfl, P5⟩
        obtain ⟨e5, hs5, B5⟩ := P5
        have hE5 := e3.transN e5 (fun x hx => .inl hx)
        refine L.nil ?_
        refine N.seq ?_
        refine G.seq ?_
        refine G.region ?_
        refine L.val rfl rfl (R.mv rfl) ?_
        refine L.val rfl rfl (R.as rfl) ?_
        refine L.nil ?_
        refine N.seq ?_
        refine G.ret1 rfl rfl ?_
        first
          | (have e9 : pcells ps ++ pcell p = pcells (ps.take i ++ p :: ps.drop i) := by rw [← pcells_ins, List.take_of_length_le (by omega), List.drop_of_length_le (by omega)]; simp [pcells]
             rw [e9] at o1; exact ⟨a1, c1, M1, rfl, e1, hM1, o1⟩)
          | (refine ⟨_, c1, [g1], rfl, n3.mono (by simp), fun x hx => .inr (by rw [List.mem_singleton.1 hx]; exact hg1), ?_⟩
             have hfin := hog.1; rw [pcells_ins, ← Nat.add_one_mul, ← Nat.add_mul, show i + 1 + (n - i) = n + 1 by omega] at hfin
             refine ⟨by rw [pcells_len (sv := 1) (fun q hq => (okIns hok hp q hq).1), List.length_append, List.length_cons, List.length_take, List.length_drop]; congr 1; omega, .inr ⟨g1, _, rfl, rfl, B3, by omega, hx1, ?_, hfin⟩⟩
             rw [← Nat.add_one_mul] at hog; rw [hog.2.2]; exact hz1)
          | (refine ⟨_, c, [g0], rfl, hE5, fun x hx => .inl hx, ?_⟩
             have hfin := hoi.1; rw [pcells_ins, ← Nat.add_one_mul] at hfin
             refine ⟨by rw [pcells_len (sv := 1) (fun q hq => (okIns hok hp q hq).1), List.length_append, List.length_cons, List.length_take, List.length_drop]; congr 1; omega, .inr ⟨g0, _, rfl, rfl, B5, by omega, hx0, ?_, hfin⟩⟩
             rw [hoi.2.2]; exact hz0)

end Go.Proofs.Ythpolibakkmmeaa
/-
  Orders: what is got, put in place, deleted.
-/
set_option linter.unusedVariables false
namespace Brv
open Go
/-- A value that was got: of one cell, or of many. -/
def gv1 (z : Value) : Option (List Value) → Value
  | some (u :: _) => u
  | _ => z
def gvA (z : Value) : Option (List Value) → Value
  | some u => .agg u.toArray
  | none => z
section
variable {κ : Type} [Key κ]
theorem getK_no {ps : List (Pr κ)} {k : κ} (h : hasK ps k = false) : getK ps k = none := by unfold getK; rw [h]; rfl
theorem getK_yes {ps : List (Pr κ)} {k : κ} {p : Pr κ} (h : hasK ps k = true) (hp : ps[low ps k]? = some p) : getK ps k = some p.2 := by unfold getK; rw [h, hp]; rfl
theorem hasK_lt {ps : List (Pr κ)} {k : κ} (h : hasK ps k = true) : low ps k < ps.length := by
  unfold hasK at h
  cases hq : ps[low ps k]? with
  | none => rw [hq] at h; cases h
  | some p => exact (List.getElem?_eq_some_iff.1 hq).1
theorem putK_yes {ps : List (Pr κ)} {k : κ} {v : List Value} (h : hasK ps k = true) : putK ps k v = ps.set (low ps k) (k, v) := if_pos h
theorem putK_no {ps : List (Pr κ)} {k : κ} {v : List Value} (h : hasK ps k = false) : putK ps k v = ps.take (low ps k) ++ (k, v) :: ps.drop (low ps k) := if_neg (by simp [h])
theorem delK_yes {ps : List (Pr κ)} {k : κ} (h : hasK ps k = true) : delK ps k = ps.take (low ps k) ++ ps.drop (low ps k + 1) := if_pos h
theorem delK_no {ps : List (Pr κ)} {k : κ} (h : hasK ps k = false) : delK ps k = ps := if_neg (by simp [h])
theorem pcells_at {sv : Nat} {ps : List (Pr κ)} (h : OkP sv ps) {i j : Nat} {p : Pr κ} {x : Value} (hi : ps[i]? = some p) (hj : (pcell p)[j]? = some x) : (pcells ps)[i * (1 + sv) + j]? = some x := by
  have hlt : i < ps.length := (List.getElem?_eq_some_iff.1 hi).1
  have he : ps[i] = p := (List.getElem?_eq_some_iff.1 hi).2
  have e : ps = ps.take i ++ p :: ps.drop (i + 1) := by
    rw [← he, ← List.drop_eq_getElem_cons hlt, List.take_append_drop]
  have hl : (pcells (ps.take i)).length = i * (1 + sv) := by rw [pcells_len (sv := sv) (fun p hp => (h p (List.mem_of_mem_take hp)).1), List.length_take, Nat.min_eq_left (by omega)]
  have e2 : pcells ps = pcells (ps.take i) ++ (pcell p ++ pcells (ps.drop (i + 1))) := by
    conv => lhs; rw [e]
    rw [pcells_append]
    simp [pcells]
  have hjl : j < (pcell p).length := (List.getElem?_eq_some_iff.1 hj).1
  rw [e2, ← hl, List.getElem?_append_right (Nat.le_add_right _ _), Nat.add_sub_cancel_left, List.getElem?_append_left hjl, hj]
theorem row_at {sv n : Nat} {cur : Array Value} {ps : List (Pr κ)} (ht : cur.toList.take (n * (1 + sv)) = pcells ps) (h : OkP sv ps) {i j : Nat} {p : Pr κ} {x : Value} (hi : ps[i]? = some p) (hj : (pcell p)[j]? = some x) : cur[i * (1 + sv) + j]? = some x := by
  have h1 := pcells_at h hi hj
  rw [← ht, List.getElem?_take] at h1
  split at h1
  · rw [← Array.getElem?_toList]; exact h1
  · cases h1
theorem MapAt.mk {TM TP sv : Nat} {w : World} {m n c : Nat} {a : Option Addr} {ps : List (Pr κ)} {M : List Nat} (hm : m ∉ M) (hb : Blk w m #[.slice a n c] TM (0, 0)) (hn : n = ps.length) (ho : Own w TP (1 + sv) a n c (pcells ps) M) (hok : OkP sv ps) (hs : Sorted ps) : MapAt TM TP sv w m ps (m :: M) := by
  subst hn; exact ⟨a, c, M, rfl, hm, hb, ho, hok, hs⟩
theorem put_ok {sv : Nat} {ps : List (Pr κ)} {k : κ} {v : List Value} (h : OkP sv ps) (hs : Sorted ps) (hv : v.length = sv ∧ ∀ u ∈ v, u.oneCell' = true) : OkP sv (putK ps k v) ∧ Sorted (putK ps k v) := ⟨h.put hv, sorted_put hs k v⟩
/-- A row in which a value was put. -/
theorem own_set {w' : World} {TP sv n c g : Nat} {cur : Array Value} {ps : List (Pr κ)} {k : κ} {v : List Value} (hn : n = ps.length) (hok : OkP sv ps) (hs : Sorted ps) (hk : hasK ps k = true) (hv : v.length = sv)
    (hnc : n ≤ c) (hcm : c ≤ maxLen) (hcs : c * (1 + sv) ≤ cur.size) (ht : cur.toList.take (n * (1 + sv)) = pcells ps)
    (hb : Blk w' g (cur.toList.take (low ps k * (1 + sv) + 1) ++ v ++ cur.toList.drop (low ps k * (1 + sv) + 1 + v.length)).toArray TP (0, 0)) : Own w' TP (1 + sv) (some ⟨g, 0, none⟩) n c (pcells (putK ps k v)) [g] := by
  have hlt := hasK_lt hk
  obtain ⟨u, hu⟩ := (hasK_iff hs).1 hk
  have hle : (low ps k + 1) * (1 + sv) ≤ n * (1 + sv) := Nat.mul_le_mul_right _ (by omega)
  rw [Nat.add_mul, Nat.one_mul] at hle
  have hnc' : n * (1 + sv) ≤ c * (1 + sv) := Nat.mul_le_mul_right _ hnc
  have hcl : cur.toList.length = cur.size := Array.length_toList
  have hset := pcells_set hok hu hv
  refine ⟨by rw [putK_yes hk, pcells_len (sv := sv) (fun q hq => by rw [← putK_yes hk] at hq; rcases (show q ∈ ps ∨ q = (k, v) by rw [putK_yes hk] at hq; exact List.mem_or_eq_of_mem_set hq) with h | rfl; exact (hok q h).1; exact hv), List.length_set, hn], .inr ⟨g, _, rfl, rfl, hb, hnc, hcm, ?_, ?_⟩⟩
  · simp only [List.size_toArray, List.length_append, List.length_take, List.length_drop, hcl]; omega
  · show List.take _ (_ ++ v ++ _) = _
    rw [putK_yes hk, ← hset, ← ht]
    have t1 : (cur.toList.take (low ps k * (1 + sv) + 1)).length = low ps k * (1 + sv) + 1 := by rw [List.length_take, hcl]; omega
    rw [List.take_take, Nat.min_eq_left (by omega), List.take_append, List.take_of_length_le (by rw [List.length_append, t1]; omega)]
    congr 1
    rw [List.length_append, t1, List.drop_take]
end
/-- One cell set in a list of cells. -/
theorem set_at {cur : Array Value} {o : Nat} {v : Value} (h : o < cur.size) : cur.setIfInBounds o v = (cur.toList.take o ++ [v] ++ cur.toList.drop (o + [v].length)).toArray := by
  apply Array.toList_inj.1
  rw [Array.toList_setIfInBounds, List.set_eq_take_append_cons_drop, if_pos (by simpa using h)]
  simp
theorem Own.inv {w : World} {E s g n c : Nat} {xs : List Value} {M : List Nat} (h : Own w E s (Option.some ⟨g, 0, none⟩) n c xs M) : ∃ cur, M = [g] ∧ Blk w g cur E (0, 0) ∧ n ≤ c ∧ c ≤ maxLen ∧ c * s ≤ cur.size ∧ cur.toList.take (n * s) = xs := by
  rcases h.2 with ⟨h1, _⟩ | ⟨g', cur, h1, h2, h3⟩
  · cases h1
  · cases h1
    exact ⟨cur, h2, h3⟩
theorem own_over {w : World} {E s g n c : Nat} {cur : Array Value} {cs xs : List Value} (hl : xs.length = n * s) (hb : Blk w g (Over cur (n * s) cs) E (0, 0)) (hf : n * s + cs.length ≤ cur.size) (h1 : n ≤ c) (h2 : c ≤ maxLen) (h3 : c * s ≤ cur.size) (h4 : cur.toList.take (n * s) = xs) : Own w E s (some ⟨g, 0, none⟩) n c xs [g] := by
  refine ⟨hl, .inr ⟨g, _, rfl, rfl, hb, h1, h2, by rw [Over.size hf]; exact h3, ?_⟩⟩
  have hcl : cur.toList.length = cur.size := Array.length_toList
  show List.take (n * s) (cur.toList.take (n * s) ++ cs ++ cur.toList.drop (n * s + cs.length)) = _
  rw [List.append_assoc, List.take_append_of_le_length (by rw [List.length_take]; omega), List.take_take, Nat.min_self]
  exact h4
section
variable {κ : Type} [Key κ]
/-- What an iterator over pairs yields: a number (or so) and a pair. -/
def prE (q : Nat → Option (Pr κ)) (k : Nat) (vs : List Value) (_ : World) : Prop := ∃ p v, q k = some p ∧ vs = [v, .agg (pcell p).toArray]
/-- What an iterator over an order yields: a key and a value. -/
def kvE (gv : List Value → Value) (q : Nat → Option (Pr κ)) (k : Nat) (vs : List Value) (_ : World) : Prop := ∃ p, q k = some p ∧ vs = [Key.val p.1, gv p.2]
end
def gv1' (l : List Value) : Value := gv1 (.bool false) (some l)
theorem over_all {cs vs : Array Value} (h : cs.size = vs.size) : (cs.toList.take 0 ++ vs.toList ++ cs.toList.drop (0 + vs.size)).toArray = vs := by
  apply Array.toList_inj.1
  simp [h]
/-- Behind a walk over pairs: what the consumer keeps, and the function that is called. -/
def wkI (J : Nat → List Nat → World → Prop) (b2 TY : Nat) (y : Value) (k : Nat) (DD : List Nat) (W : World) : Prop := ∃ D, DD = b2 :: D ∧ b2 ∉ D ∧ J k D W ∧ Blk W b2 y.cells TY (0, 0)
def wkX (Jx : Nat → List Nat → World → Prop) (b2 : Nat) (c : Code) (k : Nat) (DD : List Nat) (W : World) : Prop := c = .ret ∧ ∃ D, DD = b2 :: D ∧ b2 ∉ D ∧ Jx k D W
section
variable {κ : Type} [Key κ]
/-- The pair of the greatest key that isn't above one. -/
def floorK (ps : List (Pr κ)) (k : κ) : Option (Pr κ) := if hasK ps k then ps[low ps k]? else if low ps k = 0 then none else ps[low ps k - 1]?
/-- An order, or none. -/
def MapO (TM TP sv : Nat) (w : World) (d : Option Addr) (ps : List (Pr κ)) (S : List Nat) : Prop := (d = none ∧ ps = [] ∧ S = []) ∨ ∃ m, d = some ⟨m, 0, none⟩ ∧ MapAt TM TP sv w m ps S
def keysI (ps : List (Pr κ)) (TS TK b3 : Nat) (w0 : World) (k : Nat) (D : List Nat) (W : World) : Prop := ∃ a c MB, D = b3 :: MB ∧ Blk W b3 #[.slice a k c] TS (0, 0) ∧ Own W TK 1 a k c ((ps.take k).map fun p => Key.val p.1) MB ∧ (∀ g ∈ MB, w0.heap.size ≤ g ∧ g ≠ b3) ∧ w0.heap.size ≤ b3 ∧ Ext [] w0 W
theorem keysI_keep {ps : List (Pr κ)} {TS TK b3 : Nat} {w0 : World} {k s : Nat} {D M' : List Nat} {W W' : World} (hs : w0.heap.size ≤ s) (h : keysI ps TS TK b3 w0 k D W) (he : Ext M' W W') (hm : ∀ g ∈ M', g ∉ D ∧ (g ∈ ([] : List Nat) ∨ s ≤ g)) : keysI ps TS TK b3 w0 k D W' := by
  obtain ⟨a, c, MB, rfl, B3, o, hMB, h3, E⟩ := h
  exact ⟨a, c, MB, rfl, B3.ext he (fun h => (hm _ h).1 (by simp)), o.ext he (fun g hg h => (hm g h).1 (by simp [hg])), hMB, h3, E.transN he (fun g hg => (hm g hg).2.imp (by simp) (Nat.le_trans hs))⟩
theorem keys_succ {ps : List (Pr κ)} {k : Nat} {p : Pr κ} (hp : ps[k]? = some p) : ((ps.take k).map fun p => Key.val p.1) ++ [Key.val p.1] = ((ps.take (k + 1)).map fun p => Key.val p.1) := by
  rw [List.take_add_one, hp]; simp
end
end Brv
/-
  Functions of the library, at bytes.
-/
set_option linter.unusedVariables false
namespace Go.Proofs.Ythpolibakkmmeaa
open Go Brv
theorem clone_ok (a : Option Addr) (n c : Nat) (l : List UInt8) (w : World) (hb : Bs w a n l) (hn : n ≤ 140737488355328) : Meets Try.prog 143 [.slice a n c] w (Cloned w 5 1 n (vbs l)) := by
  refine Meets.enter Try.func143 rfl 8 rfl (Nat.le_of_ble_eq_true rfl) ?_
  refine G.seq ?_
  refine G.region ?_
  refine L.val rfl rfl (R.as rfl) ?_
  refine L.nil ?_
  refine N.seq ?_
  refine G.seq ?_
  refine G.seq ?_
  refine G.region ?_
  refine L.val rfl rfl (R.mv rfl) ?_
  refine L.val rfl rfl (R.eqNilS rfl rfl) ?_
  refine L.nil ?_
  refine N.seq ?_
  refine G.condB rfl (fun h0 => ?_) (fun h0 => ?_)
  · obtain rfl : a = none := by simpa using h0
    obtain ⟨rfl, rfl⟩ := hb.none
    refine G.seq ?_
    refine G.region ?_
    refine L.val rfl rfl (R.as rfl) ?_
    refine L.nil ?_
    refine N.seq ?_
    refine G.ret1 rfl rfl ?_
    exact ⟨none, 0, [], rfl, Ext.refl _ _, Own.nil _ _ _, by simp⟩
  · refine G.skip ?_
    refine N.seq ?_
    refine G.seq ?_
    refine G.region ?_
    refine L.do rfl rfl (R.buildS rfl (by decide) rfl) ?_
    rintro _ w1 ⟨b5, rfl, hb5, hs5, e1, B5⟩
    have hb := hb.ext0 e1
    have o0 := Own.blk (n := 0) (size := 1) B5 (by simp) (by simp [maxLen])
    refine L.val rfl rfl (R.mv rfl) ?_
    refine L.do rfl rfl (R.app rfl rfl o0 hb.cells (by rw [vbs_length, Nat.mul_one]; exact hb.len.symm) (vbs_one _) (by simp [maxLen]; omega) (by omega)) ?_
    rintro _ w2 ⟨a1, c1, M1, rfl, e2, hM1, o1⟩
    refine L.val rfl rfl (R.as rfl) ?_
    refine L.nil ?_
    refine N.seq ?_
    refine G.ret1 rfl rfl ?_
    exact ⟨a1, c1, M1, by rw [Nat.zero_add] , e1.trans e2 (by simp) (by simp; omega), by simpa using o1, by intro g hg; have := hM1 g hg; have := e1.size; simp at *; omega⟩

theorem equal_ok (a a' : Option Addr) (n c n' c' : Nat) (l l' : List UInt8) (w : World) (hb : Bs w a n l) (hb' : Bs w a' n' l') (hn : n ≤ 140737488355328) : Meets Try.prog 190 [.slice a n c, .slice a' n' c'] w (fun v w' => v = .bool (decide (l = l')) ∧ Ext [] w w') := by
  refine Meets.enter Try.func190 rfl 26 rfl (Nat.le_of_ble_eq_true rfl) ?_
  have hl := hb.len
  have hl' := hb'.len
  refine G.seq ?_
  refine G.region ?_
  refine L.val rfl rfl (R.as rfl) ?_
  refine L.nil ?_
  refine N.seq ?_
  refine G.seq ?_
  refine G.seq ?_
  refine G.region ?_
  refine L.val rfl rfl (R.mv rfl) ?_
  refine L.val rfl rfl (R.lenS rfl) ?_
  refine L.val rfl rfl (R.mv rfl) ?_
  refine L.val rfl rfl (R.lenS rfl) ?_
  refine L.val rfl rfl (R.neI rfl rfl) ?_
  refine L.nil ?_
  refine N.seq ?_
  refine G.condP rfl (fun h0 => ?_) (fun h0 => ?_)
  · refine G.seq ?_
    refine G.region ?_
    refine L.val rfl rfl (R.as rfl) ?_
    refine L.nil ?_
    refine N.seq ?_
    refine G.ret1 rfl rfl ?_
    exact ⟨congrArg Value.bool (by rw [eq_comm]; simp; intro e; subst e; omega), Ext.refl _ _⟩
  · refine G.skip ?_
    refine N.seq ?_
    refine G.seq ?_
    refine G.seq ?_
    refine G.region ?_
    refine L.val rfl rfl (R.mv rfl) ?_
    refine L.val rfl rfl (R.lenS rfl) ?_
    refine L.val rfl rfl (R.mv rfl) ?_
    refine L.nil ?_
    refine N.seq ?_
    refine G.block ?_
    refine G.loop (X := Nat) (fun k => [(0, .slice a n c), (1, .slice a' n' c'), (12, .int .i64 n), (13, .int .i64 k)]) (fun k w' => k ≤ n ∧ l.take k = l'.take k ∧ Ext [] w w') (fun k => n - k) (0) (Sub.cons rfl (Sub.cons rfl (Sub.cons rfl (Sub.cons rfl (Sub.nil _))))) ⟨by omega, rfl, Ext.refl _ _⟩ ?_
    rintro k w1 ⟨hk, hp, e0⟩
    refine G.seq ?_
    refine G.region ?_
    refine L.val rfl rfl (R.lss rfl rfl) ?_
    refine L.nil ?_
    refine N.seq ?_
    refine G.seq ?_
    refine G.condP rfl (fun h1 => ?_) (fun h1 => ?_)
    · obtain ⟨p, hpa, hcl⟩ := hb.at k (by omega)
      obtain ⟨p', hpa', hcl'⟩ := hb'.at k (by omega)
      refine G.skip ?_
      refine N.seq ?_
      refine G.seq ?_
      refine G.block ?_
      refine G.seq ?_
      refine G.region ?_
      refine L.val rfl rfl (R.mv rfl) ?_
      refine L.val rfl rfl (R.as rfl) ?_
      refine L.nil ?_
      refine N.seq ?_
      refine G.seq ?_
      refine G.quiet (by decide +kernel) rfl ?_
      refine Q.val rfl rfl rfl rfl (fun w2 hE => R.mv rfl) ?_
      refine Q.val rfl rfl rfl rfl (fun w2 hE => R.mv rfl) ?_
      refine Q.val rfl rfl rfl rfl (fun w2 hE => R.idx rfl rfl (by omega) (by omega) p hpa) ?_
      refine Q.val rfl rfl rfl rfl (fun w2 hE => R.ld rfl (cell?_ext0' hcl (e0.trans0 hE))) ?_
      refine Q.val rfl rfl rfl rfl (fun w2 hE => R.mv rfl) ?_
      refine Q.val rfl rfl rfl rfl (fun w2 hE => R.mv rfl) ?_
      refine Q.val rfl rfl rfl rfl (fun w2 hE => R.idx rfl rfl (by omega) (by omega) p' hpa') ?_
      refine Q.val rfl rfl rfl rfl (fun w2 hE => R.ld rfl (cell?_ext0' hcl' (e0.trans0 hE))) ?_
      refine Q.val rfl rfl rfl rfl (fun w2 hE => R.neI rfl rfl) ?_
      refine Q.nil (fun w2 e1 => ?_)
      refine N.seq ?_
      refine G.condP rfl (fun h2 => ?_) (fun h2 => ?_)
      · refine G.seq ?_
        refine G.region ?_
        refine L.val rfl rfl (R.as rfl) ?_
        refine L.nil ?_
        refine N.seq ?_
        refine G.ret1 rfl rfl ?_
        exact ⟨congrArg Value.bool (by rw [eq_comm]; simp; intro e; subst e; simp at h2), e0.trans0 e1⟩
      · have hx : l[k] = l'[k] := UInt8.toNat_inj.1 (by omega)
        have hp' : l.take (k + 1) = l'.take (k + 1) := by rw [List.take_succ_eq_append_getElem (by omega), List.take_succ_eq_append_getElem (by omega), hp, hx]
        refine G.skip ?_
        refine N.block ?_
        refine N.seq ?_
        refine G.region ?_
        refine L.val rfl rfl (R.add rfl rfl (by omega)) ?_
        refine L.val rfl rfl (R.mv rfl) ?_
        refine L.nil ?_
        exact N.again (k + 1) (by omega) (Sub.cons rfl (Sub.cons rfl (Sub.cons rfl (Sub.cons rfl (Sub.nil _))))) ⟨by omega, hp', e0.trans0 e1⟩
    · refine G.exit _ rfl ?_
      refine N.seq ?_
      refine G.seq ?_
      refine G.region ?_
      refine L.val rfl rfl (R.as rfl) ?_
      refine L.nil ?_
      refine N.seq ?_
      refine G.ret1 rfl rfl ?_
      exact ⟨congrArg Value.bool (by rw [eq_comm]; simp; rw [List.take_of_length_le (by omega), List.take_of_length_le (by omega)] at hp; exact hp), e0⟩

end Go.Proofs.Ythpolibakkmmeaa
/-
  The walks of package order.
-/
set_option linter.unusedVariables false
set_option linter.unusedSimpArgs false
set_option maxRecDepth 4000
namespace Go.Proofs.Ythpolibakkmmeaa
open Go Brv
theorem scS_ok (a : Option Addr) (n c : Nat) (xs : List Value) (w : World) (hb : Cells w a xs) (hl : n * (1 + 1) = xs.length) (hone : ∀ u ∈ xs, u.oneCell' = true) (hn : n ≤ 1000000) : Meets Try.prog 121 [.slice a n c] w (Cloned w 194 (1 + 1) n xs) := by
  refine Meets.enter Try.func121 rfl 8 rfl (Nat.le_of_ble_eq_true rfl) ?_
  refine G.seq ?_
  refine G.region ?_
  refine L.val rfl rfl (R.as rfl) ?_
  refine L.nil ?_
  refine N.seq ?_
  refine G.seq ?_
  refine G.seq ?_
  refine G.region ?_
  refine L.val rfl rfl (R.mv rfl) ?_
  refine L.val rfl rfl (R.eqNilS rfl rfl) ?_
  refine L.nil ?_
  refine N.seq ?_
  refine G.condB rfl (fun h0 => ?_) (fun h0 => ?_)
  · obtain rfl : a = none := by simpa using h0
    obtain rfl := cells_none hb
    obtain rfl : n = 0 := by simp at hl; omega
    refine G.seq ?_
    refine G.region ?_
    refine L.val rfl rfl (R.as rfl) ?_
    refine L.nil ?_
    refine N.seq ?_
    refine G.ret1 rfl rfl ?_
    exact ⟨none, 0, [], rfl, Ext.refl _ _, Own.nil _ _ _, by simp⟩
  · refine G.skip ?_
    refine N.seq ?_
    refine G.seq ?_
    refine G.region ?_
    refine L.do rfl rfl (R.buildS rfl (by decide) rfl) ?_
    rintro _ w1 ⟨b5, rfl, hb5, hs5, e1, B5⟩
    have hb := hb.ext0 e1
    have o0 := Own.blk (n := 0) (size := 1 + 1) B5 (by simp) (by simp [maxLen])
    refine L.val rfl rfl (R.mv rfl) ?_
    refine L.do rfl rfl (R.app rfl rfl o0 hb hl.symm hone (by simp [maxLen]; omega) (by omega)) ?_
    rintro _ w2 ⟨a1, c1, M1, rfl, e2, hM1, o1⟩
    refine L.val rfl rfl (R.as rfl) ?_
    refine L.nil ?_
    refine N.seq ?_
    refine G.ret1 rfl rfl ?_
    exact ⟨a1, c1, M1, by rw [Nat.zero_add] , e1.trans e2 (by simp) (by simp; omega), by simpa using o1, by intro g hg; have := hM1 g hg; have := e1.size; simp at *; omega⟩

theorem onewS_ok  (w : World) : Meets Try.prog 42 [] w (fun v w' => ∃ b, v = .pointer (some ⟨b, 0, none⟩) ∧ w.heap.size ≤ b ∧ Ext [] w w' ∧ MapAt (κ := Int) 191 194 1 w' b [] [b]) := by
  refine Meets.enter Try.func42 rfl 3 rfl (Nat.le_of_ble_eq_true rfl) ?_
  have E := Ext.refl [] w
  refine G.seq ?_
  refine G.region ?_
  refine L.val rfl rfl (R.as rfl) ?_
  refine L.nil ?_
  refine N.seq ?_
  refine G.seq ?_
  refine G.region ?_
  refine L.val rfl rfl (R.build (cs := #[.slice none 0 0]) rfl rfl) ?_
  refine L.do rfl rfl (R.box rfl) ?_
  rintro _ w1 ⟨b, rfl, hb2, hs2, e1, B2⟩
  replace E := E.trans0 e1
  refine L.val rfl rfl (R.as rfl) ?_
  refine L.nil ?_
  refine N.seq ?_
  refine G.ret1 rfl rfl ?_
  exact ⟨b, rfl, by omega, E, MapAt.mk (M := []) (by simp) B2 rfl (Own.nil _ _ _) (by intro p hp; cases hp) List.Pairwise.nil⟩

theorem olenS_ok (m : Nat) (ps : List (Pr (Int))) (S : List Nat) (w : World) (hd : MapAt (κ := Int) 191 194 1 w m ps S) (hl : ps.length ≤ 99999) : Meets Try.prog 53 [.pointer (some ⟨m, 0, none⟩)] w (fun v w' => v = .int .i64 (ps.length : Int) ∧ w' = w) := by
  refine Meets.enter Try.func53 rfl 10 rfl (Nat.le_of_ble_eq_true rfl) ?_
  have hd0 := hd
  obtain ⟨a, c, M, rfl, hm0, Bm, om, hok, hs⟩ := hd
  refine G.seq ?_
  refine G.region ?_
  refine L.val rfl rfl (R.as rfl) ?_
  refine L.nil ?_
  refine N.seq ?_
  refine G.seq ?_
  refine G.seq ?_
  refine G.region ?_
  refine L.val rfl rfl (R.mv rfl) ?_
  refine L.val rfl rfl (R.eqNilP rfl rfl) ?_
  refine L.nil ?_
  refine N.seq ?_
  refine G.condF rfl ?_
  refine G.skip ?_
  refine N.seq ?_
  refine G.seq ?_
  refine G.region ?_
  refine L.val rfl rfl (R.mv rfl) ?_
  refine L.val rfl rfl (R.nilChk rfl) ?_
  refine L.val rfl rfl (R.fld rfl) ?_
  refine L.val rfl rfl (R.ldB rfl Bm rfl) ?_
  refine L.val rfl rfl (R.lenS rfl) ?_
  refine L.val rfl rfl (R.as rfl) ?_
  refine L.nil ?_
  refine N.seq ?_
  refine G.ret1 rfl rfl ?_
  exact ⟨rfl, rfl⟩

theorem ocloneS_ok (m : Nat) (ps : List (Pr (Int))) (S : List Nat) (w : World) (hd : MapAt (κ := Int) 191 194 1 w m ps S) (hl : ps.length ≤ 99999) : Meets Try.prog 55 [.pointer (some ⟨m, 0, none⟩)] w (fun v w' => ∃ b S', v = .pointer (some ⟨b, 0, none⟩) ∧ Ext [] w w' ∧ MapAt (κ := Int) 191 194 1 w' b ps S' ∧ ∀ y ∈ S', w.heap.size ≤ y) := by
  refine Meets.enter Try.func55 rfl 12 rfl (Nat.le_of_ble_eq_true rfl) ?_
  have E := Ext.refl [] w
  have hd0 := hd
  obtain ⟨a, c, M, rfl, hm0, Bm, om, hok, hs⟩ := hd
  refine G.seq ?_
  refine G.region ?_
  refine L.val rfl rfl (R.as rfl) ?_
  refine L.nil ?_
  refine N.seq ?_
  refine G.seq ?_
  refine G.seq ?_
  refine G.region ?_
  refine L.val rfl rfl (R.mv rfl) ?_
  refine L.val rfl rfl (R.eqNilP rfl rfl) ?_
  refine L.nil ?_
  refine N.seq ?_
  refine G.condF rfl ?_
  refine G.skip ?_
  refine N.seq ?_
  refine G.seq ?_
  refine G.region ?_
  refine L.val rfl rfl (R.mv rfl) ?_
  refine L.val rfl rfl (R.nilChk rfl) ?_
  refine L.val rfl rfl (R.fld rfl) ?_
  refine L.val rfl rfl (R.ldB rfl Bm rfl) ?_
  refine L.callF rfl rfl rfl go121 (scS_ok _ _ _ _ _ om.cells (by rw [om.1]) (pcell_one hok) (by omega)) ?_
  rintro _ w1 ⟨a1, c1, M1, rfl, e1, o1, hM1⟩
  replace E := E.trans0 e1
  refine L.val rfl rfl (R.build (cs := #[.slice a1 ps.length c1]) rfl rfl) ?_
  refine L.do rfl rfl (R.box rfl) ?_
  rintro _ w2 ⟨b, rfl, hb2, hs2, e2, B2⟩
  have hE1 := E.size
  have hl1 := o1.lt
  replace E := E.trans0 e2
  replace o1 := o1.ext0 e2
  refine L.val rfl rfl (R.as rfl) ?_
  refine L.nil ?_
  refine N.seq ?_
  refine G.ret1 rfl rfl ?_
  exact ⟨b, b :: M1, rfl, E, MapAt.mk (fun h => by have := hl1 b h; omega) B2 rfl o1 hok hs, fun y hy => (List.mem_cons.1 hy).elim (fun h => by omega) (hM1 y)⟩

theorem putS_ok (m : Nat) (ps : List (Pr (Int))) (S : List Nat) (k : Int) (vx : List UInt8) (w : World) (hd : MapAt (κ := Int) 191 194 1 w m ps S) (hl : ps.length ≤ 99999) : Meets Try.prog 44 [.pointer (some ⟨m, 0, none⟩), .int .i64 k, .string (str vx)] w (fun v w' => v = .bool (!hasK ps k) ∧ ∃ S', Grown S S' w w' ∧ MapAt (κ := Int) 191 194 1 w' m (putK ps k [.string (str vx)]) S') := by
  refine Meets.enter Try.func44 rfl 39 rfl (Nat.le_of_ble_eq_true rfl) ?_
  have E := Ext.refl [] w
  have hd0 := hd
  obtain ⟨a, c, M, rfl, hm0, Bm, om, hok, hs⟩ := hd
  have hone : ∀ u ∈ ([.string (str vx)] : List Value), u.oneCell' = true := by intro x hx; rw [List.mem_singleton.1 hx]; rfl
  refine G.seq ?_
  refine G.region ?_
  refine L.val rfl rfl (R.as rfl) ?_
  refine L.nil ?_
  refine N.seq ?_
  refine G.seq ?_
  refine G.seq ?_
  refine G.region ?_
  refine L.val rfl rfl (R.mv rfl) ?_
  refine L.val rfl rfl (R.eqNilP rfl rfl) ?_
  refine L.nil ?_
  refine N.seq ?_
  refine G.condF rfl ?_
  refine G.skip ?_
  refine N.seq ?_
  refine G.seq ?_
  refine G.region ?_
  refine L.val rfl rfl (R.mv rfl) ?_
  refine L.val rfl rfl (R.mv rfl) ?_
  refine L.callF rfl rfl rfl go111 (findS_ok m ps (m :: M) k _ hd0 (by omega)) ?_
  rintro _ w1 ⟨rfl, e1⟩
  replace E := E.trans0 e1
  replace Bm := Bm.ext0 e1
  replace om := om.ext0 e1
  refine L.val rfl rfl (R.mv rfl) ?_
  refine L.val rfl rfl (R.ext rfl rfl) ?_
  refine L.val rfl rfl (R.ext rfl rfl) ?_
  refine L.val rfl rfl (R.as rfl) ?_
  refine L.val rfl rfl (R.as rfl) ?_
  refine L.nil ?_
  refine N.seq ?_
  refine G.seq ?_
  refine G.seq ?_
  refine G.region ?_
  refine L.val rfl rfl (R.mv rfl) ?_
  refine L.nil ?_
  refine N.seq ?_
  refine G.condB rfl (fun h1 => ?_) (fun h1 => ?_)
  · have hk : hasK ps k = true := h1
    have hlt := hasK_lt hk
    obtain ⟨g, cur, rfl, rfl, Bg, hnc, hcm, hcs, ht⟩ := om.some (by omega)
    have hgm : m ≠ g := fun h => hm0 (by simp [h])
    have hsz : low ps k * 2 + 2 ≤ cur.size := by
      have h9 : (low ps k + 1) * 2 ≤ c * 2 := Nat.mul_le_mul_right _ (by omega)
      rw [Nat.add_mul, Nat.one_mul] at h9
      exact Nat.le_trans h9 hcs
    refine G.seq ?_
    refine G.region ?_
    refine L.val rfl rfl (R.mv rfl) ?_
    refine L.val rfl rfl (R.nilChk rfl) ?_
    refine L.val rfl rfl (R.fld rfl) ?_
    refine L.val rfl rfl (R.ldB rfl Bm rfl) ?_
    refine L.val rfl rfl (R.mv rfl) ?_
    refine L.val rfl rfl (R.mv rfl) ?_
    refine L.val rfl rfl (R.idx rfl rfl (by omega) (by omega) _ rfl) ?_
    refine L.be 24 rfl (show _ = Value.pointer (some ⟨g, low ps k * 2, none⟩) by rw [Int.toNat_natCast, Go.Addr.add_lit, Nat.zero_add]) ?_
    refine L.val rfl rfl (R.fld rfl) ?_
    refine L.set rfl (R.st rfl rfl Bg (by omega) rfl) ?_
    rintro w2 ⟨e2, hs2, Bg⟩
    rw [set_at (by omega)] at Bg
    replace Bm := Bm.ext e2 (by simpa using hgm)
    have o2 := own_set (v := [.string (str vx)]) rfl hok hs hk rfl hnc hcm hcs ht Bg
    have X := e2.after E
    refine L.nil ?_
    refine N.seq ?_
    refine G.seq ?_
    refine G.region ?_
    refine L.val rfl rfl (R.as rfl) ?_
    refine L.nil ?_
    refine N.seq ?_
    refine G.ret1 rfl rfl ?_
    first
      | exact ⟨by rw [hk]; rfl, [m, g], ⟨X.mono (fun x hx => .inl (List.mem_cons_of_mem _ hx)), fun x hx => .inl hx⟩, MapAt.mk hm0 Bm (by rw [put_len, if_pos hk]) o2 (hok.put ⟨rfl, hone⟩) (sorted_put hs _ _)⟩
      | exact ⟨by rw [hk]; rfl, m :: M3, ⟨X, fun x hx => (List.mem_cons.1 hx).elim (fun h => .inl (by simp [h])) (fun h => (hM3 x h).elim (fun h => .inl (List.mem_cons_of_mem _ h)) (fun h => .inr (by omega)))⟩, MapAt.mk hm3 Bm (by rw [put_len, if_neg (by simp [hk])]) (by rw [putK_no hk]; exact o4) (hok.put ⟨rfl, hone⟩) (sorted_put hs _ _)⟩
  · have hk : hasK ps k = false := h1
    have hio := low_le ps k
    have hMl := om.lt
    have hml := Bm.lt
    refine G.skip ?_
    refine N.seq ?_
    refine G.seq ?_
    refine G.region ?_
    refine L.val rfl rfl (R.mv rfl) ?_
    refine L.val rfl rfl (R.mv rfl) ?_
    refine L.val rfl rfl (R.nilChk rfl) ?_
    refine L.val rfl rfl (R.fld rfl) ?_
    refine L.val rfl rfl (R.ldB rfl Bm rfl) ?_
    refine L.val rfl rfl (R.mv rfl) ?_
    refine L.val rfl rfl (R.mv rfl) ?_
    refine L.val rfl rfl (R.mv rfl) ?_
    refine L.val rfl rfl (R.build (cs := #[.int .i64 k, .string (str vx)]) rfl rfl) ?_
    refine L.do rfl rfl (R.buildA rfl rfl rfl rfl rfl) ?_
    rintro _ w2 ⟨vb, rfl, hvb, hs2, e2, Bv⟩
    replace Bv : Blk w2 vb (pcell ((k, [.string (str vx)]) : Pr (Int))).toArray 194 (0, 0) := Bv
    replace E := E.trans0 e2
    replace Bm := Bm.ext0 e2
    replace om := om.ext0 e2
    have hvM : vb ∉ M := fun h => by have := hMl vb h; omega
    have hE2 := E.size
    have hws := e2.size
    refine L.callF rfl rfl rfl go112 (insS_ok a ps.length c ps M (low ps k) ((k, [.string (str vx)]) : Pr (Int)) vb _ om rfl hok hio ⟨rfl, hone⟩ Bv hvM (by omega)) ?_
    rintro _ w3 ⟨a3, c3, M3, rfl, e3, hM3, o3⟩
    replace Bm := Bm.ext e3 hm0
    have hm3 : m ∉ M3 := fun h => (hM3 m h).elim hm0 (by omega)
    refine L.val rfl rfl (R.nilChk rfl) ?_
    refine L.val rfl rfl (R.fld rfl) ?_
    refine L.set rfl (R.st rfl rfl Bm (by show 0 < 1; decide) rfl) ?_
    rintro w4 ⟨e4, hs4, Bm⟩
    replace Bm : Blk w4 m #[.slice a3 (ps.length + 1) c3] 191 (0, 0) := Bm
    have o4 := o3.ext e4 (by intro g hg h; rw [List.mem_singleton.1 h] at hg; exact hm3 hg)
    have X : Ext (m :: M) w w4 := ((e3.after E).mono (fun x hx => .inl (List.mem_cons_of_mem _ hx))).transN e4 (fun x hx => .inl (by rw [List.mem_singleton.1 hx]; simp))
    refine L.nil ?_
    refine N.seq ?_
    refine G.seq ?_
    refine G.region ?_
    refine L.val rfl rfl (R.as rfl) ?_
    refine L.nil ?_
    refine N.seq ?_
    refine G.ret1 rfl rfl ?_
    first
      | exact ⟨by rw [hk]; rfl, [m, g], ⟨X.mono (fun x hx => .inl (List.mem_cons_of_mem _ hx)), fun x hx => .inl hx⟩, MapAt.mk hm0 Bm (by rw [put_len, if_pos hk]) o2 (hok.put ⟨rfl, hone⟩) (sorted_put hs _ _)⟩
      | exact ⟨by rw [hk]; rfl, m :: M3, ⟨X, fun x hx => (List.mem_cons.1 hx).elim (fun h => .inl (by simp [h])) (fun h => (hM3 x h).elim (fun h => .inl (List.mem_cons_of_mem _ h)) (fun h => .inr (by omega)))⟩, MapAt.mk hm3 Bm (by rw [put_len, if_neg (by simp [hk])]) (by rw [putK_no hk]; exact o4) (hok.put ⟨rfl, hone⟩) (sorted_put hs _ _)⟩

theorem getS_ok (m : Nat) (ps : List (Pr (Int))) (S : List Nat) (k : Int) (w : World) (hd : MapAt (κ := Int) 191 194 1 w m ps S) (hl : ps.length ≤ 99999) : Meets Try.prog 49 [.pointer (some ⟨m, 0, none⟩), .int .i64 k] w (fun v w' => v = .tuple #[gv1 (.string ByteArray.empty) (getK ps k), .bool (hasK ps k)] ∧ Ext [] w w') := by
  refine Meets.enter Try.func49 rfl 29 rfl (Nat.le_of_ble_eq_true rfl) ?_
  have E := Ext.refl [] w
  have hd0 := hd
  obtain ⟨a, c, M, rfl, hm0, Bm, om, hok, hs⟩ := hd
  refine G.seq ?_
  refine G.region ?_
  refine L.val rfl rfl (R.as rfl) ?_
  refine L.val rfl rfl (R.as rfl) ?_
  refine L.nil ?_
  refine N.seq ?_
  refine G.seq ?_
  refine G.region ?_
  refine L.val rfl rfl (R.as rfl) ?_
  refine L.nil ?_
  refine N.seq ?_
  refine G.seq ?_
  refine G.seq ?_
  refine G.region ?_
  refine L.val rfl rfl (R.mv rfl) ?_
  refine L.val rfl rfl (R.eqNilP rfl rfl) ?_
  refine L.nil ?_
  refine N.seq ?_
  refine G.condF rfl ?_
  refine G.skip ?_
  refine N.seq ?_
  refine G.seq ?_
  refine G.region ?_
  refine L.val rfl rfl (R.mv rfl) ?_
  refine L.val rfl rfl (R.mv rfl) ?_
  refine L.callF rfl rfl rfl go111 (findS_ok m ps (m :: M) k _ hd0 (by omega)) ?_
  rintro _ w1 ⟨rfl, e1⟩
  replace E := E.trans0 e1
  replace Bm := Bm.ext0 e1
  replace om := om.ext0 e1
  refine L.val rfl rfl (R.mv rfl) ?_
  refine L.val rfl rfl (R.ext rfl rfl) ?_
  refine L.val rfl rfl (R.ext rfl rfl) ?_
  refine L.val rfl rfl (R.as rfl) ?_
  refine L.val rfl rfl (R.as rfl) ?_
  refine L.nil ?_
  refine N.seq ?_
  refine G.seq ?_
  refine G.seq ?_
  refine G.region ?_
  refine L.val rfl rfl (R.mv rfl) ?_
  refine L.val rfl rfl (R.not rfl) ?_
  refine L.nil ?_
  refine N.seq ?_
  refine G.condB rfl (fun h1 => ?_) (fun h1 => ?_)
  · have hk : hasK ps k = false := by simpa using h1
    refine G.seq ?_
    refine G.region ?_
    refine L.val rfl rfl (R.mv rfl) ?_
    refine L.val rfl rfl (R.as rfl) ?_
    refine L.val rfl rfl (R.as rfl) ?_
    refine L.nil ?_
    refine N.seq ?_
    refine G.ret2 rfl rfl rfl ?_
    first
      | (rw [getK_no hk, hk]; exact ⟨rfl, E⟩)
      | (rw [getK_yes hk hp, hk, hx]; exact ⟨rfl, E⟩)
  · have hk : hasK ps k = true := by simpa using h1
    have hlt := hasK_lt hk
    obtain ⟨g, cur, rfl, rfl, Bg, hnc, hcm, hcs, ht⟩ := om.some (by omega)
    have hgm : m ≠ g := fun h => hm0 (by simp [h])
    have hsz : low ps k * 2 + 2 ≤ cur.size := by
      have h9 : (low ps k + 1) * 2 ≤ c * 2 := Nat.mul_le_mul_right _ (by omega)
      rw [Nat.add_mul, Nat.one_mul] at h9
      exact Nat.le_trans h9 hcs
    obtain ⟨p, hp⟩ : ∃ p, ps[low ps k]? = some p := ⟨_, List.getElem?_eq_getElem hlt⟩
    obtain ⟨x, hx⟩ := List.length_eq_one_iff.1 (hok p (List.mem_of_getElem? hp)).1
    have hcx : cur[low ps k * 2 + 1]? = some x := row_at ht hok hp (by show (Key.val p.1 :: p.2)[1]? = _; rw [hx]; rfl)
    refine G.skip ?_
    refine N.seq ?_
    refine G.seq ?_
    refine G.region ?_
    refine L.val rfl rfl (R.mv rfl) ?_
    refine L.val rfl rfl (R.nilChk rfl) ?_
    refine L.val rfl rfl (R.fld rfl) ?_
    refine L.val rfl rfl (R.ldB rfl Bm rfl) ?_
    refine L.val rfl rfl (R.mv rfl) ?_
    refine L.val rfl rfl (R.idx rfl rfl (by omega) (by omega) _ rfl) ?_
    refine L.be 26 rfl (show _ = Value.pointer (some ⟨g, low ps k * 2, none⟩) by rw [Int.toNat_natCast, Go.Addr.add_lit, Nat.zero_add]) ?_
    refine L.val rfl rfl (R.fld rfl) ?_
    refine L.val rfl rfl (R.ldB rfl Bg hcx) ?_
    refine L.val rfl rfl (R.as rfl) ?_
    refine L.val rfl rfl (R.as rfl) ?_
    refine L.nil ?_
    refine N.seq ?_
    refine G.ret2 rfl rfl rfl ?_
    first
      | (rw [getK_no hk, hk]; exact ⟨rfl, E⟩)
      | (rw [getK_yes hk hp, hk, hx]; exact ⟨rfl, E⟩)

end Go.Proofs.Ythpolibakkmmeaa
