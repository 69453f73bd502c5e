/-
  Texts of this claim, put together.
-/
import Derived.RangeFuncSeq
import Derived.ChangeKeysEq
import Derived.Lib.Overlaps
import Derived.Test.YtiiiplhfgblamaaProg
import Derived.Test.YtiiiplhfgblamaaChecked
import Derived.Test.YtiiiplhfgblamaaRecBLz0
/-
  Ranges over functions: what an iterator promises (Iter), the statement (G.range), a round's walk, calls of yield.
-/
set_option linter.unusedVariables false
namespace Brv
open Go

/-! ## Worlds in which no cells were turned -/
structure Still (w w' : World) : Prop where
  os : w'.os = w.os
  tape : w'.tape = w.tape
  output : w'.output = w.output
  size : w.heap.size ≤ w'.heap.size
  keep : ∀ (k : Nat) (cs : Array Value) (T : TypeId) (fz : Nat × Nat), w.heap[k]? = some (.cells cs T fz) → w'.heap[k]? = some (.cells cs T fz)
theorem Still.of {w w' : World} (h : Ext [] w w') : Still w w' := ⟨h.os, h.tape, h.output, h.size, fun k cs T fz hk => (h.keep k (Array.getElem?_eq_some_iff.1 hk).1 (by simp)).trans hk⟩
theorem Still.trans {a b c : World} (h : Still a b) (k : Still b c) : Still a c := ⟨k.os.trans h.os, k.tape.trans h.tape, k.output.trans h.output, Nat.le_trans h.size k.size, fun i cs T fz hi => k.keep i cs T fz (h.keep i cs T fz hi)⟩
def isCells : Obj → Bool
  | .cells .. => true
  | _ => false
theorem cells_of_cell {W : World} {a : Addr} {v : Value} (h : W.cell? a = some v) : ∃ o : Obj, W.heap[a.block]? = some o ∧ isCells o = true := by
  unfold World.cell? at h
  cases ho : W.heap[a.block]? with
  | none => simp [ho] at h
  | some o => exact ⟨o, rfl, by cases o <;> simp_all [isCells]⟩
theorem Still.cell {w w' : World} (h : Still w w') {p : Addr} {v : Value} (hc : w.cell? p = some v) : w'.cell? p = some v := by
  obtain ⟨o, ho, hcs⟩ := cells_of_cell hc
  cases o with
  | cells cs T fz => exact (World.cell?_of_block ((h.keep _ cs T fz ho).trans ho.symm)).trans hc
  | _ => cases hcs
theorem Blk.still {w w' : World} {b : Nat} {cs : Array Value} {T : TypeId} {fz : Nat × Nat} (h : Blk w b cs T fz) (hc : Still w w') : Blk w' b cs T fz := hc.keep _ _ _ _ h
theorem Cells.still {w w' : World} {a : Option Addr} {vs : List Value} (h : Cells w a vs) (hc : Still w w') : Cells w' a vs := fun j v hv => let ⟨p, hp, hq⟩ := h j v hv; ⟨p, hp, hc.cell hq⟩
theorem Bs.still {w w' : World} {a : Option Addr} {n : Nat} {l : List UInt8} (h : Bs w a n l) (hc : Still w w') : Bs w' a n l := ⟨h.cells.still hc, h.len⟩
theorem Own.still {w w' : World} {E size : Nat} {a : Option Addr} {n cap : Nat} {xs : List Value} {M : List Nat} (h : Own w E size a n cap xs M) (hc : Still w w') : Own w' E size a n cap xs M := by
  refine ⟨h.1, ?_⟩
  rcases h.2 with h | ⟨g, cur, ha, hM, hb, h⟩
  · exact .inl h
  · exact .inr ⟨g, cur, ha, hM, hb.still hc, h⟩
theorem Ext.putObj (w : World) (l : Nat) (o : Obj) : Ext [l] w (w.putObj l o) := ⟨rfl, rfl, rfl, by simp, fun k _ hk => World.putObj_heap_other (fun e => hk (by simp [e]))⟩
theorem Still.putObj {w : World} {l : Nat} {o : Obj} (o' : Obj) (h : w.heap[l]? = some o) (ho : isCells o = false) : Still w (w.putObj l o') :=
  ⟨rfl, rfl, rfl, by simp, fun k cs T fz hk => by
    by_cases e : k = l
    · subst e; rw [h] at hk; cases hk; cases ho
    · exact (World.putObj_heap_other e).trans hk⟩

/-! ## Yield -/
/-- A call of the function that an iterator was handed: it gives a bool. -/
def YCall (P : Program) (y : Value) (vs : List Value) (W : World) (R : Bool → World → Prop) : Prop :=
  (∃ l, y = .func (.yield l) #[] #[] ∧ YieldAt Fence.wide 0 P l vs.toArray W (fun e w' => ∃ b, e = .returned (.bool b) ∧ R b w')) ∨
  (∃ f first cap, y = .func (.func f) first cap ∧ (∀ (vs : Array Value) w, (callFunc f vs).run P w = .ok (.enter f vs) w) ∧ Meets P f (first.toList ++ vs ++ cap.toList) W (fun v w' => ∃ b, v = .bool b ∧ R b w'))

section
variable {P : Program} {B : Exit → Act → World → Prop} {n : Fm} {ops : List Oper} {ks : List K} {ρ : Env} {w : World} {rest : List Oper}
theorem run_callY {a : Act} {d : Option Tmp} {x : Operand} {l : Nat} {args : Array Operand} {ats : Array TypeId} {ty : TypeId} {pos : String} {af : Array Edge} {gd : Option (Nat × Bool)} {vs : List Value}
    (hx : a.eval x = .func (.yield l) #[] #[]) (he : args.toList.map a.eval = vs) (w : World) {r : Next} (hr : (Instr.yield l vs.toArray).run P w = .ok r w) :
    (execOp a.eval ⟨d, .call ⟨.value x, args, ats⟩, ty, pos, af, gd⟩).run P w = .ok r w := by
  have he' : args.map a.eval = vs.toArray := by
    apply Array.toList_inj.1
    simpa using he
  have h2 : execOp a.eval ⟨d, .call ⟨.value x, args, ats⟩, ty, pos, af, gd⟩ = (do let x ← resolve a.eval ⟨.value x, args, ats⟩ ty; invoke x.target x.args) := rfl
  have h3 : resolve a.eval ⟨.value x, args, ats⟩ ty = pure ⟨.fn (.yield l) #[], #[] ++ vs.toArray⟩ := by
    simp only [resolve, he', hx]
    rfl
  rw [h2, h3]
  simp only [Sem.run_bind, Sem.run_pure, Result.andThen_ok]
  show (Instr.yield l (#[] ++ vs.toArray)).run P w = _
  rw [show #[] ++ vs.toArray = vs.toArray by simp]
  exact hr
theorem L.ycall {d : Nat} {x : Operand} {y : Value} {args : Array Operand} {ats : Array TypeId} {ty : TypeId} {pos : String} {af : Array Edge} {gd : Option (Nat × Bool)} {vs : List Value} {R : Bool → World → Prop}
    (hg : wants ops ρ gd = some true) (hd : Nat.blt d n = true) (hx : ev ρ x = some y) (hargs : evs ρ args.toList = some vs) (hY : YCall P y vs w R)
    (h : ∀ b w', R b w' → L P B n ops ks ((d, .bool b) :: ρ) w' rest) : L P B n ops ks ρ w (⟨some d, .call ⟨.value x, args, ats⟩, ty, pos, af, gd⟩ :: rest) := by
  intro a ha
  have hd' : d < n := by simpa [Nat.blt_eq] using hd
  unfold wpListIn
  rw [if_pos (wants_spec ha hg)]
  rcases hY with ⟨l, rfl, fn, tmps, assign, body, hrun, hround⟩ | ⟨f, first, cap, rfl, hc, hf⟩
  · refine wpIn_run rfl (run_callY (ha.eval hx) (ha.evals hargs) w hrun) ?_
    refine ⟨fun h => (by rw [fen_depth] at h; cases h), ?_⟩
    have hr2 : RoundIn (fen n.ro) 0 P l fn tmps assign body w (fun e w' => ∃ b, e = .returned (.bool b) ∧ R b w') := by
      cases n.ro
      · exact hround
      · exact hround
    refine RoundIn.mono hr2 ?_
    rintro e w' ⟨b, rfl, hR⟩
    exact h b w' hR _ (ha.put hd' _)
  · refine wpIn_run rfl (run_callV (ha.eval hx) (ha.evals hargs) rfl (hc _) w) ⟨fun h => (by rw [fen_depth] at h; cases h), fen_calls ?_⟩
    refine Calls.mono hf ?_
    intro e w' he
    cases e with
    | returned v => obtain ⟨b, rfl, hR⟩ := he; exact h b w' hR _ (ha.put hd' _)
    | panicked c => exact he.elim
    | outgrown => exact he.elim
end

section
variable {P : Program} {n : Fm} {ρ : Env} {w : World} {d : Nat} {ty : TypeId} {pos : String} {af : Array Edge} {gd : Option (Nat × Bool)}
theorem R.mkFunc {fn : Fn} {first cap : Array Operand} {us vs : List Value} (h1 : evs ρ first.toList = some us) (h2 : evs ρ cap.toList = some vs) :
    Runs P n ρ w ⟨some d, .makeFunc fn first cap, ty, pos, af, gd⟩ (.func fn us.toArray vs.toArray) w := (fun f hf => by
    have e1 : first.map f.eval = us.toArray := by apply Array.toList_inj.1; simpa using hf.evals h1
    have e2 : cap.map f.eval = vs.toArray := by apply Array.toList_inj.1; simpa using hf.evals h2
    simp [execOp, Instr.makeFunc, e1, e2])
theorem R.eqNilF {T T' : TypeId} {ps rs : Array TypeId} {va : Bool} {x y : Operand} {fn : Fn} {us vs : Array Value} (hu : P.underlying T = some (.func ps rs va)) (hx : ev ρ x = some (.func fn us vs)) (hy : ev ρ y = some .nilFunc) :
    Runs P n ρ w ⟨some d, .binOp .eql T x y T', ty, pos, af, gd⟩ (.bool false) w := R.bin hx hy (fun w => by
    have he := run_equal (P := P) (T := T) (x := .func fn us vs) (y := .nilFunc) (r := false) w (fun d => by simp only [Op.equalIn, Sem.run_bind, run_underlying hu, Result.andThen_ok]; rfl)
    have hg : (eqGuard .eql T x y (.func fn us vs) .nilFunc).run P w = .ok () w := rfl
    simp only [hg, binOp, Sem.run_bind, Sem.run_pure, Result.andThen_ok, he])
theorem run_loadV {T : TypeId} [t : TyOne P T] {p : Addr} {v : Value} (hc : w.cell? p = some v) : (loadVar T p).run P w = .ok v w := by
  have := run_load1 (P := P) (T := T) hc
  simpa [Instr.loadAt, Instr.sureAddr] using this
theorem res3C {fn : Func} {ρ : Env} {a : Act} {t u s : Nat} {T U V : TypeId} [TyOne P T] [TyOne P U] [TyOne P V] {p q r : Addr} {v x y : Value} (hr : fn.results = #[.cell t T, .cell u U, .cell s V])
    (hv : look ρ t = some (.pointer (some p))) (hx : look ρ u = some (.pointer (some q))) (hy : look ρ s = some (.pointer (some r))) (ha : Fr n ρ a) (h1 : w.cell? p = some v) (h2 : w.cell? q = some x) (h3 : w.cell? r = some y) :
    (results fn a.tmps).run P w = .ok (.tuple #[v, x, y]) w := by
  have e1 := ha.getD hv
  have e2 := ha.getD hx
  have e3 := ha.getD hy
  have l1 := run_loadV (P := P) (T := T) h1
  have l2 := run_loadV (P := P) (T := U) h2
  have l3 := run_loadV (P := P) (T := V) h3
  rw [Array.getD_eq_getD_getElem?] at e1 e2 e3
  simp [results, hr, e1, e2, e3, asAddr, l1, l2, l3]
end
theorem leave1 {P : Program} {w : World} {d : Nat} (h : w.heap[d]? = some (.deferred (some []))) : Leave P [⟨.collected d, #[]⟩] w (w.putObj d (.deferred none)) := ⟨d, _, rfl, run_takeDeferred h, rfl⟩

/-! ## Iterators -/
/-- What the function gf (with what it has captured, lb) promises when it is ranged over from world w on: it yields N times, the k-th time what E k tells; it reads the blocks of F, writes those of M; behind its k-th yield S k holds of those. The consumer writes blocks of its own list, which may grow. -/
def Iter (P : Program) (gf : FuncId) (lb : List Value) (w : World) (N : Nat) (E : Nat → List Value → World → Prop) (S : Nat → World → Prop) (F M : List Nat) : Prop :=
  ∀ (y : Value) (D₀ : List Nat) (J Jx : Nat → List Nat → World → Prop) (W : World), Ext [] w W → (∀ g ∈ D₀, g < W.heap.size ∧ g ∉ F ∧ g ∉ M) →
    (∀ k D W₁ W₂ M', J k D W₁ → Ext M' W₁ W₂ → (∀ g ∈ M', g ∉ D ∧ (g ∈ M ∨ w.heap.size ≤ g)) → J k D W₂) →
    (∀ k D W₁ W₂ M', Jx k D W₁ → Ext M' W₁ W₂ → (∀ g ∈ M', g ∉ D ∧ (g ∈ M ∨ w.heap.size ≤ g)) → Jx k D W₂) →
    (∀ k D vs W₁, k < N → J k D W₁ → E k vs W₁ → (∀ g ∈ D, g < W₁.heap.size) → YCall P y vs W₁ fun b W₂ => ∃ D', Ext D W₁ W₂ ∧ (∀ g ∈ D', g < W₂.heap.size ∧ (g ∈ D ∨ W₁.heap.size ≤ g)) ∧ (b = true → J (k + 1) D' W₂) ∧ (b = false → Jx (k + 1) D' W₂)) →
    J 0 D₀ W → Meets P gf (y :: lb) W fun _ W₂ => (∃ D, J N D W₂ ∧ S N W₂) ∨ ∃ k D, k ≤ N ∧ Jx k D W₂ ∧ S k W₂

/-- How a round's body may be left. -/
def roundB (k : Nat) (D : List Nat) (W : World) (I : Nat → List Nat → World → Prop) (Ix : Code → Nat → List Nat → World → Prop) : Exit → Act → World → Prop
  | .normal, _, w' => ∃ D', Ext D W w' ∧ (∀ g ∈ D', g < w'.heap.size ∧ (g ∈ D ∨ W.heap.size ≤ g)) ∧ I (k + 1) D' w'
  | .ret, _, w' => ∃ D', Ext D W w' ∧ (∀ g ∈ D', g < w'.heap.size ∧ (g ∈ D ∨ W.heap.size ≤ g)) ∧ Ix .ret (k + 1) D' w'
  | .exit id, _, w' => ∃ D', Ext D W w' ∧ (∀ g ∈ D', g < w'.heap.size ∧ (g ∈ D ∨ W.heap.size ≤ g)) ∧ Ix (.exit id) (k + 1) D' w'
  | .goto t, _, w' => ∃ D', Ext D W w' ∧ (∀ g ∈ D', g < w'.heap.size ∧ (g ∈ D ∨ W.heap.size ≤ g)) ∧ Ix (.goto t) (k + 1) D' w'
  | _, _, _ => False
/-- Behind the assignment of the loop's variables: the body. -/
def assignB (P : Program) (l k : Nat) (D : List Nat) (W : World) (I : Nat → List Nat → World → Prop) (Ix : Code → Nat → List Nat → World → Prop) (body : Code) : Exit → Act → World → Prop
  | .normal, a, w₂ => Ext [] W w₂ ∧ ∀ wb, Ext [l] w₂ wb → Still w₂ wb → body.wpIn (fen (some l)) 0 P (roundB k D wb I Ix) a wb
  | _, _, _ => False

def bindEnv : List Tmp → List Value → Env → Env
  | p :: ps, v :: vs, ρ => bindEnv ps vs ((p, v) :: ρ)
  | _, _, ρ => ρ

theorem bind_fr {n : Fm} : ∀ (ps : List Tmp) (vs : List Value) {ρ : Env} {a : Act}, Fr n ρ a → (∀ p ∈ ps, p < n.n) → Fr n (bindEnv ps vs ρ) { a with tmps := (ps.zip vs).foldl (fun t (p, v) => t.setIfInBounds p v) a.tmps }
  | [], _, ρ, a, h, _ => by cases a; exact h
  | p :: ps, [], ρ, a, h, _ => by cases a; exact h
  | p :: ps, v :: vs, ρ, a, h, hp => by
    have h1 : Fr n ((p, v) :: ρ) (a.put (some p) v) := h.put (hp p (by simp)) v
    exact bind_fr ps vs h1 (fun q hq => hp q (by simp [hq]))

section
variable {P : Program} {B : Exit → Act → World → Prop} {n : Nat} {df : List Deferred} {ks : List K} {ρ : Env} {w : World}
theorem N.round {l k : Nat} {D : List Nat} {W : World} {I : Nat → List Nat → World → Prop} {Ix : Code → Nat → List Nat → World → Prop} {body : Code} (hE : Ext [] W w)
    (h : ∀ wb, Ext [l] w wb → Still w wb → G P (roundB k D wb I Ix) ⟨n, [], some l⟩ [] ρ wb body) : N P (assignB P l k D W I Ix body) ⟨n, [], some l⟩ [] ρ w :=
  N.done fun a ha => ⟨hE, fun wb h1 h2 => h wb h1 h2 a ha⟩

/-- for .. := range g { body } -/
theorem G.range {g : Operand} {ps : Array Tmp} {assign body : Code} {gf : FuncId} {lb : List Value} {Nn : Nat} {E : Nat → List Value → World → Prop} {S : Nat → World → Prop} {F M : List Nat}
    (hps : ps.toList.all (fun p => Nat.blt p n) = true) (hg : ev ρ g = some (.func (.func gf) #[] lb.toArray)) (eg : ∀ (vs : Array Value) w, (callFunc gf vs).run P w = .ok (.enter gf vs) w)
    (hit : Iter P gf lb w Nn E S F M) (hS : ∀ k W W', S k W → Still W W' → S k W') (D₀ : List Nat) (hD : ∀ x ∈ D₀, x < w.heap.size ∧ x ∉ F ∧ x ∉ M) (hFM : ∀ x, x ∈ F ∨ x ∈ M → x < w.heap.size)
    (I : Nat → List Nat → World → Prop) (Ix : Code → Nat → List Nat → World → Prop)
    (hI : ∀ k D W₁ W₂ M', I k D W₁ → Ext M' W₁ W₂ → (∀ g ∈ M', g ∉ D ∧ (g ∈ M ∨ w.heap.size ≤ g)) → I k D W₂)
    (hIx : ∀ c k D W₁ W₂ M', Ix c k D W₁ → Ext M' W₁ W₂ → (∀ g ∈ M', g ∉ D ∧ (g ∈ M ∨ w.heap.size ≤ g)) → Ix c k D W₂)
    (h0 : I 0 D₀ w)
    (hround : ∀ l k D vs W₁, w.heap.size ≤ l → l < W₁.heap.size → l ∉ D → (∀ g ∈ D, g < W₁.heap.size) → k < Nn → I k D W₁ → E k vs W₁ → vs.length = ps.size ∧ G P (assignB P l k D W₁ I Ix body) ⟨n, [], some l⟩ [] (bindEnv ps.toList vs ρ) W₁ assign)
    (hdone : ∀ d D W₂, w.heap.size ≤ d → d ∉ D → W₂.heap[d]? = some (.deferred (some [])) → I Nn D W₂ → S Nn W₂ → N P B ⟨n, ⟨.collected d, #[]⟩ :: df, none⟩ ks ρ W₂)
    (hstop : ∀ d D k c W₂, w.heap.size ≤ d → d ∉ D → W₂.heap[d]? = some (.deferred (some [])) → k ≤ Nn → Ix c k D W₂ → S k W₂ → G P B ⟨n, ⟨.collected d, #[]⟩ :: df, none⟩ ks ρ W₂ c) :
    G P B ⟨n, df, none⟩ ks ρ w (.rangeFunc g ps assign body) := by
  intro a ha
  refine wpIn_rangeFunc (F := Fence.wide) ?_
  intro fn hfn
  obtain ⟨rec, hrec⟩ : ∃ rec : LoopState → Option Code → Loop, rec = fun st pe => { state := st, pending := pe, fn, tmps := a.tmps, params := ps, assign, body, defers := w.heap.size } := ⟨_, rfl⟩
  obtain ⟨W1, hW1⟩ : ∃ W1, (w.alloc (.deferred (some []))).alloc (.loop (rec .ready none)) = W1 := ⟨_, rfl⟩
  have hL1 : W1.heap[w.heap.size + 1]? = some (.loop (rec .ready none)) := by
    rw [← hW1]; have := World.alloc_heap_new (w.alloc (.deferred (some []))) (.loop (rec .ready none)); rwa [World.size_alloc] at this
  have hK1 : W1.heap[w.heap.size]? = some (.deferred (some [])) := by
    rw [← hW1]; exact ((Ext.alloc (w.alloc (.deferred (some []))) _).keep _ (by simp) (by simp)).trans (World.alloc_heap_new w _)
  have hE1 : Ext [] w W1 := by rw [← hW1]; exact (Ext.alloc w _).trans0 (Ext.alloc _ _)
  have hs1 : W1.heap.size = w.heap.size + 2 := by rw [← hW1]; simp
  refine ⟨w.heap.size + 1, [{ target := .collected w.heap.size, args := #[] }], W1, { target := .fn (.func gf) lb.toArray, args := #[.func (.yield (w.heap.size + 1)) #[] #[]] }, W1, gf,
    #[.func (.yield (w.heap.size + 1)) #[] #[]] ++ lb.toArray, W1, ?_, ?_, fun _ _ => trivial, ?_, fun h => (by cases h), ?_⟩
  · rw [← hW1, hrec]; exact run_enterLoop_outer _ _ _ _ _
  · simp only [resolve, ha.eval hg]
    simp [go_sem]
  · simp [invoke, go_sem, eg]
  · -- the iterator
    have hrel : ∀ {D : List Nat} {W A : World} {M' : List Nat}, (∀ g ∈ M', g ∉ (w.heap.size + 1) :: D ∧ g ≠ w.heap.size ∧ (g ∈ M ∨ w.heap.size ≤ g)) → Ext M' W A → ∀ {o : Obj} {j : Nat}, W.heap[j]? = some o → (j = w.heap.size + 1 ∨ j = w.heap.size) → A.heap[j]? = some o := by
      intro D W A M' hM' he o j hj hjj
      refine (he.keep j (Array.getElem?_eq_some_iff.1 hj).1 (fun hm => ?_)).trans hj
      obtain ⟨h1, h2, _⟩ := hM' j hm
      rcases hjj with rfl | rfl
      · exact h1 (by simp)
      · exact h2 rfl
    have hm := hit (.func (.yield (w.heap.size + 1)) #[] #[]) ((w.heap.size + 1) :: w.heap.size :: D₀)
      (fun k DD W => ∃ D, DD = (w.heap.size + 1) :: w.heap.size :: D ∧ I k D W ∧ W.heap[w.heap.size + 1]? = some (.loop (rec .ready none)) ∧ W.heap[w.heap.size]? = some (.deferred (some [])) ∧ w.heap.size + 1 ∉ D ∧ w.heap.size ∉ D)
      (fun k DD W => ∃ D c, DD = (w.heap.size + 1) :: w.heap.size :: D ∧ Ix c k D W ∧ W.heap[w.heap.size + 1]? = some (.loop (rec .done (some c))) ∧ W.heap[w.heap.size]? = some (.deferred (some [])) ∧ w.heap.size + 1 ∉ D ∧ w.heap.size ∉ D)
      W1 hE1 (by
        intro x hx
        simp only [List.mem_cons] at hx
        rcases hx with rfl | rfl | hx
        · exact ⟨by omega, fun h => by have := hFM _ (.inl h); omega, fun h => by have := hFM _ (.inr h); omega⟩
        · exact ⟨by omega, fun h => by have := hFM _ (.inl h); omega, fun h => by have := hFM _ (.inr h); omega⟩
        · exact ⟨by have := (hD x hx).1; omega, (hD x hx).2⟩)
      (by
        rintro k _ A A' M' ⟨D, rfl, hi, hl, hd, h1, h2⟩ he hM'
        refine ⟨D, rfl, hI k D A A' M' hi he (fun x hx => ⟨fun h => (hM' x hx).1 (by simp [h]), (hM' x hx).2⟩), ?_, ?_, h1, h2⟩
        · exact (he.keep _ (Array.getElem?_eq_some_iff.1 hl).1 (fun h => (hM' _ h).1 (by simp))).trans hl
        · exact (he.keep _ (Array.getElem?_eq_some_iff.1 hd).1 (fun h => (hM' _ h).1 (by simp))).trans hd)
      (by
        rintro k _ A A' M' ⟨D, c, rfl, hi, hl, hd, h1, h2⟩ he hM'
        refine ⟨D, c, rfl, hIx c k D A A' M' hi he (fun x hx => ⟨fun h => (hM' x hx).1 (by simp [h]), (hM' x hx).2⟩), ?_, ?_, h1, h2⟩
        · exact (he.keep _ (Array.getElem?_eq_some_iff.1 hl).1 (fun h => (hM' _ h).1 (by simp))).trans hl
        · exact (he.keep _ (Array.getElem?_eq_some_iff.1 hd).1 (fun h => (hM' _ h).1 (by simp))).trans hd)
      (by
        rintro k _ vs A hk ⟨D, rfl, hi, hl, hd, h1, h2⟩ hEv hDl
        refine .inl ⟨_, rfl, ?_⟩
        have hlt : w.heap.size + 1 < A.heap.size := (Array.getElem?_eq_some_iff.1 hl).1
        obtain ⟨hlen, hG⟩ := hround (w.heap.size + 1) k D vs A (by omega) hlt h1 (fun x hx => hDl x (by simp [hx])) hk hi hEv
        have hy := run_yield (P := P) (args := vs.toArray) hl (by rw [hrec]; simpa using hlen)
        rw [hrec] at hy
        refine ⟨fn, _, assign, body, hy, roundIn_of_wpIn hfn ?_⟩
        have hfr : Fr ⟨n, [], some (w.heap.size + 1)⟩ (bindEnv ps.toList vs ρ) { tmps := (ps.toList.zip vs).foldl (fun t (p, v) => t.setIfInBounds p v) a.tmps, defers := [] } :=
          bind_fr (n := ⟨n, [], some (w.heap.size + 1)⟩) ps.toList vs (a := { tmps := a.tmps, defers := [] }) ⟨ha.size, rfl, ha.vals⟩ (fun p hp => by simpa [Nat.blt_eq] using List.all_eq_true.1 hps p hp)
        have hz : (ps.zip vs.toArray).foldl (fun t (p, v) => t.setIfInBounds p v) a.tmps = (ps.toList.zip vs).foldl (fun t (p, v) => t.setIfInBounds p v) a.tmps := by
          rw [← Array.foldl_toList, Array.toList_zip]
        rw [hz]
        have hw := hG _ hfr
        refine wpIn_mono (F := Fence.wide.inRound (w.heap.size + 1)) (fen_wp (r := some (w.heap.size + 1)) hw) ?_
        intro e a₁ w₂ hq
        cases e with
        | normal =>
          obtain ⟨hE2, hq⟩ := hq
          have hl2 : w₂.heap[w.heap.size + 1]? = some (.loop (rec .ready none)) := (hE2.keep _ hlt (by simp)).trans hl
          have hd2 : w₂.heap[w.heap.size]? = some (.deferred (some [])) := (hE2.keep _ (by omega) (by simp)).trans hd
          have hbr := run_beginRound (P := P) hl2 (by rw [hrec])
          refine ⟨_, hbr, ?_⟩
          have hlt2 : w.heap.size + 1 < w₂.heap.size := Nat.lt_of_lt_of_le hlt hE2.size
          have hl3 : (w₂.putObj (w.heap.size + 1) (.loop { rec .ready none with state := .busy })).heap[w.heap.size + 1]? = some (.loop { rec .ready none with state := .busy }) := World.putObj_heap_same hlt2
          have hd3 : (w₂.putObj (w.heap.size + 1) (.loop { rec .ready none with state := .busy })).heap[w.heap.size]? = some (.deferred (some [])) := (World.putObj_heap_other (by omega)).trans hd2
          have hE3 := Ext.putObj w₂ (w.heap.size + 1) (.loop { rec .ready none with state := .busy })
          refine wpIn_mono (F := Fence.wide.inRound (w.heap.size + 1)) (fen_wp (r := some (w.heap.size + 1)) (hq _ hE3 (Still.putObj _ hl2 rfl))) ?_
          have fin : ∀ (jump : Option Code) (W3 : World) (D' : List Nat), Ext D (w₂.putObj (w.heap.size + 1) (.loop { rec .ready none with state := .busy })) W3 → (∀ g ∈ D', g < W3.heap.size ∧ (g ∈ D ∨ (w₂.putObj (w.heap.size + 1) (.loop { rec .ready none with state := .busy })).heap.size ≤ g)) →
              (Instr.endRound (w.heap.size + 1) jump).run P W3 = .ok (.bool jump.isNone) (W3.putObj (w.heap.size + 1) (.loop (rec (if jump.isNone then .ready else .done) jump))) ∧
              (W3.putObj (w.heap.size + 1) (.loop (rec (if jump.isNone then .ready else .done) jump))).heap[w.heap.size + 1]? = some (.loop (rec (if jump.isNone then .ready else .done) jump)) ∧
              (W3.putObj (w.heap.size + 1) (.loop (rec (if jump.isNone then .ready else .done) jump))).heap[w.heap.size]? = some (.deferred (some [])) ∧ w.heap.size + 1 ∉ D' ∧ w.heap.size ∉ D' ∧
              Ext ((w.heap.size + 1) :: w.heap.size :: D) A (W3.putObj (w.heap.size + 1) (.loop (rec (if jump.isNone then .ready else .done) jump))) ∧
              (∀ g ∈ (w.heap.size + 1) :: w.heap.size :: D', g < (W3.putObj (w.heap.size + 1) (.loop (rec (if jump.isNone then .ready else .done) jump))).heap.size ∧ (g ∈ (w.heap.size + 1) :: w.heap.size :: D ∨ A.heap.size ≤ g)) ∧
              Ext [w.heap.size + 1] W3 (W3.putObj (w.heap.size + 1) (.loop (rec (if jump.isNone then .ready else .done) jump))) := fun jump W3 D' hx hD' => by
            have hl4 : W3.heap[w.heap.size + 1]? = some (.loop { rec .ready none with state := .busy }) := (hx.keep _ (by simpa using hlt2) h1).trans hl3
            have hd4 : W3.heap[w.heap.size]? = some (.deferred (some [])) := (hx.keep _ (by simp; omega) h2).trans hd3
            have hlt4 : w.heap.size + 1 < W3.heap.size := (Array.getElem?_eq_some_iff.1 hl4).1
            have her := run_endRound (P := P) jump hl4
            rw [hrec] at her ⊢
            have hsz : w₂.heap.size ≤ W3.heap.size := by have := hx.size; simpa using this
            have n1 : w.heap.size + 1 ∉ D' := fun h => (hD' _ h).2.elim h1 (fun h => by simp at h; omega)
            have n2 : w.heap.size ∉ D' := fun h => (hD' _ h).2.elim h2 (fun h => by simp at h; omega)
            have hx2 := Ext.putObj W3 (w.heap.size + 1) (.loop { state := if jump.isNone = true then LoopState.ready else LoopState.done, pending := jump, fn := fn, tmps := a.tmps, params := ps, assign := assign, body := body, defers := w.heap.size })
            refine ⟨her, World.putObj_heap_same hlt4, (World.putObj_heap_other (by omega)).trans hd4, n1, n2, ?_, ?_, hx2⟩
            · have e1 : Ext ((w.heap.size + 1) :: w.heap.size :: D) A _ := hE3.after hE2 |>.mono (fun x hx => .inl (by simp at hx ⊢; exact .inl hx))
              have e2 := e1.transN hx (fun x hx => .inl (by simp [hx]))
              exact e2.transN hx2 (fun x hx => .inl (by simp at hx ⊢; exact .inl hx))
            · intro x hx'
              simp only [List.mem_cons] at hx'
              rcases hx' with rfl | rfl | hx'
              · exact ⟨by simpa using hlt4, .inl (by simp)⟩
              · exact ⟨by simp; omega, .inl (by simp)⟩
              · obtain ⟨h3, h4⟩ := hD' x hx'
                refine ⟨by simpa using h3, h4.elim (fun h => .inl (by simp [h])) (fun h => .inr ?_)⟩
                simp at h
                exact Nat.le_trans hE2.size h
          have stabM : ∀ {D' : List Nat}, w.heap.size + 1 ∉ D' → ∀ g ∈ [w.heap.size + 1], g ∉ D' ∧ (g ∈ M ∨ w.heap.size ≤ g) := fun h g hg => by
            rw [List.mem_singleton.1 hg]; exact ⟨h, .inr (by omega)⟩
          rintro e a3 W3 hp
          cases e with
          | normal =>
            obtain ⟨D', hx, hD', hi'⟩ := hp
            obtain ⟨f1, f2, f3, n1, n2, f4, f5, f6⟩ := fin none W3 D' hx hD'
            exact ⟨_, _, f1, true, rfl, _, f4, f5, fun _ => ⟨D', rfl, hI _ _ _ _ _ hi' f6 (stabM n1), f2, f3, n1, n2⟩, fun h => by cases h⟩
          | ret =>
            obtain ⟨D', hx, hD', hi'⟩ := hp
            obtain ⟨f1, f2, f3, n1, n2, f4, f5, f6⟩ := fin (some .ret) W3 D' hx hD'
            exact ⟨_, _, f1, false, rfl, _, f4, f5, fun h => (by cases h), fun _ => ⟨D', _, rfl, hIx _ _ _ _ _ _ hi' f6 (stabM n1), f2, f3, n1, n2⟩⟩
          | exit id =>
            obtain ⟨D', hx, hD', hi'⟩ := hp
            obtain ⟨f1, f2, f3, n1, n2, f4, f5, f6⟩ := fin (some (.exit id)) W3 D' hx hD'
            exact ⟨_, _, f1, false, rfl, _, f4, f5, fun h => (by cases h), fun _ => ⟨D', _, rfl, hIx _ _ _ _ _ _ hi' f6 (stabM n1), f2, f3, n1, n2⟩⟩
          | goto t =>
            obtain ⟨D', hx, hD', hi'⟩ := hp
            obtain ⟨f1, f2, f3, n1, n2, f4, f5, f6⟩ := fin (some (.goto t)) W3 D' hx hD'
            exact ⟨_, _, f1, false, rfl, _, f4, f5, fun h => (by cases h), fun _ => ⟨D', _, rfl, hIx _ _ _ _ _ _ hi' f6 (stabM n1), f2, f3, n1, n2⟩⟩
          | panic ch => exact hp.elim
          | outgrown => exact hp.elim
        | _ => exact hq.elim)
      ⟨D₀, rfl, hI 0 D₀ w W1 [] h0 hE1 (by simp), hL1, hK1, fun h => by have := (hD _ h).1; omega, fun h => by have := (hD _ h).1; omega⟩
    have e : (Value.func (.yield (w.heap.size + 1)) #[] #[] :: lb).toArray = #[.func (.yield (w.heap.size + 1)) #[] #[]] ++ lb.toArray := by simp
    unfold Meets at hm
    rw [e] at hm
    refine CallsIn.mono (callsIn_wide.2 hm) ?_
    intro e W2 he
    cases e with
    | returned v =>
      have stabM : ∀ {D' : List Nat}, w.heap.size + 1 ∉ D' → ∀ g ∈ [w.heap.size + 1], g ∉ D' ∧ (g ∈ M ∨ w.heap.size ≤ g) := fun h g hg => by
        rw [List.mem_singleton.1 hg]; exact ⟨h, .inr (by omega)⟩
      rcases he with ⟨_, ⟨D, rfl, hi, hl, hd, h1, h2⟩, hs⟩ | ⟨k, _, hk, ⟨D, c, rfl, hi, hl, hd, h1, h2⟩, hs⟩
      · refine ⟨none, _, by have := run_endLoop (P := P) hl (by rw [hrec]; simp); rw [hrec] at this; exact this, ?_⟩
        exact hdone w.heap.size D _ (Nat.le_refl _) h2 ((World.putObj_heap_other (by omega)).trans hd) (hI _ _ _ _ _ hi (Ext.putObj _ _ _) (stabM h1)) (hS _ _ _ hs (Still.putObj _ hl rfl)) _ ⟨ha.size, by simp [ha.defers], ha.vals⟩
      · refine ⟨some c, _, by have := run_endLoop (P := P) hl (by rw [hrec]; simp); rw [hrec] at this; exact this, ?_⟩
        exact fen_wp (r := none) (hstop w.heap.size D k c _ (Nat.le_refl _) h2 ((World.putObj_heap_other (by omega)).trans hd) hk (hIx _ _ _ _ _ _ hi (Ext.putObj _ _ _) (stabM h1)) (hS _ _ _ hs (Still.putObj _ hl rfl)) _ ⟨ha.size, by simp [ha.defers], ha.vals⟩)
    | panicked ch => exact he.elim
    | outgrown => exact he.elim
end
end Brv
/-
  Structures among a row's arguments.
-/
set_option linter.unusedVariables false
namespace Brv
open Go
theorem okWide_struct {P : Program} {w : World} {r : Reach} {base : Nat} {t : TypeId} {v : Value} {fs : Array Field} (ht : P.underlying t = some (.struct fs)) (h : Value.okWide P w r base t v) : ∃ cs, v = .agg cs ∧ cs.size = P.cellsOf t := by
  simp only [Value.okWide, ht] at h
  obtain ⟨cs, h1, h2, _⟩ := h
  exact ⟨cs, h1, h2⟩
end Brv
/-
  Arrays of bytes among a row's arguments.
-/
set_option linter.unusedVariables false
namespace Brv
open Go
theorem arrB_of {P : Program} {w : World} {f : Nat} {T m E : Nat} (ht : P.underlying T = some (.array m E)) [t : TyInt P E .u8] (hs : P.cellsOf E = 1) (hT : P.cellsOf T = m) {cs : List Value} (h : Rd P w f T cs) : ∃ l : List UInt8, cs = vbs l ∧ l.length = m := by
  cases f with
  | zero => exact h.elim
  | succ f =>
    unfold Rd at h
    rw [ht] at h
    obtain ⟨hl, hi⟩ := h
    rw [hT] at hl
    have key : ∀ v ∈ cs, vb (match v with | .int _ n => UInt8.ofNat n.toNat | _ => 0) = v := by
      intro v hv
      obtain ⟨i, hil, rfl⟩ := List.mem_iff_getElem.1 hv
      have hr := hi i (by omega)
      rw [hs, Nat.mul_one, show (cs.drop i).take 1 = [cs[i]] from by rw [List.drop_eq_getElem_cons hil]; rfl] at hr
      obtain ⟨n, hn, hw⟩ := hr.int (k := .u8)
      have hn : cs[i] = .int .u8 n := by simpa using hn
      rw [hn]
      have := wf_u8 hw
      unfold vb
      simp
      omega
    refine ⟨cs.map (fun v => match v with | .int _ n => UInt8.ofNat n.toNat | _ => 0), ?_, by rw [List.length_map]; exact hl⟩
    unfold vbs
    rw [List.map_map]
    refine List.ext_getElem (by simp) (fun i h1 h2 => ?_)
    rw [List.getElem_map]
    exact (key _ (List.getElem_mem h1)).symm
theorem arrs_rows {P : Program} {w : World} {f : Nat} {S T m E : Nat} (hS : P.underlying S = some (.slice T)) (ht : P.underlying T = some (.array m E)) [t : TyInt P E .u8] (hs : P.cellsOf E = 1) (hT : P.cellsOf T = m) {cs : List Value} (h : Rd P w f S cs) : ∃ a n c, ∃ ls : List (List UInt8), cs = [.slice a n c] ∧ n ≤ c ∧ Tab w a n m (ls.map vbs) ∧ ∀ l ∈ ls, l.length = m := by
  cases f with
  | zero => exact h.elim
  | succ f =>
    unfold Rd at h
    rw [hS] at h
    obtain ⟨a, n, c, rfl, hnc, _, hb, vss, hl, hcell, hv⟩ := h
    have hex : ∃ ls : List (List UInt8), vss = ls.map vbs ∧ ∀ l ∈ ls, l.length = m := by
      clear hcell hl
      induction vss with
      | nil => exact ⟨[], rfl, by simp⟩
      | cons vs r ih =>
        obtain ⟨l, rfl, hl⟩ := arrB_of ht hs hT (hv vs (by simp)).2
        obtain ⟨ls, rfl, hls⟩ := ih (fun x hx => hv x (by simp [hx]))
        exact ⟨l :: ls, rfl, fun x hx => (List.mem_cons.1 hx).elim (fun e => e ▸ hl) (hls x)⟩
    obtain ⟨ls, rfl, hls⟩ := hex
    exact ⟨a, n, c, ls, rfl, hnc, ⟨hcell, hl.symm, fun vs hvs => by obtain ⟨l, hl, rfl⟩ := List.mem_map.1 hvs; rw [vbs_length]; exact hls l hl⟩, hls⟩
/-- A slice of bools. -/
theorem Rd.bools {P : Program} {w : World} {f : Nat} {T E : TypeId} (hT : P.underlying T = some (.slice E)) [t : TyBool P E] (hby : P.bytesOf E = 1) {cs : List Value} (h : Rd P w f T cs) :
    ∃ a n c, ∃ l : List Bool, cs = [.slice a n c] ∧ n ≤ c ∧ c ≤ 140737488351232 ∧ Cells w a (l.map Value.bool) ∧ n = l.length := by
  cases f with
  | zero => exact h.elim
  | succ f =>
    unfold Rd at h
    rw [hT] at h
    obtain ⟨a, n, c, rfl, hnc, ha, hb, vss, hl, hcell, hv⟩ := h
    have hex : ∃ l : List Bool, vss = l.map (fun b => [Value.bool b]) := by
      clear hcell hl
      induction vss with
      | nil => exact ⟨[], rfl⟩
      | cons vs r ih =>
        obtain ⟨b, rfl⟩ := (hv vs (by simp)).2.bool
        obtain ⟨l, rfl⟩ := ih (fun x hx => hv x (by simp [hx]))
        exact ⟨b :: l, rfl⟩
    obtain ⟨l, rfl⟩ := hex
    refine ⟨a, n, c, l, rfl, hnc, by rw [hby] at hb; omega, ?_, by simpa using hl.symm⟩
    have : (l.map (fun b => [Value.bool b])).flatten = l.map Value.bool := by
      clear hcell hl hv
      induction l with
      | nil => rfl
      | cons b r ih => simp [ih]
    rw [this] at hcell; exact hcell
end Brv
/-
  Structs of plain fields, compared.
-/
set_option linter.unusedVariables false
namespace Brv
open Go
inductive Kd where
  | i (k : IntKind)
  | s
  | b
  | no
  | other
def Kd.eq : Kd → Kd → Bool
  | .i x, .i y => decide (x = y)
  | .s, .s => true
  | .b, .b => true
  | _, _ => false
theorem Kd.of_eq {x y : Kd} (h : Kd.eq x y = true) : x = y := by
  cases x <;> cases y <;> simp_all [Kd.eq]
def kindOf : Value → Kd
  | .int k _ => .i k
  | .string _ => .s
  | .bool _ => .b
  | _ => .no
def kindD : Option TypeDesc → Kd
  | some (.int k) => .i k
  | some .string => .s
  | some .bool => .b
  | _ => .other
def kindT (P : Program) (T : TypeId) : Kd := kindD (P.underlying T)
def veq : Value → Value → Bool
  | .int _ a, .int _ b => a == b
  | .string a, .string b => a.toList == b.toList
  | .bool a, .bool b => a == b
  | _, _ => false
def eqL : List Value → List Value → Bool
  | [], [] => true
  | x :: xs, y :: ys => veq x y && eqL xs ys
  | _, _ => false
/-- The fields lie one behind the other, each a cell, of these kinds. -/
def okFs (P : Program) : List Field → Nat → List Kd → Bool
  | [], _, [] => true
  | f :: fs, i, k :: ks => decide (f.name ≠ "_") && P.plainKey f.type && Nat.beq f.offset i && Kd.eq (kindT P f.type) k && okFs P fs (i + 1) ks
  | _, _, _ => false
class TyEqS (P : Program) (T : TypeId) (ks : outParam (List Kd)) : Prop where
  h : P.underlying T = some (.struct (P.fieldsOf T))
  s : P.stoodInHeld T = false
  g : P.eqGuardType P.depth T = false
  f : okFs P (P.fieldsOf T).toList 0 ks = true
theorem run_veq {P : Program} (w : World) (d : Nat) {T : TypeId} {u v : Value} {k : Kd} (hk : kindT P T = k) (hp : P.plainKey T = true) (hu : kindOf u = k) (hv : kindOf v = k) : (Op.equalIn (d + 1) T u v).run P w = .ok (veq u v) w := by
  unfold Program.plainKey at hp
  cases ht : P.underlying T with
  | none => simp [ht] at hp
  | some t =>
    unfold kindT at hk
    rw [ht] at hk
    cases t <;> simp [ht] at hp
    · simp only [kindD] at hk
      subst hk
      cases u <;> simp [kindOf] at hu
      cases v <;> simp [kindOf] at hv
      simp [Op.equalIn, run_underlying ht, veq]
    · simp only [kindD] at hk
      subst hk
      cases u <;> simp [kindOf] at hu
      cases v <;> simp [kindOf] at hv
      subst hu; subst hv
      exact run_equalIn_int w d T _ _ _ _ ht
    · simp only [kindD] at hk
      subst hk
      cases u <;> simp [kindOf] at hu
      cases v <;> simp [kindOf] at hv
      exact run_equalIn_string w d T _ _ ht
theorem run_eqFields {P : Program} (w : World) (d : Nat) (xs ys : Array Value) : ∀ (fs : List Field) (i : Nat) (ks : List Kd), okFs P fs i ks = true → (xs.toList.drop i).map kindOf = ks → (ys.toList.drop i).map kindOf = ks →
    (Op.eqFields (d + 1) xs ys fs).run P w = .ok (eqL (xs.toList.drop i) (ys.toList.drop i)) w
  | [], i, ks, h, hx, hy => by
    cases ks with
    | nil =>
      have h1 : xs.toList.drop i = [] := List.map_eq_nil_iff.1 hx
      have h2 : ys.toList.drop i = [] := List.map_eq_nil_iff.1 hy
      rw [h1, h2]; simp [Op.eqFields, eqL]
    | cons k ks => simp [okFs] at h
  | f :: fs, i, ks, h, hx, hy => by
    cases ks with
    | nil => simp [okFs] at h
    | cons k ks =>
      simp only [okFs, Bool.and_eq_true, decide_eq_true_eq] at h
      obtain ⟨⟨⟨⟨h1, h2⟩, h3⟩, h4⟩, h5⟩ := h
      replace h3 := Nat.eq_of_beq_eq_true h3
      replace h4 := Kd.of_eq h4
      have ex : ∀ {zs : Array Value}, (zs.toList.drop i).map kindOf = k :: ks → ∃ u, zs[i]? = some u ∧ zs.toList.drop i = u :: zs.toList.drop (i + 1) ∧ kindOf u = k ∧ (zs.toList.drop (i + 1)).map kindOf = ks := by
        intro zs hz
        cases hd : zs.toList.drop i with
        | nil => rw [hd] at hz; cases hz
        | cons u r =>
          rw [hd] at hz
          have hi : i < zs.toList.length := by
            rcases Nat.lt_or_ge i zs.toList.length with h | h
            · exact h
            · rw [List.drop_of_length_le h] at hd; cases hd
          rw [List.drop_eq_getElem_cons hi] at hd
          injection hd with e1 e2
          injection hz with e3 e4
          refine ⟨u, ?_, by rw [e2], e3, by rw [e2]; exact e4⟩
          rw [← Array.getElem?_toList, List.getElem?_eq_getElem hi, e1]
      obtain ⟨u, u1, u2, u3, u4⟩ := ex hx
      obtain ⟨v, v1, v2, v3, v4⟩ := ex hy
      have ih := run_eqFields (P := P) w d xs ys fs (i + 1) ks h5 u4 v4
      rw [u2, v2]
      simp only [Op.eqFields, if_pos h1, Sem.run_bind, h3, run_part_plain w h2 u1, run_part_plain w h2 v1, Result.andThen_ok, run_veq w d h4 h2 u3 v3, eqL]
      cases veq u v
      · simp
      · simpa using ih
section
variable {P : Program} {n : Fm} {ρ : Env} {w : World} {d : Nat} {ty : TypeId} {pos : String} {af : Array Edge} {gd : Option (Nat × Bool)}
theorem run_eqS {T : TypeId} {ks : List Kd} [t : TyEqS P T ks] {xs ys : Array Value} (hx : xs.toList.map kindOf = ks) (hy : ys.toList.map kindOf = ks) (w : World) : (Op.equalIn 10000 T (.agg xs) (.agg ys)).run P w = .ok (eqL xs.toList ys.toList) w := by
  have := run_eqFields (P := P) w 9998 xs ys (P.fieldsOf T).toList 0 ks t.f (by simpa using hx) (by simpa using hy)
  rw [run_equalIn_agg (w := w) 9999 T xs ys t.h t.s, this]
  simp
theorem R.eqS {T T' : TypeId} {ks : List Kd} [t : TyEqS P T ks] {x y : Operand} {xs ys : Array Value} {b : Bool} (hx : ev ρ x = some (.agg xs)) (hy : ev ρ y = some (.agg ys)) (h1 : xs.toList.map kindOf = ks) (h2 : ys.toList.map kindOf = ks) (hb : eqL xs.toList ys.toList = b) :
    Runs P n ρ w ⟨some d, .binOp .eql T x y T', ty, pos, af, gd⟩ (.bool b) w := R.bin hx hy (fun w => by
    subst hb
    simp only [Sem.run_bind, run_eqGuard_agg (w := w) .eql T x y _ _ t.g, Result.andThen_ok, run_eql_struct, run_eqS h1 h2])
theorem R.neS {T T' : TypeId} {ks : List Kd} [t : TyEqS P T ks] {x y : Operand} {xs ys : Array Value} {b : Bool} (hx : ev ρ x = some (.agg xs)) (hy : ev ρ y = some (.agg ys)) (h1 : xs.toList.map kindOf = ks) (h2 : ys.toList.map kindOf = ks) (hb : (!eqL xs.toList ys.toList) = b) :
    Runs P n ρ w ⟨some d, .binOp .neq T x y T', ty, pos, af, gd⟩ (.bool b) w := R.bin hx hy (fun w => by
    subst hb
    simp only [Sem.run_bind, run_eqGuard_agg (w := w) .neq T x y _ _ t.g, Result.andThen_ok, run_neq_struct, run_eqS h1 h2])
end
end Brv
/-
  Regions that draw their order, but end with one operation that comes behind all others: that one is walked last. Operations that make something new, at whatever stage.
-/
set_option linter.unusedVariables false
namespace Brv
open Go
/-- The last operation comes behind all others; the others look back only. -/
def chkLast (pre : List Oper) (o : Oper) : Bool :=
  (List.range pre.length).all (fun j => o.after.toList.any fun e => bindsAny e && Nat.beq e.on j) && o.after.toList.all (fun e => !bindsAny e || Nat.blt e.on pre.length) &&
  pre.zipIdx.all (fun p => p.1.after.toList.all (fun e => !bindsAny e || Nat.blt e.on p.2) && (match p.1.guard with | some (j, _) => Nat.blt j pre.length | none => true))
section
variable {P : Program} {F : Fence} {m : Nat}
theorem wpIn_then {o : Oper} {a : Act} {w : World} {K J : Act → World → Prop} {Q : Exit → Act → World → Prop} (h : o.wpIn F m P a w K (Exit.then J Q)) : o.wpIn F m P a w K Q := by
  unfold Oper.wpIn at h ⊢
  refine ⟨h.1, ?_⟩
  have h2 := h.2
  generalize (o.semAt F.round a.eval).run P w = r at h2 ⊢
  cases r with
  | ok x w' =>
    cases x
    all_goals first
      | exact h2
      | (refine ⟨h2.1, CallsIn.mono h2.2 fun e w2 he => ?_⟩
         cases e <;> exact he)
      | (refine ⟨h2.1, RoundIn.mono h2.2 fun e w2 he => ?_⟩
         cases e <;> exact he)
  | halt x w' => cases x <;> exact h2
theorem ready_nil {pre : List Oper} {listed : Array Bool} (hs : listed.size = pre.length) (hb : ∀ (i : Nat) (o : Oper), pre[i]? = some o → ∀ e ∈ o.after.toList, bindsAny e = true → e.on < i) (h : Region.ready .any pre.toArray listed = []) : ∀ i, i < pre.length → listed[i]? = some true := by
  intro i
  induction i using Nat.strongRecOn with
  | _ i ih =>
    intro hi
    refine Classical.byContradiction fun hne => ?_
    have hmem : i ∈ Region.ready .any pre.toArray listed := by
      simp only [Region.ready, List.mem_filter, List.mem_range, Bool.and_eq_true]
      refine ⟨by simpa using hi, ?_, ?_⟩
      · have hlt : i < listed.size := by omega
        rw [Array.getD_eq_getD_getElem?, Array.getElem?_eq_getElem hlt]
        rw [Array.getElem?_eq_getElem hlt] at hne
        cases hv : listed[i] with
        | true => rw [hv] at hne; exact absurd rfl hne
        | false => rfl
      · rw [List.getElem?_toArray, List.getElem?_eq_getElem hi]
        simp only [Option.map_some, Option.getD_some]
        rw [Array.all_eq_true_iff_forall_mem]
        intro e he
        cases hq : Region.binds .any e with
        | false => rfl
        | true =>
          have hlt := hb i _ (List.getElem?_eq_getElem hi) e (by simpa using he) hq
          have := ih e.on hlt (by omega)
          simp [Array.getD_eq_getD_getElem?, this]
    rw [h] at hmem; cases hmem
theorem push_getD {listed : Array Bool} {k : Nat} : (listed.push false).getD k false = listed.getD k false := by
  simp only [Array.getD_eq_getD_getElem?, Array.getElem?_push]
  split
  · rename_i h; subst h; simp
  · rfl
theorem wpAny_last {pre : List Oper} {o : Oper} {Q : Exit → Act → World → Prop} (hb : ∀ (i : Nat) (o : Oper), pre[i]? = some o → (∀ e ∈ o.after.toList, bindsAny e = true → e.on < i) ∧ ∀ j b, o.guard = some (j, b) → j < pre.length)
    (hl : ∀ j, j < pre.length → ∃ e ∈ o.after.toList, bindsAny e = true ∧ e.on = j) (hl2 : ∀ e ∈ o.after.toList, bindsAny e = true → e.on < pre.length) : ∀ (fuel : Nat) (listed : Array Bool) (a : Act) (w : World), listed.size = pre.length →
    wpAnyIn F m P .any pre.toArray (Exit.then (fun a w => wpListIn F m P (pre ++ [o]).toArray Q [o] a w) Q) fuel listed a w → wpAnyIn F m P .any (pre ++ [o]).toArray Q (fuel + 1) (listed.push false) a w := by
  have hready : ∀ (listed : Array Bool), listed.size = pre.length → ∀ i, i ∈ Region.ready .any (pre ++ [o]).toArray (listed.push false) → (i < pre.length ∧ i ∈ Region.ready .any pre.toArray listed) ∨ (i = pre.length ∧ ∀ j, j < pre.length → listed[j]? = some true) := by
    intro listed hs i hi
    simp only [Region.ready, List.mem_filter, List.mem_range, Bool.and_eq_true] at hi
    obtain ⟨h1, h2, h3⟩ := hi
    have h1' : i < pre.length + 1 := by simpa using h1
    rcases Nat.lt_or_ge i pre.length with hlt | hge
    · refine .inl ⟨hlt, ?_⟩
      simp only [Region.ready, List.mem_filter, List.mem_range, Bool.and_eq_true]
      refine ⟨by simpa using hlt, ?_, ?_⟩
      · simp only [Array.getD_eq_getD_getElem?, Array.getElem?_push] at h2 ⊢
        rw [if_neg (by omega)] at h2
        exact h2
      · rw [List.getElem?_toArray, List.getElem?_append_left hlt] at h3
        rw [List.getElem?_toArray]
        simpa only [push_getD] using h3
    · have e : i = pre.length := by omega
      subst e
      refine .inr ⟨rfl, fun j hj => ?_⟩
      rw [List.getElem?_toArray, List.getElem?_append_right (Nat.le_refl _), Nat.sub_self] at h3
      simp only [List.getElem?_cons_zero, Option.map_some, Option.getD_some] at h3
      obtain ⟨e, he, hbd, rfl⟩ := hl j hj
      have := (Array.all_eq_true_iff_forall_mem.1 h3) e (by simpa using he)
      simp only [bindsAny] at hbd
      rw [hbd, push_getD, Array.getD_eq_getD_getElem?] at this
      cases hq : listed[e.on]? with
      | none => rw [hq] at this; cases this
      | some b =>
        rw [hq] at this
        cases b with
        | true => rfl
        | false => cases this
  have hrl : ∀ (listed : Array Bool), listed.size = pre.length → (∀ j, j < pre.length → listed[j]? = some true) → pre.length ∈ Region.ready .any (pre ++ [o]).toArray (listed.push false) := by
    intro listed hs hall
    simp only [Region.ready, List.mem_filter, List.mem_range, Bool.and_eq_true]
    refine ⟨by simp, ?_, ?_⟩
    · rw [Array.getD_eq_getD_getElem?, ← hs]; simp
    · rw [List.getElem?_toArray, List.getElem?_append_right (Nat.le_refl _), Nat.sub_self]
      simp only [List.getElem?_cons_zero, Option.map_some, Option.getD_some]
      rw [Array.all_eq_true_iff_forall_mem]
      intro e he
      cases hq : Region.binds .any e with
      | false => rfl
      | true =>
        have := hall e.on (hl2 e (by simpa using he) hq)
        rw [push_getD, Array.getD_eq_getD_getElem?, this]; rfl
  have hyield : ∀ (a : Act) (i : Nat) (o' : Oper), pre[i]? = some o' → Region.wanted o' (yielded (pre ++ [o]).toArray a.tmps) = Region.wanted o' (yielded pre.toArray a.tmps) := by
    intro a i o' hi
    unfold Region.wanted
    cases hg : o'.guard with
    | none => rfl
    | some g =>
      obtain ⟨j, b⟩ := g
      have := (hb i o' hi).2 j b hg
      simp only [yielded, List.getElem?_toArray, List.getElem?_append_left this]
  have hdone : ∀ (fuel : Nat) (a : Act) (w : World) (l : Array Bool), l.size = pre.length + 1 → (∀ j, j < pre.length + 1 → l[j]? = some true) → Q .normal a w → wpAnyIn F m P .any (pre ++ [o]).toArray Q fuel l a w := by
    intro fuel a w l hs hall hq
    have hnil : Region.ready .any (pre ++ [o]).toArray l = [] := by
      apply List.eq_nil_iff_forall_not_mem.2
      intro i hi
      simp only [Region.ready, List.mem_filter, List.mem_range, Bool.and_eq_true] at hi
      have hlt : i < pre.length + 1 := by simpa using hi.1
      have h2 := hi.2.1
      rw [Array.getD_eq_getD_getElem?, hall i hlt] at h2
      simp at h2
    cases fuel with
    | zero => exact ⟨hnil, hq⟩
    | succ fuel => exact ⟨fun _ => hq, fun i hi => by rw [hnil] at hi; cases hi⟩
  have hlast : ∀ (fuel : Nat) (listed : Array Bool) (a : Act) (w : World), listed.size = pre.length → (∀ j, j < pre.length → listed[j]? = some true) → wpListIn F m P (pre ++ [o]).toArray Q [o] a w →
      wpOpIn F m P (pre ++ [o]).toArray Q pre.length (wpAnyIn F m P .any (pre ++ [o]).toArray Q fuel ((listed.push false).setIfInBounds pre.length true)) a w := by
    intro fuel listed a w hs hall h
    have hd : ∀ a' w', Q .normal a' w' → wpAnyIn F m P .any (pre ++ [o]).toArray Q fuel ((listed.push false).setIfInBounds pre.length true) a' w' := by
      intro a' w' hq
      refine hdone fuel a' w' _ (by simp [hs]) (fun j hj => ?_) hq
      rw [Array.getElem?_setIfInBounds]
      split
      · rename_i e; subst e; simp [hs]
      · rename_i e
        rw [Array.getElem?_push, if_neg (by omega)]
        exact hall j (by omega)
    unfold wpOpIn
    have ho : (pre ++ [o]).toArray[pre.length]? = some o := by rw [List.getElem?_toArray, List.getElem?_append_right (Nat.le_refl _), Nat.sub_self]; rfl
    rw [ho]
    unfold wpListIn at h
    dsimp only
    split
    · rename_i hw
      rw [if_pos hw] at h
      exact Oper.wpIn_mono (fun a' w' h9 => hd a' w' h9) h
    · rename_i hw
      rw [if_neg hw] at h
      exact ⟨h.1, hd _ _ h.2⟩
  intro fuel
  induction fuel with
  | zero =>
    intro listed a w hs h
    obtain ⟨h1, h2⟩ := h
    have hall := ready_nil hs (fun i o' hi => (hb i o' hi).1) h1
    refine ⟨fun hnil => ?_, fun i hi => ?_⟩
    · have := hrl listed hs hall
      rw [hnil] at this; cases this
    · rcases hready listed hs i hi with ⟨_, hm⟩ | ⟨rfl, _⟩
      · rw [h1] at hm; cases hm
      · exact hlast 0 listed a w hs hall h2
  | succ fuel ih =>
    intro listed a w hs h
    obtain ⟨h1, h2⟩ := h
    refine ⟨fun hnil => ?_, fun i hi => ?_⟩
    · have hn : Region.ready .any pre.toArray listed = [] := by
        apply List.eq_nil_iff_forall_not_mem.2
        intro i hi
        have hmem : i ∈ Region.ready .any (pre ++ [o]).toArray (listed.push false) := by
          simp only [Region.ready, List.mem_filter, List.mem_range, Bool.and_eq_true] at hi ⊢
          obtain ⟨g1, g2, g3⟩ := hi
          have hlt : i < pre.length := by simpa using g1
          refine ⟨by simp; omega, ?_, ?_⟩
          · rw [Array.getD_eq_getD_getElem?] at g2 ⊢
            rw [Array.getElem?_push, if_neg (by omega)]
            exact g2
          · rw [List.getElem?_toArray] at g3
            rw [List.getElem?_toArray, List.getElem?_append_left hlt]
            simpa only [push_getD] using g3
        rw [hnil] at hmem; cases hmem
      have := hrl listed hs (ready_nil hs (fun i o' hi => (hb i o' hi).1) hn)
      rw [hnil] at this; cases this
    · rcases hready listed hs i hi with ⟨hlt, hm⟩ | ⟨rfl, hall⟩
      · have h3 := h2 i hm
        unfold wpOpIn at h3 ⊢
        have e1 : pre.toArray[i]? = some pre[i] := by rw [List.getElem?_toArray, List.getElem?_eq_getElem hlt]
        have e2 : (pre ++ [o]).toArray[i]? = some pre[i] := by rw [List.getElem?_toArray, List.getElem?_append_left hlt, List.getElem?_eq_getElem hlt]
        rw [e1] at h3
        rw [e2]
        dsimp only at h3 ⊢
        rw [hyield a i _ (List.getElem?_eq_getElem hlt)]
        have hset : (listed.push false).setIfInBounds i true = (listed.setIfInBounds i true).push false := by
          apply Array.ext_getElem?
          intro j
          simp only [Array.getElem?_setIfInBounds, Array.getElem?_push, Array.size_push, Array.size_setIfInBounds]
          by_cases h4 : i = j
          · subst h4
            rw [if_pos rfl, if_pos (by omega), if_neg (by omega), if_pos rfl, if_pos (by omega)]
          · rw [if_neg h4, if_neg h4]
        rw [hset]
        split
        · rename_i hw
          rw [if_pos hw] at h3
          exact Oper.wpIn_mono (fun a' w' h9 => ih _ a' w' (by simpa using hs) h9) (wpIn_then h3)
        · rename_i hw
          rw [if_neg hw] at h3
          exact ⟨h3.1, ih _ _ _ (by simpa using hs) h3.2⟩
      · have hn : Region.ready .any pre.toArray listed = [] := by
          apply List.eq_nil_iff_forall_not_mem.2
          intro i hi
          simp only [Region.ready, List.mem_filter, List.mem_range, Bool.and_eq_true] at hi
          have hlt : i < pre.length := by simpa using hi.1
          have h2 := hi.2.1
          rw [Array.getD_eq_getD_getElem?, hall i hlt] at h2
          simp at h2
        exact hlast (fuel + 1) listed a w hs hall (h1 hn)
end
theorem chkLast_spec {pre : List Oper} {o : Oper} (h : chkLast pre o = true) : (∀ (i : Nat) (o : Oper), pre[i]? = some o → (∀ e ∈ o.after.toList, bindsAny e = true → e.on < i) ∧ ∀ j b, o.guard = some (j, b) → j < pre.length) ∧
    (∀ j, j < pre.length → ∃ e ∈ o.after.toList, bindsAny e = true ∧ e.on = j) ∧ (∀ e ∈ o.after.toList, bindsAny e = true → e.on < pre.length) := by
  simp only [chkLast, Bool.and_eq_true] at h
  obtain ⟨⟨h1, h2⟩, h3⟩ := h
  refine ⟨fun i o' hi => ?_, fun j hj => ?_, fun e he hb => ?_⟩
  · have h4 := List.all_eq_true.1 h3 (o', i) (by rw [List.mem_zipIdx_iff_getElem?]; simpa using hi)
    simp only [Bool.and_eq_true] at h4
    refine ⟨fun e he hb => ?_, fun j b hg => ?_⟩
    · have h5 := List.all_eq_true.1 h4.1 e he
      rw [hb] at h5
      simpa [Nat.blt_eq] using h5
    · have h5 := h4.2
      rw [hg] at h5
      simpa [Nat.blt_eq] using h5
  · have h4 := List.all_eq_true.1 h1 j (List.mem_range.2 hj)
    obtain ⟨e, he, h5⟩ := List.any_eq_true.1 h4
    simp only [Bool.and_eq_true] at h5
    exact ⟨e, he, h5.1, Nat.eq_of_beq_eq_true h5.2⟩
  · have h4 := List.all_eq_true.1 h2 e he
    rw [hb] at h4
    simpa [Nat.blt_eq] using h4
section
variable {P : Program} {B : Exit → Act → World → Prop} {n : Fm} {ks : List K} {ρ : Env} {w : World} {σ : List Nat} {Ms : List Foot} {Js : List (World → Prop)} {X : List (Nat × Nat)}
/-- What is left to do behind all but the last operation of a region. -/
def lastK (P : Program) (n : Fm) (B : Exit → Act → World → Prop) (ks : List K) (full : List Oper) (o : Oper) : K := .hand fun a w => wpListIn (fen n.ro) 0 P full.toArray (sem P n.ro B ks) [o] a w
theorem N.last {full : List Oper} {o : Oper} (h : L P B n full ks ρ w [o]) : N P B n (lastK P n B ks full o :: ks) ρ w := N.hand fun a ha => h a ha
def splitLast : List Oper → Option (List Oper × Oper)
  | [] => none
  | [x] => some ([], x)
  | x :: y :: r => match splitLast (y :: r) with
    | some (p, o) => some (x :: p, o)
    | none => none
theorem splitLast_eq : ∀ {l p : List Oper} {o : Oper}, splitLast l = some (p, o) → l = p ++ [o]
  | [], p, o, h => by cases h
  | [x], p, o, h => by
    simp only [splitLast, Option.some.injEq, Prod.mk.injEq] at h
    obtain ⟨rfl, rfl⟩ := h
    rfl
  | x :: y :: r, p, o, h => by
    simp only [splitLast] at h
    split at h
    · rename_i p' o' h'
      simp only [Option.some.injEq, Prod.mk.injEq] at h
      obtain ⟨rfl, rfl⟩ := h
      have := splitLast_eq h'
      rw [this]; rfl
    · cases h
theorem G.stagedL [hm : Mixed P] {id : Nat} {full pre : List Oper} {o : Oper} (hsp : splitLast full = some (pre, o)) (hlast : chkLast pre o = true) (σ : List Nat) (Ms : List Foot) (Js : List (World → Prop)) (X : List (Nat × Nat)) (hchk : chk pre σ = true) (hkill : chkKill pre X = true) (hσ : σ.all (fun s => Nat.blt s pre.length) = true) (hlt : ρ.all (fun p => Nat.blt p.1 n) = true)
    {Ψ : World → Prop} (hΨ : Js[0]? = some Ψ) (hJ : ∀ w', Ext [] w w' → Ψ w') (h : DZ P n pre (sem P n.ro B (lastK P n B ks full o :: ks)) Js σ Ms X ρ [] 0 pre) : G P B n ks ρ w (.region id full.toArray true) := by
  intro a ha
  have hlk : ∀ t s, lookD (mkD ρ []) t = some s → ∃ v, look ρ t = some v ∧ s = .eq v := by
    intro t s hs
    rw [lookD_mkD] at hs
    simp only [lookT] at hs
    cases hv : look ρ t with
    | none => rw [hv] at hs; cases hs
    | some v => rw [hv] at hs; cases hs; exact ⟨v, rfl, rfl⟩
  have hmem : ∀ (r : Env) t v, look r t = some v → (t, v) ∈ r := by
    intro r
    induction r with
    | nil => intro t v h; cases h
    | cons p r ih =>
      obtain ⟨s, u⟩ := p
      intro t v h
      rw [look_cons] at h
      split at h
      · rename_i e; subst e; cases h; simp
      · exact List.mem_cons_of_mem _ (ih t v h)
  obtain ⟨h1, h2, h3⟩ := chkLast_spec hlast
  refine wpIn_region_any hm.h ?_
  have := D.sound (P := P) (Q := sem P n.ro B (lastK P n B ks full o :: ks)) (R := RS σ Ms) (X := X) hchk hkill (fun s hs => by simpa [Nat.blt_eq] using List.all_eq_true.1 hσ s hs) (fun A t hA => by obtain ⟨v, _, e⟩ := hlk t _ hA; cases e)
    (fun t s hs => by
      obtain ⟨v, hv, _⟩ := hlk t s hs
      have := List.all_eq_true.1 hlt (t, v) (hmem ρ t v hv)
      simpa [Nat.blt_eq] using this) (h (fun t ht => absurd rfl ht)) (a := a) (w := { w with drawn := w.drawn + 1 }) ha.size ha.defers (fun t s hs => by
      obtain ⟨v, hv, rfl⟩ := hlk t s hs
      exact ⟨v, ha.vals t v hv, rfl⟩) ⟨_, hΨ, hJ _ (Ext.drawn w)⟩
  have hf := splitLast_eq hsp
  subst hf
  have h5 := wpAny_last (Q := sem P n.ro B ks) h1 h2 h3 pre.length (Array.replicate pre.length false) a { w with drawn := w.drawn + 1 } (by simp) this
  rw [show (pre ++ [o]).toArray.size = pre.length + 1 by simp, show Array.replicate (pre.length + 1) false = (Array.replicate pre.length false).push false from Array.replicate_succ]
  exact h5
end
section
variable {P : Program} {n : Fm} {ops : List Oper} {Q : Exit → Act → World → Prop} {Js : List (World → Prop)} {σ : List Nat} {Ms : List Foot} {X : List (Nat × Nat)}
variable {ρ : Env} {τ : RelEnv} {i : Nat} {rest : List Oper} {d : Nat} {op : Op} {ty : TypeId} {pos : String} {af : Array Edge} {gd : Option (Nat × Bool)}
/-- One that makes something new, at any stage. -/
theorem Z.newI {A : Value → World → Prop} (hA : Lasts ops X σ Ms d i A) {I : World → Prop} (hI : ∀ k w, stage Js k w → I w) (hK : ∀ Ψ ∈ Js, ∀ w w', Ext [] w w' → Ψ w → Ψ w') (hst : stepsOf σ i = 0)
    (hg : wants ops ρ gd = some true) (hd : Nat.blt d n = true) (hns : isSelect op = false)
    (h : ∀ w, I w → RelsT τ w (slots ops ⟨some d, op, ty, pos, af, gd⟩) ρ (fun ρ' => Does P n ρ' w ⟨some d, op, ty, pos, af, gd⟩ (fun v w' => A v w' ∧ Ext [] w w')))
    (hnext : DZ P n ops Q Js σ Ms X (dropS d ρ) ((d, A) :: τ) (i + 1) rest) : DZ P n ops Q Js σ Ms X ρ τ i (⟨some d, op, ty, pos, af, gd⟩ :: rest) :=
  DS.rel A hA hg hd hns (fun w k hr hJ => by
    refine RelsT.mono (fun _ hx => hx.mono fun _ _ h => ⟨h.1, RS.of0 h.2, ?_⟩) (h w (hI k w hJ))
    rw [hst]
    obtain ⟨Ψ, h1, h2⟩ := hJ
    exact ⟨Ψ, h1, hK Ψ (List.mem_of_getElem? h1) _ _ h.2 h2⟩) hnext
end
end Brv
namespace Brv
open Go
section
variable {P : Program} {n : Fm} {ρ : Env} {w : World} {d : Nat} {ty : TypeId} {pos : String} {af : Array Edge} {gd : Option (Nat × Bool)}
/-- xs[i] of an array that is a value. -/
theorem R.idxV {T m E : Nat} [t : TyArr P T m E 1] [te : TyOne P E] {x y : Operand} {k : IntKind} {cs : Array Value} {i : Int} {v : Value} (hx : ev ρ x = some (.agg cs)) (hy : ev ρ y = some (.int k i)) (h0 : 0 ≤ i) (h1 : i < m) (hv : cs[i.toNat]? = some v) :
    Runs P n ρ w ⟨some d, .index T x y, ty, pos, af, gd⟩ v w := (fun f hf => by
    cases hq : P.info? E with
    | none => have := t.i; simp [hq] at this
    | some q =>
      have hs : q.size = 1 := by have := t.i; simpa [hq] using this
      simp [execOp, hf.eval hx, hf.eval hy, Instr.index, asIntOf, run_underlying t.h, h0, h1, Go.sizeOf, typeInfo, hq, hs, part, TyOne.agg, hv])
end
end Brv
namespace Brv
open Go
/-- A struct's parts, each of one cell, laid one by one. -/
def fillL (pl : Nat → Option (Nat × Nat)) : List Value → List (Nat × Value) → Option (List Value)
  | cs, [] => some cs
  | cs, (i, v) :: rest => match pl i with
    | some (off, sz) => match Nat.beq sz 1 && Nat.blt off cs.length with
      | true => fillL pl (cs.set off v) rest
      | false => none
    | none => none
theorem fillL_spec {pl : Nat → Option (Nat × Nat)} : ∀ {vs : List (Nat × Value)} {cs : Array Value} {l : List Value}, (∀ p ∈ vs, p.2.oneCell' = true) → fillL pl cs.toList vs = some l → Instr.fill pl cs vs = some l.toArray
  | [], cs, l, _, h => by
    simp only [fillL, Option.some.injEq] at h
    subst h
    simp [Instr.fill]
  | (i, v) :: rest, cs, l, h1, h => by
    simp only [fillL] at h
    split at h
    · rename_i off sz hp
      split at h
      · rename_i hb
        rw [Bool.and_eq_true] at hb
        have hsz := Nat.eq_of_beq_eq_true hb.1
        have hlt : off < cs.size := by simpa [Nat.blt_eq] using hb.2
        subst hsz
        have hv : v.cells = #[v] := by
          have := h1 (i, v) (by simp)
          cases v <;> simp_all [Value.cells, Value.oneCell']
        have e : cs.toList.set off v = (cs.setIfInBounds off v).toList := by simp
        rw [e] at h
        have ih := fillL_spec (fun p hp => h1 p (by simp [hp])) h
        simp only [Instr.fill, hp, hv]
        rw [if_neg (by simp; omega)]
        simpa using ih
      · cases h
    · cases h
def oneCells : List (Nat × Value) → Bool
  | [] => true
  | (_, v) :: r => v.oneCell' && oneCells r
theorem oneCells_spec : ∀ {vs : List (Nat × Value)}, oneCells vs = true → ∀ p ∈ vs, p.2.oneCell' = true
  | [], _, p, hp => by cases hp
  | (i, v) :: r, h, p, hp => by
    simp only [oneCells, Bool.and_eq_true] at h
    rcases List.mem_cons.1 hp with rfl | hp
    · exact h.1
    · exact oneCells_spec h.2 p hp
section
variable {P : Program} {n : Fm} {ρ : Env} {w : World} {d : Nat} {ty : TypeId} {pos : String} {af : Array Edge} {gd : Option (Nat × Bool)}
theorem R.build1 {T : TypeId} {pl : Nat → Option (Nat × Nat)} {z : Value} [t : TyBuilt P T pl z] {parts : Array (Nat × Operand)} {vs : List (Nat × Value)} {cs : Array Value} (hp : evps ρ parts.toList = some vs) (h1 : oneCells vs = true) (hb : fillL pl z.cells.toList vs = some cs.toList) :
    Runs P n ρ w ⟨some d, .build T parts, ty, pos, af, gd⟩ (.agg cs) w := R.build hp (by
    have := fillL_spec (oneCells_spec h1) hb
    simpa using this)
end
end Brv
/-
  Rows of structs: appends that tell whether they grow, copies, clears, the entry slices.overlaps.
-/
set_option linter.unusedVariables false
namespace Brv
open Go
section
variable {P : Program} {w : World}
theorem run_app2 {T E size bytes : Nat} {z : Value} [t : TySlice P T E size bytes z] {a : Option Addr} {n cap : Nat} {xs : List Value} {M : List Nat} (hown : Own w E size a n cap xs M)
    {b : Option Addr} {m c : Nat} {news : List Value} (hnews : Cells w b news) (hl : news.length = m * size) (h1 : ∀ u ∈ news, u.oneCell' = true) (h63 : n + m ≤ maxLen) (hby : (n + m) * bytes ≤ 140737488355328) (ty : Nat) :
    ∃ a' cap' M' w', (Builtin.append_ #[T, T] ty #[.slice a n cap, .slice b m c]).run P w = .ok (.slice a' (n + m) cap') w' ∧ Own w' E size a' (n + m) cap' (xs ++ news) M' ∧ Ext M w w' ∧ (∀ g ∈ M', g ∈ M ∨ w.heap.size ≤ g) ∧ (cap < n + m → Ext [] w w' ∧ ∀ g ∈ M', w.heap.size ≤ g) ∧ (n + m ≤ cap → a' = a ∧ cap' = cap ∧ M' = M) := by
  obtain ⟨j, hj, hs, hb, hz⟩ := t.i
  have hzs := t.zs
  subst hs hb
  have hsmall : n + m ≤ 9223372036854775807 := by simp only [maxLen] at h63; omega
  have hlen : (xs ++ news).length = (n + m) * j.size := by rw [List.length_append, hown.1, hl, Nat.add_mul]
  by_cases hroom : n + m ≤ cap
  · rcases hown.2 with ⟨rfl, rfl, rfl, rfl⟩ | ⟨g, cur, rfl, rfl, hg, hnc, hcm, hcs, ht⟩
    · have hm0 : m = 0 := by omega
      subst hm0
      have : news = [] := List.eq_nil_of_length_eq_zero (by simpa using hl)
      subst this
      refine ⟨none, 0, [], w, ?_, ⟨by simpa using hown.1, .inl ⟨rfl, rfl, rfl, rfl⟩⟩, Ext.refl _ _, by simp, fun h => absurd h (by omega), fun _ => ⟨rfl, rfl, rfl⟩⟩
      have hf := run_first (P := P) (size := j.size) (c := c) hnews hl
      simp [Builtin.append_, run_underlying t.h, Go.sizeOf, typeInfo, hj, Builtin.lenOf, hf]
    · have hf := run_first (P := P) (size := j.size) (c := c) hnews hl
      have hfit : n * j.size + news.length ≤ cur.size := by rw [hl, ← Nat.add_mul]; exact Nat.le_trans (Nat.mul_le_mul_right _ hroom) hcs
      have hst := run_storeCells_at P g (n * j.size) E news 0 cur w hg (by simpa using hfit) h1
      simp only [Nat.add_zero] at hst
      refine ⟨some ⟨g, 0, none⟩, cap, [g], w.setRow g (cur.toList.take (n * j.size) ++ news ++ cur.toList.drop (n * j.size + news.length)).toArray, ?_, ⟨hlen, .inr ⟨g, _, rfl, rfl, setRow_heap w g cur _ E _ hg, hroom, hcm, ?_, ?_⟩⟩, ⟨rfl, rfl, rfl, by simp, fun k _ hk => setRow_other w g k _ (fun e => hk (by simp [e]))⟩, fun x hx => .inl hx, fun h => absurd h (by omega), fun _ => ⟨rfl, rfl, rfl⟩⟩
      · simp [Builtin.append_, run_underlying t.h, Go.sizeOf, typeInfo, hj, Builtin.lenOf, hroom, hf, Go.Addr.add_lit, hst]
      · simp only [List.size_toArray, List.length_append, List.length_take, List.length_drop, Array.length_toList]
        refine Nat.le_trans hcs ?_
        omega
      · rw [ht, ← hlen]
        exact List.take_left
  · have hf := run_first (P := P) (size := j.size) (c := c) (w := w.drew) (b := b) (cs := news) (fun i v hv => by
      obtain ⟨p, hp, hc⟩ := hnews i v hv; exact ⟨p, hp, by simpa using hc⟩) hl
    have hfo := run_first (P := P) (size := j.size) (c := cap) (w := w.drew) (b := a) (cs := xs) (m := n) (fun i v hv => by
      obtain ⟨p, hp, hc⟩ := hown.cells i v hv; exact ⟨p, hp, by simpa using hc⟩) hown.1
    have h63' : ¬ (9223372036854775807 < ((n : Int) + (m : Int))) := by omega
    have hfit := growslice_fits (need := n + m) (old := cap) (bytes := j.bytes) (by omega) hby
    have h48' : ¬ (281474976710656 < Builtin.nextslicecap (n + m) cap * j.bytes) := by omega
    have hge := grownCap_ge w (n + m) cap E
    have hcm := grownCap_le_maxLen w (n + m) cap E h63
    refine ⟨some ⟨w.heap.size, 0, none⟩, grownCap w (n + m) cap E, [w.heap.size], w.drew.alloc (.cells (xs.toArray ++ news.toArray ++ Builtin.zeroCells z.cells (grownCap w (n + m) cap E - (n + m))) E), ?_, ⟨hlen, .inr ⟨w.heap.size, _, rfl, rfl, Blk.new w.drew _ _ _, hge, hcm, ?_, ?_⟩⟩, ?_, fun x hx => .inr (by simp at hx; omega), fun _ => ⟨(Ext.drew w).trans0 (Ext.alloc w.drew _), fun x hx => by simp at hx; omega⟩, fun h => absurd h hroom⟩
    · simp [Builtin.append_, run_underlying t.h, Go.sizeOf, typeInfo, zeroValue, hj, hz, Builtin.lenOf, show ¬ n + m ≤ cap by omega, h63', h48', Question.forced, hf, hfo, newRow, grownCap]
      congr 2
      apply Array.ext'
      simp [List.append_assoc]
    · simp only [Array.size_append, List.size_toArray, size_zeroCells, hzs, hown.1, hl, ← Nat.add_mul]
      refine Nat.le_of_eq ?_
      congr 1
      omega
    · simp only [Array.toList_append, List.append_assoc]
      rw [← List.append_assoc, ← hlen]
      exact List.take_left
    · have h1 := (Ext.drew w).trans0 (Ext.alloc w.drew (.cells (xs.toArray ++ news.toArray ++ Builtin.zeroCells z.cells (grownCap w (n + m) cap E - (n + m))) E))
      exact h1.mono (by simp)
theorem run_appZ2 {T E I size bytes : Nat} {z : Value} [t : TySlice P T E size bytes z] [ti : TyInt P I .i64] {a : Option Addr} {n cap : Nat} {xs : List Value} {M : List Nat} (hown : Own w E size a n cap xs M)
    {m : Nat} (h1 : ∀ u ∈ z.cells.toList, u.oneCell' = true) (h63 : n + m ≤ maxLen) (hby : (n + m) * bytes ≤ 140737488355328) (hpos : 0 < size) (hbp : 0 < bytes) (ty : Nat) :
    ∃ a' cap' M' w', (Builtin.append_ #[T, I] ty #[.slice a n cap, .int .i64 m]).run P w = .ok (.slice a' (n + m) cap') w' ∧ Own w' E size a' (n + m) cap' (xs ++ (Builtin.zeroCells z.cells m).toList) M' ∧ Ext M w w' ∧ (∀ g ∈ M', g ∈ M ∨ w.heap.size ≤ g) ∧ (cap < n + m → Ext [] w w' ∧ ∀ g ∈ M', w.heap.size ≤ g) ∧ (n + m ≤ cap → a' = a ∧ cap' = cap ∧ M' = M) := by
  obtain ⟨j, hj, hs, hb, hz⟩ := t.i
  have hzs := t.zs
  subst hs hb
  have hI := ti.h
  have hl : (Builtin.zeroCells z.cells m).toList.length = m * j.size := by rw [Array.length_toList, size_zeroCells, hzs]
  have hmm : m ≤ m * j.bytes := Nat.le_mul_of_pos_right _ hbp
  have hmb : m * j.bytes ≤ (n + m) * j.bytes := Nat.mul_le_mul_right _ (by omega)
  have hsmall : n + m ≤ 9223372036854775807 := by simp only [maxLen] at h63; omega
  have hwr : IntKind.i64.wrap ((m : Nat) : Int) = m := wrap_i64 (by omega)
  have hbig : ¬ (281474976710656 : Int) < (m : Int) * (j.bytes : Int) := by
    have : ((m * j.bytes : Nat) : Int) = (m : Int) * (j.bytes : Int) := by simp
    omega
  have hneg : ¬ ((m : Nat) : Int) < 0 := by omega
  have hai : (asInt (.int .i64 (m : Int))).run P w = .ok (m : Int) w := by simp [asInt, asIntOf]
  have hlen : (xs ++ (Builtin.zeroCells z.cells m).toList).length = (n + m) * j.size := by rw [List.length_append, hown.1, hl, Nat.add_mul]
  have h1' : ∀ u ∈ (Builtin.zeroCells z.cells m).toList, u.oneCell' = true := by
    intro u hu
    simp only [Builtin.zeroCells, Array.toList_map, List.mem_map, Array.mem_toList_iff, Array.mem_range] at hu
    obtain ⟨i, hi, rfl⟩ := hu
    have : i % z.cells.size < z.cells.size := Nat.mod_lt _ (by rw [hzs]; exact hpos)
    rw [getElem!_pos z.cells _ this]
    exact h1 _ (by simp)
  have hzl : m * j.size = 0 → (Builtin.zeroCells z.cells m) = #[] := by
    intro h0
    exact Array.eq_empty_of_size_eq_zero (by rw [size_zeroCells, hzs]; exact h0)
  by_cases hroom : n + m ≤ cap
  · rcases hown.2 with ⟨rfl, rfl, rfl, rfl⟩ | ⟨g, cur, rfl, rfl, hg, hnc, hcm, hcs, ht⟩
    · have hm0 : m = 0 := by omega
      subst hm0
      refine ⟨none, 0, [], w, ?_, ⟨hlen, .inl ⟨rfl, rfl, rfl, rfl⟩⟩, Ext.refl _ _, by simp, fun h => absurd h (by omega), fun _ => ⟨rfl, rfl, rfl⟩⟩
      have hai0 : (asInt (.int .i64 0)).run P w = .ok 0 w := hai
      have hwr0 : IntKind.i64.wrap 0 = 0 := hwr
      simp [Builtin.append_, run_underlying t.h, run_underlying hI, Go.sizeOf, typeInfo, hj, hai0, hwr0]
    · have hfit : n * j.size + (Builtin.zeroCells z.cells m).toList.length ≤ cur.size := by rw [hl, ← Nat.add_mul]; exact Nat.le_trans (Nat.mul_le_mul_right _ hroom) hcs
      have hst := run_storeCells_at P g (n * j.size) E (Builtin.zeroCells z.cells m).toList 0 cur w hg (by simpa using hfit) h1'
      simp only [Nat.add_zero] at hst
      refine ⟨some ⟨g, 0, none⟩, cap, [g], w.setRow g (cur.toList.take (n * j.size) ++ (Builtin.zeroCells z.cells m).toList ++ cur.toList.drop (n * j.size + (Builtin.zeroCells z.cells m).toList.length)).toArray, ?_, ⟨hlen, .inr ⟨g, _, rfl, rfl, setRow_heap w g cur _ E _ hg, hroom, hcm, ?_, ?_⟩⟩, ⟨rfl, rfl, rfl, by simp, fun k _ hk => setRow_other w g k _ (fun e => hk (by simp [e]))⟩, fun x hx => .inl hx, fun h => absurd h (by omega), fun _ => ⟨rfl, rfl, rfl⟩⟩
      · by_cases h0 : m * j.size = 0
        · rw [hzl h0] at hst ⊢
          simp [Builtin.append_, run_underlying t.h, run_underlying hI, Go.sizeOf, typeInfo, hj, hroom, h0, hwr, hneg, hbig, hai, Go.Addr.add_lit] at hst ⊢
          simp [hst]
        · simp [Builtin.append_, run_underlying t.h, run_underlying hI, Go.sizeOf, typeInfo, zeroValue, hz, hj, hroom, h0, hwr, hneg, hbig, hai, Go.Addr.add_lit, hst]
      · simp only [List.size_toArray, List.length_append, List.length_take, List.length_drop, Array.length_toList]
        refine Nat.le_trans hcs ?_
        omega
      · rw [ht, ← hlen]
        exact List.take_left
  · have hfo := run_first (P := P) (size := j.size) (c := cap) (w := w.drew) (b := a) (cs := xs) (m := n) (fun i v hv => by
      obtain ⟨p, hp, hc⟩ := hown.cells i v hv; exact ⟨p, hp, by simpa using hc⟩) hown.1
    have h63' : ¬ (9223372036854775807 < ((n : Int) + (m : Int))) := by omega
    have hfit := growslice_fits (need := n + m) (old := cap) (bytes := j.bytes) (by omega) hby
    have h48' : ¬ (281474976710656 < Builtin.nextslicecap (n + m) cap * j.bytes) := by omega
    have hge := grownCap_ge w (n + m) cap E
    have hcm := grownCap_le_maxLen w (n + m) cap E h63
    refine ⟨some ⟨w.heap.size, 0, none⟩, grownCap w (n + m) cap E, [w.heap.size], w.drew.alloc (.cells (xs.toArray ++ (Builtin.zeroCells z.cells m) ++ Builtin.zeroCells z.cells (grownCap w (n + m) cap E - (n + m))) E), ?_, ⟨hlen, .inr ⟨w.heap.size, _, rfl, rfl, Blk.new w.drew _ _ _, hge, hcm, ?_, ?_⟩⟩, ?_, fun x hx => .inr (by simp at hx; omega), fun _ => ⟨(Ext.drew w).trans0 (Ext.alloc w.drew _), fun x hx => by simp at hx; omega⟩, fun h => absurd h hroom⟩
    · by_cases h0 : m * j.size = 0
      · rw [hzl h0]
        simp [Builtin.append_, run_underlying t.h, run_underlying hI, Go.sizeOf, typeInfo, zeroValue, hj, hz, h0, hwr, hneg, hbig, hai, show ¬ n + m ≤ cap by omega, h63', h48', Question.forced, hfo, newRow, grownCap]
      · simp [Builtin.append_, run_underlying t.h, run_underlying hI, Go.sizeOf, typeInfo, zeroValue, hj, hz, h0, hwr, hneg, hbig, hai, show ¬ n + m ≤ cap by omega, h63', h48', Question.forced, hfo, newRow, grownCap]
    · simp only [Array.size_append, List.size_toArray, size_zeroCells, hzs, hown.1, ← Nat.add_mul]
      refine Nat.le_of_eq ?_
      congr 1
      omega
    · simp only [Array.toList_append, List.append_assoc]
      rw [← List.append_assoc, ← hlen]
      exact List.take_left
    · have h1 := (Ext.drew w).trans0 (Ext.alloc w.drew (.cells (xs.toArray ++ (Builtin.zeroCells z.cells m) ++ Builtin.zeroCells z.cells (grownCap w (n + m) cap E - (n + m))) E))
      exact h1.mono (by simp)
end
/-- The first elements of an owned row. -/
theorem Own.pre {w : World} {E size : Nat} {a : Option Addr} {n cap : Nat} {xs : List Value} {M : List Nat} (h : Own w E size a n cap xs M) {i : Nat} (hi : i ≤ n) : Own w E size a i cap (xs.take (i * size)) M := by
  have hl := h.1
  have hm : i * size ≤ n * size := Nat.mul_le_mul_right _ hi
  refine ⟨by rw [List.length_take, hl]; omega, ?_⟩
  rcases h.2 with ⟨h1, h2, h3, h4⟩ | ⟨g, cur, h1, h2, h3, h4, h5, h6, h7⟩
  · exact .inl ⟨h1, by omega, h3, h4⟩
  · exact .inr ⟨g, cur, h1, h2, h3, by omega, h5, h6, by rw [← h7, List.take_take, Nat.min_eq_left hm]⟩
/-- An element put in between, in place: the cells. -/
theorem over_insert {cur : Array Value} {xs v : List Value} {A L s : Nat} (hx : cur.toList.take L = xs) (hxl : xs.length = L) (hA : A ≤ L) (hv : v.length = s) (hr : L + s ≤ cur.size) :
    (Over (Over cur (A + s) (xs.drop A)) A v).toList.take (L + s) = xs.take A ++ v ++ xs.drop A ∧ (Over cur (A + s) (xs.drop A)).size = cur.size ∧ (Over (Over cur (A + s) (xs.drop A)) A v).size = cur.size := by
  have hdl : (xs.drop A).length = L - A := by rw [List.length_drop, hxl]
  have s1 : (Over cur (A + s) (xs.drop A)).size = cur.size := Over.size (by rw [hdl]; omega)
  have s2 : (Over (Over cur (A + s) (xs.drop A)) A v).size = cur.size := by rw [Over.size (by rw [s1, hv]; omega), s1]
  refine ⟨?_, s1, s2⟩
  have hcl : cur.toList.length = cur.size := Array.length_toList
  have e1 : (Over cur (A + s) (xs.drop A)).toList = cur.toList.take (A + s) ++ xs.drop A ++ cur.toList.drop (A + s + (xs.drop A).length) := rfl
  have e2 : (Over (Over cur (A + s) (xs.drop A)) A v).toList = (Over cur (A + s) (xs.drop A)).toList.take A ++ v ++ (Over cur (A + s) (xs.drop A)).toList.drop (A + v.length) := rfl
  have t1 : (cur.toList.take (A + s)).length = A + s := by rw [List.length_take]; omega
  have a1 : (Over cur (A + s) (xs.drop A)).toList.take A = xs.take A := by
    rw [e1, List.append_assoc, List.take_append, show A - (cur.toList.take (A + s)).length = 0 by omega, List.take_zero, List.append_nil, List.take_take, Nat.min_eq_left (by omega), ← hx, List.take_take, Nat.min_eq_left hA]
  have a2 : (Over cur (A + s) (xs.drop A)).toList.drop (A + v.length) = xs.drop A ++ cur.toList.drop (A + s + (xs.drop A).length) := by
    rw [e1, List.append_assoc, hv, List.drop_append, List.drop_of_length_le (by omega), List.nil_append, t1, Nat.sub_self, List.drop_zero]
  rw [e2, a1, a2]
  have l3 : (xs.take A ++ v ++ xs.drop A).length = L + s := by simp only [List.length_append, List.length_take, List.length_drop]; omega
  rw [← List.append_assoc, ← l3, List.take_left]
section
variable {P : Program} {n : Fm} {ρ : Env} {w : World} {ty : TypeId} {pos : String} {af : Array Edge} {gd : Option (Nat × Bool)}
/-- append, in place or in a new row. -/
theorem R.app2 {T E size bytes : Nat} {z : Value} [t : TySlice P T E size bytes z] {d : Nat} {s x : Operand} {a : Option Addr} {m0 cap : Nat} {xs : List Value} {M : List Nat} {b : Option Addr} {m c : Nat} {news : List Value}
    (hs : ev ρ s = some (.slice a m0 cap)) (hx : ev ρ x = some (.slice b m c)) (hown : Own w E size a m0 cap xs M)
    (hnews : Cells w b news) (hl : news.length = m * size) (h1 : ∀ u ∈ news, u.oneCell' = true) (h63 : m0 + m ≤ maxLen) (hby : (m0 + m) * bytes ≤ 140737488355328) :
    Does P n ρ w ⟨some d, .call ⟨.builtin .append, #[s, x], #[T, T]⟩, ty, pos, af, gd⟩ (fun v w' => ∃ a' cap' M', v = .slice a' (m0 + m) cap' ∧ Ext M w w' ∧ (∀ g ∈ M', g ∈ M ∨ w.heap.size ≤ g) ∧ Own w' E size a' (m0 + m) cap' (xs ++ news) M' ∧ (m0 + m ≤ cap → a' = a ∧ cap' = cap ∧ M' = M)) := by
  obtain ⟨a', cap', M', w', hr, ho, he, hm, _, hin⟩ := run_app2 (P := P) (T := T) hown (c := c) hnews hl h1 h63 hby ty
  exact ⟨_, _, fun f hf => by
    simp only [execOp, resolve, invoke, builtin, Sem.run_bind, Sem.run_pure, Result.andThen_ok, List.map_toArray, List.map_cons, List.map_nil, hf.eval hs, hf.eval hx, hr], a', cap', M', rfl, he, hm, ho, hin⟩
/-- append(xs, make(_, m)...), where it grows. -/
theorem R.appZN {T E I size bytes : Nat} {z : Value} [t : TySlice P T E size bytes z] [ti : TyInt P I .i64] {d : Nat} {s x : Operand} {a : Option Addr} {m0 cap m : Nat} {xs : List Value} {M : List Nat}
    (hs : ev ρ s = some (.slice a m0 cap)) (hx : ev ρ x = some (.int .i64 m)) (hown : Own w E size a m0 cap xs M)
    (h1 : ∀ u ∈ z.cells.toList, u.oneCell' = true) (h63 : m0 + m ≤ maxLen) (hby : (m0 + m) * bytes ≤ 140737488355328) (hpos : 0 < size) (hbp : 0 < bytes) (hg : cap < m0 + m) :
    Does P n ρ w ⟨some d, .call ⟨.builtin .append, #[s, x], #[T, I]⟩, ty, pos, af, gd⟩ (Cloned w E size (m0 + m) (xs ++ (Builtin.zeroCells z.cells m).toList)) := by
  obtain ⟨a', cap', M', w', hr, ho, he, hm, hnew, _⟩ := run_appZ2 (P := P) (T := T) (I := I) hown (m := m) h1 h63 hby hpos hbp ty
  exact ⟨_, _, fun f hf => by
    simp only [execOp, resolve, invoke, builtin, Sem.run_bind, Sem.run_pure, Result.andThen_ok, List.map_toArray, List.map_cons, List.map_nil, hf.eval hs, hf.eval hx, hr], a', cap', M', rfl, (hnew hg).1, ho, (hnew hg).2⟩
/-- copy, of elements of any size: m elements go over. -/
theorem R.copyN {T S E size bytes : Nat} {z : Value} [t : TySlice P T E size bytes z] {d : Option Nat} {x y : Operand} {g o dl dc sl sc m : Nat} {b : Option Addr} {cur : Array Value} {U : TypeId} {cs : List Value}
    (hx : ev ρ x = some (.slice (some ⟨g, o, none⟩) dl dc)) (hy : ev ρ y = some (.slice b sl sc)) (hb : Blk w g cur U (0, 0)) (hc : Cells w b cs) (hm : Nat.min sl dl = m) (hn : cs.length = m * size) (hfit : o + cs.length ≤ cur.size)
    (h1 : ∀ u ∈ cs, u.oneCell' = true) :
    Does P n ρ w ⟨d, .call ⟨.builtin .copy, #[x, y], #[T, S]⟩, ty, pos, af, gd⟩ (fun v w' => v = .int .i64 (m : Int) ∧ Put w g (Over cur o cs) U w') := by
  obtain ⟨i, hi, hs, _, _⟩ := t.i
  have hf := run_first (P := P) (size := size) (c := sc) hc hn
  have hst := run_storeCells_at P g o U cs 0 cur w hb (by simpa using hfit) h1
  simp only [Nat.add_zero] at hst
  have hf2 : (Builtin.firstCells size m (.slice b sl sc)).run P w = .ok cs.toArray w := by
    cases b with
    | none => have := cells_none hc; subst this; simp [Builtin.firstCells] at hf ⊢
    | some p => simpa [Builtin.firstCells] using hf
  refine ⟨.int .i64 (m : Int), w.setRow g (Over cur o cs), fun f hff => ?_, rfl, ⟨rfl, rfl, rfl, by simp, fun k _ hk => setRow_other w g k _ (fun e => hk (by simp [e]))⟩, by simp, setRow_heap w g cur _ U _ hb⟩
  simp only [execOp, resolve, invoke, builtin, Sem.run_bind, Sem.run_pure, Result.andThen_ok, List.map_toArray, List.map_cons, List.map_nil, hff.eval hx, hff.eval hy]
  simp [Builtin.copy_, run_underlying t.h, Builtin.lenOf, Go.sizeOf, typeInfo, hi, hs, hm, hf2, hst, Over, goInt]
/-- clear of a slice that has elements. -/
theorem R.clearN {T E size bytes : Nat} {z : Value} [t : TySlice P T E size bytes z] {d : Option Nat} {x : Operand} {g o m c : Nat} {cur : Array Value} {U : TypeId}
    (hx : ev ρ x = some (.slice (some ⟨g, o, none⟩) (m + 1) c)) (hb : Blk w g cur U (0, 0)) (hfit : o + (m + 1) * size ≤ cur.size) (hpos : 0 < size) (h1 : ∀ u ∈ z.cells.toList, u.oneCell' = true) :
    Does P n ρ w ⟨d, .call ⟨.builtin .clear, #[x], #[T]⟩, ty, pos, af, gd⟩ (fun _ w' => Put w g (Over cur o (Builtin.zeroCells z.cells (m + 1)).toList) U w') := by
  obtain ⟨i, hi, hs, _, hz⟩ := t.i
  have hzs := t.zs
  have hl : (Builtin.zeroCells z.cells (m + 1)).toList.length = (m + 1) * size := by rw [Array.length_toList, size_zeroCells, hzs]
  have h1' : ∀ u ∈ (Builtin.zeroCells z.cells (m + 1)).toList, u.oneCell' = true := by
    intro u hu
    simp only [Builtin.zeroCells, Array.toList_map, List.mem_map, Array.mem_toList_iff, Array.mem_range] at hu
    obtain ⟨i, hi, rfl⟩ := hu
    have : i % z.cells.size < z.cells.size := Nat.mod_lt _ (by rw [hzs]; exact hpos)
    rw [getElem!_pos z.cells _ this]
    exact h1 _ (by simp)
  have hst := run_storeCells_at P g o U (Builtin.zeroCells z.cells (m + 1)).toList 0 cur w hb (by rw [hl]; simpa using hfit) h1'
  simp only [Nat.add_zero] at hst
  refine ⟨.tuple #[], w.setRow g (Over cur o (Builtin.zeroCells z.cells (m + 1)).toList), fun f hff => ?_, ⟨rfl, rfl, rfl, by simp, fun k _ hk => setRow_other w g k _ (fun e => hk (by simp [e]))⟩, by simp, setRow_heap w g cur _ U _ hb⟩
  simp only [execOp, resolve, invoke, builtin, Sem.run_bind, Sem.run_pure, Result.andThen_ok, List.map_toArray, List.map_cons, List.map_nil, hff.eval hx]
  simp [Builtin.clear_, run_underlying t.h, zeroValue, typeInfo, hi, hz, hst, Over]
theorem R.capS {T E size bytes : Nat} {z : Value} [t : TySlice P T E size bytes z] {x : Operand} {d : Nat} {a : Option Addr} {m c : Nat} (hx : ev ρ x = some (.slice a m c)) :
    Runs P n ρ w ⟨some d, .call ⟨.builtin .cap, #[x], #[T]⟩, ty, pos, af, gd⟩ (.int .i64 (c : Int)) w := (fun f hf => by
    simp only [execOp, resolve, invoke, builtin, Sem.run_bind, Sem.run_pure, Result.andThen_ok, List.map_toArray, List.map_cons, List.map_nil, hf.eval hx]
    simp [Builtin.cap_, goInt, run_underlying t.h])
/-- slices.overlaps, of two blocks. -/
theorem R.overlaps {tS tR E size bytes : Nat} {z : Value} [t : TySlice P tS E size bytes z] {d : Nat} {f : FuncId} {fn : Func} {x y : Operand} {ats : Array TypeId} {a b : Addr} {la ca lb cb : Nat} {A B : Array Value} {tA tB : Nat}
    (hf : P.funcs[f]? = some fn) (hname : (fn.name == "runtime.NumGoroutine") = false) (hbd : fn.body.isNone = true) (hn : Extern.findNext fn = none) (he : Extern.find fn = some (Extern.SlicesOverlaps.overlaps #[tS, tS] #[tR]))
    (hx : ev ρ x = some (.slice (some a) la ca)) (hy : ev ρ y = some (.slice (some b) lb cb)) (hA : Blk w a.block A tA (0, 0)) (hB : Blk w b.block B tB (0, 0)) (hne : a.block ≠ b.block) (hB0 : 0 < B.size) :
    Runs P n ρ w ⟨some d, .call ⟨.value (.func f), #[x, y], ats⟩, ty, pos, af, gd⟩ (.bool false) w := by
  obtain ⟨i, hi, hs, _, _⟩ := t.i
  refine R.callX (vs := [.slice (some a) la ca, .slice (some b) lb cb]) (by simp [evs, hx, hy]) ?_
  have hz : ∀ w, (Go.sizeOf E).run P w = .ok size w := fun w => by simp [Go.sizeOf, typeInfo, hi, hs]
  have hfr : ∀ o, w.frozen? { block := a.block, off := o } = false := by
    intro o
    simp only [World.frozen?]
    rw [show w.heap[a.block]? = some (.cells A tA (0, 0)) from hA]
    simp
  have hfa : w.frozen? a = false := by
    simp only [World.frozen?]
    rw [show w.heap[a.block]? = some (.cells A tA (0, 0)) from hA]
    simp
  rw [run_callFunc_extern hf hname hbd hn he]
  have := Lib.run_overlaps_apart (P := P) w tS tR E t.h size hz a b la ca lb cb hne tA tB A.size B.size (by unfold World.shape?; rw [show w.heap[a.block]? = some (.cells A tA (0, 0)) from hA]) (by unfold World.shape?; rw [show w.heap[b.block]? = some (.cells B tB (0, 0)) from hB]) (by omega) hfa (hfr _)
  exact (congrArg (fun r => r.andThen fun v w' => Result.ok (Next.value v) w') this)
end
end Brv
/-
  Orders: keys, rows of pairs, what is found, put and deleted.
-/
set_option linter.unusedVariables false
namespace Brv
open Go
/-- What keys are: values that are compared. -/
class Key (κ : Type) where
  val : κ → Value
  lt : κ → κ → Bool
  one : ∀ k, (val k).oneCell' = true
  cell : ∀ k, (val k).cells = #[val k]
  irr : ∀ k, lt k k = false
  trans : ∀ a b c, lt a b = true → lt b c = true → lt a c = true
  tri : ∀ a b, lt a b = false → lt b a = false → a = b
theorem bl_irr : ∀ a : List UInt8, Op.bytesLess a a = false
  | [] => rfl
  | x :: r => by simp [Op.bytesLess, bl_irr r]
theorem bl_trans : ∀ a b c : List UInt8, Op.bytesLess a b = true → Op.bytesLess b c = true → Op.bytesLess a c = true
  | _, _, [], _, h => by simp [Op.bytesLess] at h
  | _, [], _ :: _, h, _ => by simp [Op.bytesLess] at h
  | [], _ :: _, _ :: _, _, _ => rfl
  | x :: a, y :: b, z :: c, h, k => by
    simp only [Op.bytesLess, Bool.or_eq_true, decide_eq_true_eq, Bool.and_eq_true, beq_iff_eq] at h k ⊢
    rcases h with h | ⟨rfl, h⟩
    · rcases k with k | ⟨rfl, k⟩
      · exact .inl (UInt8.lt_trans h k)
      · exact .inl h
    · rcases k with k | ⟨rfl, k⟩
      · exact .inl k
      · exact .inr ⟨rfl, bl_trans a b c h k⟩
theorem bl_tri : ∀ a b : List UInt8, Op.bytesLess a b = false → Op.bytesLess b a = false → a = b
  | [], [], _, _ => rfl
  | [], y :: b, h, _ => by simp [Op.bytesLess] at h
  | x :: a, [], _, h => by simp [Op.bytesLess] at h
  | x :: a, y :: b, h, k => by
    simp only [Op.bytesLess, Bool.or_eq_false_iff, decide_eq_false_iff_not] at h k
    have e : x = y := by
      have h1 := h.1; have k1 := k.1
      rw [UInt8.not_lt] at h1 k1
      exact UInt8.le_antisymm k1 h1
    subst e
    have h2 := h.2; have k2 := k.2
    simp at h2 k2
    rw [bl_tri a b h2 k2]
instance : Key Int := ⟨.int .i64, fun a b => decide (a < b), fun _ => rfl, fun _ => rfl, fun k => by simp, fun a b c h k => by simp at h k ⊢; omega, fun a b h k => by simp at h k; omega⟩
instance : Key (List UInt8) := ⟨fun k => .string (str k), Op.bytesLess, fun _ => rfl, fun _ => rfl, bl_irr, bl_trans, bl_tri⟩
section
variable {κ : Type} [Key κ]
/-- A key and a value's cells. -/
abbrev Pr (κ : Type) := κ × List Value
def pcell (p : Pr κ) : List Value := Key.val p.1 :: p.2
def pcells (ps : List (Pr κ)) : List Value := (ps.map pcell).flatten
def Sorted (ps : List (Pr κ)) : Prop := ps.Pairwise fun a b => Key.lt a.1 b.1 = true
/-- How many keys are below k. -/
def low (ps : List (Pr κ)) (k : κ) : Nat := (ps.takeWhile fun p => Key.lt p.1 k).length
def hasK (ps : List (Pr κ)) (k : κ) : Bool := match ps[low ps k]? with
  | some p => !Key.lt k p.1
  | none => false
theorem low_le (ps : List (Pr κ)) (k : κ) : low ps k ≤ ps.length := by
  unfold low
  exact (List.takeWhile_sublist _).length_le
theorem low_lt {ps : List (Pr κ)} {k : κ} {i : Nat} {p : Pr κ} (hi : i < low ps k) (hp : ps[i]? = some p) : Key.lt p.1 k = true := by
  unfold low at hi
  induction ps generalizing i with
  | nil => simp at hi
  | cons q r ih =>
    rw [List.takeWhile_cons] at hi
    split at hi
    · rename_i hq
      cases i with
      | zero => simp at hp; subst hp; exact hq
      | succ i => exact ih (by simpa using hi) (by simpa using hp)
    · simp at hi
theorem low_ge {ps : List (Pr κ)} (hs : Sorted ps) {k : κ} {i : Nat} {p : Pr κ} (hi : low ps k ≤ i) (hp : ps[i]? = some p) : Key.lt p.1 k = false := by
  unfold low at hi
  induction ps generalizing i with
  | nil => simp at hp
  | cons q r ih =>
    have hs' := List.pairwise_cons.1 hs
    rw [List.takeWhile_cons] at hi
    split at hi
    · rename_i hq
      cases i with
      | zero => simp at hi
      | succ i => exact ih hs'.2 (by simpa using hi) (by simpa using hp)
    · rename_i hq
      have hq' : Key.lt q.1 k = false := by simpa using hq
      cases i with
      | zero => simp at hp; subst hp; exact hq'
      | succ i =>
        have hm : p ∈ r := List.mem_of_getElem? (by simpa using hp)
        have h1 := hs'.1 p hm
        cases hc : Key.lt p.1 k with
        | false => rfl
        | true => rw [Key.trans _ _ _ h1 hc] at hq'; cases hq'
theorem hasK_iff {ps : List (Pr κ)} (hs : Sorted ps) {k : κ} : hasK ps k = true ↔ ∃ v, ps[low ps k]? = some (k, v) := by
  unfold hasK
  cases h : ps[low ps k]? with
  | none => simp
  | some p =>
    have hg := low_ge hs (Nat.le_refl _) h
    constructor
    · intro h1
      have h1 : Key.lt k p.1 = false := by simpa using h1
      have := Key.tri _ _ hg h1
      exact ⟨p.2, by rw [← this]⟩
    · rintro ⟨v, h1⟩
      cases h1
      have := Key.irr k
      simp [this]
def getK (ps : List (Pr κ)) (k : κ) : Option (List Value) := if hasK ps k then (ps[low ps k]?).map Prod.snd else none
def putK (ps : List (Pr κ)) (k : κ) (v : List Value) : List (Pr κ) := if hasK ps k then ps.set (low ps k) (k, v) else ps.take (low ps k) ++ (k, v) :: ps.drop (low ps k)
def delK (ps : List (Pr κ)) (k : κ) : List (Pr κ) := if hasK ps k then ps.take (low ps k) ++ ps.drop (low ps k + 1) else ps
theorem sorted_put {ps : List (Pr κ)} (hs : Sorted ps) (k : κ) (v : List Value) : Sorted (putK ps k v) := by
  have key : ∀ i p, ps[i]? = some p → i < low ps k → Key.lt p.1 k = true := fun i p hp hi => low_lt hi hp
  unfold putK
  split
  · rename_i hk
    obtain ⟨u, hu⟩ := (hasK_iff hs).1 hk
    unfold Sorted at hs ⊢
    rw [List.pairwise_iff_getElem] at hs ⊢
    intro i j hi hj hij
    rw [List.length_set] at hi hj
    have e : ∀ m (hm : m < ps.length), ((ps.set (low ps k) (k, v))[m]'(by rw [List.length_set]; exact hm)).1 = ps[m].1 := by
      intro m hm
      rw [List.getElem_set]
      split
      · rename_i e
        subst e
        rw [List.getElem?_eq_getElem hm] at hu
        cases hu' : ps[low ps k] with
        | mk a b => rw [hu'] at hu; cases hu; rfl
      · rfl
    rw [e i hi, e j hj]
    exact hs i j hi hj hij
  · rename_i hk
    unfold Sorted at hs ⊢
    rw [List.pairwise_append]
    refine ⟨hs.sublist (List.take_sublist _ _), List.pairwise_cons.2 ⟨fun p hp => ?_, hs.sublist (List.drop_sublist _ _)⟩, fun a ha b hb => ?_⟩
    · obtain ⟨j, hj, e⟩ := List.mem_iff_getElem.1 hp
      have hj' : low ps k + j < ps.length := by simp at hj; omega
      have hpp : ps[low ps k + j]? = some p := by rw [List.getElem?_eq_getElem hj', ← e, List.getElem_drop]
      have hg := low_ge hs (Nat.le_add_right _ _) hpp
      cases hc : Key.lt k p.1 with
      | true => rfl
      | false =>
        exfalso
        have e2 := Key.tri _ _ hg hc
        rcases Nat.eq_zero_or_pos j with rfl | hj0
        · refine hk ?_
          unfold hasK
          rw [show low ps k = low ps k + 0 from rfl, hpp]
          simp [hc]
        · have hl : low ps k < ps.length := by omega
          rw [List.pairwise_iff_getElem] at hs
          have h1 := hs (low ps k) (low ps k + j) hl hj' (by omega)
          have h2 := low_ge (k := k) (by rw [Sorted, List.pairwise_iff_getElem]; exact hs) (Nat.le_refl _) (List.getElem?_eq_getElem hl)
          rw [List.getElem?_eq_getElem hj'] at hpp
          have h3 : ps[low ps k + j] = p := by simpa using hpp
          rw [h3, e2] at h1
          rw [h1] at h2; cases h2
    · obtain ⟨i, hi, e⟩ := List.mem_iff_getElem.1 ha
      have hi' : i < low ps k := by simp at hi; omega
      have hil : i < ps.length := by simp at hi; omega
      have hak : Key.lt a.1 k = true := low_lt hi' (by rw [List.getElem?_eq_getElem hil, ← e, List.getElem_take])
      rcases List.mem_cons.1 hb with rfl | hb
      · exact hak
      · obtain ⟨j, hj, e'⟩ := List.mem_iff_getElem.1 hb
        have hj' : low ps k + j < ps.length := by simp at hj; omega
        rw [List.pairwise_iff_getElem] at hs
        have := hs i (low ps k + j) hil hj' (by omega)
        rw [← e, ← e', List.getElem_take, List.getElem_drop]
        exact this
theorem sorted_del {ps : List (Pr κ)} (hs : Sorted ps) (k : κ) : Sorted (delK ps k) := by
  unfold delK
  split
  · unfold Sorted at hs ⊢
    refine hs.sublist ?_
    have h1 : (ps.take (low ps k) ++ ps.drop (low ps k + 1)).Sublist (ps.take (low ps k) ++ ps.drop (low ps k)) := List.Sublist.append (List.Sublist.refl _) (List.drop_sublist_drop_left _ (by omega))
    rwa [List.take_append_drop] at h1
  · exact hs
theorem put_len {ps : List (Pr κ)} (k : κ) (v : List Value) : (putK ps k v).length = if hasK ps k then ps.length else ps.length + 1 := by
  have := low_le ps k
  unfold putK
  split
  · rw [List.length_set]
  · rw [List.length_append, List.length_cons, List.length_take, List.length_drop]; omega
theorem pcells_len {sv : Nat} {ps : List (Pr κ)} (h : ∀ p ∈ ps, p.2.length = sv) : (pcells ps).length = ps.length * (1 + sv) := by
  unfold pcells
  induction ps with
  | nil => simp
  | cons p r ih =>
    simp only [List.map_cons, List.flatten_cons, List.length_append, List.length_cons, pcell]
    rw [ih (fun q hq => h q (by simp [hq])), h p (by simp), Nat.add_mul]
    omega
theorem pcells_append (a b : List (Pr κ)) : pcells (a ++ b) = pcells a ++ pcells b := by simp [pcells]
theorem pcells_take {sv : Nat} {ps : List (Pr κ)} (h : ∀ p ∈ ps, p.2.length = sv) (i : Nat) (hi : i ≤ ps.length) : (pcells ps).take (i * (1 + sv)) = pcells (ps.take i) ∧ (pcells ps).drop (i * (1 + sv)) = pcells (ps.drop i) := by
  have e : pcells ps = pcells (ps.take i) ++ pcells (ps.drop i) := by rw [← pcells_append, List.take_append_drop]
  have hl : (pcells (ps.take i)).length = i * (1 + sv) := by
    rw [pcells_len (sv := sv) (fun p hp => h p (List.mem_of_mem_take hp)), List.length_take, Nat.min_eq_left hi]
  rw [e, ← hl, List.take_left, List.drop_left]
  exact ⟨rfl, rfl⟩
/-- Values of so many cells, each a cell. -/
def OkP (sv : Nat) (ps : List (Pr κ)) : Prop := ∀ p ∈ ps, p.2.length = sv ∧ ∀ u ∈ p.2, u.oneCell' = true
omit [Key κ] in
theorem OkP.len {sv : Nat} {ps : List (Pr κ)} (h : OkP sv ps) : ∀ p ∈ ps, p.2.length = sv := fun p hp => (h p hp).1
theorem pcell_one {sv : Nat} {ps : List (Pr κ)} (h : OkP sv ps) : ∀ u ∈ pcells ps, u.oneCell' = true := by
  intro u hu
  obtain ⟨c, hc, hu⟩ := List.mem_flatten.1 hu
  obtain ⟨p, hp, rfl⟩ := List.mem_map.1 hc
  rcases List.mem_cons.1 hu with rfl | hu
  · exact Key.one _
  · exact (h p hp).2 u hu
theorem OkP.put {sv : Nat} {ps : List (Pr κ)} (h : OkP sv ps) {k : κ} {v : List Value} (hv : v.length = sv ∧ ∀ u ∈ v, u.oneCell' = true) : OkP sv (putK ps k v) := by
  unfold putK
  split
  · intro p hp
    rcases List.mem_or_eq_of_mem_set hp with hp | rfl
    · exact h p hp
    · exact hv
  · intro p hp
    rcases List.mem_append.1 hp with hp | hp
    · exact h p (List.mem_of_mem_take hp)
    · rcases List.mem_cons.1 hp with rfl | hp
      · exact hv
      · exact h p (List.mem_of_mem_drop hp)
theorem OkP.del {sv : Nat} {ps : List (Pr κ)} (h : OkP sv ps) {k : κ} : OkP sv (delK ps k) := by
  unfold delK
  split
  · intro p hp
    rcases List.mem_append.1 hp with hp | hp
    · exact h p (List.mem_of_mem_take hp)
    · exact h p (List.mem_of_mem_drop hp)
  · exact h
/-- An order at m (TM: the type of orders, TP: of pairs). S: its blocks. -/
def MapAt (TM TP sv : Nat) (w : World) (m : Nat) (ps : List (Pr κ)) (S : List Nat) : Prop :=
  ∃ a c M, S = m :: M ∧ m ∉ M ∧ Blk w m #[.slice a ps.length c] TM (0, 0) ∧ Own w TP (1 + sv) a ps.length c (pcells ps) M ∧ OkP sv ps ∧ Sorted ps
theorem MapAt.ext {TM TP sv : Nat} {w w' : World} {m : Nat} {ps : List (Pr κ)} {S M' : List Nat} (h : MapAt TM TP sv w m ps S) (he : Ext M' w w') (hm : ∀ y ∈ S, y ∉ M') : MapAt TM TP sv w' m ps S := by
  obtain ⟨a, c, M, rfl, h0, h1, h2, h3, h4⟩ := h
  exact ⟨a, c, M, rfl, h0, h1.ext he (hm m (by simp)), h2.ext he (fun g hg => hm g (by simp [hg])), h3, h4⟩
theorem MapAt.ext0 {TM TP sv : Nat} {w w' : World} {m : Nat} {ps : List (Pr κ)} {S : List Nat} (h : MapAt TM TP sv w m ps S) (he : Ext [] w w') : MapAt TM TP sv w' m ps S := h.ext he (by simp)
theorem MapAt.lt {TM TP sv : Nat} {w : World} {m : Nat} {ps : List (Pr κ)} {S : List Nat} (h : MapAt TM TP sv w m ps S) : ∀ y ∈ S, y < w.heap.size := by
  obtain ⟨a, c, M, rfl, h0, h1, h2, h3, h4⟩ := h
  intro y hy
  rcases List.mem_cons.1 hy with rfl | hy
  · exact h1.lt
  · exact h2.lt y hy
theorem MapAt.still {TM TP sv : Nat} {w w' : World} {m : Nat} {ps : List (Pr κ)} {S : List Nat} (h : MapAt TM TP sv w m ps S) (hs : Still w w') : MapAt TM TP sv w' m ps S := by
  obtain ⟨a, c, M, rfl, h0, h1, h2, h3, h4⟩ := h
  exact ⟨a, c, M, rfl, h0, h1.still hs, h2.still hs, h3, h4⟩
theorem MapAt.neT {TM TP sv : Nat} {w : World} {m : Nat} {ps : List (Pr κ)} {S : List Nat} (h : MapAt TM TP sv w m ps S) {b : Nat} {cs : Array Value} {T : Nat} {fz : Nat × Nat} (hb : Blk w b cs T fz) (h1 : T ≠ TM) (h2 : T ≠ TP) : b ∉ S := by
  obtain ⟨a, c, M, rfl, g0, g1, g2, g3, g4⟩ := h
  intro hm
  rcases List.mem_cons.1 hm with rfl | hm
  · exact hb.ne g1 h1 rfl
  · obtain ⟨_, hq⟩ := g2.typ _ hm
    exact hb.ne hq h2 rfl
theorem MapAt.sorted {TM TP sv : Nat} {w : World} {m : Nat} {ps : List (Pr κ)} {S : List Nat} (h : MapAt TM TP sv w m ps S) : Sorted ps := by
  obtain ⟨a, c, M, rfl, g0, g1, g2, g3, g4⟩ := h
  exact g4
theorem MapAt.ok {TM TP sv : Nat} {w : World} {m : Nat} {ps : List (Pr κ)} {S : List Nat} (h : MapAt TM TP sv w m ps S) : OkP sv ps := by
  obtain ⟨a, c, M, rfl, g0, g1, g2, g3, g4⟩ := h
  exact g3
end
section
variable {P : Program} {n : Fm} {ρ : Env} {w : World} {d : Nat} {ty : TypeId} {pos : String} {af : Array Edge} {gd : Option (Nat × Bool)}
theorem bl_gt (a b : List UInt8) : (!(Op.bytesLess a b || a == b)) = Op.bytesLess b a := by
  cases h : Op.bytesLess a b with
  | true =>
    cases h2 : Op.bytesLess b a with
    | true => have := bl_trans _ _ _ h h2; rw [bl_irr] at this; cases this
    | false => simp
  | false =>
    cases h2 : Op.bytesLess b a with
    | true =>
      have : a ≠ b := fun e => by subst e; rw [bl_irr] at h2; cases h2
      simp [this]
    | false => simp [bl_tri a b h h2]
theorem R.gtStr {T T' : TypeId} {x y : Operand} {a b : List UInt8}  (hx : ev ρ x = some (.string (str a))) (hy : ev ρ y = some (.string (str b))) :
    Runs P n ρ w ⟨some d, .binOp .gtr T x y T', ty, pos, af, gd⟩ (.bool (Op.bytesLess b a)) w := R.bin hx hy (fun w => by rw [← bl_gt]; simp [eqGuard_at_string, binOp, Op.stringOp, ba_toList, str])
end
theorem shr1 (a : Int) : a.fdiv (2 ^ (Min.min (1 : Int).toNat IntKind.u64.bits)) = a / 2 := Int.fdiv_eq_ediv_of_nonneg a (by decide)
section
variable {κ : Type} [Key κ]
def cmpF (x y : κ) : Int := if Key.lt x y then -1 else if Key.lt y x then 1 else 0
theorem cmpF_lt {x y : κ} (h : Key.lt x y = true) : cmpF x y = -1 := if_pos h
theorem cmpF_gt {x y : κ} (h : Key.lt x y = false) (h2 : Key.lt y x = true) : cmpF x y = 1 := by unfold cmpF; rw [if_neg (by simp [h]), if_pos h2]
theorem cmpF_eq {x y : κ} (h : Key.lt x y = false) (h2 : Key.lt y x = false) : cmpF x y = 0 := by unfold cmpF; rw [if_neg (by simp [h]), if_neg (by simp [h2])]
theorem cmpF_neg {x y : κ} : cmpF x y < 0 ↔ Key.lt x y = true := by
  unfold cmpF
  cases h : Key.lt x y
  · cases h2 : Key.lt y x <;> simp
  · simp
theorem cmpF_zero {x y : κ} (h : Key.lt x y = false) : cmpF x y = 0 ↔ Key.lt y x = false := by
  unfold cmpF
  rw [if_neg (by simp [h])]
  cases h2 : Key.lt y x <;> simp
theorem lt_low {ps : List (Pr κ)} (hs : Sorted ps) {k : κ} {i : Nat} {p : Pr κ} (hp : ps[i]? = some p) : (cmpF p.1 k < 0) ↔ i < low ps k := by
  rw [cmpF_neg]
  constructor
  · intro h
    rcases Nat.lt_or_ge i (low ps k) with h2 | h2
    · exact h2
    · rw [low_ge hs h2 hp] at h; cases h
  · exact fun h => low_lt h hp
theorem hasK_at {ps : List (Pr κ)} (hs : Sorted ps) {k : κ} {p : Pr κ} (hp : ps[low ps k]? = some p) : hasK ps k = decide (cmpF p.1 k = 0) := by
  unfold hasK
  rw [hp]
  have := cmpF_zero (low_ge hs (Nat.le_refl _) hp)
  cases h : Key.lt k p.1 <;> simp [h] at this ⊢ <;> simp [this]
theorem hasK_end {ps : List (Pr κ)} {k : κ} (h : ps.length ≤ low ps k) : hasK ps k = false := by
  unfold hasK
  rw [List.getElem?_eq_none h]
theorem Tab.pairs {w : World} {a : Option Addr} {n sv : Nat} {ps : List (Pr κ)} (h : Cells w a (pcells ps)) (hn : n = ps.length) (hok : OkP sv ps) : Tab w a n (1 + sv) (ps.map pcell) :=
  ⟨h, by rw [List.length_map]; exact hn, fun vs hv => by obtain ⟨p, hp, rfl⟩ := List.mem_map.1 hv; show p.2.length + 1 = _; rw [(hok p hp).1]; omega⟩
theorem Own.some {w : World} {E size : Nat} {a : Option Addr} {n cap : Nat} {xs : List Value} {M : List Nat} (h : Own w E size a n cap xs M) (hn : 0 < n) :
    ∃ g cur, a = Option.some ⟨g, 0, none⟩ ∧ M = [g] ∧ Blk w g cur E (0, 0) ∧ n ≤ cap ∧ cap ≤ maxLen ∧ cap * size ≤ cur.size ∧ cur.toList.take (n * size) = xs := by
  rcases h.2 with ⟨_, h2, _⟩ | h
  · omega
  · exact h
theorem over_grow {cur : Array Value} {X c1 c2 : List Value} {A s K : Nat} (hx : cur.toList.take A = X) (hA : A ≤ cur.size) (h1 : c1.length = s) (h2 : c2.length = K) (hr : A + s + K ≤ cur.size) : (Over (Over cur A c1) (A + s) c2).toList.take (A + s + K) = X ++ c1 ++ c2 ∧ (Over cur A c1).size = cur.size ∧ (Over (Over cur A c1) (A + s) c2).size = cur.size := by
  have s1 : (Over cur A c1).size = cur.size := Over.size (by omega)
  refine ⟨?_, s1, by rw [Over.size (by rw [s1]; omega), s1]⟩
  rw [← h2, Over.take (by rw [s1]; omega), ← h1, Over.take hA, hx]
theorem pcells_set {sv : Nat} {ps : List (Pr κ)} (h : OkP sv ps) {i : Nat} {k : κ} {u v : List Value} (hi : ps[i]? = some (k, u)) (hv : v.length = sv) :
    (pcells ps).take (i * (1 + sv) + 1) ++ v ++ (pcells ps).drop (i * (1 + sv) + 1 + v.length) = pcells (ps.set i (k, v)) := by
  have hlt : i < ps.length := (List.getElem?_eq_some_iff.1 hi).1
  have he : ps[i] = (k, u) := (List.getElem?_eq_some_iff.1 hi).2
  have e : ps = ps.take i ++ (k, u) :: ps.drop (i + 1) := by
    rw [← he, ← List.drop_eq_getElem_cons hlt, List.take_append_drop]
  have hu : u.length = sv := (h (k, u) (List.mem_of_getElem? hi)).1
  have hl : (pcells (ps.take i)).length = i * (1 + sv) := by rw [pcells_len (sv := sv) (fun p hp => (h p (List.mem_of_mem_take hp)).1), List.length_take, Nat.min_eq_left (by omega)]
  have e2 : pcells ps = (pcells (ps.take i) ++ [Key.val k]) ++ (u ++ pcells (ps.drop (i + 1))) := by
    conv => lhs; rw [e]
    rw [pcells_append]
    simp [pcells, pcell]
  have l2 : (pcells (ps.take i) ++ [Key.val k]).length = i * (1 + sv) + 1 := by rw [List.length_append, hl]; rfl
  have e3 : ps.set i (k, v) = ps.take i ++ (k, v) :: ps.drop (i + 1) := by rw [List.set_eq_take_append_cons_drop, if_pos hlt]
  rw [e3, pcells_append, e2, ← l2, List.take_left, List.drop_append, List.drop_of_length_le (by omega), List.nil_append, show (pcells (ps.take i) ++ [Key.val k]).length + v.length - (pcells (ps.take i) ++ [Key.val k]).length = u.length by omega, List.drop_left]
  simp [pcells, pcell]
theorem pcell1 {p : Pr κ} (h : ∀ u ∈ p.2, u.oneCell' = true) : ∀ u ∈ pcell p, u.oneCell' = true := by
  intro u hu
  rcases List.mem_cons.1 hu with rfl | hu
  · exact Key.one _
  · exact h u hu
omit [Key κ] in
theorem okIns {sv : Nat} {ps : List (Pr κ)} {i : Nat} {p : Pr κ} (h : OkP sv ps) (hp : p.2.length = sv ∧ ∀ u ∈ p.2, u.oneCell' = true) : OkP sv (ps.take i ++ p :: ps.drop i) := by
  intro q hq
  rcases List.mem_append.1 hq with hq | hq
  · exact h q (List.mem_of_mem_take hq)
  · rcases List.mem_cons.1 hq with rfl | hq
    · exact hp
    · exact h q (List.mem_of_mem_drop hq)
theorem pcells_ins {ps : List (Pr κ)} {i : Nat} {p : Pr κ} : pcells (ps.take i) ++ pcell p ++ pcells (ps.drop i) = pcells (ps.take i ++ p :: ps.drop i) := by simp [pcells]
end
theorem Over.one {cur : Array Value} {o : Nat} {v : Value} (h : o < cur.size) : cur.setIfInBounds o v = Over cur o [v] := by
  apply Array.toList_inj.1
  rw [Array.toList_setIfInBounds, List.set_eq_take_append_cons_drop, if_pos (by simpa using h)]
  simp [Over]
end Brv
/-
  Orders: what is got, put in place, deleted.
-/
set_option linter.unusedVariables false
namespace Brv
open Go
/-- A value that was got: of one cell, or of many. -/
def gv1 (z : Value) : Option (List Value) → Value
  | some (u :: _) => u
  | _ => z
def gvA (z : Value) : Option (List Value) → Value
  | some u => .agg u.toArray
  | none => z
section
variable {κ : Type} [Key κ]
theorem getK_no {ps : List (Pr κ)} {k : κ} (h : hasK ps k = false) : getK ps k = none := by unfold getK; rw [h]; rfl
theorem getK_yes {ps : List (Pr κ)} {k : κ} {p : Pr κ} (h : hasK ps k = true) (hp : ps[low ps k]? = some p) : getK ps k = some p.2 := by unfold getK; rw [h, hp]; rfl
theorem hasK_lt {ps : List (Pr κ)} {k : κ} (h : hasK ps k = true) : low ps k < ps.length := by
  unfold hasK at h
  cases hq : ps[low ps k]? with
  | none => rw [hq] at h; cases h
  | some p => exact (List.getElem?_eq_some_iff.1 hq).1
theorem putK_yes {ps : List (Pr κ)} {k : κ} {v : List Value} (h : hasK ps k = true) : putK ps k v = ps.set (low ps k) (k, v) := if_pos h
theorem putK_no {ps : List (Pr κ)} {k : κ} {v : List Value} (h : hasK ps k = false) : putK ps k v = ps.take (low ps k) ++ (k, v) :: ps.drop (low ps k) := if_neg (by simp [h])
theorem delK_yes {ps : List (Pr κ)} {k : κ} (h : hasK ps k = true) : delK ps k = ps.take (low ps k) ++ ps.drop (low ps k + 1) := if_pos h
theorem delK_no {ps : List (Pr κ)} {k : κ} (h : hasK ps k = false) : delK ps k = ps := if_neg (by simp [h])
theorem pcells_at {sv : Nat} {ps : List (Pr κ)} (h : OkP sv ps) {i j : Nat} {p : Pr κ} {x : Value} (hi : ps[i]? = some p) (hj : (pcell p)[j]? = some x) : (pcells ps)[i * (1 + sv) + j]? = some x := by
  have hlt : i < ps.length := (List.getElem?_eq_some_iff.1 hi).1
  have he : ps[i] = p := (List.getElem?_eq_some_iff.1 hi).2
  have e : ps = ps.take i ++ p :: ps.drop (i + 1) := by
    rw [← he, ← List.drop_eq_getElem_cons hlt, List.take_append_drop]
  have hl : (pcells (ps.take i)).length = i * (1 + sv) := by rw [pcells_len (sv := sv) (fun p hp => (h p (List.mem_of_mem_take hp)).1), List.length_take, Nat.min_eq_left (by omega)]
  have e2 : pcells ps = pcells (ps.take i) ++ (pcell p ++ pcells (ps.drop (i + 1))) := by
    conv => lhs; rw [e]
    rw [pcells_append]
    simp [pcells]
  have hjl : j < (pcell p).length := (List.getElem?_eq_some_iff.1 hj).1
  rw [e2, ← hl, List.getElem?_append_right (Nat.le_add_right _ _), Nat.add_sub_cancel_left, List.getElem?_append_left hjl, hj]
theorem row_at {sv n : Nat} {cur : Array Value} {ps : List (Pr κ)} (ht : cur.toList.take (n * (1 + sv)) = pcells ps) (h : OkP sv ps) {i j : Nat} {p : Pr κ} {x : Value} (hi : ps[i]? = some p) (hj : (pcell p)[j]? = some x) : cur[i * (1 + sv) + j]? = some x := by
  have h1 := pcells_at h hi hj
  rw [← ht, List.getElem?_take] at h1
  split at h1
  · rw [← Array.getElem?_toList]; exact h1
  · cases h1
theorem MapAt.mk {TM TP sv : Nat} {w : World} {m n c : Nat} {a : Option Addr} {ps : List (Pr κ)} {M : List Nat} (hm : m ∉ M) (hb : Blk w m #[.slice a n c] TM (0, 0)) (hn : n = ps.length) (ho : Own w TP (1 + sv) a n c (pcells ps) M) (hok : OkP sv ps) (hs : Sorted ps) : MapAt TM TP sv w m ps (m :: M) := by
  subst hn; exact ⟨a, c, M, rfl, hm, hb, ho, hok, hs⟩
theorem put_ok {sv : Nat} {ps : List (Pr κ)} {k : κ} {v : List Value} (h : OkP sv ps) (hs : Sorted ps) (hv : v.length = sv ∧ ∀ u ∈ v, u.oneCell' = true) : OkP sv (putK ps k v) ∧ Sorted (putK ps k v) := ⟨h.put hv, sorted_put hs k v⟩
/-- A row in which a value was put. -/
theorem own_set {w' : World} {TP sv n c g : Nat} {cur : Array Value} {ps : List (Pr κ)} {k : κ} {v : List Value} (hn : n = ps.length) (hok : OkP sv ps) (hs : Sorted ps) (hk : hasK ps k = true) (hv : v.length = sv)
    (hnc : n ≤ c) (hcm : c ≤ maxLen) (hcs : c * (1 + sv) ≤ cur.size) (ht : cur.toList.take (n * (1 + sv)) = pcells ps)
    (hb : Blk w' g (cur.toList.take (low ps k * (1 + sv) + 1) ++ v ++ cur.toList.drop (low ps k * (1 + sv) + 1 + v.length)).toArray TP (0, 0)) : Own w' TP (1 + sv) (some ⟨g, 0, none⟩) n c (pcells (putK ps k v)) [g] := by
  have hlt := hasK_lt hk
  obtain ⟨u, hu⟩ := (hasK_iff hs).1 hk
  have hle : (low ps k + 1) * (1 + sv) ≤ n * (1 + sv) := Nat.mul_le_mul_right _ (by omega)
  rw [Nat.add_mul, Nat.one_mul] at hle
  have hnc' : n * (1 + sv) ≤ c * (1 + sv) := Nat.mul_le_mul_right _ hnc
  have hcl : cur.toList.length = cur.size := Array.length_toList
  have hset := pcells_set hok hu hv
  refine ⟨by rw [putK_yes hk, pcells_len (sv := sv) (fun q hq => by rw [← putK_yes hk] at hq; rcases (show q ∈ ps ∨ q = (k, v) by rw [putK_yes hk] at hq; exact List.mem_or_eq_of_mem_set hq) with h | rfl; exact (hok q h).1; exact hv), List.length_set, hn], .inr ⟨g, _, rfl, rfl, hb, hnc, hcm, ?_, ?_⟩⟩
  · simp only [List.size_toArray, List.length_append, List.length_take, List.length_drop, hcl]; omega
  · show List.take _ (_ ++ v ++ _) = _
    rw [putK_yes hk, ← hset, ← ht]
    have t1 : (cur.toList.take (low ps k * (1 + sv) + 1)).length = low ps k * (1 + sv) + 1 := by rw [List.length_take, hcl]; omega
    rw [List.take_take, Nat.min_eq_left (by omega), List.take_append, List.take_of_length_le (by rw [List.length_append, t1]; omega)]
    congr 1
    rw [List.length_append, t1, List.drop_take]
end
/-- One cell set in a list of cells. -/
theorem set_at {cur : Array Value} {o : Nat} {v : Value} (h : o < cur.size) : cur.setIfInBounds o v = (cur.toList.take o ++ [v] ++ cur.toList.drop (o + [v].length)).toArray := by
  apply Array.toList_inj.1
  rw [Array.toList_setIfInBounds, List.set_eq_take_append_cons_drop, if_pos (by simpa using h)]
  simp
theorem Own.inv {w : World} {E s g n c : Nat} {xs : List Value} {M : List Nat} (h : Own w E s (Option.some ⟨g, 0, none⟩) n c xs M) : ∃ cur, M = [g] ∧ Blk w g cur E (0, 0) ∧ n ≤ c ∧ c ≤ maxLen ∧ c * s ≤ cur.size ∧ cur.toList.take (n * s) = xs := by
  rcases h.2 with ⟨h1, _⟩ | ⟨g', cur, h1, h2, h3⟩
  · cases h1
  · cases h1
    exact ⟨cur, h2, h3⟩
theorem own_over {w : World} {E s g n c : Nat} {cur : Array Value} {cs xs : List Value} (hl : xs.length = n * s) (hb : Blk w g (Over cur (n * s) cs) E (0, 0)) (hf : n * s + cs.length ≤ cur.size) (h1 : n ≤ c) (h2 : c ≤ maxLen) (h3 : c * s ≤ cur.size) (h4 : cur.toList.take (n * s) = xs) : Own w E s (some ⟨g, 0, none⟩) n c xs [g] := by
  refine ⟨hl, .inr ⟨g, _, rfl, rfl, hb, h1, h2, by rw [Over.size hf]; exact h3, ?_⟩⟩
  have hcl : cur.toList.length = cur.size := Array.length_toList
  show List.take (n * s) (cur.toList.take (n * s) ++ cs ++ cur.toList.drop (n * s + cs.length)) = _
  rw [List.append_assoc, List.take_append_of_le_length (by rw [List.length_take]; omega), List.take_take, Nat.min_self]
  exact h4
section
variable {κ : Type} [Key κ]
/-- What an iterator over pairs yields: a number (or so) and a pair. -/
def prE (q : Nat → Option (Pr κ)) (k : Nat) (vs : List Value) (_ : World) : Prop := ∃ p v, q k = some p ∧ vs = [v, .agg (pcell p).toArray]
/-- What an iterator over an order yields: a key and a value. -/
def kvE (gv : List Value → Value) (q : Nat → Option (Pr κ)) (k : Nat) (vs : List Value) (_ : World) : Prop := ∃ p, q k = some p ∧ vs = [Key.val p.1, gv p.2]
end
def gv1' (l : List Value) : Value := gv1 (.bool false) (some l)
theorem over_all {cs vs : Array Value} (h : cs.size = vs.size) : (cs.toList.take 0 ++ vs.toList ++ cs.toList.drop (0 + vs.size)).toArray = vs := by
  apply Array.toList_inj.1
  simp [h]
/-- Behind a walk over pairs: what the consumer keeps, and the function that is called. -/
def wkI (J : Nat → List Nat → World → Prop) (b2 TY : Nat) (y : Value) (k : Nat) (DD : List Nat) (W : World) : Prop := ∃ D, DD = b2 :: D ∧ b2 ∉ D ∧ J k D W ∧ Blk W b2 y.cells TY (0, 0)
def wkX (Jx : Nat → List Nat → World → Prop) (b2 : Nat) (c : Code) (k : Nat) (DD : List Nat) (W : World) : Prop := c = .ret ∧ ∃ D, DD = b2 :: D ∧ b2 ∉ D ∧ Jx k D W
section
variable {κ : Type} [Key κ]
/-- The pair of the greatest key that isn't above one. -/
def floorK (ps : List (Pr κ)) (k : κ) : Option (Pr κ) := if hasK ps k then ps[low ps k]? else if low ps k = 0 then none else ps[low ps k - 1]?
/-- An order, or none. -/
def MapO (TM TP sv : Nat) (w : World) (d : Option Addr) (ps : List (Pr κ)) (S : List Nat) : Prop := (d = none ∧ ps = [] ∧ S = []) ∨ ∃ m, d = some ⟨m, 0, none⟩ ∧ MapAt TM TP sv w m ps S
def keysI (ps : List (Pr κ)) (TS TK b3 : Nat) (w0 : World) (k : Nat) (D : List Nat) (W : World) : Prop := ∃ a c MB, D = b3 :: MB ∧ Blk W b3 #[.slice a k c] TS (0, 0) ∧ Own W TK 1 a k c ((ps.take k).map fun p => Key.val p.1) MB ∧ (∀ g ∈ MB, w0.heap.size ≤ g ∧ g ≠ b3) ∧ w0.heap.size ≤ b3 ∧ Ext [] w0 W
theorem keysI_keep {ps : List (Pr κ)} {TS TK b3 : Nat} {w0 : World} {k s : Nat} {D M' : List Nat} {W W' : World} (hs : w0.heap.size ≤ s) (h : keysI ps TS TK b3 w0 k D W) (he : Ext M' W W') (hm : ∀ g ∈ M', g ∉ D ∧ (g ∈ ([] : List Nat) ∨ s ≤ g)) : keysI ps TS TK b3 w0 k D W' := by
  obtain ⟨a, c, MB, rfl, B3, o, hMB, h3, E⟩ := h
  exact ⟨a, c, MB, rfl, B3.ext he (fun h => (hm _ h).1 (by simp)), o.ext he (fun g hg h => (hm g h).1 (by simp [hg])), hMB, h3, E.transN he (fun g hg => (hm g hg).2.imp (by simp) (Nat.le_trans hs))⟩
theorem keys_succ {ps : List (Pr κ)} {k : Nat} {p : Pr κ} (hp : ps[k]? = some p) : ((ps.take k).map fun p => Key.val p.1) ++ [Key.val p.1] = ((ps.take (k + 1)).map fun p => Key.val p.1) := by
  rw [List.take_add_one, hp]; simp
end
end Brv
/-
  Orders: what is known of keys that are there; strings compared; slices of strings among the arguments.
-/
set_option linter.unusedVariables false
namespace Brv
open Go
section
variable {κ : Type} [Key κ]
def floorV (zk zv : Value) : Option (Pr κ) → Value
  | some p => .tuple #[Key.val p.1, gv1' p.2, .bool true]
  | none => .tuple #[zk, zv, .bool false]
theorem floorK_yes {ps : List (Pr κ)} {k : κ} (h : hasK ps k = true) : floorK ps k = ps[low ps k]? := if_pos h
theorem floorK_no {ps : List (Pr κ)} {k : κ} (h : hasK ps k = false) (h0 : low ps k = 0) : floorK ps k = none := by unfold floorK; rw [h, if_neg (by simp), if_pos h0]
theorem floorK_low {ps : List (Pr κ)} {k : κ} (h : hasK ps k = false) (h0 : low ps k ≠ 0) : floorK ps k = ps[low ps k - 1]? := by unfold floorK; rw [h, if_neg (by simp), if_neg h0]
theorem lt_irr {a b : κ} (h : Key.lt a b = true) : Key.lt b a = false := by
  cases hc : Key.lt b a with
  | false => rfl
  | true => have := Key.trans _ _ _ h hc; rw [Key.irr] at this; cases this
theorem low_at {ps : List (Pr κ)} (hs : Sorted ps) {i : Nat} {p : Pr κ} (hp : ps[i]? = some p) : low ps p.1 = i := by
  have hi : i < ps.length := (List.getElem?_eq_some_iff.1 hp).1
  have he : ps[i] = p := (List.getElem?_eq_some_iff.1 hp).2
  apply Nat.le_antisymm
  · refine Nat.le_of_not_lt fun h => ?_
    have := low_lt h hp
    rw [Key.irr] at this; cases this
  · refine Nat.le_of_not_lt fun h => ?_
    have hl : low ps p.1 < ps.length := by omega
    have h1 := low_ge (k := p.1) hs (Nat.le_refl _) (List.getElem?_eq_getElem hl)
    have h2 := (List.pairwise_iff_getElem.1 hs) _ _ hl hi h
    rw [he] at h2
    rw [h2] at h1; cases h1
theorem hasK_mem {ps : List (Pr κ)} (hs : Sorted ps) {p : Pr κ} (hp : p ∈ ps) : hasK ps p.1 = true ∧ getK ps p.1 = some p.2 := by
  obtain ⟨i, hi, he⟩ := List.mem_iff_getElem.1 hp
  have hp' : ps[i]? = some p := by rw [List.getElem?_eq_getElem hi, he]
  have hl := low_at hs hp'
  have hk : hasK ps p.1 = true := (hasK_iff hs).2 ⟨p.2, by rw [hl, hp']⟩
  exact ⟨hk, getK_yes hk (by rw [hl]; exact hp')⟩
theorem hasK_exists {ps : List (Pr κ)} (hs : Sorted ps) {k : κ} : hasK ps k = true ↔ ∃ p ∈ ps, p.1 = k := by
  constructor
  · intro h
    obtain ⟨v, hv⟩ := (hasK_iff hs).1 h
    exact ⟨(k, v), List.mem_of_getElem? hv, rfl⟩
  · rintro ⟨p, hp, rfl⟩
    exact (hasK_mem hs hp).1
theorem mem_put {ps : List (Pr κ)} (hs : Sorted ps) {k : κ} {v : List Value} {p : Pr κ} : p ∈ putK ps k v ↔ p = (k, v) ∨ (p ∈ ps ∧ p.1 ≠ k) := by
  have hlo := low_le ps k
  cases hk : hasK ps k with
  | true =>
    rw [putK_yes hk]
    obtain ⟨u, hu⟩ := (hasK_iff hs).1 hk
    have hlt := hasK_lt hk
    constructor
    · intro h
      obtain ⟨i, hi, he⟩ := List.mem_iff_getElem.1 h
      rw [List.length_set] at hi
      rw [List.getElem_set] at he
      split at he
      · exact .inl he.symm
      · rename_i hne
        have hp' : ps[i]? = some p := by rw [List.getElem?_eq_getElem hi, he]
        exact .inr ⟨List.mem_of_getElem? hp', fun e => hne (by rw [← low_at hs hp', e])⟩
    · rintro (rfl | ⟨h, hne⟩)
      · exact List.mem_iff_getElem.2 ⟨low ps k, by rw [List.length_set]; exact hlt, by rw [List.getElem_set_self]⟩
      · obtain ⟨i, hi, he⟩ := List.mem_iff_getElem.1 h
        have hp' : ps[i]? = some p := by rw [List.getElem?_eq_getElem hi, he]
        refine List.mem_iff_getElem.2 ⟨i, by rw [List.length_set]; exact hi, ?_⟩
        rw [List.getElem_set_ne, he]
        intro e
        subst e
        rw [hu] at hp'
        cases hp'
        exact hne rfl
  | false =>
    rw [putK_no hk]
    have h0 : ∀ p ∈ ps, p.1 ≠ k := fun p hp e => by
      have := (hasK_exists hs).2 ⟨p, hp, e⟩
      rw [hk] at this; cases this
    constructor
    · intro h
      rcases List.mem_append.1 h with h | h
      · exact .inr ⟨List.mem_of_mem_take h, h0 _ (List.mem_of_mem_take h)⟩
      · rcases List.mem_cons.1 h with rfl | h
        · exact .inl rfl
        · exact .inr ⟨List.mem_of_mem_drop h, h0 _ (List.mem_of_mem_drop h)⟩
    · rintro (rfl | ⟨h, -⟩)
      · simp
      · rw [← List.take_append_drop (low ps k) ps] at h
        rcases List.mem_append.1 h with h | h
        · exact List.mem_append_left _ h
        · exact List.mem_append_right _ (List.mem_cons_of_mem _ h)
theorem mem_del {ps : List (Pr κ)} (hs : Sorted ps) {k : κ} {p : Pr κ} : p ∈ delK ps k ↔ p ∈ ps ∧ p.1 ≠ k := by
  cases hk : hasK ps k with
  | true =>
    rw [delK_yes hk]
    obtain ⟨u, hu⟩ := (hasK_iff hs).1 hk
    have hlt := hasK_lt hk
    have e : ps = ps.take (low ps k) ++ ps[low ps k] :: ps.drop (low ps k + 1) := by rw [← List.drop_eq_getElem_cons hlt, List.take_append_drop]
    have he : ps[low ps k] = (k, u) := (List.getElem?_eq_some_iff.1 hu).2
    constructor
    · intro h
      obtain ⟨i, hi, hq⟩ : ∃ i, ps[i]? = some p ∧ i ≠ low ps k := by
        rcases List.mem_append.1 h with h | h
        · obtain ⟨i, hi, he⟩ := List.mem_iff_getElem.1 h
          rw [List.length_take] at hi
          rw [List.getElem_take] at he
          exact ⟨i, by rw [List.getElem?_eq_getElem (by omega), he], by omega⟩
        · obtain ⟨i, hi, he⟩ := List.mem_iff_getElem.1 h
          rw [List.length_drop] at hi
          rw [List.getElem_drop] at he
          exact ⟨low ps k + 1 + i, by rw [List.getElem?_eq_getElem (by omega), he], by omega⟩
      exact ⟨List.mem_of_getElem? hi, fun e => hq (by rw [← low_at hs hi, e])⟩
    · rintro ⟨h, hne⟩
      rw [e, he] at h
      rcases List.mem_append.1 h with h | h
      · exact List.mem_append_left _ h
      · rcases List.mem_cons.1 h with rfl | h
        · exact absurd rfl hne
        · exact List.mem_append_right _ h
  | false =>
    rw [delK_no hk]
    exact ⟨fun h => ⟨h, fun e => by have := (hasK_exists hs).2 ⟨p, h, e⟩; rw [hk] at this; cases this⟩, fun h => h.1⟩
theorem del_len (ps : List (Pr κ)) (k : κ) : (delK ps k).length = if hasK ps k then ps.length - 1 else ps.length := by
  cases hk : hasK ps k with
  | true => rw [delK_yes hk, List.length_append, List.length_take, List.length_drop]; have := hasK_lt hk; simp; omega
  | false => rw [delK_no hk]; simp
end
section
variable {P : Program} {n : Fm} {ρ : Env} {w : World} {d : Nat} {ty : TypeId} {pos : String} {af : Array Edge} {gd : Option (Nat × Bool)}
theorem bl_ge (a b : List UInt8) : (!(Op.bytesLess a b)) = !(Op.bytesLess a b) := rfl
theorem R.geStr {T T' : TypeId} {x y : Operand} {a b : List UInt8} (hx : ev ρ x = some (.string (str a))) (hy : ev ρ y = some (.string (str b))) :
    Runs P n ρ w ⟨some d, .binOp .geq T x y T', ty, pos, af, gd⟩ (.bool (!(Op.bytesLess a b))) w := R.bin hx hy (fun w => by simp [eqGuard_at_string, binOp, Op.stringOp, ba_toList, str])
end
/-- A slice of strings. -/
theorem Rd.strs {P : Program} {w : World} {f : Nat} {T E sz : TypeId} (hT : P.underlying T = some (.slice E)) [t : TyStr P E] (hby : P.bytesOf E = sz) (hsz : 0 < sz) {cs : List Value} (h : Rd P w f T cs) :
    ∃ a n c, ∃ l : List (List UInt8), cs = [.slice a n c] ∧ n ≤ c ∧ n ≤ 140737488351232 ∧ Cells w a (l.map fun s => Value.string (Brv.str s)) ∧ n = l.length ∧ ∀ s ∈ l, s.length ≤ 140737488351232 := by
  cases f with
  | zero => exact h.elim
  | succ f =>
    unfold Rd at h
    rw [hT] at h
    obtain ⟨a, n, c, rfl, hnc, ha, hb, vss, hl, hcell, hv⟩ := h
    have hex : ∃ l : List (List UInt8), vss = l.map (fun s => [Value.string (Brv.str s)]) ∧ ∀ s ∈ l, s.length ≤ 140737488351232 := by
      clear hcell hl
      induction vss with
      | nil => exact ⟨[], rfl, by simp⟩
      | cons vs r ih =>
        obtain ⟨s, rfl, hs⟩ := (hv vs (by simp)).2.str
        obtain ⟨l, rfl, hl⟩ := ih (fun x hx => hv x (by simp [hx]))
        exact ⟨s :: l, rfl, fun x hx => (List.mem_cons.1 hx).elim (fun e => e ▸ hs) (hl x)⟩
    obtain ⟨l, rfl, hs⟩ := hex
    refine ⟨a, n, c, l, rfl, hnc, ?_, ?_, by simpa using hl.symm, hs⟩
    · rw [hby] at hb
      have := Nat.le_mul_of_pos_right c hsz
      omega
    have : (l.map (fun s => [Value.string (Brv.str s)])).flatten = l.map fun s => Value.string (Brv.str s) := by
      clear hcell hl hv hs
      induction l with
      | nil => rfl
      | cons b r ih => simp [ih]
    rw [this] at hcell; exact hcell
end Brv
/-
  Orders, by definition: what the document's Put, Get, Delete and Floor come to, step by step.
-/
set_option linter.unusedVariables false
namespace Brv
open Go
section
variable {κ : Type} [Key κ]
def hadd (ps : List (Pr κ)) (k : κ) : Nat := if hasK ps k then 1 else 0
theorem hadd_yes {ps : List (Pr κ)} {k : κ} (h : hasK ps k = true) : hadd ps k = 1 := if_pos h
theorem hadd_no {ps : List (Pr κ)} {k : κ} (h : hasK ps k = false) : hadd ps k = 0 := if_neg (by simp [h])
theorem hadd_le (ps : List (Pr κ)) (k : κ) : hadd ps k ≤ 1 := by unfold hadd; split <;> omega
/-- What Put has written behind i pairs. -/
def putO (ps : List (Pr κ)) (k : κ) (v : List Value) (i : Nat) : List (Pr κ) := if i ≤ low ps k then ps.take i else ps.take (low ps k) ++ (k, v) :: (ps.take i).drop (low ps k + hadd ps k)
theorem putO_zero {ps : List (Pr κ)} {k : κ} {v : List Value} : putO ps k v 0 = [] := by simp [putO]
theorem putO_lt {ps : List (Pr κ)} {k : κ} {v : List Value} {i : Nat} {p : Pr κ} (hp : ps[i]? = some p) (h : i < low ps k) : putO ps k v (i + 1) = putO ps k v i ++ [p] := by
  unfold putO
  rw [if_pos (by omega), if_pos (by omega), List.take_add_one, hp]; rfl
theorem putO_has {ps : List (Pr κ)} {k : κ} {v : List Value} {i : Nat} (hi : i < ps.length) (h : i = low ps k) (hk : hasK ps k = true) : putO ps k v (i + 1) = putO ps k v i ++ [(k, v)] := by
  unfold putO
  rw [if_neg (by omega), if_pos (by omega), hadd_yes hk, ← h, List.drop_of_length_le (by rw [List.length_take]; omega)]
theorem putO_new {ps : List (Pr κ)} {k : κ} {v : List Value} {i : Nat} {p : Pr κ} (hp : ps[i]? = some p) (h : i = low ps k) (hk : hasK ps k = false) : putO ps k v (i + 1) = putO ps k v i ++ [(k, v)] ++ [p] := by
  have hi : i < ps.length := (List.getElem?_eq_some_iff.1 hp).1
  unfold putO
  rw [if_neg (by omega), if_pos (by omega), hadd_no hk, ← h, Nat.add_zero, List.take_add_one, hp, List.drop_append_of_le_length (by rw [List.length_take]; omega), List.drop_of_length_le (by rw [List.length_take]; omega)]
  simp
theorem putO_gt {ps : List (Pr κ)} {k : κ} {v : List Value} {i : Nat} {p : Pr κ} (hp : ps[i]? = some p) (h : low ps k < i) : putO ps k v (i + 1) = putO ps k v i ++ [p] := by
  have hi : i < ps.length := (List.getElem?_eq_some_iff.1 hp).1
  unfold putO
  rw [if_neg (by omega), if_neg (by omega), List.take_add_one, hp, List.drop_append_of_le_length (by rw [List.length_take]; have := hadd_le ps k; omega)]
  simp
theorem putO_end {ps : List (Pr κ)} {k : κ} {v : List Value} : (low ps k < ps.length → putO ps k v ps.length = putK ps k v) ∧ (¬ low ps k < ps.length → putO ps k v ps.length ++ [(k, v)] = putK ps k v ∧ hasK ps k = false) := by
  have hle := low_le ps k
  constructor
  · intro h
    unfold putO
    rw [if_neg (by omega), List.take_length]
    cases hk : hasK ps k with
    | true => rw [putK_yes hk, List.set_eq_take_append_cons_drop, if_pos h, hadd_yes hk]
    | false => rw [putK_no hk, hadd_no hk]; rfl
  · intro h
    have hk : hasK ps k = false := hasK_end (by omega)
    refine ⟨?_, hk⟩
    unfold putO
    rw [if_pos (by omega), putK_no hk, List.take_length, List.take_of_length_le (by omega), List.drop_of_length_le (by omega)]
/-- Where the i-th key stands. -/
theorem low_cases {ps : List (Pr κ)} (hs : Sorted ps) {k : κ} {i : Nat} {p : Pr κ} (hp : ps[i]? = some p) :
    (i < low ps k ∧ Key.lt p.1 k = true) ∨ (i = low ps k ∧ Key.lt p.1 k = false ∧ hasK ps k = !Key.lt k p.1) ∨ (low ps k < i ∧ Key.lt k p.1 = true) := by
  have hi : i < ps.length := (List.getElem?_eq_some_iff.1 hp).1
  rcases Nat.lt_trichotomy i (low ps k) with h | h | h
  · exact .inl ⟨h, low_lt h hp⟩
  · refine .inr (.inl ⟨h, low_ge hs (by omega) hp, ?_⟩)
    unfold hasK
    rw [← h, hp]
  · refine .inr (.inr ⟨h, ?_⟩)
    have hl : low ps k < ps.length := by omega
    have h1 := low_ge (k := k) hs (Nat.le_refl _) (List.getElem?_eq_getElem hl)
    have h2 := (List.pairwise_iff_getElem.1 hs) _ _ hl hi h
    rw [(List.getElem?_eq_some_iff.1 hp).2] at h2
    cases hc : Key.lt k p.1 with
    | true => rfl
    | false =>
      cases hc2 : Key.lt p.1 k with
      | true => rw [Key.trans _ _ _ h2 hc2] at h1; cases h1
      | false => rw [← Key.tri _ _ hc hc2] at h2; rw [h2] at h1; cases h1
end
theorem low_casesI {ps : List (Pr Int)} (hs : Sorted ps) {k : Int} {i : Nat} {p : Pr Int} (hp : ps[i]? = some p) :
    (i < low ps k ∧ p.1 < k) ∨ (i = low ps k ∧ p.1 = k ∧ hasK ps k = true) ∨ (i = low ps k ∧ k < p.1 ∧ hasK ps k = false) ∨ (low ps k < i ∧ k < p.1) := by
  have e : ∀ a b : Int, Key.lt a b = decide (a < b) := fun _ _ => rfl
  rcases low_cases hs (k := k) hp with ⟨h1, h2⟩ | ⟨h1, h2, h3⟩ | ⟨h1, h2⟩
  · exact .inl ⟨h1, by rw [e] at h2; simpa using h2⟩
  · rw [e] at h2 h3
    simp only [decide_eq_false_iff_not] at h2
    by_cases h4 : k < p.1
    · exact .inr (.inr (.inl ⟨h1, h4, by rw [h3]; simp; exact h4⟩))
    · exact .inr (.inl ⟨h1, by omega, by rw [h3]; simp; omega⟩)
  · exact .inr (.inr (.inr ⟨h1, by rw [e] at h2; simpa using h2⟩))
def neK (k : Int) (p : Pr Int) : Bool := decide (p.1 ≠ k)
theorem delK_filter {ps : List (Pr Int)} (hs : Sorted ps) (k : Int) : delK ps k = ps.filter (neK k) := by
  cases hk : hasK ps k with
  | false =>
    rw [delK_no hk]
    refine (List.filter_eq_self.2 fun p hp => ?_).symm
    simp only [neK, decide_eq_true_eq]
    intro e
    have := (hasK_exists hs).2 ⟨p, hp, e⟩
    rw [hk] at this; cases this
  | true =>
    have hlt := hasK_lt hk
    obtain ⟨u, hu⟩ := (hasK_iff hs).1 hk
    have he : ps[low ps k] = (k, u) := (List.getElem?_eq_some_iff.1 hu).2
    have e : ps = ps.take (low ps k) ++ ps[low ps k] :: ps.drop (low ps k + 1) := by rw [← List.drop_eq_getElem_cons hlt, List.take_append_drop]
    have h1 : (ps.take (low ps k)).filter (neK k) = ps.take (low ps k) := List.filter_eq_self.2 fun p hp => by
      obtain ⟨i, hi, he⟩ := List.mem_iff_getElem.1 hp
      rw [List.length_take] at hi
      rw [List.getElem_take] at he
      have hp' : ps[i]? = some p := by rw [List.getElem?_eq_getElem (by omega), he]
      simp only [neK, decide_eq_true_eq]
      intro e
      have := low_at hs hp'
      rw [e] at this; omega
    have h2 : (ps.drop (low ps k + 1)).filter (neK k) = ps.drop (low ps k + 1) := List.filter_eq_self.2 fun p hp => by
      obtain ⟨i, hi, he⟩ := List.mem_iff_getElem.1 hp
      rw [List.length_drop] at hi
      rw [List.getElem_drop] at he
      have hp' : ps[low ps k + 1 + i]? = some p := by rw [List.getElem?_eq_getElem (by omega), he]
      simp only [neK, decide_eq_true_eq]
      intro e
      have := low_at hs hp'
      rw [e] at this; omega
    rw [delK_yes hk]
    conv => rhs; rw [e, List.filter_append, List.filter_cons, h1, h2, he]
    simp [neK]
theorem filter_succ {ps : List (Pr Int)} {k : Int} {i : Nat} {p : Pr Int} (hp : ps[i]? = some p) : (ps.take (i + 1)).filter (neK k) = (ps.take i).filter (neK k) ++ (if p.1 = k then [] else [p]) := by
  rw [List.take_add_one, hp, List.filter_append]
  by_cases h : p.1 = k <;> simp [neK, h]
/-- The last of i pairs whose key isn't above k. -/
def flO (ps : List (Pr Int)) (k : Int) (i : Nat) : Option (Pr Int) := if min i (low ps k + hadd ps k) = 0 then none else ps[min i (low ps k + hadd ps k) - 1]?
theorem flO_zero {ps : List (Pr Int)} {k : Int} : flO ps k 0 = none := by simp [flO]
theorem flO_le {ps : List (Pr Int)} (hs : Sorted ps) {k : Int} {i : Nat} {p : Pr Int} (hp : ps[i]? = some p) (h : p.1 ≤ k) : flO ps k (i + 1) = some p := by
  unfold flO
  have : min (i + 1) (low ps k + hadd ps k) = i + 1 := by
    rcases low_casesI hs (k := k) hp with ⟨h1, _⟩ | ⟨h1, _, h3⟩ | ⟨h1, h2, _⟩ | ⟨_, h2⟩
    · omega
    · rw [hadd_yes h3]; omega
    · omega
    · omega
  rw [this, if_neg (by omega), Nat.add_sub_cancel, hp]
theorem flO_gt {ps : List (Pr Int)} (hs : Sorted ps) {k : Int} {i : Nat} {p : Pr Int} (hp : ps[i]? = some p) (h : ¬ p.1 ≤ k) : flO ps k (i + 1) = flO ps k i := by
  unfold flO
  have : min (i + 1) (low ps k + hadd ps k) = min i (low ps k + hadd ps k) := by
    rcases low_casesI hs (k := k) hp with ⟨h1, h2⟩ | ⟨h1, h2, h3⟩ | ⟨h1, h2, h3⟩ | ⟨h1, h2⟩
    · omega
    · omega
    · rw [hadd_no h3]; omega
    · have := hadd_le ps k; omega
  rw [this]
theorem flO_end {ps : List (Pr Int)} {k : Int} : flO ps k ps.length = floorK ps k := by
  have hle := low_le ps k
  unfold flO floorK
  cases hk : hasK ps k with
  | true => have := hasK_lt hk; rw [hadd_yes hk, if_pos rfl, Nat.min_eq_right (by omega), if_neg (by omega), Nat.add_sub_cancel]
  | false =>
    rw [hadd_no hk, if_neg (by simp : ¬ (false = true)), Nat.add_zero, Nat.min_eq_right hle]
end Brv
/-
  Plain laws on package record: writes that are merged.
-/
set_option linter.unusedVariables false
namespace Brv
open Go
abbrev Wr := Int × List UInt8
def toQ (p : Wr) : Pr Int := (p.1, vbs p.2)
theorem low_keys {ps qs : List (Pr Int)} (h : ps.map Prod.fst = qs.map Prod.fst) (k : Int) : low ps k = low qs k ∧ hasK ps k = hasK qs k := by
  have hl : low ps k = low qs k := by
    unfold low
    induction ps generalizing qs with
    | nil => cases qs with
      | nil => rfl
      | cons q qs => simp at h
    | cons p ps ih => cases qs with
      | nil => simp at h
      | cons q qs =>
        simp only [List.map_cons, List.cons.injEq] at h
        rw [List.takeWhile_cons, List.takeWhile_cons, h.1]
        split
        · rw [List.length_cons, List.length_cons, ih h.2]
        · rfl
  refine ⟨hl, ?_⟩
  have e := congrArg (fun l => l[low ps k]?) h
  simp only [List.getElem?_map] at e
  unfold hasK
  rw [← hl]
  cases h1 : ps[low ps k]? with
  | none => cases h2 : qs[low ps k]? with
    | none => rfl
    | some q => rw [h1, h2] at e; simp at e
  | some p => cases h2 : qs[low ps k]? with
    | none => rw [h1, h2] at e; simp at e
    | some q => rw [h1, h2] at e; simp at e; simp [e]
/-- Writes put behind each other. -/
def mergeP (ps : List (Pr Int)) (l : List Wr) : List (Pr Int) := l.foldl (fun ps w => putK ps w.1 (vbs w.2)) ps
theorem mergeP_append (ps : List (Pr Int)) (a b : List Wr) : mergeP ps (a ++ b) = mergeP (mergeP ps a) b := by simp [mergeP, List.foldl_append]
theorem mergeP_one (ps : List (Pr Int)) (w : Wr) : mergeP ps [w] = putK ps w.1 (vbs w.2) := rfl
theorem mergeP_sorted {ps : List (Pr Int)} (h : Sorted ps) (l : List Wr) : Sorted (mergeP ps l) := by
  induction l generalizing ps with
  | nil => exact h
  | cons w l ih => exact ih (sorted_put h _ _)
/-- The last bytes of a block. -/
def lastOf : List Wr → Int → Option (List UInt8)
  | [], _ => none
  | w :: l, k => match lastOf l k with
    | some b => some b
    | none => if w.1 = k then some w.2 else none
theorem lastOf_append (a b : List Wr) (k : Int) : lastOf (a ++ b) k = match lastOf b k with
    | some x => some x
    | none => lastOf a k := by
  induction a with
  | nil => simp only [List.nil_append, lastOf]; cases lastOf b k <;> rfl
  | cons w a ih =>
    simp only [List.cons_append, lastOf, ih]
    cases lastOf b k <;> rfl
theorem mem_mergeP {ps : List (Pr Int)} (hs : Sorted ps) (l : List Wr) (p : Pr Int) : p ∈ mergeP ps l ↔ (∃ b, lastOf l p.1 = some b ∧ p.2 = vbs b) ∨ (lastOf l p.1 = none ∧ p ∈ ps) := by
  induction l generalizing ps with
  | nil => simp [mergeP, lastOf]
  | cons w l ih =>
    show p ∈ mergeP (putK ps w.1 (vbs w.2)) l ↔ _
    rw [ih (sorted_put hs _ _), mem_put hs]
    simp only [lastOf]
    cases lastOf l p.1 with
    | some b => simp
    | none =>
      by_cases h : w.1 = p.1
      · simp only [h, if_pos, reduceCtorEq, false_and, exists_false, false_or, true_and, Option.some.injEq]
        obtain ⟨k, v⟩ := p
        dsimp only at h ⊢
        simp
      · have h' : p.1 ≠ w.1 := fun e => h e.symm
        simp only [if_neg h, reduceCtorEq, false_and, exists_false, false_or, true_and]
        constructor
        · rintro (rfl | ⟨h1, _⟩)
          · exact absurd rfl h
          · exact h1
        · exact fun h1 => .inr ⟨h1, h'⟩
/-- Two sorted lists of the same pairs are alike. -/
theorem sorted_ext {κ : Type} [Key κ] {a b : List (Pr κ)} (ha : Sorted a) (hb : Sorted b) (h : ∀ p, p ∈ a ↔ p ∈ b) : a = b := by
  induction a generalizing b with
  | nil =>
    cases b with
    | nil => rfl
    | cons q b => exact absurd ((h q).2 (by simp)) (by simp)
  | cons p a ih =>
    cases b with
    | nil => exact absurd ((h p).1 (by simp)) (by simp)
    | cons q b =>
      have ha' := List.pairwise_cons.1 ha
      have hb' := List.pairwise_cons.1 hb
      have e : p = q := by
        rcases List.mem_cons.1 ((h p).1 (by simp)) with e | h1
        · exact e
        · rcases List.mem_cons.1 ((h q).2 (by simp)) with e | h2
          · exact e.symm
          · have := lt_irr (hb'.1 p h1)
            rw [ha'.1 q h2] at this; cases this
      subst e
      congr 1
      refine ih ha'.2 hb'.2 fun x => ?_
      have hx := h x
      simp only [List.mem_cons] at hx
      constructor
      · intro h1
        rcases hx.1 (.inr h1) with rfl | h2
        · have := ha'.1 x h1; rw [Key.irr] at this; cases this
        · exact h2
      · intro h1
        rcases hx.2 (.inr h1) with rfl | h2
        · have := hb'.1 x h1; rw [Key.irr] at this; cases this
        · exact h2
theorem vbs_inj {a b : List UInt8} (h : vbs a = vbs b) : a = b := by
  induction a generalizing b with
  | nil => cases b with
    | nil => rfl
    | cons y b => simp [vbs] at h
  | cons x a ih => cases b with
    | nil => simp [vbs] at h
    | cons y b =>
      simp only [vbs, List.map_cons, List.cons.injEq, vb, Value.int.injEq, true_and] at h
      have e : x = y := UInt8.toNat_inj.1 (by omega)
      rw [e, ih (show vbs a = vbs b from h.2)]
theorem toQ_inj {a b : List Wr} (h : a.map toQ = b.map toQ) : a = b := by
  induction a generalizing b with
  | nil => cases b with
    | nil => rfl
    | cons y b => simp at h
  | cons x a ih => cases b with
    | nil => simp at h
    | cons y b =>
      simp only [List.map_cons, List.cons.injEq] at h
      obtain ⟨h1, h2⟩ := h
      obtain ⟨k, l⟩ := x
      obtain ⟨k2, l2⟩ := y
      simp only [toQ, Prod.mk.injEq] at h1
      rw [h1.1, vbs_inj h1.2, ih h2]
theorem nil_sorted : Sorted ([] : List (Pr Int)) := List.Pairwise.nil
/-- What is merged has the last bytes of each block. -/
theorem lastOf_merged {l r : List Wr} (h : r.map toQ = mergeP [] l) (k : Int) : lastOf r k = lastOf l k := by
  have hs := mergeP_sorted nil_sorted l
  rw [← h] at hs
  have key : ∀ (r : List Wr), Sorted (r.map toQ) → ∀ k b, lastOf r k = some b ↔ (k, b) ∈ r := by
    intro r
    induction r with
    | nil => intro _ k b; simp [lastOf]
    | cons w r ih =>
      intro hs k b
      have hs' := List.pairwise_cons.1 hs
      have hi := ih hs'.2 k b
      simp only [lastOf]
      cases hl : lastOf r k with
      | some b' =>
        have hm := (ih hs'.2 k b').1 hl
        have hlt := hs'.1 (toQ (k, b')) (List.mem_map.2 ⟨_, hm, rfl⟩)
        have hne : w.1 ≠ k := fun e => by
          have h1 : Key.lt w.1 k = true := hlt
          rw [e, Key.irr] at h1; cases h1
        rw [hl] at hi
        rw [hi, List.mem_cons]
        constructor
        · exact .inr
        · rintro (rfl | h)
          · exact absurd rfl hne
          · exact h
      | none =>
        rw [hl] at hi
        simp only [reduceCtorEq, false_iff] at hi
        by_cases e : w.1 = k
        · rw [if_pos e, List.mem_cons]
          constructor
          · intro h; cases h; exact .inl (by rw [← e])
          · rintro (rfl | h)
            · rfl
            · exact absurd h hi
        · rw [if_neg e, List.mem_cons]
          constructor
          · intro h; cases h
          · rintro (rfl | h)
            · exact absurd rfl e
            · exact absurd h hi
  have hmem : ∀ b, lastOf r k = some b ↔ lastOf l k = some b := by
    intro b
    rw [key r hs k b]
    have h1 := mem_mergeP nil_sorted l (toQ (k, b))
    rw [← h] at h1
    constructor
    · intro hm
      rcases h1.1 (List.mem_map.2 ⟨_, hm, rfl⟩) with ⟨b2, h2, h3⟩ | ⟨_, h3⟩
      · have : b = b2 := vbs_inj h3
        rw [this]; exact h2
      · cases h3
    · intro hm
      obtain ⟨⟨k2, b2⟩, hm2, e⟩ := List.mem_map.1 (h1.2 (.inl ⟨b, hm, rfl⟩))
      simp only [toQ, Prod.mk.injEq] at e
      rw [← e.1, ← vbs_inj e.2]; exact hm2
  cases h1 : lastOf r k with
  | some b => rw [(hmem b).1 h1]
  | none => cases h2 : lastOf l k with
    | none => rfl
    | some b => rw [(hmem b).2 h2] at h1; cases h1
/-- Lists with the same last bytes of each block are merged alike. -/
theorem merge_ext {a b : List Wr} (h : ∀ k, lastOf a k = lastOf b k) : mergeP [] a = mergeP [] b :=
  sorted_ext (mergeP_sorted nil_sorted a) (mergeP_sorted nil_sorted b) fun p => by rw [mem_mergeP nil_sorted, mem_mergeP nil_sorted, h]
/-- Merged by parts is merged at once. -/
theorem merge_parts {a r : List Wr} (x y : List Wr) (h : r.map toQ = mergeP [] a) : mergeP [] (x ++ r ++ y) = mergeP [] (x ++ a ++ y) :=
  merge_ext fun k => by
    simp only [lastOf_append, lastOf_merged h]
end Brv
/-
  What this seat's types are, as instances.
-/
namespace Go.Proofs.Ytiiiplhfgblamaa
open Go Brv
instance : TyOne Try.prog 1 := ⟨by kernel_rfl, by kernel_rfl⟩
instance : TyInt Try.prog 2 .i64 := ⟨Try.underlying2⟩
instance : TyOne Try.prog 2 := ⟨by kernel_rfl, by kernel_rfl⟩
instance : TyZero Try.prog 2 (.int .i64 0) := ⟨by kernel_rfl⟩
instance : TyInt Try.prog 3 .i64 := ⟨Try.underlying3⟩
instance : TyOne Try.prog 3 := ⟨by kernel_rfl, by kernel_rfl⟩
instance : TyZero Try.prog 3 (.int .i64 0) := ⟨by kernel_rfl⟩
instance : TyBool Try.prog 4 := ⟨Try.underlying4⟩
instance : TyOne Try.prog 4 := ⟨by kernel_rfl, by kernel_rfl⟩
instance : TyZero Try.prog 4 (.bool false) := ⟨by kernel_rfl⟩
instance : TyInt Try.prog 5 .u8 := ⟨Try.underlying5⟩
instance : TyOne Try.prog 5 := ⟨by kernel_rfl, by kernel_rfl⟩
instance : TyZero Try.prog 5 (.int .u8 0) := ⟨by kernel_rfl⟩
instance : TyAgg Try.prog 7 4 := ⟨by kernel_rfl, by kernel_rfl⟩
instance : TyField Try.prog 7 0 0 := ⟨_, _, Try.underlying7, rfl, rfl, by kernel_rfl⟩
instance : TyField Try.prog 7 1 1 := ⟨_, _, Try.underlying7, rfl, rfl, by kernel_rfl⟩
instance : TyField Try.prog 7 2 2 := ⟨_, _, Try.underlying7, rfl, rfl, by kernel_rfl⟩
instance : TyField Try.prog 7 3 3 := ⟨_, _, Try.underlying7, rfl, rfl, by kernel_rfl⟩
instance : TyBuilt Try.prog 7 (fun i => (#[(0, 1), (1, 1), (2, 1), (3, 1)] : Array (Nat × Nat))[i]?) (.agg #[.int .i64 0, .int .i64 0, .bool false, .int .u8 0]) := TyBuilt.struct (ps := [(0, 1), (1, 1), (2, 1), (3, 1)]) Try.underlying7 (by kernel_rfl) (by kernel_rfl)
instance : TyZero Try.prog 7 (.agg #[.int .i64 0, .int .i64 0, .bool false, .int .u8 0]) := ⟨by kernel_rfl⟩
instance : TyStr Try.prog 9 := ⟨Try.underlying9⟩
instance : TyOne Try.prog 9 := ⟨by kernel_rfl, by kernel_rfl⟩
instance : TyZero Try.prog 9 (.string ByteArray.empty) := ⟨by kernel_rfl⟩
instance : TyInt Try.prog 12 .u64 := ⟨Try.underlying12⟩
instance : TyOne Try.prog 12 := ⟨by kernel_rfl, by kernel_rfl⟩
instance : TyZero Try.prog 12 (.int .u64 0) := ⟨by kernel_rfl⟩
instance : TyAgg Try.prog 13 2 := ⟨by kernel_rfl, by kernel_rfl⟩
instance : TyField Try.prog 13 0 0 := ⟨_, _, Try.underlying13, rfl, rfl, by kernel_rfl⟩
instance : TyField Try.prog 13 1 1 := ⟨_, _, Try.underlying13, rfl, rfl, by kernel_rfl⟩
instance : TyBuilt Try.prog 13 (fun i => (#[(0, 1), (1, 1)] : Array (Nat × Nat))[i]?) (.agg #[.string ByteArray.empty, .int .u64 0]) := TyBuilt.struct (ps := [(0, 1), (1, 1)]) Try.underlying13 (by kernel_rfl) (by kernel_rfl)
instance : TyZero Try.prog 13 (.agg #[.string ByteArray.empty, .int .u64 0]) := ⟨by kernel_rfl⟩
instance : TyAgg Try.prog 18 1 := ⟨by kernel_rfl, by kernel_rfl⟩
instance : TyField Try.prog 18 0 0 := ⟨_, _, Try.underlying18, rfl, rfl, by kernel_rfl⟩
instance : TyBuilt Try.prog 18 (fun i => (#[(0, 1)] : Array (Nat × Nat))[i]?) (.agg #[.pointer none]) := TyBuilt.struct (ps := [(0, 1)]) Try.underlying18 (by kernel_rfl) (by kernel_rfl)
instance : TyZero Try.prog 18 (.agg #[.pointer none]) := ⟨by kernel_rfl⟩
instance : TyOne Try.prog 20 := ⟨by kernel_rfl, by kernel_rfl⟩
instance : TyInt Try.prog 21 .i32 := ⟨Try.underlying21⟩
instance : TyOne Try.prog 21 := ⟨by kernel_rfl, by kernel_rfl⟩
instance : TyZero Try.prog 21 (.int .i32 0) := ⟨by kernel_rfl⟩
instance : TyOne Try.prog 22 := ⟨by kernel_rfl, by kernel_rfl⟩
instance : TyZero Try.prog 22 (.slice none 0 0) := ⟨by kernel_rfl⟩
instance : TySlice Try.prog 22 40 2 32 (.agg #[.int .i64 0, .slice none 0 0]) := TySlice.of Try.underlying22 (by kernel_rfl) (by kernel_rfl) (by decide)
instance : TyAgg Try.prog 23 4 := ⟨by kernel_rfl, by kernel_rfl⟩
instance : TyField Try.prog 23 0 0 := ⟨_, _, Try.underlying23, rfl, rfl, by kernel_rfl⟩
instance : TyField Try.prog 23 1 1 := ⟨_, _, Try.underlying23, rfl, rfl, by kernel_rfl⟩
instance : TyField Try.prog 23 2 2 := ⟨_, _, Try.underlying23, rfl, rfl, by kernel_rfl⟩
instance : TyField Try.prog 23 3 3 := ⟨_, _, Try.underlying23, rfl, rfl, by kernel_rfl⟩
instance : TyBuilt Try.prog 23 (fun i => (#[(0, 1), (1, 1), (2, 1), (3, 1)] : Array (Nat × Nat))[i]?) (.agg #[.int .i64 0, .int .i64 0, .int .i64 0, .slice none 0 0]) := TyBuilt.struct (ps := [(0, 1), (1, 1), (2, 1), (3, 1)]) Try.underlying23 (by kernel_rfl) (by kernel_rfl)
instance : TyZero Try.prog 23 (.agg #[.int .i64 0, .int .i64 0, .int .i64 0, .slice none 0 0]) := ⟨by kernel_rfl⟩
instance : TyAgg Try.prog 24 4 := ⟨by kernel_rfl, by kernel_rfl⟩
instance : TyField Try.prog 24 0 0 := ⟨_, _, Try.underlying24, rfl, rfl, by kernel_rfl⟩
instance : TyField Try.prog 24 1 1 := ⟨_, _, Try.underlying24, rfl, rfl, by kernel_rfl⟩
instance : TyField Try.prog 24 2 2 := ⟨_, _, Try.underlying24, rfl, rfl, by kernel_rfl⟩
instance : TyField Try.prog 24 3 3 := ⟨_, _, Try.underlying24, rfl, rfl, by kernel_rfl⟩
instance : TyBuilt Try.prog 24 (fun i => (#[(0, 1), (1, 1), (2, 1), (3, 1)] : Array (Nat × Nat))[i]?) (.agg #[.int .i64 0, .int .i64 0, .int .i64 0, .slice none 0 0]) := TyBuilt.struct (ps := [(0, 1), (1, 1), (2, 1), (3, 1)]) Try.underlying24 (by kernel_rfl) (by kernel_rfl)
instance : TyZero Try.prog 24 (.agg #[.int .i64 0, .int .i64 0, .int .i64 0, .slice none 0 0]) := ⟨by kernel_rfl⟩
instance : TyOne Try.prog 25 := ⟨by kernel_rfl, by kernel_rfl⟩
instance : TyZero Try.prog 25 (.slice none 0 0) := ⟨by kernel_rfl⟩
instance : TySlice Try.prog 25 5 1 1 (.int .u8 0) := TySlice.of Try.underlying25 (by kernel_rfl) (by kernel_rfl) (by decide)
instance : TyBytes Try.prog 25 5 := ⟨Try.underlying25, Try.underlying5⟩
instance : TyOne Try.prog 26 := ⟨by kernel_rfl, by kernel_rfl⟩
instance : TyOne Try.prog 27 := ⟨by kernel_rfl, by kernel_rfl⟩
instance : TyOne Try.prog 28 := ⟨by kernel_rfl, by kernel_rfl⟩
instance : TyOne Try.prog 29 := ⟨by kernel_rfl, by kernel_rfl⟩
instance : TyInt Try.prog 30 .i64 := ⟨Try.underlying30⟩
instance : TyOne Try.prog 30 := ⟨by kernel_rfl, by kernel_rfl⟩
instance : TyZero Try.prog 30 (.int .i64 0) := ⟨by kernel_rfl⟩
instance : TyOne Try.prog 32 := ⟨by kernel_rfl, by kernel_rfl⟩
instance : TyOne Try.prog 34 := ⟨by kernel_rfl, by kernel_rfl⟩
instance : TyOne Try.prog 35 := ⟨by kernel_rfl, by kernel_rfl⟩
instance : TyOne Try.prog 36 := ⟨by kernel_rfl, by kernel_rfl⟩
instance : TyOne Try.prog 37 := ⟨by kernel_rfl, by kernel_rfl⟩
instance : TyOne Try.prog 38 := ⟨by kernel_rfl, by kernel_rfl⟩
instance : TyZero Try.prog 38 (.slice none 0 0) := ⟨by kernel_rfl⟩
instance : TySlice Try.prog 38 22 1 24 (.slice none 0 0) := TySlice.of Try.underlying38 (by kernel_rfl) (by kernel_rfl) (by decide)
instance : TyAgg Try.prog 39 2 := ⟨by kernel_rfl, by kernel_rfl⟩
instance : TyField Try.prog 39 0 0 := ⟨_, _, Try.underlying39, rfl, rfl, by kernel_rfl⟩
instance : TyField Try.prog 39 1 1 := ⟨_, _, Try.underlying39, rfl, rfl, by kernel_rfl⟩
instance : TyBuilt Try.prog 39 (fun i => (#[(0, 1), (1, 1)] : Array (Nat × Nat))[i]?) (.agg #[.int .i64 0, .slice none 0 0]) := TyBuilt.struct (ps := [(0, 1), (1, 1)]) Try.underlying39 (by kernel_rfl) (by kernel_rfl)
instance : TyZero Try.prog 39 (.agg #[.int .i64 0, .slice none 0 0]) := ⟨by kernel_rfl⟩
instance : TyAgg Try.prog 40 2 := ⟨by kernel_rfl, by kernel_rfl⟩
instance : TyField Try.prog 40 0 0 := ⟨_, _, Try.underlying40, rfl, rfl, by kernel_rfl⟩
instance : TyField Try.prog 40 1 1 := ⟨_, _, Try.underlying40, rfl, rfl, by kernel_rfl⟩
instance : TyBuilt Try.prog 40 (fun i => (#[(0, 1), (1, 1)] : Array (Nat × Nat))[i]?) (.agg #[.int .i64 0, .slice none 0 0]) := TyBuilt.struct (ps := [(0, 1), (1, 1)]) Try.underlying40 (by kernel_rfl) (by kernel_rfl)
instance : TyZero Try.prog 40 (.agg #[.int .i64 0, .slice none 0 0]) := ⟨by kernel_rfl⟩
instance : TyOne Try.prog 41 := ⟨by kernel_rfl, by kernel_rfl⟩
instance : TyOne Try.prog 42 := ⟨by kernel_rfl, by kernel_rfl⟩
instance : TyOne Try.prog 43 := ⟨by kernel_rfl, by kernel_rfl⟩
instance : TyOne Try.prog 44 := ⟨by kernel_rfl, by kernel_rfl⟩
instance : TyOne Try.prog 45 := ⟨by kernel_rfl, by kernel_rfl⟩
instance : TyOne Try.prog 46 := ⟨by kernel_rfl, by kernel_rfl⟩
instance : TyOne Try.prog 47 := ⟨by kernel_rfl, by kernel_rfl⟩
instance : TyZero Try.prog 47 (.slice none 0 0) := ⟨by kernel_rfl⟩
instance : TySlice Try.prog 47 55 4 48 (.agg #[.int .i64 0, .int .i64 0, .int .i64 0, .slice none 0 0]) := TySlice.of Try.underlying47 (by kernel_rfl) (by kernel_rfl) (by decide)
instance : TyPtr Try.prog 48 := ⟨_, Try.underlying48⟩
instance : TyOne Try.prog 48 := ⟨by kernel_rfl, by kernel_rfl⟩
instance : TyZero Try.prog 48 (.pointer none) := ⟨by kernel_rfl⟩
instance : TyOne Try.prog 50 := ⟨by kernel_rfl, by kernel_rfl⟩
instance : TyOne Try.prog 52 := ⟨by kernel_rfl, by kernel_rfl⟩
instance : TyOne Try.prog 53 := ⟨by kernel_rfl, by kernel_rfl⟩
instance : TyAgg Try.prog 54 4 := ⟨by kernel_rfl, by kernel_rfl⟩
instance : TyField Try.prog 54 0 0 := ⟨_, _, Try.underlying54, rfl, rfl, by kernel_rfl⟩
instance : TyField Try.prog 54 1 1 := ⟨_, _, Try.underlying54, rfl, rfl, by kernel_rfl⟩
instance : TyField Try.prog 54 2 2 := ⟨_, _, Try.underlying54, rfl, rfl, by kernel_rfl⟩
instance : TyField Try.prog 54 3 3 := ⟨_, _, Try.underlying54, rfl, rfl, by kernel_rfl⟩
instance : TyBuilt Try.prog 54 (fun i => (#[(0, 1), (1, 1), (2, 1), (3, 1)] : Array (Nat × Nat))[i]?) (.agg #[.int .i64 0, .int .i64 0, .int .i64 0, .slice none 0 0]) := TyBuilt.struct (ps := [(0, 1), (1, 1), (2, 1), (3, 1)]) Try.underlying54 (by kernel_rfl) (by kernel_rfl)
instance : TyZero Try.prog 54 (.agg #[.int .i64 0, .int .i64 0, .int .i64 0, .slice none 0 0]) := ⟨by kernel_rfl⟩
instance : TyAgg Try.prog 55 4 := ⟨by kernel_rfl, by kernel_rfl⟩
instance : TyField Try.prog 55 0 0 := ⟨_, _, Try.underlying55, rfl, rfl, by kernel_rfl⟩
instance : TyField Try.prog 55 1 1 := ⟨_, _, Try.underlying55, rfl, rfl, by kernel_rfl⟩
instance : TyField Try.prog 55 2 2 := ⟨_, _, Try.underlying55, rfl, rfl, by kernel_rfl⟩
instance : TyField Try.prog 55 3 3 := ⟨_, _, Try.underlying55, rfl, rfl, by kernel_rfl⟩
instance : TyBuilt Try.prog 55 (fun i => (#[(0, 1), (1, 1), (2, 1), (3, 1)] : Array (Nat × Nat))[i]?) (.agg #[.int .i64 0, .int .i64 0, .int .i64 0, .slice none 0 0]) := TyBuilt.struct (ps := [(0, 1), (1, 1), (2, 1), (3, 1)]) Try.underlying55 (by kernel_rfl) (by kernel_rfl)
instance : TyZero Try.prog 55 (.agg #[.int .i64 0, .int .i64 0, .int .i64 0, .slice none 0 0]) := ⟨by kernel_rfl⟩
instance : TyOne Try.prog 56 := ⟨by kernel_rfl, by kernel_rfl⟩
instance : TyOne Try.prog 58 := ⟨by kernel_rfl, by kernel_rfl⟩
instance : TyOne Try.prog 61 := ⟨by kernel_rfl, by kernel_rfl⟩
instance : TyOne Try.prog 62 := ⟨by kernel_rfl, by kernel_rfl⟩
instance : TyOne Try.prog 63 := ⟨by kernel_rfl, by kernel_rfl⟩
instance : TyOne Try.prog 64 := ⟨by kernel_rfl, by kernel_rfl⟩
instance : TyZero Try.prog 64 (.slice none 0 0) := ⟨by kernel_rfl⟩
instance : TySlice Try.prog 64 80 2 32 (.agg #[.int .i64 0, .slice none 0 0]) := TySlice.of Try.underlying64 (by kernel_rfl) (by kernel_rfl) (by decide)
instance : TyAgg Try.prog 65 3 := ⟨by kernel_rfl, by kernel_rfl⟩
instance : TyField Try.prog 65 0 0 := ⟨_, _, Try.underlying65, rfl, rfl, by kernel_rfl⟩
instance : TyField Try.prog 65 1 1 := ⟨_, _, Try.underlying65, rfl, rfl, by kernel_rfl⟩
instance : TyField Try.prog 65 2 2 := ⟨_, _, Try.underlying65, rfl, rfl, by kernel_rfl⟩
instance : TyBuilt Try.prog 65 (fun i => (#[(0, 1), (1, 1), (2, 1)] : Array (Nat × Nat))[i]?) (.agg #[.int .i64 0, .int .i64 0, .slice none 0 0]) := TyBuilt.struct (ps := [(0, 1), (1, 1), (2, 1)]) Try.underlying65 (by kernel_rfl) (by kernel_rfl)
instance : TyZero Try.prog 65 (.agg #[.int .i64 0, .int .i64 0, .slice none 0 0]) := ⟨by kernel_rfl⟩
instance : TyAgg Try.prog 66 3 := ⟨by kernel_rfl, by kernel_rfl⟩
instance : TyField Try.prog 66 0 0 := ⟨_, _, Try.underlying66, rfl, rfl, by kernel_rfl⟩
instance : TyField Try.prog 66 1 1 := ⟨_, _, Try.underlying66, rfl, rfl, by kernel_rfl⟩
instance : TyField Try.prog 66 2 2 := ⟨_, _, Try.underlying66, rfl, rfl, by kernel_rfl⟩
instance : TyBuilt Try.prog 66 (fun i => (#[(0, 1), (1, 1), (2, 1)] : Array (Nat × Nat))[i]?) (.agg #[.int .i64 0, .int .i64 0, .slice none 0 0]) := TyBuilt.struct (ps := [(0, 1), (1, 1), (2, 1)]) Try.underlying66 (by kernel_rfl) (by kernel_rfl)
instance : TyZero Try.prog 66 (.agg #[.int .i64 0, .int .i64 0, .slice none 0 0]) := ⟨by kernel_rfl⟩
instance : TyOne Try.prog 67 := ⟨by kernel_rfl, by kernel_rfl⟩
instance : TyZero Try.prog 67 (.slice none 0 0) := ⟨by kernel_rfl⟩
instance : TySlice Try.prog 67 3 1 8 (.int .i64 0) := TySlice.of Try.underlying67 (by kernel_rfl) (by kernel_rfl) (by decide)
instance : TyOne Try.prog 68 := ⟨by kernel_rfl, by kernel_rfl⟩
instance : TyInt Try.prog 69 .u64 := ⟨Try.underlying69⟩
instance : TyOne Try.prog 69 := ⟨by kernel_rfl, by kernel_rfl⟩
instance : TyZero Try.prog 69 (.int .u64 0) := ⟨by kernel_rfl⟩
instance : TyOne Try.prog 71 := ⟨by kernel_rfl, by kernel_rfl⟩
instance : TyOne Try.prog 73 := ⟨by kernel_rfl, by kernel_rfl⟩
instance : TyOne Try.prog 75 := ⟨by kernel_rfl, by kernel_rfl⟩
instance : TyOne Try.prog 77 := ⟨by kernel_rfl, by kernel_rfl⟩
instance : TyOne Try.prog 78 := ⟨by kernel_rfl, by kernel_rfl⟩
instance : TyAgg Try.prog 79 2 := ⟨by kernel_rfl, by kernel_rfl⟩
instance : TyField Try.prog 79 0 0 := ⟨_, _, Try.underlying79, rfl, rfl, by kernel_rfl⟩
instance : TyField Try.prog 79 1 1 := ⟨_, _, Try.underlying79, rfl, rfl, by kernel_rfl⟩
instance : TyBuilt Try.prog 79 (fun i => (#[(0, 1), (1, 1)] : Array (Nat × Nat))[i]?) (.agg #[.int .i64 0, .slice none 0 0]) := TyBuilt.struct (ps := [(0, 1), (1, 1)]) Try.underlying79 (by kernel_rfl) (by kernel_rfl)
instance : TyZero Try.prog 79 (.agg #[.int .i64 0, .slice none 0 0]) := ⟨by kernel_rfl⟩
instance : TyAgg Try.prog 80 2 := ⟨by kernel_rfl, by kernel_rfl⟩
instance : TyField Try.prog 80 0 0 := ⟨_, _, Try.underlying80, rfl, rfl, by kernel_rfl⟩
instance : TyField Try.prog 80 1 1 := ⟨_, _, Try.underlying80, rfl, rfl, by kernel_rfl⟩
instance : TyBuilt Try.prog 80 (fun i => (#[(0, 1), (1, 1)] : Array (Nat × Nat))[i]?) (.agg #[.int .i64 0, .slice none 0 0]) := TyBuilt.struct (ps := [(0, 1), (1, 1)]) Try.underlying80 (by kernel_rfl) (by kernel_rfl)
instance : TyZero Try.prog 80 (.agg #[.int .i64 0, .slice none 0 0]) := ⟨by kernel_rfl⟩
instance : TyOne Try.prog 81 := ⟨by kernel_rfl, by kernel_rfl⟩
instance : TyOne Try.prog 82 := ⟨by kernel_rfl, by kernel_rfl⟩
instance : TyZero Try.prog 82 (.slice none 0 0) := ⟨by kernel_rfl⟩
instance : TySlice Try.prog 82 83 1 8 (.int .u64 0) := TySlice.of Try.underlying82 (by kernel_rfl) (by kernel_rfl) (by decide)
instance : TyInt Try.prog 83 .u64 := ⟨Try.underlying83⟩
instance : TyOne Try.prog 83 := ⟨by kernel_rfl, by kernel_rfl⟩
instance : TyZero Try.prog 83 (.int .u64 0) := ⟨by kernel_rfl⟩
instance : TyOne Try.prog 84 := ⟨by kernel_rfl, by kernel_rfl⟩
instance : TyOne Try.prog 85 := ⟨by kernel_rfl, by kernel_rfl⟩
instance : TyOne Try.prog 86 := ⟨by kernel_rfl, by kernel_rfl⟩
instance : TyOne Try.prog 87 := ⟨by kernel_rfl, by kernel_rfl⟩
instance : TyPtr Try.prog 88 := ⟨_, Try.underlying88⟩
instance : TyOne Try.prog 88 := ⟨by kernel_rfl, by kernel_rfl⟩
instance : TyZero Try.prog 88 (.pointer none) := ⟨by kernel_rfl⟩
instance : TyOne Try.prog 90 := ⟨by kernel_rfl, by kernel_rfl⟩
instance : TyOne Try.prog 91 := ⟨by kernel_rfl, by kernel_rfl⟩
instance : TyZero Try.prog 91 (.slice none 0 0) := ⟨by kernel_rfl⟩
instance : TySlice Try.prog 91 82 1 24 (.slice none 0 0) := TySlice.of Try.underlying91 (by kernel_rfl) (by kernel_rfl) (by decide)
instance : TyOne Try.prog 92 := ⟨by kernel_rfl, by kernel_rfl⟩
instance : TyOne Try.prog 94 := ⟨by kernel_rfl, by kernel_rfl⟩
instance : TyOne Try.prog 95 := ⟨by kernel_rfl, by kernel_rfl⟩
instance : TyOne Try.prog 96 := ⟨by kernel_rfl, by kernel_rfl⟩
instance : TyOne Try.prog 97 := ⟨by kernel_rfl, by kernel_rfl⟩
instance : TyOne Try.prog 98 := ⟨by kernel_rfl, by kernel_rfl⟩
instance : TyOne Try.prog 99 := ⟨by kernel_rfl, by kernel_rfl⟩
instance : TyOne Try.prog 100 := ⟨by kernel_rfl, by kernel_rfl⟩
instance : TyOne Try.prog 101 := ⟨by kernel_rfl, by kernel_rfl⟩
instance : TyOne Try.prog 102 := ⟨by kernel_rfl, by kernel_rfl⟩
instance : TyOne Try.prog 104 := ⟨by kernel_rfl, by kernel_rfl⟩
instance : TyOne Try.prog 105 := ⟨by kernel_rfl, by kernel_rfl⟩
instance : TyOne Try.prog 106 := ⟨by kernel_rfl, by kernel_rfl⟩
instance : TyOne Try.prog 107 := ⟨by kernel_rfl, by kernel_rfl⟩
instance : TyOne Try.prog 108 := ⟨by kernel_rfl, by kernel_rfl⟩
instance : TyOne Try.prog 109 := ⟨by kernel_rfl, by kernel_rfl⟩
instance : TyPtr Try.prog 110 := ⟨_, Try.underlying110⟩
instance : TyOne Try.prog 110 := ⟨by kernel_rfl, by kernel_rfl⟩
instance : TyZero Try.prog 110 (.pointer none) := ⟨by kernel_rfl⟩
instance : TyOne Try.prog 111 := ⟨by kernel_rfl, by kernel_rfl⟩
instance : TyOne Try.prog 113 := ⟨by kernel_rfl, by kernel_rfl⟩
instance : TyOne Try.prog 114 := ⟨by kernel_rfl, by kernel_rfl⟩
instance : TyPtr Try.prog 115 := ⟨_, Try.underlying115⟩
instance : TyOne Try.prog 115 := ⟨by kernel_rfl, by kernel_rfl⟩
instance : TyZero Try.prog 115 (.pointer none) := ⟨by kernel_rfl⟩
instance : TyAgg Try.prog 116 2 := ⟨by kernel_rfl, by kernel_rfl⟩
instance : TyField Try.prog 116 0 0 := ⟨_, _, Try.underlying116, rfl, rfl, by kernel_rfl⟩
instance : TyField Try.prog 116 1 1 := ⟨_, _, Try.underlying116, rfl, rfl, by kernel_rfl⟩
instance : TyBuilt Try.prog 116 (fun i => (#[(0, 1), (1, 1)] : Array (Nat × Nat))[i]?) (.agg #[.string ByteArray.empty, .int .i64 0]) := TyBuilt.struct (ps := [(0, 1), (1, 1)]) Try.underlying116 (by kernel_rfl) (by kernel_rfl)
instance : TyZero Try.prog 116 (.agg #[.string ByteArray.empty, .int .i64 0]) := ⟨by kernel_rfl⟩
instance : TyAgg Try.prog 117 2 := ⟨by kernel_rfl, by kernel_rfl⟩
instance : TyField Try.prog 117 0 0 := ⟨_, _, Try.underlying117, rfl, rfl, by kernel_rfl⟩
instance : TyField Try.prog 117 1 1 := ⟨_, _, Try.underlying117, rfl, rfl, by kernel_rfl⟩
instance : TyBuilt Try.prog 117 (fun i => (#[(0, 1), (1, 1)] : Array (Nat × Nat))[i]?) (.agg #[.string ByteArray.empty, .int .i64 0]) := TyBuilt.struct (ps := [(0, 1), (1, 1)]) Try.underlying117 (by kernel_rfl) (by kernel_rfl)
instance : TyZero Try.prog 117 (.agg #[.string ByteArray.empty, .int .i64 0]) := ⟨by kernel_rfl⟩
instance : TyOne Try.prog 118 := ⟨by kernel_rfl, by kernel_rfl⟩
instance : TyOne Try.prog 119 := ⟨by kernel_rfl, by kernel_rfl⟩
instance : TyPtr Try.prog 120 := ⟨_, Try.underlying120⟩
instance : TyOne Try.prog 120 := ⟨by kernel_rfl, by kernel_rfl⟩
instance : TyZero Try.prog 120 (.pointer none) := ⟨by kernel_rfl⟩
instance : TyAgg Try.prog 121 1 := ⟨by kernel_rfl, by kernel_rfl⟩
instance : TyField Try.prog 121 0 0 := ⟨_, _, Try.underlying121, rfl, rfl, by kernel_rfl⟩
instance : TyBuilt Try.prog 121 (fun i => (#[(0, 1)] : Array (Nat × Nat))[i]?) (.agg #[.slice none 0 0]) := TyBuilt.struct (ps := [(0, 1)]) Try.underlying121 (by kernel_rfl) (by kernel_rfl)
instance : TyZero Try.prog 121 (.agg #[.slice none 0 0]) := ⟨by kernel_rfl⟩
instance : TyAgg Try.prog 122 1 := ⟨by kernel_rfl, by kernel_rfl⟩
instance : TyField Try.prog 122 0 0 := ⟨_, _, Try.underlying122, rfl, rfl, by kernel_rfl⟩
instance : TyBuilt Try.prog 122 (fun i => (#[(0, 1)] : Array (Nat × Nat))[i]?) (.agg #[.slice none 0 0]) := TyBuilt.struct (ps := [(0, 1)]) Try.underlying122 (by kernel_rfl) (by kernel_rfl)
instance : TyZero Try.prog 122 (.agg #[.slice none 0 0]) := ⟨by kernel_rfl⟩
instance : TyOne Try.prog 123 := ⟨by kernel_rfl, by kernel_rfl⟩
instance : TyOne Try.prog 124 := ⟨by kernel_rfl, by kernel_rfl⟩
instance : TyOne Try.prog 125 := ⟨by kernel_rfl, by kernel_rfl⟩
instance : TyOne Try.prog 126 := ⟨by kernel_rfl, by kernel_rfl⟩
instance : TyPtr Try.prog 127 := ⟨_, Try.underlying127⟩
instance : TyOne Try.prog 127 := ⟨by kernel_rfl, by kernel_rfl⟩
instance : TyZero Try.prog 127 (.pointer none) := ⟨by kernel_rfl⟩
instance : TyOne Try.prog 128 := ⟨by kernel_rfl, by kernel_rfl⟩
instance : TyOne Try.prog 129 := ⟨by kernel_rfl, by kernel_rfl⟩
instance : TyOne Try.prog 130 := ⟨by kernel_rfl, by kernel_rfl⟩
instance : TyOne Try.prog 131 := ⟨by kernel_rfl, by kernel_rfl⟩
instance : TyOne Try.prog 132 := ⟨by kernel_rfl, by kernel_rfl⟩
instance : TyOne Try.prog 133 := ⟨by kernel_rfl, by kernel_rfl⟩
instance : TyPtr Try.prog 134 := ⟨_, Try.underlying134⟩
instance : TyOne Try.prog 134 := ⟨by kernel_rfl, by kernel_rfl⟩
instance : TyZero Try.prog 134 (.pointer none) := ⟨by kernel_rfl⟩
instance : TyOne Try.prog 135 := ⟨by kernel_rfl, by kernel_rfl⟩
instance : TyAgg Try.prog 136 3 := ⟨by kernel_rfl, by kernel_rfl⟩
instance : TyField Try.prog 136 0 0 := ⟨_, _, Try.underlying136, rfl, rfl, by kernel_rfl⟩
instance : TyField Try.prog 136 1 1 := ⟨_, _, Try.underlying136, rfl, rfl, by kernel_rfl⟩
instance : TyField Try.prog 136 2 2 := ⟨_, _, Try.underlying136, rfl, rfl, by kernel_rfl⟩
instance : TyBuilt Try.prog 136 (fun i => (#[(0, 1), (1, 1), (2, 1)] : Array (Nat × Nat))[i]?) (.agg #[.int .i64 0, .int .i64 0, .pointer none]) := TyBuilt.struct (ps := [(0, 1), (1, 1), (2, 1)]) Try.underlying136 (by kernel_rfl) (by kernel_rfl)
instance : TyZero Try.prog 136 (.agg #[.int .i64 0, .int .i64 0, .pointer none]) := ⟨by kernel_rfl⟩
instance : TyAgg Try.prog 137 3 := ⟨by kernel_rfl, by kernel_rfl⟩
instance : TyField Try.prog 137 0 0 := ⟨_, _, Try.underlying137, rfl, rfl, by kernel_rfl⟩
instance : TyField Try.prog 137 1 1 := ⟨_, _, Try.underlying137, rfl, rfl, by kernel_rfl⟩
instance : TyField Try.prog 137 2 2 := ⟨_, _, Try.underlying137, rfl, rfl, by kernel_rfl⟩
instance : TyBuilt Try.prog 137 (fun i => (#[(0, 1), (1, 1), (2, 1)] : Array (Nat × Nat))[i]?) (.agg #[.int .i64 0, .int .i64 0, .pointer none]) := TyBuilt.struct (ps := [(0, 1), (1, 1), (2, 1)]) Try.underlying137 (by kernel_rfl) (by kernel_rfl)
instance : TyZero Try.prog 137 (.agg #[.int .i64 0, .int .i64 0, .pointer none]) := ⟨by kernel_rfl⟩
instance : TyOne Try.prog 138 := ⟨by kernel_rfl, by kernel_rfl⟩
instance : TyOne Try.prog 139 := ⟨by kernel_rfl, by kernel_rfl⟩
instance : TyOne Try.prog 140 := ⟨by kernel_rfl, by kernel_rfl⟩
instance : TyOne Try.prog 141 := ⟨by kernel_rfl, by kernel_rfl⟩
instance : TyOne Try.prog 142 := ⟨by kernel_rfl, by kernel_rfl⟩
instance : TyOne Try.prog 143 := ⟨by kernel_rfl, by kernel_rfl⟩
instance : TyZero Try.prog 143 (.slice none 0 0) := ⟨by kernel_rfl⟩
instance : TySlice Try.prog 143 148 1 8 (.pointer none) := TySlice.of Try.underlying143 (by kernel_rfl) (by kernel_rfl) (by decide)
instance : TyAgg Try.prog 144 1 := ⟨by kernel_rfl, by kernel_rfl⟩
instance : TyField Try.prog 144 0 0 := ⟨_, _, Try.underlying144, rfl, rfl, by kernel_rfl⟩
instance : TyBuilt Try.prog 144 (fun i => (#[(0, 1)] : Array (Nat × Nat))[i]?) (.agg #[.slice none 0 0]) := TyBuilt.struct (ps := [(0, 1)]) Try.underlying144 (by kernel_rfl) (by kernel_rfl)
instance : TyZero Try.prog 144 (.agg #[.slice none 0 0]) := ⟨by kernel_rfl⟩
instance : TyAgg Try.prog 145 1 := ⟨by kernel_rfl, by kernel_rfl⟩
instance : TyField Try.prog 145 0 0 := ⟨_, _, Try.underlying145, rfl, rfl, by kernel_rfl⟩
instance : TyBuilt Try.prog 145 (fun i => (#[(0, 1)] : Array (Nat × Nat))[i]?) (.agg #[.slice none 0 0]) := TyBuilt.struct (ps := [(0, 1)]) Try.underlying145 (by kernel_rfl) (by kernel_rfl)
instance : TyZero Try.prog 145 (.agg #[.slice none 0 0]) := ⟨by kernel_rfl⟩
instance : TyAgg Try.prog 146 64 := ⟨by kernel_rfl, by kernel_rfl⟩
instance : TyArr Try.prog 146 64 5 1 := ⟨Try.underlying146, by kernel_rfl⟩
instance : TyBuilt Try.prog 146 (fun i => some (i * 1, 1)) (.agg (Array.replicate 64 (.int .u8 0))) := TyBuilt.array Try.underlying146 (by kernel_rfl) (by kernel_rfl)
instance : TyZero Try.prog 146 (.agg (Array.replicate 64 (.int .u8 0))) := ⟨by kernel_rfl⟩
instance : TyAgg Try.prog 147 64 := ⟨by kernel_rfl, by kernel_rfl⟩
instance : TyArr Try.prog 147 64 5 1 := ⟨Try.underlying147, by kernel_rfl⟩
instance : TyBuilt Try.prog 147 (fun i => some (i * 1, 1)) (.agg (Array.replicate 64 (.int .u8 0))) := TyBuilt.array Try.underlying147 (by kernel_rfl) (by kernel_rfl)
instance : TyZero Try.prog 147 (.agg (Array.replicate 64 (.int .u8 0))) := ⟨by kernel_rfl⟩
instance : TyPtr Try.prog 148 := ⟨_, Try.underlying148⟩
instance : TyOne Try.prog 148 := ⟨by kernel_rfl, by kernel_rfl⟩
instance : TyZero Try.prog 148 (.pointer none) := ⟨by kernel_rfl⟩
instance : TyOne Try.prog 149 := ⟨by kernel_rfl, by kernel_rfl⟩
instance : TyOne Try.prog 150 := ⟨by kernel_rfl, by kernel_rfl⟩
instance : TyOne Try.prog 151 := ⟨by kernel_rfl, by kernel_rfl⟩
instance : TyOne Try.prog 152 := ⟨by kernel_rfl, by kernel_rfl⟩
instance : TyOne Try.prog 153 := ⟨by kernel_rfl, by kernel_rfl⟩
instance : TyOne Try.prog 154 := ⟨by kernel_rfl, by kernel_rfl⟩
instance : TyAgg Try.prog 155 2 := ⟨by kernel_rfl, by kernel_rfl⟩
instance : TyField Try.prog 155 0 0 := ⟨_, _, Try.underlying155, rfl, rfl, by kernel_rfl⟩
instance : TyField Try.prog 155 1 1 := ⟨_, _, Try.underlying155, rfl, rfl, by kernel_rfl⟩
instance : TyBuilt Try.prog 155 (fun i => (#[(0, 1), (1, 1)] : Array (Nat × Nat))[i]?) (.agg #[.slice none 0 0, .int .i64 0]) := TyBuilt.struct (ps := [(0, 1), (1, 1)]) Try.underlying155 (by kernel_rfl) (by kernel_rfl)
instance : TyZero Try.prog 155 (.agg #[.slice none 0 0, .int .i64 0]) := ⟨by kernel_rfl⟩
instance : TyAgg Try.prog 156 2 := ⟨by kernel_rfl, by kernel_rfl⟩
instance : TyField Try.prog 156 0 0 := ⟨_, _, Try.underlying156, rfl, rfl, by kernel_rfl⟩
instance : TyField Try.prog 156 1 1 := ⟨_, _, Try.underlying156, rfl, rfl, by kernel_rfl⟩
instance : TyBuilt Try.prog 156 (fun i => (#[(0, 1), (1, 1)] : Array (Nat × Nat))[i]?) (.agg #[.slice none 0 0, .int .i64 0]) := TyBuilt.struct (ps := [(0, 1), (1, 1)]) Try.underlying156 (by kernel_rfl) (by kernel_rfl)
instance : TyZero Try.prog 156 (.agg #[.slice none 0 0, .int .i64 0]) := ⟨by kernel_rfl⟩
instance : TyOne Try.prog 158 := ⟨by kernel_rfl, by kernel_rfl⟩
instance : TyOne Try.prog 159 := ⟨by kernel_rfl, by kernel_rfl⟩
instance : TyZero Try.prog 159 (.slice none 0 0) := ⟨by kernel_rfl⟩
instance : TySlice Try.prog 159 165 2 32 (.agg #[.int .i64 0, .slice none 0 0]) := TySlice.of Try.underlying159 (by kernel_rfl) (by kernel_rfl) (by decide)
instance : TyAgg Try.prog 160 1 := ⟨by kernel_rfl, by kernel_rfl⟩
instance : TyField Try.prog 160 0 0 := ⟨_, _, Try.underlying160, rfl, rfl, by kernel_rfl⟩
instance : TyBuilt Try.prog 160 (fun i => (#[(0, 1)] : Array (Nat × Nat))[i]?) (.agg #[.slice none 0 0]) := TyBuilt.struct (ps := [(0, 1)]) Try.underlying160 (by kernel_rfl) (by kernel_rfl)
instance : TyZero Try.prog 160 (.agg #[.slice none 0 0]) := ⟨by kernel_rfl⟩
instance : TyAgg Try.prog 161 1 := ⟨by kernel_rfl, by kernel_rfl⟩
instance : TyField Try.prog 161 0 0 := ⟨_, _, Try.underlying161, rfl, rfl, by kernel_rfl⟩
instance : TyBuilt Try.prog 161 (fun i => (#[(0, 1)] : Array (Nat × Nat))[i]?) (.agg #[.slice none 0 0]) := TyBuilt.struct (ps := [(0, 1)]) Try.underlying161 (by kernel_rfl) (by kernel_rfl)
instance : TyZero Try.prog 161 (.agg #[.slice none 0 0]) := ⟨by kernel_rfl⟩
instance : TyOne Try.prog 163 := ⟨by kernel_rfl, by kernel_rfl⟩
instance : TyAgg Try.prog 164 2 := ⟨by kernel_rfl, by kernel_rfl⟩
instance : TyField Try.prog 164 0 0 := ⟨_, _, Try.underlying164, rfl, rfl, by kernel_rfl⟩
instance : TyField Try.prog 164 1 1 := ⟨_, _, Try.underlying164, rfl, rfl, by kernel_rfl⟩
instance : TyBuilt Try.prog 164 (fun i => (#[(0, 1), (1, 1)] : Array (Nat × Nat))[i]?) (.agg #[.int .i64 0, .slice none 0 0]) := TyBuilt.struct (ps := [(0, 1), (1, 1)]) Try.underlying164 (by kernel_rfl) (by kernel_rfl)
instance : TyZero Try.prog 164 (.agg #[.int .i64 0, .slice none 0 0]) := ⟨by kernel_rfl⟩
instance : TyAgg Try.prog 165 2 := ⟨by kernel_rfl, by kernel_rfl⟩
instance : TyField Try.prog 165 0 0 := ⟨_, _, Try.underlying165, rfl, rfl, by kernel_rfl⟩
instance : TyField Try.prog 165 1 1 := ⟨_, _, Try.underlying165, rfl, rfl, by kernel_rfl⟩
instance : TyBuilt Try.prog 165 (fun i => (#[(0, 1), (1, 1)] : Array (Nat × Nat))[i]?) (.agg #[.int .i64 0, .slice none 0 0]) := TyBuilt.struct (ps := [(0, 1), (1, 1)]) Try.underlying165 (by kernel_rfl) (by kernel_rfl)
instance : TyZero Try.prog 165 (.agg #[.int .i64 0, .slice none 0 0]) := ⟨by kernel_rfl⟩
instance : TyOne Try.prog 166 := ⟨by kernel_rfl, by kernel_rfl⟩
instance : TyOne Try.prog 167 := ⟨by kernel_rfl, by kernel_rfl⟩
instance : TyOne Try.prog 168 := ⟨by kernel_rfl, by kernel_rfl⟩
instance : TyOne Try.prog 169 := ⟨by kernel_rfl, by kernel_rfl⟩
instance : TyOne Try.prog 170 := ⟨by kernel_rfl, by kernel_rfl⟩
instance : TyOne Try.prog 171 := ⟨by kernel_rfl, by kernel_rfl⟩
instance : TyOne Try.prog 172 := ⟨by kernel_rfl, by kernel_rfl⟩
instance : TyZero Try.prog 172 (.slice none 0 0) := ⟨by kernel_rfl⟩
instance : TySlice Try.prog 172 176 2 32 (.agg #[.int .i64 0, .slice none 0 0]) := TySlice.of Try.underlying172 (by kernel_rfl) (by kernel_rfl) (by decide)
instance : TyAgg Try.prog 173 1 := ⟨by kernel_rfl, by kernel_rfl⟩
instance : TyField Try.prog 173 0 0 := ⟨_, _, Try.underlying173, rfl, rfl, by kernel_rfl⟩
instance : TyBuilt Try.prog 173 (fun i => (#[(0, 1)] : Array (Nat × Nat))[i]?) (.agg #[.slice none 0 0]) := TyBuilt.struct (ps := [(0, 1)]) Try.underlying173 (by kernel_rfl) (by kernel_rfl)
instance : TyZero Try.prog 173 (.agg #[.slice none 0 0]) := ⟨by kernel_rfl⟩
instance : TyAgg Try.prog 174 1 := ⟨by kernel_rfl, by kernel_rfl⟩
instance : TyField Try.prog 174 0 0 := ⟨_, _, Try.underlying174, rfl, rfl, by kernel_rfl⟩
instance : TyBuilt Try.prog 174 (fun i => (#[(0, 1)] : Array (Nat × Nat))[i]?) (.agg #[.slice none 0 0]) := TyBuilt.struct (ps := [(0, 1)]) Try.underlying174 (by kernel_rfl) (by kernel_rfl)
instance : TyZero Try.prog 174 (.agg #[.slice none 0 0]) := ⟨by kernel_rfl⟩
instance : TyAgg Try.prog 175 2 := ⟨by kernel_rfl, by kernel_rfl⟩
instance : TyField Try.prog 175 0 0 := ⟨_, _, Try.underlying175, rfl, rfl, by kernel_rfl⟩
instance : TyField Try.prog 175 1 1 := ⟨_, _, Try.underlying175, rfl, rfl, by kernel_rfl⟩
instance : TyBuilt Try.prog 175 (fun i => (#[(0, 1), (1, 1)] : Array (Nat × Nat))[i]?) (.agg #[.int .i64 0, .slice none 0 0]) := TyBuilt.struct (ps := [(0, 1), (1, 1)]) Try.underlying175 (by kernel_rfl) (by kernel_rfl)
instance : TyZero Try.prog 175 (.agg #[.int .i64 0, .slice none 0 0]) := ⟨by kernel_rfl⟩
instance : TyAgg Try.prog 176 2 := ⟨by kernel_rfl, by kernel_rfl⟩
instance : TyField Try.prog 176 0 0 := ⟨_, _, Try.underlying176, rfl, rfl, by kernel_rfl⟩
instance : TyField Try.prog 176 1 1 := ⟨_, _, Try.underlying176, rfl, rfl, by kernel_rfl⟩
instance : TyBuilt Try.prog 176 (fun i => (#[(0, 1), (1, 1)] : Array (Nat × Nat))[i]?) (.agg #[.int .i64 0, .slice none 0 0]) := TyBuilt.struct (ps := [(0, 1), (1, 1)]) Try.underlying176 (by kernel_rfl) (by kernel_rfl)
instance : TyZero Try.prog 176 (.agg #[.int .i64 0, .slice none 0 0]) := ⟨by kernel_rfl⟩
instance : TyOne Try.prog 177 := ⟨by kernel_rfl, by kernel_rfl⟩
instance : TyOne Try.prog 179 := ⟨by kernel_rfl, by kernel_rfl⟩
instance : TyOne Try.prog 180 := ⟨by kernel_rfl, by kernel_rfl⟩
instance : TyOne Try.prog 181 := ⟨by kernel_rfl, by kernel_rfl⟩
instance : TyOne Try.prog 182 := ⟨by kernel_rfl, by kernel_rfl⟩
instance : TyOne Try.prog 183 := ⟨by kernel_rfl, by kernel_rfl⟩
instance : TyOne Try.prog 184 := ⟨by kernel_rfl, by kernel_rfl⟩
instance : TyOne Try.prog 185 := ⟨by kernel_rfl, by kernel_rfl⟩
instance : TyOne Try.prog 186 := ⟨by kernel_rfl, by kernel_rfl⟩
instance : TyOne Try.prog 187 := ⟨by kernel_rfl, by kernel_rfl⟩
instance : TyOne Try.prog 188 := ⟨by kernel_rfl, by kernel_rfl⟩
instance : TyOne Try.prog 189 := ⟨by kernel_rfl, by kernel_rfl⟩
instance : TyOne Try.prog 190 := ⟨by kernel_rfl, by kernel_rfl⟩
instance : TyOne Try.prog 191 := ⟨by kernel_rfl, by kernel_rfl⟩
instance : TyOne Try.prog 192 := ⟨by kernel_rfl, by kernel_rfl⟩
instance : TyOne Try.prog 193 := ⟨by kernel_rfl, by kernel_rfl⟩
instance : TyOne Try.prog 194 := ⟨by kernel_rfl, by kernel_rfl⟩
instance : TyOne Try.prog 195 := ⟨by kernel_rfl, by kernel_rfl⟩
instance : TyOne Try.prog 196 := ⟨by kernel_rfl, by kernel_rfl⟩
instance : TyOne Try.prog 197 := ⟨by kernel_rfl, by kernel_rfl⟩
instance : TyOne Try.prog 198 := ⟨by kernel_rfl, by kernel_rfl⟩
instance : TyOne Try.prog 199 := ⟨by kernel_rfl, by kernel_rfl⟩
instance : TyOne Try.prog 200 := ⟨by kernel_rfl, by kernel_rfl⟩
instance : TyOne Try.prog 201 := ⟨by kernel_rfl, by kernel_rfl⟩
instance : TyOne Try.prog 202 := ⟨by kernel_rfl, by kernel_rfl⟩
instance : TyOne Try.prog 204 := ⟨by kernel_rfl, by kernel_rfl⟩
instance : TyOne Try.prog 205 := ⟨by kernel_rfl, by kernel_rfl⟩
instance : TyInt Try.prog 206 .u32 := ⟨Try.underlying206⟩
instance : TyOne Try.prog 206 := ⟨by kernel_rfl, by kernel_rfl⟩
instance : TyZero Try.prog 206 (.int .u32 0) := ⟨by kernel_rfl⟩
instance : TyOne Try.prog 208 := ⟨by kernel_rfl, by kernel_rfl⟩
instance : TyOne Try.prog 210 := ⟨by kernel_rfl, by kernel_rfl⟩
instance : TyOne Try.prog 211 := ⟨by kernel_rfl, by kernel_rfl⟩
instance : TyOne Try.prog 212 := ⟨by kernel_rfl, by kernel_rfl⟩
instance : TyOne Try.prog 213 := ⟨by kernel_rfl, by kernel_rfl⟩
instance : TyAgg Try.prog 214 4 := ⟨by kernel_rfl, by kernel_rfl⟩
instance : TyField Try.prog 214 0 0 := ⟨_, _, Try.underlying214, rfl, rfl, by kernel_rfl⟩
instance : TyField Try.prog 214 1 1 := ⟨_, _, Try.underlying214, rfl, rfl, by kernel_rfl⟩
instance : TyField Try.prog 214 2 2 := ⟨_, _, Try.underlying214, rfl, rfl, by kernel_rfl⟩
instance : TyField Try.prog 214 3 3 := ⟨_, _, Try.underlying214, rfl, rfl, by kernel_rfl⟩
instance : TyBuilt Try.prog 214 (fun i => (#[(0, 1), (1, 1), (2, 1), (3, 1)] : Array (Nat × Nat))[i]?) (.agg #[.pointer none, .pointer none, .pointer none, .string ByteArray.empty]) := TyBuilt.struct (ps := [(0, 1), (1, 1), (2, 1), (3, 1)]) Try.underlying214 (by kernel_rfl) (by kernel_rfl)
instance : TyZero Try.prog 214 (.agg #[.pointer none, .pointer none, .pointer none, .string ByteArray.empty]) := ⟨by kernel_rfl⟩
instance : TyAgg Try.prog 216 0 := ⟨by kernel_rfl, by kernel_rfl⟩
instance : TyArr Try.prog 216 0 16 1 := ⟨Try.underlying216, by kernel_rfl⟩
instance : TyBuilt Try.prog 216 (fun i => some (i * 1, 1)) (.agg #[]) := TyBuilt.array Try.underlying216 (by kernel_rfl) (by kernel_rfl)
instance : TyZero Try.prog 216 (.agg #[]) := ⟨by kernel_rfl⟩
instance : TyAgg Try.prog 217 0 := ⟨by kernel_rfl, by kernel_rfl⟩
instance : TyBuilt Try.prog 217 (fun i => (#[(0, 0)] : Array (Nat × Nat))[i]?) (.agg #[]) := TyBuilt.struct (ps := [(0, 0)]) Try.underlying217 (by kernel_rfl) (by kernel_rfl)
instance : TyZero Try.prog 217 (.agg #[]) := ⟨by kernel_rfl⟩
instance : TyOne Try.prog 221 := ⟨by kernel_rfl, by kernel_rfl⟩
instance : TyPtr Try.prog 222 := ⟨_, Try.underlying222⟩
instance : TyOne Try.prog 222 := ⟨by kernel_rfl, by kernel_rfl⟩
instance : TyZero Try.prog 222 (.pointer none) := ⟨by kernel_rfl⟩
instance : Mixed Try.prog := ⟨by kernel_rfl⟩
end Go.Proofs.Ytiiiplhfgblamaa
/-
  Writes among the arguments.
-/
set_option linter.unusedVariables false
namespace Go.Proofs.Ytiiiplhfgblamaa
open Go Brv
structure WriteV where
  mk ::
  (Block' : Int)
  (B'a : Option Addr) (B'n B'c : Nat) (B' : List UInt8)
def WriteV.cells (o : WriteV) : List Value := [.int .i64 o.Block', .slice o.B'a o.B'n o.B'c]
def WriteV.ok (w : World) (o : WriteV) : Prop := (Lit.int .i64 o.Block').wf = true ∧ (o.B'n ≤ o.B'c ∧ o.B'c ≤ 140737488351232 ∧ Bs w o.B'a o.B'n o.B')
theorem WriteV.ok.ext0 {w w' : World} {o : WriteV} (h : o.ok w) (he : Ext [] w w') : o.ok w' := by
  obtain ⟨h0, h1⟩ := h
  exact ⟨h0, ⟨h1.1, h1.2.1, h1.2.2.ext0 he⟩⟩
theorem WriteV.cells.length (o : WriteV) : o.cells.length = 2 := rfl
theorem WriteV.cells.one (o : WriteV) : ∀ u ∈ o.cells.toArray.toList, u.oneCell' = true := by
  intro u hu
  simp only [WriteV.cells, List.mem_cons, List.not_mem_nil, or_false] at hu
  rcases hu with rfl | rfl <;> rfl
set_option maxRecDepth 100000 in
theorem writeV_of {w : World} {f : Nat} {cs : List Value} (h : Rd Try.prog w f 40 cs) : ∃ o : WriteV, cs = o.cells ∧ o.ok w := by
  cases f with
  | zero => exact h.elim
  | succ f =>
    unfold Rd at h
    rw [Try.underlying40] at h
    obtain ⟨hl, hf⟩ := h
    rw [show Try.prog.cellsOf 40 = 2 from by kernel_rfl] at hl
    obtain ⟨v0, v1, rfl⟩ : ∃ v0 v1, cs = [v0, v1] := by
      match cs, hl with
      | [v0, v1], _ => exact ⟨v0, v1, rfl⟩
    have r0 : Rd Try.prog w f 3 (List.take (Try.prog.cellsOf 3) (List.drop 0 [v0, v1])) := hf 0 _ rfl
    rw [show Try.prog.cellsOf 3 = 1 from by kernel_rfl] at r0
    replace r0 : Rd Try.prog w f 3 [v0] := r0
    have r1 : Rd Try.prog w f 25 (List.take (Try.prog.cellsOf 25) (List.drop 1 [v0, v1])) := hf 1 _ rfl
    rw [show Try.prog.cellsOf 25 = 1 from by kernel_rfl] at r1
    replace r1 : Rd Try.prog w f 25 [v1] := r1
    obtain ⟨x0, e0, w0⟩ := r0.int
    cases e0
    obtain ⟨a1, n1, c1, l1, e1, z1, _, y1, b1⟩ := r1.bytes (by kernel_rfl) (by kernel_rfl)
    cases e1
    exact ⟨⟨x0, a1, n1, c1, l1⟩, rfl, ⟨w0, ⟨z1, y1, b1⟩⟩⟩
set_option maxRecDepth 100000 in
theorem writeV_rows22 {w : World} {f : Nat} {cs : List Value} (h : Rd Try.prog w f 22 cs) : ∃ a n c, ∃ os : List WriteV, cs = [.slice a n c] ∧ n ≤ c ∧ c * 32 ≤ 140737488351232 ∧ Tab w a n 2 (os.map WriteV.cells) ∧ ∀ o ∈ os, o.ok w := by
  cases f with
  | zero => exact h.elim
  | succ f =>
    unfold Rd at h
    rw [Try.underlying22] at h
    obtain ⟨a, n, c, rfl, hnc, _, hb, vss, hl, hcell, hv⟩ := h
    rw [show Try.prog.bytesOf 40 = 32 from by kernel_rfl] at hb
    have hex : ∃ os : List WriteV, vss = os.map WriteV.cells ∧ ∀ o ∈ os, o.ok w := by
      clear hcell hl
      induction vss with
      | nil => exact ⟨[], rfl, by simp⟩
      | cons vs r ih =>
        obtain ⟨o, rfl, ho⟩ := writeV_of (hv vs (by simp)).2
        obtain ⟨os, rfl, hos⟩ := ih (fun x hx => hv x (by simp [hx]))
        exact ⟨o :: os, rfl, fun x hx => (List.mem_cons.1 hx).elim (fun e => e ▸ ho) (hos x)⟩
    obtain ⟨os, rfl, hos⟩ := hex
    exact ⟨a, n, c, os, rfl, hnc, hb, ⟨hcell, hl.symm, fun vs hvs => by obtain ⟨o, _, rfl⟩ := List.mem_map.1 hvs; rfl⟩, hos⟩

def wv (o : WriteV) : Int × List UInt8 := (o.Block', o.B')
def toP (o : WriteV) : Pr Int := (o.Block', [.slice o.B'a o.B'n o.B'c])
def putW (zs : List WriteV) (o : WriteV) : List WriteV := if hasK (zs.map toP) o.Block' then zs.set (low (zs.map toP) o.Block') o else zs.take (low (zs.map toP) o.Block') ++ o :: zs.drop (low (zs.map toP) o.Block')
theorem putW_toP (zs : List WriteV) (o : WriteV) : (putW zs o).map toP = putK (zs.map toP) o.Block' [.slice o.B'a o.B'n o.B'c] := by
  unfold putW putK
  split
  · rw [List.map_set]; rfl
  · rw [List.map_append, List.map_cons, List.map_take, List.map_drop]; rfl
theorem keys_eq (zs : List WriteV) : (zs.map toP).map Prod.fst = (zs.map fun o => toQ (wv o)).map Prod.fst := by
  rw [List.map_map, List.map_map]; rfl
theorem putW_toQ (zs : List WriteV) (o : WriteV) : (putW zs o).map (fun o => toQ (wv o)) = putK (zs.map fun o => toQ (wv o)) o.Block' (vbs o.B') := by
  obtain ⟨h1, h2⟩ := low_keys (keys_eq zs) o.Block'
  unfold putW putK
  rw [h1, h2]
  split
  · rw [List.map_set]; rfl
  · rw [List.map_append, List.map_cons, List.map_take, List.map_drop]; rfl
theorem putW_mem {zs : List WriteV} {o x : WriteV} (h : x ∈ putW zs o) : x = o ∨ x ∈ zs := by
  unfold putW at h
  split at h
  · exact (List.mem_or_eq_of_mem_set h).symm
  · rcases List.mem_append.1 h with h | h
    · exact .inr (List.mem_of_mem_take h)
    · rcases List.mem_cons.1 h with h | h
      · exact .inl h
      · exact .inr (List.mem_of_mem_drop h)
theorem putW_len (zs : List WriteV) (o : WriteV) : (putW zs o).length ≤ zs.length + 1 := by
  unfold putW
  split
  · rw [List.length_set]; omega
  · rw [List.length_append, List.length_cons, List.length_take, List.length_drop]; omega
def WriteV.okW (w : World) (o : WriteV) : Prop := o.B'n ≤ o.B'c ∧ o.B'n ≤ 140737488351232 ∧ Bs w o.B'a o.B'n o.B'
theorem WriteV.okW.ext0 {w w' : World} {o : WriteV} (h : o.okW w) (he : Ext [] w w') : o.okW w' := ⟨h.1, h.2.1, h.2.2.ext0 he⟩
theorem WriteV.ok.W {w : World} {o : WriteV} (h : o.ok w) : o.okW w := ⟨h.2.1, Nat.le_trans h.2.1 h.2.2.1, h.2.2.2⟩
/-- A row of writes. -/
structure RowW where
  a : Option Addr
  n : Nat
  c : Nat
  os : List WriteV
def RowW.val (r : RowW) : Value := .slice r.a r.n r.c
def RowW.ok (w : World) (r : RowW) : Prop := (r.n ≤ r.c ∧ r.n ≤ 140737488351232) ∧ Tab w r.a r.n 2 (r.os.map WriteV.cells) ∧ ∀ o ∈ r.os, o.okW w
theorem RowW.ok.ext0 {w w' : World} {r : RowW} (h : r.ok w) (he : Ext [] w w') : r.ok w' := ⟨h.1, h.2.1.ext0 he, fun o ho => (h.2.2 o ho).ext0 he⟩
def allW (rs : List RowW) : List WriteV := (rs.map RowW.os).flatten
theorem allW_succ {rs : List RowW} {i : Nat} {r : RowW} (h : rs[i]? = some r) : allW (rs.take (i + 1)) = allW (rs.take i) ++ r.os := by
  unfold allW
  rw [List.take_add_one, h]; simp
theorem allW_le {rs : List RowW} {i : Nat} {r : RowW} (h : rs[i]? = some r) : (allW (rs.take i)).length + r.os.length ≤ (allW rs).length := by
  rw [← List.length_append, ← allW_succ h]
  conv => rhs; rw [← List.take_append_drop (i + 1) rs]
  unfold allW
  rw [List.map_append, List.flatten_append, List.length_append]
  omega
def cellsW (ws : List WriteV) : List Value := (ws.map WriteV.cells).flatten
theorem cellsW_length (ws : List WriteV) : (cellsW ws).length = ws.length * 2 := by
  induction ws with
  | nil => rfl
  | cons o ws ih => simp only [cellsW, List.map_cons, List.flatten_cons, List.length_append, List.length_cons] at ih ⊢; rw [ih, WriteV.cells.length]; omega
theorem cellsW_append (a b : List WriteV) : cellsW (a ++ b) = cellsW a ++ cellsW b := by simp [cellsW]
theorem cellsW_one (ws : List WriteV) : ∀ u ∈ cellsW ws, u.oneCell' = true := by
  intro u hu
  obtain ⟨c, hc, hu⟩ := List.mem_flatten.1 hu
  obtain ⟨o, _, rfl⟩ := List.mem_map.1 hc
  exact WriteV.cells.one o u (by simpa using hu)
theorem tabW {w : World} {a : Option Addr} {n : Nat} {ws : List WriteV} (h : Cells w a (cellsW ws)) (hn : n = ws.length) : Tab w a n 2 (ws.map WriteV.cells) :=
  ⟨h, by rw [List.length_map]; exact hn, fun vs hv => by obtain ⟨o, _, rfl⟩ := List.mem_map.1 hv; rfl⟩
/-- Writes whose bytes lie in these blocks. -/
def OkF (W : World) (CB : List Nat) (os : List WriteV) : Prop := ∀ M' W', Ext M' W W' → (∀ g ∈ M', g ∉ CB) → ∀ o ∈ os, o.okW W'
theorem OkF.ext {W W' : World} {CB M : List Nat} {os : List WriteV} (h : OkF W CB os) (he : Ext M W W') (hm : ∀ g ∈ M, g ∉ CB) : OkF W' CB os := fun M' W2 e hg o ho =>
  h (M ++ M') W2 ((he.mono (fun g hg => .inl (List.mem_append_left _ hg))).transN e (fun g hg => .inl (List.mem_append_right _ hg))) (fun g hg' => (List.mem_append.1 hg').elim (hm g) (hg g)) o ho
theorem ev_at {w w' : World} {q : Addr} {i : Nat} {v : Value} (h : w.cell? (q.add i) = some v) (he : Ext [] w w') : w'.cell? (q.add ((i : Int).toNat * 1)) = some v := by
  rw [Int.toNat_natCast, Nat.mul_one]
  exact (Still.of he).cell h
/-- A write whose bytes were cloned. -/
def ClV (s U : Nat) (z o : WriteV) (MC : List Nat) (w : World) : Prop := wv o = wv z ∧ Own w U 1 o.B'a o.B'n o.B'c (vbs z.B') MC ∧ o.B'n = z.B'.length ∧ ∀ g ∈ MC, s ≤ g
theorem ClV.ext {s U : Nat} {z o : WriteV} {MC M : List Nat} {w w' : World} (h : ClV s U z o MC w) (he : Ext M w w') (hm : ∀ g ∈ MC, g ∉ M) : ClV s U z o MC w' := ⟨h.1, h.2.1.ext he hm, h.2.2⟩
theorem ClV.okF {s U : Nat} {z o : WriteV} {MC : List Nat} {w : World} (h : ClV s U z o MC w) (hz : z.B'.length ≤ 140737488351232) : OkF w MC [o] := by
  intro M' W' e hm x hx
  rw [List.mem_singleton.1 hx]
  have hb : o.B' = z.B' := congrArg Prod.snd h.1
  have h2 := h.2.1.ext e (fun g hg hg' => hm g hg' hg)
  refine ⟨h2.le, by rw [h.2.2.1]; exact hz, ?_⟩
  rw [hb]
  have := h.2.2.1
  rw [this] at h2 ⊢
  exact Bs.of_own h2
def IsO (s U : Nat) (z : WriteV) (v : Value) (w : World) : Prop := ∃ o MC, v = .agg o.cells.toArray ∧ ClV s U z o MC w
theorem IsO.keep (s U : Nat) (z : WriteV) : ∀ v w w', Ext [] w w' → IsO s U z v w → IsO s U z v w' := fun _ _ _ he ⟨o, MC, hv, h⟩ => ⟨o, MC, hv, h.ext he (by simp)⟩
def IsS (s U : Nat) (z : WriteV) (v : Value) (w : World) : Prop := ∃ g o MC, v = .slice (some ⟨g, 0, none⟩) 1 1 ∧ Cells w (some ⟨g, 0, none⟩) (WriteV.cells o) ∧ ClV s U z o MC w
theorem IsS.keep (s U : Nat) (z : WriteV) : ∀ v w w', Ext [] w w' → IsS s U z v w → IsS s U z v w' := fun _ _ _ he ⟨g, o, MC, hv, hc, h⟩ => ⟨g, o, MC, hv, hc.ext0 he, h.ext he (by simp)⟩
def RowN (TW s U k : Nat) (MB : List Nat) (os : List WriteV) (z : WriteV) (v : Value) (w : World) : Prop := ∃ a c M' o MC, v = .slice a (k + 1) c ∧ Own w TW 2 a (k + 1) c (cellsW (os ++ [o])) M' ∧ (∀ g ∈ M', g ∈ MB ∨ s ≤ g) ∧ ClV s U z o MC w ∧ ∀ g ∈ MC, g ∉ M'
theorem RowN.keep (TW s U k : Nat) (MB : List Nat) (os : List WriteV) (z : WriteV) : ∀ v w w', Ext [] w w' → RowN TW s U k MB os z v w → RowN TW s U k MB os z v w' := fun _ _ _ he ⟨a, c, M', o, MC, hv, h1, h2, h3, h4⟩ => ⟨a, c, M', o, MC, hv, h1.ext0 he, h2, h3.ext he (by simp), h4⟩
/-- What the loop over an order of writes keeps. -/
def mgI (zs : List WriteV) (TL TW b8 : Nat) (w0 : World) (k : Nat) (D : List Nat) (W : World) : Prop := ∃ a c MB CB os, D = b8 :: (MB ++ CB) ∧ Blk W b8 #[.slice a k c] TL (0, 0) ∧ Own W TW 2 a k c (cellsW os) MB ∧ os.length = k ∧ os.map wv = (zs.take k).map wv ∧ OkF W CB os ∧ (∀ g ∈ MB ++ CB, w0.heap.size ≤ g ∧ g ≠ b8 ∧ g < W.heap.size) ∧ (∀ g ∈ MB, g ∉ CB) ∧ w0.heap.size ≤ b8 ∧ Ext [] w0 W
theorem mgI_keep {zs : List WriteV} {TL TW b8 : Nat} {w0 : World} {k s : Nat} {D M' : List Nat} {W W' : World} (hs : w0.heap.size ≤ s) (h : mgI zs TL TW b8 w0 k D W) (he : Ext M' W W') (hm : ∀ g ∈ M', g ∉ D ∧ (g ∈ ([] : List Nat) ∨ s ≤ g)) : mgI zs TL TW b8 w0 k D W' := by
  obtain ⟨a, c, MB, CB, os, rfl, B8, o, hl, hw, hk, hg, hd, h8, E⟩ := h
  exact ⟨a, c, MB, CB, os, rfl, B8.ext he (fun h => (hm _ h).1 (by simp)), o.ext he (fun g hg h => (hm g h).1 (by simp [hg])), hl, hw, hk.ext he (fun g hg h => (hm g hg).1 (by simp [h])), fun g hg' => ⟨(hg g hg').1, (hg g hg').2.1, Nat.lt_of_lt_of_le (hg g hg').2.2 he.size⟩, hd, h8, E.transN he (fun g hg => (hm g hg).2.imp (by simp) (Nat.le_trans hs))⟩

end Go.Proofs.Ytiiiplhfgblamaa
/-
  What a call of each function enters.
-/
set_option maxRecDepth 100000
namespace Go.Proofs.Ytiiiplhfgblamaa
open Go Brv
theorem go3 : ∀ (vs : Array Value) w, (callFunc 3 vs).run Try.prog w = .ok (.enter 3 vs) w := callFunc_run Try.func3 (by decide) rfl
theorem go4 : ∀ (vs : Array Value) w, (callFunc 4 vs).run Try.prog w = .ok (.enter 4 vs) w := callFunc_run Try.func4 (by decide) rfl
theorem go5 : ∀ (vs : Array Value) w, (callFunc 5 vs).run Try.prog w = .ok (.enter 5 vs) w := callFunc_run Try.func5 (by decide) rfl
theorem go6 : ∀ (vs : Array Value) w, (callFunc 6 vs).run Try.prog w = .ok (.enter 6 vs) w := callFunc_run Try.func6 (by decide) rfl
theorem go7 : ∀ (vs : Array Value) w, (callFunc 7 vs).run Try.prog w = .ok (.enter 7 vs) w := callFunc_run Try.func7 (by decide) rfl
theorem go8 : ∀ (vs : Array Value) w, (callFunc 8 vs).run Try.prog w = .ok (.enter 8 vs) w := callFunc_run Try.func8 (by decide) rfl
theorem go9 : ∀ (vs : Array Value) w, (callFunc 9 vs).run Try.prog w = .ok (.enter 9 vs) w := callFunc_run Try.func9 (by decide) rfl
theorem go10 : ∀ (vs : Array Value) w, (callFunc 10 vs).run Try.prog w = .ok (.enter 10 vs) w := callFunc_run Try.func10 (by decide) rfl
theorem go11 : ∀ (vs : Array Value) w, (callFunc 11 vs).run Try.prog w = .ok (.enter 11 vs) w := callFunc_run Try.func11 (by decide) rfl
theorem go12 : ∀ (vs : Array Value) w, (callFunc 12 vs).run Try.prog w = .ok (.enter 12 vs) w := callFunc_run Try.func12 (by decide) rfl
theorem go13 : ∀ (vs : Array Value) w, (callFunc 13 vs).run Try.prog w = .ok (.enter 13 vs) w := callFunc_run Try.func13 (by decide) rfl
theorem go14 : ∀ (vs : Array Value) w, (callFunc 14 vs).run Try.prog w = .ok (.enter 14 vs) w := callFunc_run Try.func14 (by decide) rfl
theorem go15 : ∀ (vs : Array Value) w, (callFunc 15 vs).run Try.prog w = .ok (.enter 15 vs) w := callFunc_run Try.func15 (by decide) rfl
theorem go16 : ∀ (vs : Array Value) w, (callFunc 16 vs).run Try.prog w = .ok (.enter 16 vs) w := callFunc_run Try.func16 (by decide) rfl
theorem go17 : ∀ (vs : Array Value) w, (callFunc 17 vs).run Try.prog w = .ok (.enter 17 vs) w := callFunc_run Try.func17 (by decide) rfl
theorem go18 : ∀ (vs : Array Value) w, (callFunc 18 vs).run Try.prog w = .ok (.enter 18 vs) w := callFunc_run Try.func18 (by decide) rfl
theorem go19 : ∀ (vs : Array Value) w, (callFunc 19 vs).run Try.prog w = .ok (.enter 19 vs) w := callFunc_run Try.func19 (by decide) rfl
theorem go20 : ∀ (vs : Array Value) w, (callFunc 20 vs).run Try.prog w = .ok (.enter 20 vs) w := callFunc_run Try.func20 (by decide) rfl
theorem go21 : ∀ (vs : Array Value) w, (callFunc 21 vs).run Try.prog w = .ok (.enter 21 vs) w := callFunc_run Try.func21 (by decide) rfl
theorem go22 : ∀ (vs : Array Value) w, (callFunc 22 vs).run Try.prog w = .ok (.enter 22 vs) w := callFunc_run Try.func22 (by decide) rfl
theorem go23 : ∀ (vs : Array Value) w, (callFunc 23 vs).run Try.prog w = .ok (.enter 23 vs) w := callFunc_run Try.func23 (by decide) rfl
theorem go24 : ∀ (vs : Array Value) w, (callFunc 24 vs).run Try.prog w = .ok (.enter 24 vs) w := callFunc_run Try.func24 (by decide) rfl
theorem go25 : ∀ (vs : Array Value) w, (callFunc 25 vs).run Try.prog w = .ok (.enter 25 vs) w := callFunc_run Try.func25 (by decide) rfl
theorem go26 : ∀ (vs : Array Value) w, (callFunc 26 vs).run Try.prog w = .ok (.enter 26 vs) w := callFunc_run Try.func26 (by decide) rfl
theorem go27 : ∀ (vs : Array Value) w, (callFunc 27 vs).run Try.prog w = .ok (.enter 27 vs) w := callFunc_run Try.func27 (by decide) rfl
theorem go28 : ∀ (vs : Array Value) w, (callFunc 28 vs).run Try.prog w = .ok (.enter 28 vs) w := callFunc_run Try.func28 (by decide) rfl
theorem go29 : ∀ (vs : Array Value) w, (callFunc 29 vs).run Try.prog w = .ok (.enter 29 vs) w := callFunc_run Try.func29 (by decide) rfl
theorem go30 : ∀ (vs : Array Value) w, (callFunc 30 vs).run Try.prog w = .ok (.enter 30 vs) w := callFunc_run Try.func30 (by decide) rfl
theorem go31 : ∀ (vs : Array Value) w, (callFunc 31 vs).run Try.prog w = .ok (.enter 31 vs) w := callFunc_run Try.func31 (by decide) rfl
theorem go32 : ∀ (vs : Array Value) w, (callFunc 32 vs).run Try.prog w = .ok (.enter 32 vs) w := callFunc_run Try.func32 (by decide) rfl
theorem go33 : ∀ (vs : Array Value) w, (callFunc 33 vs).run Try.prog w = .ok (.enter 33 vs) w := callFunc_run Try.func33 (by decide) rfl
theorem go34 : ∀ (vs : Array Value) w, (callFunc 34 vs).run Try.prog w = .ok (.enter 34 vs) w := callFunc_run Try.func34 (by decide) rfl
theorem go35 : ∀ (vs : Array Value) w, (callFunc 35 vs).run Try.prog w = .ok (.enter 35 vs) w := callFunc_run Try.func35 (by decide) rfl
theorem go36 : ∀ (vs : Array Value) w, (callFunc 36 vs).run Try.prog w = .ok (.enter 36 vs) w := callFunc_run Try.func36 (by decide) rfl
theorem go37 : ∀ (vs : Array Value) w, (callFunc 37 vs).run Try.prog w = .ok (.enter 37 vs) w := callFunc_run Try.func37 (by decide) rfl
theorem go38 : ∀ (vs : Array Value) w, (callFunc 38 vs).run Try.prog w = .ok (.enter 38 vs) w := callFunc_run Try.func38 (by decide) rfl
theorem go39 : ∀ (vs : Array Value) w, (callFunc 39 vs).run Try.prog w = .ok (.enter 39 vs) w := callFunc_run Try.func39 (by decide) rfl
theorem go40 : ∀ (vs : Array Value) w, (callFunc 40 vs).run Try.prog w = .ok (.enter 40 vs) w := callFunc_run Try.func40 (by decide) rfl
theorem go41 : ∀ (vs : Array Value) w, (callFunc 41 vs).run Try.prog w = .ok (.enter 41 vs) w := callFunc_run Try.func41 (by decide) rfl
theorem go42 : ∀ (vs : Array Value) w, (callFunc 42 vs).run Try.prog w = .ok (.enter 42 vs) w := callFunc_run Try.func42 (by decide) rfl
theorem go43 : ∀ (vs : Array Value) w, (callFunc 43 vs).run Try.prog w = .ok (.enter 43 vs) w := callFunc_run Try.func43 (by decide) rfl
theorem go44 : ∀ (vs : Array Value) w, (callFunc 44 vs).run Try.prog w = .ok (.enter 44 vs) w := callFunc_run Try.func44 (by decide) rfl
theorem go45 : ∀ (vs : Array Value) w, (callFunc 45 vs).run Try.prog w = .ok (.enter 45 vs) w := callFunc_run Try.func45 (by decide) rfl
theorem go46 : ∀ (vs : Array Value) w, (callFunc 46 vs).run Try.prog w = .ok (.enter 46 vs) w := callFunc_run Try.func46 (by decide) rfl
theorem go47 : ∀ (vs : Array Value) w, (callFunc 47 vs).run Try.prog w = .ok (.enter 47 vs) w := callFunc_run Try.func47 (by decide) rfl
theorem go48 : ∀ (vs : Array Value) w, (callFunc 48 vs).run Try.prog w = .ok (.enter 48 vs) w := callFunc_run Try.func48 (by decide) rfl
theorem go49 : ∀ (vs : Array Value) w, (callFunc 49 vs).run Try.prog w = .ok (.enter 49 vs) w := callFunc_run Try.func49 (by decide) rfl
theorem go50 : ∀ (vs : Array Value) w, (callFunc 50 vs).run Try.prog w = .ok (.enter 50 vs) w := callFunc_run Try.func50 (by decide) rfl
theorem go51 : ∀ (vs : Array Value) w, (callFunc 51 vs).run Try.prog w = .ok (.enter 51 vs) w := callFunc_run Try.func51 (by decide) rfl
theorem go52 : ∀ (vs : Array Value) w, (callFunc 52 vs).run Try.prog w = .ok (.enter 52 vs) w := callFunc_run Try.func52 (by decide) rfl
theorem go53 : ∀ (vs : Array Value) w, (callFunc 53 vs).run Try.prog w = .ok (.enter 53 vs) w := callFunc_run Try.func53 (by decide) rfl
theorem go54 : ∀ (vs : Array Value) w, (callFunc 54 vs).run Try.prog w = .ok (.enter 54 vs) w := callFunc_run Try.func54 (by decide) rfl
theorem go55 : ∀ (vs : Array Value) w, (callFunc 55 vs).run Try.prog w = .ok (.enter 55 vs) w := callFunc_run Try.func55 (by decide) rfl
theorem go56 : ∀ (vs : Array Value) w, (callFunc 56 vs).run Try.prog w = .ok (.enter 56 vs) w := callFunc_run Try.func56 (by decide) rfl
theorem go57 : ∀ (vs : Array Value) w, (callFunc 57 vs).run Try.prog w = .ok (.enter 57 vs) w := callFunc_run Try.func57 (by decide) rfl
theorem go58 : ∀ (vs : Array Value) w, (callFunc 58 vs).run Try.prog w = .ok (.enter 58 vs) w := callFunc_run Try.func58 (by decide) rfl
theorem go59 : ∀ (vs : Array Value) w, (callFunc 59 vs).run Try.prog w = .ok (.enter 59 vs) w := callFunc_run Try.func59 (by decide) rfl
theorem go60 : ∀ (vs : Array Value) w, (callFunc 60 vs).run Try.prog w = .ok (.enter 60 vs) w := callFunc_run Try.func60 (by decide) rfl
theorem go61 : ∀ (vs : Array Value) w, (callFunc 61 vs).run Try.prog w = .ok (.enter 61 vs) w := callFunc_run Try.func61 (by decide) rfl
theorem go62 : ∀ (vs : Array Value) w, (callFunc 62 vs).run Try.prog w = .ok (.enter 62 vs) w := callFunc_run Try.func62 (by decide) rfl
theorem go63 : ∀ (vs : Array Value) w, (callFunc 63 vs).run Try.prog w = .ok (.enter 63 vs) w := callFunc_run Try.func63 (by decide) rfl
theorem go64 : ∀ (vs : Array Value) w, (callFunc 64 vs).run Try.prog w = .ok (.enter 64 vs) w := callFunc_run Try.func64 (by decide) rfl
theorem go65 : ∀ (vs : Array Value) w, (callFunc 65 vs).run Try.prog w = .ok (.enter 65 vs) w := callFunc_run Try.func65 (by decide) rfl
theorem go66 : ∀ (vs : Array Value) w, (callFunc 66 vs).run Try.prog w = .ok (.enter 66 vs) w := callFunc_run Try.func66 (by decide) rfl
theorem go67 : ∀ (vs : Array Value) w, (callFunc 67 vs).run Try.prog w = .ok (.enter 67 vs) w := callFunc_run Try.func67 (by decide) rfl
theorem go68 : ∀ (vs : Array Value) w, (callFunc 68 vs).run Try.prog w = .ok (.enter 68 vs) w := callFunc_run Try.func68 (by decide) rfl
theorem go69 : ∀ (vs : Array Value) w, (callFunc 69 vs).run Try.prog w = .ok (.enter 69 vs) w := callFunc_run Try.func69 (by decide) rfl
theorem go70 : ∀ (vs : Array Value) w, (callFunc 70 vs).run Try.prog w = .ok (.enter 70 vs) w := callFunc_run Try.func70 (by decide) rfl
theorem go71 : ∀ (vs : Array Value) w, (callFunc 71 vs).run Try.prog w = .ok (.enter 71 vs) w := callFunc_run Try.func71 (by decide) rfl
theorem go72 : ∀ (vs : Array Value) w, (callFunc 72 vs).run Try.prog w = .ok (.enter 72 vs) w := callFunc_run Try.func72 (by decide) rfl
theorem go73 : ∀ (vs : Array Value) w, (callFunc 73 vs).run Try.prog w = .ok (.enter 73 vs) w := callFunc_run Try.func73 (by decide) rfl
theorem go74 : ∀ (vs : Array Value) w, (callFunc 74 vs).run Try.prog w = .ok (.enter 74 vs) w := callFunc_run Try.func74 (by decide) rfl
theorem go75 : ∀ (vs : Array Value) w, (callFunc 75 vs).run Try.prog w = .ok (.enter 75 vs) w := callFunc_run Try.func75 (by decide) rfl
theorem go76 : ∀ (vs : Array Value) w, (callFunc 76 vs).run Try.prog w = .ok (.enter 76 vs) w := callFunc_run Try.func76 (by decide) rfl
theorem go77 : ∀ (vs : Array Value) w, (callFunc 77 vs).run Try.prog w = .ok (.enter 77 vs) w := callFunc_run Try.func77 (by decide) rfl
theorem go78 : ∀ (vs : Array Value) w, (callFunc 78 vs).run Try.prog w = .ok (.enter 78 vs) w := callFunc_run Try.func78 (by decide) rfl
theorem go79 : ∀ (vs : Array Value) w, (callFunc 79 vs).run Try.prog w = .ok (.enter 79 vs) w := callFunc_run Try.func79 (by decide) rfl
theorem go80 : ∀ (vs : Array Value) w, (callFunc 80 vs).run Try.prog w = .ok (.enter 80 vs) w := callFunc_run Try.func80 (by decide) rfl
theorem go81 : ∀ (vs : Array Value) w, (callFunc 81 vs).run Try.prog w = .ok (.enter 81 vs) w := callFunc_run Try.func81 (by decide) rfl
theorem go82 : ∀ (vs : Array Value) w, (callFunc 82 vs).run Try.prog w = .ok (.enter 82 vs) w := callFunc_run Try.func82 (by decide) rfl
theorem go83 : ∀ (vs : Array Value) w, (callFunc 83 vs).run Try.prog w = .ok (.enter 83 vs) w := callFunc_run Try.func83 (by decide) rfl
theorem go84 : ∀ (vs : Array Value) w, (callFunc 84 vs).run Try.prog w = .ok (.enter 84 vs) w := callFunc_run Try.func84 (by decide) rfl
theorem go85 : ∀ (vs : Array Value) w, (callFunc 85 vs).run Try.prog w = .ok (.enter 85 vs) w := callFunc_run Try.func85 (by decide) rfl
theorem go86 : ∀ (vs : Array Value) w, (callFunc 86 vs).run Try.prog w = .ok (.enter 86 vs) w := callFunc_run Try.func86 (by decide) rfl
theorem go87 : ∀ (vs : Array Value) w, (callFunc 87 vs).run Try.prog w = .ok (.enter 87 vs) w := callFunc_run Try.func87 (by decide) rfl
theorem go88 : ∀ (vs : Array Value) w, (callFunc 88 vs).run Try.prog w = .ok (.enter 88 vs) w := callFunc_run Try.func88 (by decide) rfl
theorem go89 : ∀ (vs : Array Value) w, (callFunc 89 vs).run Try.prog w = .ok (.enter 89 vs) w := callFunc_run Try.func89 (by decide) rfl
theorem go90 : ∀ (vs : Array Value) w, (callFunc 90 vs).run Try.prog w = .ok (.enter 90 vs) w := callFunc_run Try.func90 (by decide) rfl
theorem go91 : ∀ (vs : Array Value) w, (callFunc 91 vs).run Try.prog w = .ok (.enter 91 vs) w := callFunc_run Try.func91 (by decide) rfl
theorem go92 : ∀ (vs : Array Value) w, (callFunc 92 vs).run Try.prog w = .ok (.enter 92 vs) w := callFunc_run Try.func92 (by decide) rfl
theorem go93 : ∀ (vs : Array Value) w, (callFunc 93 vs).run Try.prog w = .ok (.enter 93 vs) w := callFunc_run Try.func93 (by decide) rfl
theorem go94 : ∀ (vs : Array Value) w, (callFunc 94 vs).run Try.prog w = .ok (.enter 94 vs) w := callFunc_run Try.func94 (by decide) rfl
theorem go95 : ∀ (vs : Array Value) w, (callFunc 95 vs).run Try.prog w = .ok (.enter 95 vs) w := callFunc_run Try.func95 (by decide) rfl
theorem go96 : ∀ (vs : Array Value) w, (callFunc 96 vs).run Try.prog w = .ok (.enter 96 vs) w := callFunc_run Try.func96 (by decide) rfl
theorem go97 : ∀ (vs : Array Value) w, (callFunc 97 vs).run Try.prog w = .ok (.enter 97 vs) w := callFunc_run Try.func97 (by decide) rfl
theorem go98 : ∀ (vs : Array Value) w, (callFunc 98 vs).run Try.prog w = .ok (.enter 98 vs) w := callFunc_run Try.func98 (by decide) rfl
theorem go99 : ∀ (vs : Array Value) w, (callFunc 99 vs).run Try.prog w = .ok (.enter 99 vs) w := callFunc_run Try.func99 (by decide) rfl
theorem go100 : ∀ (vs : Array Value) w, (callFunc 100 vs).run Try.prog w = .ok (.enter 100 vs) w := callFunc_run Try.func100 (by decide) rfl
theorem go101 : ∀ (vs : Array Value) w, (callFunc 101 vs).run Try.prog w = .ok (.enter 101 vs) w := callFunc_run Try.func101 (by decide) rfl
theorem go102 : ∀ (vs : Array Value) w, (callFunc 102 vs).run Try.prog w = .ok (.enter 102 vs) w := callFunc_run Try.func102 (by decide) rfl
theorem go103 : ∀ (vs : Array Value) w, (callFunc 103 vs).run Try.prog w = .ok (.enter 103 vs) w := callFunc_run Try.func103 (by decide) rfl
theorem go104 : ∀ (vs : Array Value) w, (callFunc 104 vs).run Try.prog w = .ok (.enter 104 vs) w := callFunc_run Try.func104 (by decide) rfl
theorem go105 : ∀ (vs : Array Value) w, (callFunc 105 vs).run Try.prog w = .ok (.enter 105 vs) w := callFunc_run Try.func105 (by decide) rfl
theorem go106 : ∀ (vs : Array Value) w, (callFunc 106 vs).run Try.prog w = .ok (.enter 106 vs) w := callFunc_run Try.func106 (by decide) rfl
theorem go107 : ∀ (vs : Array Value) w, (callFunc 107 vs).run Try.prog w = .ok (.enter 107 vs) w := callFunc_run Try.func107 (by decide) rfl
theorem go108 : ∀ (vs : Array Value) w, (callFunc 108 vs).run Try.prog w = .ok (.enter 108 vs) w := callFunc_run Try.func108 (by decide) rfl
theorem go109 : ∀ (vs : Array Value) w, (callFunc 109 vs).run Try.prog w = .ok (.enter 109 vs) w := callFunc_run Try.func109 (by decide) rfl
theorem go110 : ∀ (vs : Array Value) w, (callFunc 110 vs).run Try.prog w = .ok (.enter 110 vs) w := callFunc_run Try.func110 (by decide) rfl
theorem go111 : ∀ (vs : Array Value) w, (callFunc 111 vs).run Try.prog w = .ok (.enter 111 vs) w := callFunc_run Try.func111 (by decide) rfl
theorem go112 : ∀ (vs : Array Value) w, (callFunc 112 vs).run Try.prog w = .ok (.enter 112 vs) w := callFunc_run Try.func112 (by decide) rfl
theorem go113 : ∀ (vs : Array Value) w, (callFunc 113 vs).run Try.prog w = .ok (.enter 113 vs) w := callFunc_run Try.func113 (by decide) rfl
theorem go114 : ∀ (vs : Array Value) w, (callFunc 114 vs).run Try.prog w = .ok (.enter 114 vs) w := callFunc_run Try.func114 (by decide) rfl
theorem go116 : ∀ (vs : Array Value) w, (callFunc 116 vs).run Try.prog w = .ok (.enter 116 vs) w := callFunc_run Try.func116 (by decide) rfl
theorem go117 : ∀ (vs : Array Value) w, (callFunc 117 vs).run Try.prog w = .ok (.enter 117 vs) w := callFunc_run Try.func117 (by decide) rfl
theorem go118 : ∀ (vs : Array Value) w, (callFunc 118 vs).run Try.prog w = .ok (.enter 118 vs) w := callFunc_run Try.func118 (by decide) rfl
theorem go119 : ∀ (vs : Array Value) w, (callFunc 119 vs).run Try.prog w = .ok (.enter 119 vs) w := callFunc_run Try.func119 (by decide) rfl
theorem go120 : ∀ (vs : Array Value) w, (callFunc 120 vs).run Try.prog w = .ok (.enter 120 vs) w := callFunc_run Try.func120 (by decide) rfl
theorem go122 : ∀ (vs : Array Value) w, (callFunc 122 vs).run Try.prog w = .ok (.enter 122 vs) w := callFunc_run Try.func122 (by decide) rfl
theorem go123 : ∀ (vs : Array Value) w, (callFunc 123 vs).run Try.prog w = .ok (.enter 123 vs) w := callFunc_run Try.func123 (by decide) rfl
theorem go124 : ∀ (vs : Array Value) w, (callFunc 124 vs).run Try.prog w = .ok (.enter 124 vs) w := callFunc_run Try.func124 (by decide) rfl
theorem go125 : ∀ (vs : Array Value) w, (callFunc 125 vs).run Try.prog w = .ok (.enter 125 vs) w := callFunc_run Try.func125 (by decide) rfl
theorem go127 : ∀ (vs : Array Value) w, (callFunc 127 vs).run Try.prog w = .ok (.enter 127 vs) w := callFunc_run Try.func127 (by decide) rfl
theorem go128 : ∀ (vs : Array Value) w, (callFunc 128 vs).run Try.prog w = .ok (.enter 128 vs) w := callFunc_run Try.func128 (by decide) rfl
theorem go129 : ∀ (vs : Array Value) w, (callFunc 129 vs).run Try.prog w = .ok (.enter 129 vs) w := callFunc_run Try.func129 (by decide) rfl
theorem go130 : ∀ (vs : Array Value) w, (callFunc 130 vs).run Try.prog w = .ok (.enter 130 vs) w := callFunc_run Try.func130 (by decide) rfl
theorem go131 : ∀ (vs : Array Value) w, (callFunc 131 vs).run Try.prog w = .ok (.enter 131 vs) w := callFunc_run Try.func131 (by decide) rfl
theorem go134 : ∀ (vs : Array Value) w, (callFunc 134 vs).run Try.prog w = .ok (.enter 134 vs) w := callFunc_run Try.func134 (by decide) rfl
theorem go135 : ∀ (vs : Array Value) w, (callFunc 135 vs).run Try.prog w = .ok (.enter 135 vs) w := callFunc_run Try.func135 (by decide) rfl

end Go.Proofs.Ytiiiplhfgblamaa
/-
  Functions of the library, at bytes.
-/
set_option linter.unusedVariables false
namespace Go.Proofs.Ytiiiplhfgblamaa
open Go Brv
theorem clone_ok (a : Option Addr) (n c : Nat) (l : List UInt8) (w : World) (hb : Bs w a n l) (hn : n ≤ 140737488355328) : Meets Try.prog 92 [.slice a n c] w (Cloned w 5 1 n (vbs l)) := by
  refine Meets.enter Try.func92 rfl 8 rfl (Nat.le_of_ble_eq_true rfl) ?_
  refine G.seq ?_
  refine G.region ?_
  refine L.val rfl rfl (R.as rfl) ?_
  refine L.nil ?_
  refine N.seq ?_
  refine G.seq ?_
  refine G.seq ?_
  refine G.region ?_
  refine L.val rfl rfl (R.mv rfl) ?_
  refine L.val rfl rfl (R.eqNilS rfl rfl) ?_
  refine L.nil ?_
  refine N.seq ?_
  refine G.condB rfl (fun h0 => ?_) (fun h0 => ?_)
  · obtain rfl : a = none := by simpa using h0
    obtain ⟨rfl, rfl⟩ := hb.none
    refine G.seq ?_
    refine G.region ?_
    refine L.val rfl rfl (R.as rfl) ?_
    refine L.nil ?_
    refine N.seq ?_
    refine G.ret1 rfl rfl ?_
    exact ⟨none, 0, [], rfl, Ext.refl _ _, Own.nil _ _ _, by simp⟩
  · refine G.skip ?_
    refine N.seq ?_
    refine G.seq ?_
    refine G.region ?_
    refine L.do rfl rfl (R.buildS rfl (by decide) rfl) ?_
    rintro _ w1 ⟨b5, rfl, hb5, hs5, e1, B5⟩
    have hb := hb.ext0 e1
    have o0 := Own.blk (n := 0) (size := 1) B5 (by simp) (by simp [maxLen])
    refine L.val rfl rfl (R.mv rfl) ?_
    refine L.do rfl rfl (R.app rfl rfl o0 hb.cells (by rw [vbs_length, Nat.mul_one]; exact hb.len.symm) (vbs_one _) (by simp [maxLen]; omega) (by omega)) ?_
    rintro _ w2 ⟨a1, c1, M1, rfl, e2, hM1, o1⟩
    refine L.val rfl rfl (R.as rfl) ?_
    refine L.nil ?_
    refine N.seq ?_
    refine G.ret1 rfl rfl ?_
    exact ⟨a1, c1, M1, by rw [Nat.zero_add] , e1.trans e2 (by simp) (by simp; omega), by simpa using o1, by intro g hg; have := hM1 g hg; have := e1.size; simp at *; omega⟩

end Go.Proofs.Ytiiiplhfgblamaa
/-
  Functions of the library.
-/
set_option linter.unusedVariables false
set_option linter.unusedSimpArgs false
namespace Go.Proofs.Ytiiiplhfgblamaa
open Go Brv
theorem go126 : ∀ (vs : Array Value) w, (callFunc 126 vs).run Try.prog w = .ok (.enter 126 vs) w := callFunc_run Try.func126 (by decide) rfl
theorem go132 : ∀ (vs : Array Value) w, (callFunc 132 vs).run Try.prog w = .ok (.enter 132 vs) w := callFunc_run Try.func132 (by decide) rfl
theorem go133 : ∀ (vs : Array Value) w, (callFunc 133 vs).run Try.prog w = .ok (.enter 133 vs) w := callFunc_run Try.func133 (by decide) rfl

theorem bclone_ok (a : Option Addr) (n c : Nat) (l : List UInt8) (w : World) (hb : Bs w a n l) (hn : n ≤ 140737488355328) : Meets Try.prog 76 [.slice a n c] w (Cloned w 5 1 n (vbs l)) := by
  refine Meets.enter Try.func76 rfl 8 rfl (Nat.le_of_ble_eq_true rfl) ?_
  refine G.seq ?_
  refine G.region ?_
  refine L.val rfl rfl (R.as rfl) ?_
  refine L.nil ?_
  refine N.seq ?_
  refine G.seq ?_
  refine G.seq ?_
  refine G.region ?_
  refine L.val rfl rfl (R.mv rfl) ?_
  refine L.val rfl rfl (R.eqNilS rfl rfl) ?_
  refine L.nil ?_
  refine N.seq ?_
  refine G.condB rfl (fun h0 => ?_) (fun h0 => ?_)
  · obtain rfl : a = none := by simpa using h0
    obtain ⟨rfl, rfl⟩ := hb.none
    refine G.seq ?_
    refine G.region ?_
    refine L.val rfl rfl (R.as rfl) ?_
    refine L.nil ?_
    refine N.seq ?_
    refine G.ret1 rfl rfl ?_
    exact ⟨none, 0, [], rfl, Ext.refl _ _, Own.nil _ _ _, by simp⟩
  · refine G.skip ?_
    refine N.seq ?_
    refine G.seq ?_
    refine G.region ?_
    refine L.do rfl rfl (R.buildS rfl (by decide) rfl) ?_
    rintro _ w1 ⟨b5, rfl, hb5, hs5, e1, B5⟩
    have hb := hb.ext0 e1
    have o0 := Own.blk (n := 0) (size := 1) B5 (by simp) (by simp [maxLen])
    refine L.val rfl rfl (R.mv rfl) ?_
    refine L.do rfl rfl (R.app rfl rfl o0 hb.cells (by rw [vbs_length, Nat.mul_one]; exact hb.len.symm) (vbs_one _) (by simp [maxLen]; omega) (by omega)) ?_
    rintro _ w2 ⟨a1, c1, M1, rfl, e2, hM1, o1⟩
    refine L.val rfl rfl (R.as rfl) ?_
    refine L.nil ?_
    refine N.seq ?_
    refine G.ret1 rfl rfl ?_
    exact ⟨a1, c1, M1, by rw [Nat.zero_add] , e1.trans e2 (by simp) (by simp; omega), by simpa using o1, by intro g hg; have := hM1 g hg; have := e1.size; simp at *; omega⟩

theorem mul64_ok (x y : Int) (w : World) (hx0 : 0 ≤ x) (hx1 : x ≤ 2147483647) (hy0 : 0 ≤ y) (hy1 : y ≤ 2147483647) : Meets Try.prog 133 [.int .u64 x, .int .u64 y] w (fun v w' => v = .tuple #[.int .u64 0, .int .u64 (x * y)] ∧ w' = w) := by
  refine Meets.enter Try.func133 rfl 51 rfl (Nat.le_of_ble_eq_true rfl) ?_
  have p0 : 0 ≤ x * y := Int.mul_nonneg hx0 hy0
  have p1 : x * y ≤ 4611686014132420609 := Int.le_trans (Int.mul_le_mul hx1 hy1 hy0 (by decide)) (by decide)
  refine G.seq ?_
  refine G.region ?_
  refine L.val rfl rfl (R.as rfl) ?_
  refine L.val rfl rfl (R.as rfl) ?_
  refine L.nil ?_
  refine N.seq ?_
  refine G.seq ?_
  refine G.region ?_
  refine L.val rfl rfl (R.mv rfl) ?_
  refine L.val rfl rfl (R.andW rfl rfl x (and32 hx0 (by omega))) ?_
  refine L.val rfl rfl (R.as rfl) ?_
  refine L.nil ?_
  refine N.seq ?_
  refine G.seq ?_
  refine G.region ?_
  refine L.val rfl rfl (R.mv rfl) ?_
  refine L.val rfl rfl (R.shrW rfl rfl (by decide) 0 ((shr32 x).trans (by omega))) ?_
  refine L.val rfl rfl (R.as rfl) ?_
  refine L.nil ?_
  refine N.seq ?_
  refine G.seq ?_
  refine G.region ?_
  refine L.val rfl rfl (R.mv rfl) ?_
  refine L.val rfl rfl (R.andW rfl rfl y (and32 hy0 (by omega))) ?_
  refine L.val rfl rfl (R.as rfl) ?_
  refine L.nil ?_
  refine N.seq ?_
  refine G.seq ?_
  refine G.region ?_
  refine L.val rfl rfl (R.mv rfl) ?_
  refine L.val rfl rfl (R.shrW rfl rfl (by decide) 0 ((shr32 y).trans (by omega))) ?_
  refine L.val rfl rfl (R.as rfl) ?_
  refine L.nil ?_
  refine N.seq ?_
  refine G.seq ?_
  refine G.region ?_
  refine L.val rfl rfl (R.mv rfl) ?_
  refine L.val rfl rfl (R.mv rfl) ?_
  refine L.val rfl rfl (R.mulW rfl rfl (x * y) (wrap_u64 (by omega))) ?_
  refine L.val rfl rfl (R.as rfl) ?_
  refine L.nil ?_
  refine N.seq ?_
  refine G.seq ?_
  refine G.region ?_
  refine L.val rfl rfl (R.mv rfl) ?_
  refine L.val rfl rfl (R.mv rfl) ?_
  refine L.val rfl rfl (R.mulW rfl rfl 0 (by rw [Int.zero_mul]; rfl)) ?_
  refine L.val rfl rfl (R.mv rfl) ?_
  refine L.val rfl rfl (R.shrW rfl rfl (by decide) (x * y / 4294967296) (shr32 _)) ?_
  refine L.val rfl rfl (R.addW rfl rfl (x * y / 4294967296) (by rw [Int.zero_add]; exact wrap_u64 (by omega))) ?_
  refine L.val rfl rfl (R.as rfl) ?_
  refine L.nil ?_
  refine N.seq ?_
  refine G.seq ?_
  refine G.region ?_
  refine L.val rfl rfl (R.mv rfl) ?_
  refine L.val rfl rfl (R.andW rfl rfl (x * y / 4294967296) (and32 (by omega) (by omega))) ?_
  refine L.val rfl rfl (R.as rfl) ?_
  refine L.nil ?_
  refine N.seq ?_
  refine G.seq ?_
  refine G.region ?_
  refine L.val rfl rfl (R.mv rfl) ?_
  refine L.val rfl rfl (R.shrW rfl rfl (by decide) 0 ((shr32 _).trans (by omega))) ?_
  refine L.val rfl rfl (R.as rfl) ?_
  refine L.nil ?_
  refine N.seq ?_
  refine G.seq ?_
  refine G.region ?_
  refine L.val rfl rfl (R.mv rfl) ?_
  refine L.val rfl rfl (R.mv rfl) ?_
  refine L.val rfl rfl (R.mv rfl) ?_
  refine L.val rfl rfl (R.mulW rfl rfl 0 (by rw [Int.mul_zero]; rfl)) ?_
  refine L.val rfl rfl (R.addW rfl rfl (x * y / 4294967296) (by rw [Int.add_zero]; exact wrap_u64 (by omega))) ?_
  refine L.val rfl rfl (R.as rfl) ?_
  refine L.nil ?_
  refine N.seq ?_
  refine G.seq ?_
  refine G.region ?_
  refine L.val rfl rfl (R.mv rfl) ?_
  refine L.val rfl rfl (R.mv rfl) ?_
  refine L.val rfl rfl (R.mulW rfl rfl 0 rfl) ?_
  refine L.val rfl rfl (R.mv rfl) ?_
  refine L.val rfl rfl (R.addW rfl rfl 0 rfl) ?_
  refine L.val rfl rfl (R.mv rfl) ?_
  refine L.val rfl rfl (R.shrW rfl rfl (by decide) 0 ((shr32 _).trans (by omega))) ?_
  refine L.val rfl rfl (R.addW rfl rfl 0 rfl) ?_
  refine L.val rfl rfl (R.as rfl) ?_
  refine L.nil ?_
  refine N.seq ?_
  refine G.seq ?_
  refine G.region ?_
  refine L.val rfl rfl (R.mv rfl) ?_
  refine L.val rfl rfl (R.mv rfl) ?_
  refine L.val rfl rfl (R.mulW rfl rfl (x * y) (wrap_u64 (by omega))) ?_
  refine L.val rfl rfl (R.as rfl) ?_
  refine L.nil ?_
  refine N.seq ?_
  refine G.ret2 rfl rfl rfl ?_
  exact ⟨rfl, rfl⟩
theorem mul_ok (x y : Int) (w : World) (hx0 : 0 ≤ x) (hx1 : x ≤ 2147483647) (hy0 : 0 ≤ y) (hy1 : y ≤ 2147483647) : Meets Try.prog 126 [.int .u64 x, .int .u64 y] w (fun v w' => v = .tuple #[.int .u64 0, .int .u64 (x * y)] ∧ w' = w) := by
  refine Meets.enter Try.func126 rfl 30 rfl (Nat.le_of_ble_eq_true rfl) ?_
  refine G.seq ?_
  refine G.region ?_
  refine L.val rfl rfl (R.as rfl) ?_
  refine L.val rfl rfl (R.as rfl) ?_
  refine L.nil ?_
  refine N.seq ?_
  refine G.seq ?_
  refine G.condF rfl ?_
  refine G.skip ?_
  refine N.seq ?_
  refine G.seq ?_
  refine G.region ?_
  refine L.val rfl rfl (R.mv rfl) ?_
  refine L.val rfl rfl (R.mv rfl) ?_
  refine L.callF rfl rfl rfl go133 (mul64_ok _ _ _ hx0 hx1 hy0 hy1) ?_
  rintro _ _ ⟨rfl, hw⟩
  obtain rfl := hw.symm
  refine L.val rfl rfl (R.mv rfl) ?_
  refine L.val rfl rfl (R.ext rfl rfl) ?_
  refine L.val rfl rfl (R.ext rfl rfl) ?_
  refine L.val rfl rfl (R.as rfl) ?_
  refine L.val rfl rfl (R.as rfl) ?_
  refine L.nil ?_
  refine N.seq ?_
  refine G.seq ?_
  refine G.region ?_
  refine L.val rfl rfl (R.mv rfl) ?_
  refine L.val rfl rfl (R.mv rfl) ?_
  refine L.val rfl rfl (R.as rfl) ?_
  refine L.val rfl rfl (R.as rfl) ?_
  refine L.nil ?_
  refine N.seq ?_
  refine G.ret2 rfl rfl rfl ?_
  exact ⟨rfl, rfl⟩

end Go.Proofs.Ytiiiplhfgblamaa
/-
  The walks of package record.
-/
set_option linter.unusedVariables false
set_option linter.unusedSimpArgs false
set_option maxRecDepth 4000
namespace Go.Proofs.Ytiiiplhfgblamaa
open Go Brv
theorem rbetween_ok (x y z : Int) (w : World) : Meets Try.prog 66 [.int .i64 x, .int .i64 y, .int .i64 z] w (fun v w' => v = .bool (decide (y ≤ x ∧ x ≤ z)) ∧ w' = w) := by
  refine Meets.enter Try.func66 rfl 15 rfl (Nat.le_of_ble_eq_true rfl) ?_
  refine G.seq ?_
  refine G.region ?_
  refine L.val rfl rfl (R.as rfl) ?_
  refine L.nil ?_
  refine N.seq ?_
  refine G.seq ?_
  refine G.region ?_
  refine L.val rfl rfl (R.mv rfl) ?_
  refine L.val rfl rfl (R.mv rfl) ?_
  refine L.val rfl rfl (R.geq rfl rfl) ?_
  refine L.val rfl rfl (R.mv rfl) ?_
  refine L.caseP 10 rfl (fun hg1_3 => ?_) (fun hg1_3 => ?_)
  · refine L.val rfl rfl (R.mv rfl) ?_
    refine L.val rfl rfl (R.mv rfl) ?_
    refine L.val rfl rfl (R.leq rfl rfl) ?_
    first | refine L.val rfl rfl (R.pickT rfl rfl) ?_ | refine L.val rfl rfl (R.pickF rfl rfl) ?_
    refine L.val rfl rfl (R.as rfl) ?_
    refine L.nil ?_
    refine N.seq ?_
    refine G.ret1 rfl rfl ?_
    exact ⟨congrArg Value.bool (by rw [decide_eq_decide]; exact ⟨fun h => ⟨hg1_3, h⟩, fun h => h.2⟩), rfl⟩
  · refine L.pass rfl rfl ?_
    refine L.pass rfl rfl ?_
    refine L.pass rfl rfl ?_
    first | refine L.val rfl rfl (R.pickT rfl rfl) ?_ | refine L.val rfl rfl (R.pickF rfl rfl) ?_
    refine L.val rfl rfl (R.as rfl) ?_
    refine L.nil ?_
    refine N.seq ?_
    refine G.ret1 rfl rfl ?_
    exact ⟨congrArg Value.bool (by rw [eq_comm, decide_eq_false_iff_not]; exact fun h => hg1_3 h.1), rfl⟩

theorem beq_ok (a a' : Option Addr) (n c n' c' : Nat) (l l' : List UInt8) (w : World) (hb : Bs w a n l) (hb' : Bs w a' n' l') : Meets Try.prog 95 [.slice a n c, .slice a' n' c'] w (fun v w' => v = .bool (decide (l = l')) ∧ w' = w) := by
  refine Meets.enter Try.func95 rfl 10 rfl (Nat.le_of_ble_eq_true rfl) ?_
  refine G.seq ?_
  refine G.region ?_
  refine L.val rfl rfl (R.as rfl) ?_
  refine L.nil ?_
  refine N.seq ?_
  refine G.seq ?_
  refine G.region ?_
  refine L.val rfl rfl (R.mv rfl) ?_
  refine L.val rfl rfl (R.bytesStr rfl hb.cells hb.len) ?_
  refine L.val rfl rfl (R.mv rfl) ?_
  refine L.val rfl rfl (R.bytesStr rfl hb'.cells hb'.len) ?_
  refine L.val rfl rfl (R.eqStr rfl rfl) ?_
  refine L.val rfl rfl (R.as rfl) ?_
  refine L.nil ?_
  refine N.seq ?_
  refine G.ret1 rfl rfl ?_
  exact ⟨rfl, rfl⟩

theorem samew_ok (o o2 : WriteV) (w : World) (ho : o.okW w) (ho2 : o2.okW w) : Meets Try.prog 72 [.agg o.cells.toArray, .agg o2.cells.toArray] w (fun v w' => v = .bool (decide (wv o = wv o2)) ∧ Ext [] w w') := by
  refine Meets.enter Try.func72 rfl 17 rfl (Nat.le_of_ble_eq_true rfl) ?_
  have E := Ext.refl [] w
  refine G.seq ?_
  refine G.region ?_
  refine L.do rfl rfl (R.box rfl) ?_
  rintro _ w1 ⟨b2, rfl, hb2, hs2, e1, B2⟩
  replace E := E.trans0 e1
  refine L.do rfl rfl (R.box rfl) ?_
  rintro _ w2 ⟨b3, rfl, hb3, hs3, e2, B3⟩
  replace E := E.trans0 e2
  replace B2 := B2.ext0 e2
  have h1 := ho.2.2
  have h2 := ho2.2.2
  refine L.val rfl rfl (R.as rfl) ?_
  refine L.nil ?_
  refine N.seq ?_
  refine G.seq ?_
  refine G.region ?_
  refine L.val rfl rfl (R.fld rfl) ?_
  refine L.val rfl rfl (R.ldB (v := .int .i64 o.Block') rfl B2 rfl) ?_
  refine L.val rfl rfl (R.fld rfl) ?_
  refine L.val rfl rfl (R.ldB (v := .int .i64 o2.Block') rfl B3 rfl) ?_
  refine L.val rfl rfl (R.eqI rfl rfl) ?_
  refine L.val rfl rfl (R.mv rfl) ?_
  refine L.caseP 10 rfl (fun hg1_5 => ?_) (fun hg1_5 => ?_)
  · refine L.val rfl rfl (R.fld rfl) ?_
    refine L.val rfl rfl (R.ldB (v := .slice o.B'a o.B'n o.B'c) rfl B2 rfl) ?_
    refine L.val rfl rfl (R.fld rfl) ?_
    refine L.val rfl rfl (R.ldB (v := .slice o2.B'a o2.B'n o2.B'c) rfl B3 rfl) ?_
    refine L.callF rfl rfl rfl go95 (beq_ok _ _ _ _ _ _ _ _ _ (h1.ext0 E) (h2.ext0 E)) ?_
    rintro _ _ ⟨rfl, hw⟩
    obtain rfl := hw.symm
    first | refine L.val rfl rfl (R.pickT rfl rfl) ?_ | refine L.val rfl rfl (R.pickF rfl rfl) ?_
    refine L.val rfl rfl (R.as rfl) ?_
    refine L.nil ?_
    refine N.seq ?_
    refine G.ret1 rfl rfl ?_
    exact ⟨congrArg Value.bool (by rw [decide_eq_decide]; exact ⟨fun h => by unfold wv; rw [hg1_5, h], fun h => congrArg Prod.snd h⟩), E⟩
  · refine L.pass rfl rfl ?_
    refine L.pass rfl rfl ?_
    refine L.pass rfl rfl ?_
    refine L.pass rfl rfl ?_
    refine L.pass rfl rfl ?_
    first | refine L.val rfl rfl (R.pickT rfl rfl) ?_ | refine L.val rfl rfl (R.pickF rfl rfl) ?_
    refine L.val rfl rfl (R.as rfl) ?_
    refine L.nil ?_
    refine N.seq ?_
    refine G.ret1 rfl rfl ?_
    exact ⟨congrArg Value.bool (by rw [eq_comm, decide_eq_false_iff_not]; exact fun h => hg1_5 (congrArg Prod.fst h)), E⟩

theorem eqfunc_ok (r r2 : RowW) (w : World) (hr : r.ok w) (hr2 : r2.ok w) : Meets Try.prog 71 [.slice r.a r.n r.c, .slice r2.a r2.n r2.c, .func (.func 72) #[] #[]] w (fun v w' => v = .bool (decide (r.os.map wv = r2.os.map wv)) ∧ Ext [] w w') := by
  refine Meets.enter Try.func71 rfl 32 rfl (Nat.le_of_ble_eq_true rfl) ?_
  have E := Ext.refl [] w
  obtain ⟨hrc, hrT, hrO⟩ := hr
  have hrl := hrT.len
  rw [List.length_map] at hrl
  obtain ⟨hsc, hsT, hsO⟩ := hr2
  have hsl := hsT.len
  rw [List.length_map] at hsl
  refine G.seq ?_
  refine G.region ?_
  refine L.val rfl rfl (R.as rfl) ?_
  refine L.nil ?_
  refine N.seq ?_
  refine G.seq ?_
  refine G.seq ?_
  refine G.region ?_
  refine L.val rfl rfl (R.mv rfl) ?_
  refine L.val rfl rfl (R.lenS rfl) ?_
  refine L.val rfl rfl (R.mv rfl) ?_
  refine L.val rfl rfl (R.lenS rfl) ?_
  refine L.val rfl rfl (R.neI rfl rfl) ?_
  refine L.nil ?_
  refine N.seq ?_
  refine G.condP rfl (fun h0 => ?_) (fun h0 => ?_)
  · refine G.seq ?_
    refine G.region ?_
    refine L.val rfl rfl (R.as rfl) ?_
    refine L.nil ?_
    refine N.seq ?_
    refine G.ret1 rfl rfl ?_
    exact ⟨congrArg Value.bool (by rw [eq_comm, decide_eq_false_iff_not]; intro h; have := congrArg List.length h; rw [List.length_map, List.length_map] at this; omega), E⟩
  · refine G.skip ?_
    refine N.seq ?_
    refine G.seq ?_
    refine G.seq ?_
    refine G.region ?_
    refine L.val rfl rfl (R.mv rfl) ?_
    refine L.val rfl rfl (R.lenS rfl) ?_
    refine L.val rfl rfl (R.mv rfl) ?_
    refine L.nil ?_
    refine N.seq ?_
    refine G.block ?_
    refine G.loop (X := Nat) (fun s => [(0, .slice r.a r.n r.c), (1, .slice r2.a r2.n r2.c), (2, .func (.func 72) #[] #[]), (15, .slice r.a r.n r.c), (16, .int .i64 (r.n : Int)), (17, .int .i64 (s : Int))]) (fun s w' => s ≤ r.n ∧ (r.os.map wv).take s = (r2.os.map wv).take s ∧ Ext [] w w') (fun s => r.n - s) (0) (Sub.cons rfl (Sub.cons rfl (Sub.cons rfl (Sub.cons rfl (Sub.cons rfl (Sub.cons rfl (Sub.nil _))))))) ⟨Nat.zero_le _, rfl, E⟩ ?_
    rintro i w1 ⟨hi, hp, E⟩
    refine G.sub [(0, .slice r.a r.n r.c), (1, .slice r2.a r2.n r2.c), (2, .func (.func 72) #[] #[]), (15, .slice r.a r.n r.c), (16, .int .i64 (r.n : Int)), (17, .int .i64 (i : Int))] (Sub.cons rfl (Sub.cons rfl (Sub.cons rfl (Sub.cons rfl (Sub.cons rfl (Sub.cons rfl (Sub.nil _))))))) ?_
    refine G.seq ?_
    refine G.region ?_
    refine L.val rfl rfl (R.lss rfl rfl) ?_
    refine L.nil ?_
    refine N.seq ?_
    refine G.seq ?_
    refine G.condP rfl (fun h1 => ?_) (fun h1 => ?_)
    · refine G.skip ?_
      refine N.seq ?_
      refine G.seq ?_
      refine G.block ?_
      refine G.seq ?_
      refine G.region ?_
      refine L.val rfl rfl (R.mv rfl) ?_
      obtain ⟨q2, hq2, hcl2⟩ := hrT.at (by decide) i (by rw [List.length_map]; omega)
      rw [List.getElem_map] at hcl2
      have hokx := hrO _ (List.getElem_mem (show i < r.os.length by omega))
      obtain ⟨x, hoe2⟩ : ∃ x, x = r.os[i]'(by omega) := ⟨_, rfl⟩
      rw [← hoe2] at hcl2 hokx
      refine L.val rfl rfl (R.idx rfl rfl (by omega) (by omega) q2 hq2) ?_
      refine L.val rfl rfl (R.ldN rfl (hcl2.ext0 E) rfl) ?_
      refine L.do rfl rfl (R.alloc) ?_
      rintro _ w2 ⟨b8, rfl, hbx2, hsx2, e2, B8⟩
      have hEx2 := E.size
      replace E := E.trans0 e2
      refine L.val rfl rfl (R.as rfl) ?_
      refine L.set rfl (R.stN rfl rfl B8 rfl (Nat.le_refl 2) (WriteV.cells.one _)) ?_
      rintro w3 ⟨e3, hsx3, B8⟩
      replace B8 : Blk w3 b8 x.cells.toArray 40 (0, 0) := B8
      replace E := E.trans e3 (M := []) (by simp) (by intro x hx; rw [List.mem_singleton.1 hx]; exact .inr (by omega))
      refine L.nil ?_
      refine N.seq ?_
      refine G.seq ?_
      refine G.region ?_
      refine L.val rfl rfl (R.mv rfl) ?_
      refine L.val rfl rfl (R.mv rfl) ?_
      obtain ⟨q4, hq4, hcl4⟩ := hsT.at (by decide) i (by rw [List.length_map]; omega)
      rw [List.getElem_map] at hcl4
      have hoky := hsO _ (List.getElem_mem (show i < r2.os.length by omega))
      obtain ⟨y, hoe4⟩ : ∃ x, x = r2.os[i]'(by omega) := ⟨_, rfl⟩
      rw [← hoe4] at hcl4 hoky
      refine L.val rfl rfl (R.idx rfl rfl (by omega) (by omega) q4 hq4) ?_
      refine L.val rfl rfl (R.ldN rfl (hcl4.ext0 E) rfl) ?_
      refine L.do rfl rfl (R.alloc) ?_
      rintro _ w4 ⟨b9, rfl, hbx4, hsx4, e4, B9⟩
      have hEx4 := E.size
      have hlB8 := B8.lt
      replace E := E.trans0 e4
      replace B8 := B8.ext0 e4
      refine L.set rfl (R.stN rfl rfl B9 rfl (Nat.le_refl 2) (WriteV.cells.one _)) ?_
      rintro w5 ⟨e5, hsx5, B9⟩
      replace B9 : Blk w5 b9 y.cells.toArray 40 (0, 0) := B9
      replace E := E.trans e5 (M := []) (by simp) (by intro x hx; rw [List.mem_singleton.1 hx]; exact .inr (by omega))
      replace B8 := B8.ext e5 (by simp; omega)
      refine L.nil ?_
      refine N.seq ?_
      refine G.seq ?_
      refine G.region ?_
      refine L.val rfl rfl (R.mv rfl) ?_
      refine L.val rfl rfl (R.ldBN rfl B8 rfl) ?_
      refine L.val rfl rfl (R.ldBN rfl B9 rfl) ?_
      refine L.callV rfl rfl rfl rfl rfl go72 (samew_ok x y _ (hokx.ext0 E) (hoky.ext0 E)) ?_
      rintro _ w6 ⟨rfl, e6⟩
      replace E := E.trans0 e6
      refine L.val rfl rfl (R.not rfl) ?_
      refine L.nil ?_
      refine N.seq ?_
      refine G.condB rfl (fun h2 => ?_) (fun h2 => ?_)
      · have hne : wv x ≠ wv y := by simpa using h2
        refine G.seq ?_
        refine G.region ?_
        refine L.val rfl rfl (R.as rfl) ?_
        refine L.nil ?_
        refine N.seq ?_
        refine G.ret1 rfl rfl ?_
        exact ⟨congrArg Value.bool (by rw [eq_comm, decide_eq_false_iff_not]; intro h; have h9 := congrArg (fun l => l[i]?) h; simp only [List.getElem?_map] at h9; rw [List.getElem?_eq_getElem (by omega), List.getElem?_eq_getElem (by omega), ← hoe2, ← hoe4] at h9; exact hne (by simpa using h9)), E⟩
      · have heq : wv x = wv y := by simpa using h2
        have htk : (r.os.map wv).take (i + 1) = (r2.os.map wv).take (i + 1) := by rw [List.take_add_one, List.take_add_one, hp, List.getElem?_map, List.getElem?_map, List.getElem?_eq_getElem (by omega), List.getElem?_eq_getElem (by omega), ← hoe2, ← hoe4]; exact congrArg (fun z => _ ++ [z]) (heq)
        refine G.skip ?_
        refine N.block ?_
        refine N.seq ?_
        refine G.region ?_
        refine L.val rfl rfl (R.add rfl rfl (by omega)) ?_
        refine L.val rfl rfl (R.mv rfl) ?_
        refine L.nil ?_
        exact N.again (i + 1) (by omega) (Sub.cons rfl (Sub.cons rfl (Sub.cons rfl (Sub.cons rfl (Sub.cons rfl (Sub.cons rfl (Sub.nil _))))))) ⟨by omega, htk, E⟩
    · refine G.exit _ rfl ?_
      refine N.seq ?_
      refine G.seq ?_
      refine G.region ?_
      refine L.val rfl rfl (R.as rfl) ?_
      refine L.nil ?_
      refine N.seq ?_
      refine G.ret1 rfl rfl ?_
      exact ⟨congrArg Value.bool (by rw [eq_comm, decide_eq_true_eq]; rw [List.take_of_length_le (by rw [List.length_map]; omega), List.take_of_length_le (by rw [List.length_map]; omega)] at hp; exact hp), E⟩

theorem rsamew_ok (r r2 : RowW) (w : World) (hr : r.ok w) (hr2 : r2.ok w) : Meets Try.prog 24 [.slice r.a r.n r.c, .slice r2.a r2.n r2.c] w (fun v w' => v = .bool (decide (r.os.map wv = r2.os.map wv)) ∧ Ext [] w w') := by
  refine Meets.enter Try.func24 rfl 43 rfl (Nat.le_of_ble_eq_true rfl) ?_
  have E := Ext.refl [] w
  obtain ⟨hrc, hrT, hrO⟩ := hr
  have hrl := hrT.len
  rw [List.length_map] at hrl
  obtain ⟨hsc, hsT, hsO⟩ := hr2
  have hsl := hsT.len
  rw [List.length_map] at hsl
  refine G.seq ?_
  refine G.region ?_
  refine L.val rfl rfl (R.as rfl) ?_
  refine L.nil ?_
  refine N.seq ?_
  refine G.seq ?_
  refine G.seq ?_
  refine G.region ?_
  refine L.val rfl rfl (R.mv rfl) ?_
  refine L.val rfl rfl (R.lenS rfl) ?_
  refine L.val rfl rfl (R.mv rfl) ?_
  refine L.val rfl rfl (R.lenS rfl) ?_
  refine L.val rfl rfl (R.neI rfl rfl) ?_
  refine L.nil ?_
  refine N.seq ?_
  refine G.condP rfl (fun h0 => ?_) (fun h0 => ?_)
  · refine G.seq ?_
    refine G.region ?_
    refine L.val rfl rfl (R.as rfl) ?_
    refine L.nil ?_
    refine N.seq ?_
    refine G.ret1 rfl rfl ?_
    first
      | exact ⟨congrArg Value.bool (by rw [eq_comm, decide_eq_false_iff_not]; intro h; have := congrArg List.length h; rw [List.length_map, List.length_map] at this; omega), E⟩
      | exact ⟨congrArg Value.bool (by rw [eq_comm, decide_eq_false_iff_not]; intro h; have h9 := congrArg (fun l => l[i]?) h; simp only [List.getElem?_map] at h9; rw [List.getElem?_eq_getElem (by omega), List.getElem?_eq_getElem (by omega), ← hoe2, ← hoe3] at h9; exact hne (by simpa using h9)), E⟩
      | exact ⟨congrArg Value.bool (by rw [eq_comm, decide_eq_true_eq]; rw [List.take_of_length_le (by rw [List.length_map]; omega), List.take_of_length_le (by rw [List.length_map]; omega)] at hp; exact hp), E⟩
  · refine G.skip ?_
    refine N.seq ?_
    refine G.seq ?_
    refine G.seq ?_
    refine G.region ?_
    refine L.val rfl rfl (R.mv rfl) ?_
    refine L.val rfl rfl (R.lenS rfl) ?_
    refine L.val rfl rfl (R.mv rfl) ?_
    refine L.nil ?_
    refine N.seq ?_
    refine G.block ?_
    refine G.loop (X := Nat) (fun s => [(0, .slice r.a r.n r.c), (1, .slice r2.a r2.n r2.c), (12, .int .i64 (r.n : Int)), (13, .int .i64 (s : Int))]) (fun s w' => s ≤ r.n ∧ (r.os.map wv).take s = (r2.os.map wv).take s ∧ Ext [] w w') (fun s => r.n - s) (0) (Sub.cons rfl (Sub.cons rfl (Sub.cons rfl (Sub.cons rfl (Sub.nil _))))) ⟨Nat.zero_le _, rfl, E⟩ ?_
    rintro i w1 ⟨hi, hp, E⟩
    refine G.sub [(0, .slice r.a r.n r.c), (1, .slice r2.a r2.n r2.c), (12, .int .i64 (r.n : Int)), (13, .int .i64 (i : Int))] (Sub.cons rfl (Sub.cons rfl (Sub.cons rfl (Sub.cons rfl (Sub.nil _))))) ?_
    refine G.seq ?_
    refine G.region ?_
    refine L.val rfl rfl (R.lss rfl rfl) ?_
    refine L.nil ?_
    refine N.seq ?_
    refine G.seq ?_
    refine G.condP rfl (fun h1 => ?_) (fun h1 => ?_)
    · obtain ⟨q2, hq2, hcl2⟩ := hrT.at (by decide) i (by rw [List.length_map]; omega)
      rw [List.getElem_map] at hcl2
      have hokx := hrO _ (List.getElem_mem (show i < r.os.length by omega))
      obtain ⟨x, hoe2⟩ : ∃ x, x = r.os[i]'(by omega) := ⟨_, rfl⟩
      rw [← hoe2] at hcl2 hokx
      obtain ⟨p2, hp2, ha2⟩ := hcl2 0 (.int .i64 x.Block') rfl
      cases hp2
      obtain ⟨p2, hp2, hc2⟩ := hcl2 1 (.slice x.B'a x.B'n x.B'c) rfl
      cases hp2
      obtain ⟨q3, hq3, hcl3⟩ := hsT.at (by decide) i (by rw [List.length_map]; omega)
      rw [List.getElem_map] at hcl3
      have hoky := hsO _ (List.getElem_mem (show i < r2.os.length by omega))
      obtain ⟨y, hoe3⟩ : ∃ x, x = r2.os[i]'(by omega) := ⟨_, rfl⟩
      rw [← hoe3] at hcl3 hoky
      obtain ⟨p3, hp3, ha3⟩ := hcl3 0 (.int .i64 y.Block') rfl
      cases hp3
      obtain ⟨p3, hp3, hc3⟩ := hcl3 1 (.slice y.B'a y.B'n y.B'c) rfl
      cases hp3
      have hbx := hokx.2.2
      have hby := hoky.2.2
      refine G.skip ?_
      refine N.seq ?_
      refine G.seq ?_
      refine G.block ?_
      refine G.seq ?_
      refine G.region ?_
      refine L.val rfl rfl (R.mv rfl) ?_
      refine L.val rfl rfl (R.as rfl) ?_
      refine L.nil ?_
      refine N.seq ?_
      refine G.seq ?_
      refine G.quiet (by decide +kernel) rfl ?_
      refine Q.val rfl rfl rfl rfl (fun w2 hE => R.mv rfl) ?_
      refine Q.val rfl rfl rfl rfl (fun w2 hE => R.mv rfl) ?_
      refine Q.val rfl rfl rfl rfl (fun w2 hE => R.idx rfl rfl (by omega) (by omega) q2 hq2) ?_
      refine Q.val rfl rfl rfl rfl (fun w2 hE => R.fldA rfl) ?_
      refine Q.val rfl rfl rfl rfl (fun w2 hE => R.ld rfl (v := (.int .i64 x.Block')) (by rw [Int.toNat_natCast]; exact (Still.of (E.trans0 hE)).cell ha2)) ?_
      refine Q.val rfl rfl rfl rfl (fun w2 hE => R.mv rfl) ?_
      refine Q.val rfl rfl rfl rfl (fun w2 hE => R.mv rfl) ?_
      refine Q.val rfl rfl rfl rfl (fun w2 hE => R.idx rfl rfl (by omega) (by omega) q3 hq3) ?_
      refine Q.val rfl rfl rfl rfl (fun w2 hE => R.fldA rfl) ?_
      refine Q.val rfl rfl rfl rfl (fun w2 hE => R.ld rfl (v := (.int .i64 y.Block')) (by rw [Int.toNat_natCast]; exact (Still.of (E.trans0 hE)).cell ha3)) ?_
      refine Q.val rfl rfl rfl rfl (fun w2 hE => R.neI rfl rfl) ?_
      refine Q.val rfl rfl rfl rfl (fun w2 hE => R.mv rfl) ?_
      refine Q.caseP 27 rfl (fun hg6_11 => ?_) (fun hg6_11 => ?_)
      · have hne : wv x ≠ wv y := fun h => hg6_11 (congrArg Prod.fst h)
        refine Q.pass rfl rfl rfl ?_
        refine Q.pass rfl rfl rfl ?_
        refine Q.pass rfl rfl rfl ?_
        refine Q.pass rfl rfl rfl ?_
        refine Q.pass rfl rfl rfl ?_
        refine Q.pass rfl rfl rfl ?_
        refine Q.pass rfl rfl rfl ?_
        refine Q.pass rfl rfl rfl ?_
        refine Q.pass rfl rfl rfl ?_
        refine Q.pass rfl rfl rfl ?_
        refine Q.pass rfl rfl rfl ?_
        refine Q.pass rfl rfl rfl ?_
        refine Q.pass rfl rfl rfl ?_
        first | refine Q.val rfl rfl rfl rfl (fun w2 hE => R.pickT rfl rfl) ?_ | refine Q.val rfl rfl rfl rfl (fun w2 hE => R.pickF rfl rfl) ?_
        refine Q.nil (fun w2 e2 => ?_)
        replace E := E.trans0 e2
        refine N.seq ?_
        refine G.condT rfl ?_
        refine G.seq ?_
        refine G.region ?_
        refine L.val rfl rfl (R.as rfl) ?_
        refine L.nil ?_
        refine N.seq ?_
        refine G.ret1 rfl rfl ?_
        first
          | exact ⟨congrArg Value.bool (by rw [eq_comm, decide_eq_false_iff_not]; intro h; have := congrArg List.length h; rw [List.length_map, List.length_map] at this; omega), E⟩
          | exact ⟨congrArg Value.bool (by rw [eq_comm, decide_eq_false_iff_not]; intro h; have h9 := congrArg (fun l => l[i]?) h; simp only [List.getElem?_map] at h9; rw [List.getElem?_eq_getElem (by omega), List.getElem?_eq_getElem (by omega), ← hoe2, ← hoe3] at h9; exact hne (by simpa using h9)), E⟩
          | exact ⟨congrArg Value.bool (by rw [eq_comm, decide_eq_true_eq]; rw [List.take_of_length_le (by rw [List.length_map]; omega), List.take_of_length_le (by rw [List.length_map]; omega)] at hp; exact hp), E⟩
      · refine Q.val rfl rfl rfl rfl (fun w2 hE => R.mv rfl) ?_
        refine Q.val rfl rfl rfl rfl (fun w2 hE => R.mv rfl) ?_
        refine Q.val rfl rfl rfl rfl (fun w2 hE => R.idx rfl rfl (by omega) (by omega) q2 hq2) ?_
        refine Q.val rfl rfl rfl rfl (fun w2 hE => R.fldA rfl) ?_
        refine Q.val rfl rfl rfl rfl (fun w2 hE => R.ld rfl (v := (.slice x.B'a x.B'n x.B'c)) (by rw [Int.toNat_natCast]; exact (Still.of (E.trans0 hE)).cell hc2)) ?_
        refine Q.val rfl rfl rfl rfl (fun w2 hE => R.bytesStr rfl (hbx.ext0 (E.trans0 hE)).cells hbx.len) ?_
        refine Q.val rfl rfl rfl rfl (fun w2 hE => R.mv rfl) ?_
        refine Q.val rfl rfl rfl rfl (fun w2 hE => R.mv rfl) ?_
        refine Q.val rfl rfl rfl rfl (fun w2 hE => R.idx rfl rfl (by omega) (by omega) q3 hq3) ?_
        refine Q.val rfl rfl rfl rfl (fun w2 hE => R.fldA rfl) ?_
        refine Q.val rfl rfl rfl rfl (fun w2 hE => R.ld rfl (v := (.slice y.B'a y.B'n y.B'c)) (by rw [Int.toNat_natCast]; exact (Still.of (E.trans0 hE)).cell hc3)) ?_
        refine Q.val rfl rfl rfl rfl (fun w2 hE => R.bytesStr rfl (hby.ext0 (E.trans0 hE)).cells hby.len) ?_
        refine Q.val rfl rfl rfl rfl (fun w2 hE => R.neStr rfl rfl) ?_
        first | refine Q.val rfl rfl rfl rfl (fun w2 hE => R.pickT rfl rfl) ?_ | refine Q.val rfl rfl rfl rfl (fun w2 hE => R.pickF rfl rfl) ?_
        refine Q.nil (fun w2 e2 => ?_)
        replace E := E.trans0 e2
        refine N.seq ?_
        refine G.condP rfl (fun h2 => ?_) (fun h2 => ?_)
        · have hne : wv x ≠ wv y := fun h => h2 (congrArg Prod.snd h)
          refine G.seq ?_
          refine G.region ?_
          refine L.val rfl rfl (R.as rfl) ?_
          refine L.nil ?_
          refine N.seq ?_
          refine G.ret1 rfl rfl ?_
          first
            | exact ⟨congrArg Value.bool (by rw [eq_comm, decide_eq_false_iff_not]; intro h; have := congrArg List.length h; rw [List.length_map, List.length_map] at this; omega), E⟩
            | exact ⟨congrArg Value.bool (by rw [eq_comm, decide_eq_false_iff_not]; intro h; have h9 := congrArg (fun l => l[i]?) h; simp only [List.getElem?_map] at h9; rw [List.getElem?_eq_getElem (by omega), List.getElem?_eq_getElem (by omega), ← hoe2, ← hoe3] at h9; exact hne (by simpa using h9)), E⟩
            | exact ⟨congrArg Value.bool (by rw [eq_comm, decide_eq_true_eq]; rw [List.take_of_length_le (by rw [List.length_map]; omega), List.take_of_length_le (by rw [List.length_map]; omega)] at hp; exact hp), E⟩
        · have heq : wv x = wv y := by unfold wv; rw [Classical.not_not.1 hg6_11, Classical.not_not.1 h2]
          have htk : (r.os.map wv).take (i + 1) = (r2.os.map wv).take (i + 1) := by rw [List.take_add_one, List.take_add_one, hp, List.getElem?_map, List.getElem?_map, List.getElem?_eq_getElem (by omega), List.getElem?_eq_getElem (by omega), ← hoe2, ← hoe3]; exact congrArg (fun z => _ ++ [z]) (heq)
          refine G.skip ?_
          refine N.block ?_
          refine N.seq ?_
          refine G.region ?_
          refine L.val rfl rfl (R.add rfl rfl (by omega)) ?_
          refine L.val rfl rfl (R.mv rfl) ?_
          refine L.nil ?_
          exact N.again (i + 1) (by omega) (Sub.cons rfl (Sub.cons rfl (Sub.cons rfl (Sub.cons rfl (Sub.nil _))))) ⟨by omega, htk, E⟩
    · refine G.exit _ rfl ?_
      refine N.seq ?_
      refine G.seq ?_
      refine G.region ?_
      refine L.val rfl rfl (R.as rfl) ?_
      refine L.nil ?_
      refine N.seq ?_
      refine G.ret1 rfl rfl ?_
      first
        | exact ⟨congrArg Value.bool (by rw [eq_comm, decide_eq_false_iff_not]; intro h; have := congrArg List.length h; rw [List.length_map, List.length_map] at this; omega), E⟩
        | exact ⟨congrArg Value.bool (by rw [eq_comm, decide_eq_false_iff_not]; intro h; have h9 := congrArg (fun l => l[i]?) h; simp only [List.getElem?_map] at h9; rw [List.getElem?_eq_getElem (by omega), List.getElem?_eq_getElem (by omega), ← hoe2, ← hoe3] at h9; exact hne (by simpa using h9)), E⟩
        | exact ⟨congrArg Value.bool (by rw [eq_comm, decide_eq_true_eq]; rw [List.take_of_length_le (by rw [List.length_map]; omega), List.take_of_length_le (by rw [List.length_map]; omega)] at hp; exact hp), E⟩

end Go.Proofs.Ytiiiplhfgblamaa
/-
  A return of a struct that lives in a block, and of two plain results.
-/
set_option linter.unusedVariables false
namespace Brv
open Go
section
variable {P : Program} {n : Nat} {ks : List K} {ρ : Env} {w : World} {fn : Func} {Φ : Value → World → Prop}
theorem G.retCTT {t u y : Nat} {T : TypeId} {s b : Nat} [ta : TyAgg P T s] {cs : Array Value} {U : TypeId} {fz : Nat × Nat} {x z : Value} (hr : fn.results = #[.cell t T, .tmp u, .tmp y]) (hv : look ρ t = some (.pointer (some ⟨b, 0, none⟩))) (hx : look ρ u = some x) (hy : look ρ y = some z)
    (hb : Blk w b cs U fz) (hs : cs.size = s) (h : Φ (.tuple #[.agg cs, x, z]) w) : G P (Func.base P fn Φ) ⟨n, [], none⟩ ks ρ w .ret := by
  refine G.retM (n := ⟨n, [], none⟩) rfl (fun a ha => ?_) h
  have e1 := ha.getD hv
  have e2 := ha.getD hx
  have e3 := ha.getD hy
  have hl0 := run_loadN (P := P) (T := T) (s := s) (w := w) (p := ⟨b, 0, none⟩) (vs := cs.toList) hb.cellsAll (by simpa using hs)
  have hl : (loadVar T ⟨b, 0, none⟩).run P w = .ok (.agg cs) w := by simpa [Instr.loadAt, Instr.sureAddr] using hl0
  rw [Array.getD_eq_getD_getElem?] at e1 e2 e3
  simp [results, hr, e1, e2, e3, asAddr, hl]
end
end Brv
/-
  The walks of package record.
-/
set_option linter.unusedVariables false
set_option linter.unusedSimpArgs false
set_option maxRecDepth 4000
namespace Go.Proofs.Ytiiiplhfgblamaa
open Go Brv
theorem part_ok (a : Option Addr) (n c : Nat) (l : List UInt8) (w : World) (hb : Bs w a n l) (hnc : n ≤ c) (hn : n ≤ 70368744177664) : Meets Try.prog 63 [.slice a n c] w (fun v w' => ((l.length < 66 ∨ l[0]? ≠ some 0) → v = .tuple #[.agg #[.int .i64 0, .slice none 0 0], .slice none 0 0, .bool false]) ∧ ((66 ≤ l.length ∧ l[0]? = some 0) → ∃ (o : WriteV) (MC : List Nat), v = .tuple #[.agg o.cells.toArray, .slice (subA a 66 c 1) (n - 66) (c - 66), .bool true] ∧ wv o = (((l[1]?.getD 0).toNat : Int), (l.drop 2).take 64) ∧ Own w' 5 1 o.B'a o.B'n o.B'c (vbs ((l.drop 2).take 64)) MC ∧ o.B'n = 64 ∧ ∀ g ∈ MC, w.heap.size ≤ g) ∧ Ext [] w w') := by
  refine Meets.enter Try.func63 rfl 25 rfl (Nat.le_of_ble_eq_true rfl) ?_
  have E := Ext.refl [] w
  have hln := hb.len
  refine G.seq ?_
  refine G.region ?_
  refine L.do rfl rfl (R.alloc) ?_
  rintro _ w1 ⟨b2, rfl, hb2, hs2, e1, B2⟩
  replace B2 : Blk w1 b2 #[.int .i64 0, .slice none 0 0] 40 (0, 0) := B2
  replace E := E.trans0 e1
  refine L.val rfl rfl (R.as rfl) ?_
  refine L.val rfl rfl (R.as rfl) ?_
  refine L.nil ?_
  refine N.seq ?_
  refine G.seq ?_
  refine G.seq ?_
  refine G.region ?_
  refine L.val rfl rfl (R.mv rfl) ?_
  refine L.val rfl rfl (R.lenS rfl) ?_
  refine L.val rfl rfl (R.lss rfl rfl) ?_
  refine L.val rfl rfl (R.mv rfl) ?_
  refine L.caseP 8 rfl (fun hg1_3 => ?_) (fun hg1_3 => ?_)
  · refine L.pass rfl rfl ?_
    refine L.pass rfl rfl ?_
    refine L.pass rfl rfl ?_
    refine L.pass rfl rfl ?_
    first | refine L.val rfl rfl (R.pickT rfl rfl) ?_ | refine L.val rfl rfl (R.pickF rfl rfl) ?_
    refine L.nil ?_
    refine N.seq ?_
    refine G.condT rfl ?_
    refine G.seq ?_
    refine G.region ?_
    refine L.val rfl rfl (R.build (cs := #[.int .i64 0, .slice none 0 0]) rfl rfl) ?_
    refine L.set rfl (R.stN rfl rfl B2 rfl (Nat.le_refl 2) (by intro u hu; simp at hu; rcases hu with rfl | rfl <;> rfl)) ?_
    rintro w3 ⟨e3, hsx3, B2⟩
    replace B2 : Blk w3 b2 #[.int .i64 0, .slice none 0 0] 40 (0, 0) := B2
    replace E := E.trans e3 (M := []) (by simp) (by intro x hx; rw [List.mem_singleton.1 hx]; exact .inr (by omega))
    refine L.val rfl rfl (R.as rfl) ?_
    refine L.val rfl rfl (R.as rfl) ?_
    refine L.nil ?_
    refine N.seq ?_
    refine G.retCTT rfl rfl rfl rfl B2 rfl ?_
    exact ⟨fun _ => rfl, fun h => absurd h (by rintro ⟨h1, h2⟩; first | omega | exact hbad h2), E⟩
  · obtain ⟨q0, hq0, hc0⟩ := hb.at 0 (by omega)
    obtain ⟨lb0, hlb0⟩ : ∃ x, x = l[0]'(by omega) := ⟨_, rfl⟩
    rw [← hlb0] at hc0
    obtain ⟨q1, hq1, hc1⟩ := hb.at 1 (by omega)
    obtain ⟨lb1, hlb1⟩ : ∃ x, x = l[1]'(by omega) := ⟨_, rfl⟩
    rw [← hlb1] at hc1
    have hl0 : l[0]? = some lb0 := by rw [hlb0]; exact List.getElem?_eq_getElem (by omega)
    have hl1 : l[1]? = some lb1 := by rw [hlb1]; exact List.getElem?_eq_getElem (by omega)
    refine L.val rfl rfl (R.mv rfl) ?_
    refine L.val rfl rfl (R.idx rfl rfl (by omega) (by omega) q0 hq0) ?_
    refine L.val rfl rfl (R.ld rfl (v := vb lb0) (cell?_ext0' hc0 E)) ?_
    refine L.val rfl rfl (R.neI rfl rfl) ?_
    first | refine L.val rfl rfl (R.pickT rfl rfl) ?_ | refine L.val rfl rfl (R.pickF rfl rfl) ?_
    refine L.nil ?_
    refine N.seq ?_
    refine G.condP rfl (fun h0 => ?_) (fun h0 => ?_)
    · have hbad : l[0]? ≠ some 0 := by rw [hl0]; intro h9; cases h9; exact h0 rfl
      refine G.seq ?_
      refine G.region ?_
      refine L.val rfl rfl (R.build (cs := #[.int .i64 0, .slice none 0 0]) rfl rfl) ?_
      refine L.set rfl (R.stN rfl rfl B2 rfl (Nat.le_refl 2) (by intro u hu; simp at hu; rcases hu with rfl | rfl <;> rfl)) ?_
      rintro w3 ⟨e3, hsx3, B2⟩
      replace B2 : Blk w3 b2 #[.int .i64 0, .slice none 0 0] 40 (0, 0) := B2
      replace E := E.trans e3 (M := []) (by simp) (by intro x hx; rw [List.mem_singleton.1 hx]; exact .inr (by omega))
      refine L.val rfl rfl (R.as rfl) ?_
      refine L.val rfl rfl (R.as rfl) ?_
      refine L.nil ?_
      refine N.seq ?_
      refine G.retCTT rfl rfl rfl rfl B2 rfl ?_
      exact ⟨fun _ => rfl, fun h => absurd h (by rintro ⟨h1, h2⟩; first | omega | exact hbad h2), E⟩
    · have h00 : lb0 = 0 := UInt8.toNat_inj.1 (by have := Classical.not_not.1 h0; show lb0.toNat = 0; omega)
      have hbs : Bs w (subA a 2 c 1) 64 ((l.drop 2).take 64) := hb.sub 2 c 64 (by omega) (by omega)
      refine G.skip ?_
      refine N.seq ?_
      refine G.seq ?_
      refine G.staged [10] [.blocks ([b2])] [Ext [] w1, fun w' => ∃ o MC, Blk w' b2 (WriteV.cells o).toArray 40 (0, 0) ∧ ClV w1.heap.size 5 (⟨(lb1.toNat : Int), none, 64, 64, (l.drop 2).take 64⟩ : WriteV) o MC w' ∧ Ext [b2] w1 w'] [(10, 21), (10, 22)] (by decide +kernel) (by decide +kernel) rfl rfl rfl (fun _ h => h) ?_
      refine Z.val rfl rfl rfl rfl rfl (fun w2 => R.mv rfl) ?_
      refine Z.val rfl rfl rfl rfl rfl (fun w2 => R.idx rfl rfl (by omega) (by omega) q1 hq1) ?_
      refine Z.read 0 (by decide +kernel) rfl rfl rfl rfl rfl rfl (fun w2 hJ => R.ld rfl (v := vb lb1) (cell?_ext0' hc1 (E.trans0 hJ))) ?_
      refine Z.val rfl rfl rfl rfl rfl (fun w2 => R.conv rfl (lb1.toNat : Int) (wrap_i64 (by have := lb1.toNat_lt; omega))) ?_
      refine Z.val rfl rfl rfl rfl rfl (fun w2 => R.mv rfl) ?_
      refine Z.val rfl rfl rfl rfl rfl (fun w2 => R.slLH rfl rfl rfl (by omega) (by omega) (by omega)) ?_
      refine Z.be 20 rfl (show _ = Value.slice (subA a 2 c 1) 64 (c - 2) from rfl) ?_
      refine Z.callR (A := Held [] w1.heap.size 5 1 64 (vbs ((l.drop 2).take 64))) (Lasts.kill (Held.keep _ _ _ _ _ _) (by decide +kernel)) 0 (by decide +kernel) rfl rfl rfl rfl go76 (fun w2 hJ => ⟨_, rfl, (bclone_ok _ 64 _ ((l.drop 2).take 64) _ (hbs.ext0 (E.trans0 hJ)) (by decide)).mono (fun v w9 h => by obtain ⟨a9, c9, M9, rfl, e9, o9, hM9⟩ := h; exact ⟨⟨a9, c9, M9, rfl, o9, fun g hg => .inr (Nat.le_trans hJ.size (hM9 g hg))⟩, e9, hJ.trans0 e9⟩)⟩) ?_
      refine Z.valR (A := IsO w1.heap.size 5 (⟨(lb1.toNat : Int), none, 64, 64, (l.drop 2).take 64⟩ : WriteV)) (Lasts.kill (IsO.keep _ _ _) (by decide +kernel)) rfl rfl rfl rfl (fun w2 => fun v hv => by obtain ⟨a9, c9, M9, rfl, o9, hM9⟩ := hv; exact ⟨_, R.build (cs := #[.int .i64 (lb1.toNat : Int), .slice a9 64 c9]) rfl rfl, ⟨(lb1.toNat : Int), a9, 64, c9, (l.drop 2).take 64⟩, M9, rfl, rfl, o9, hbs.len, fun g hg => (hM9 g hg).elim (by simp) id⟩) ?_
      refine Z.val rfl rfl rfl rfl rfl (fun w2 => R.mv rfl) ?_
      refine Z.val rfl rfl rfl rfl rfl (fun w2 => R.slL rfl rfl (by omega) (by omega)) ?_
      refine Z.be 24 rfl (show _ = Value.slice (subA a 66 c 1) (n - 66) (c - 66) from rfl) ?_
      refine Z.set 0 (by decide +kernel) rfl rfl rfl rfl rfl rfl (fun w2 hJ => fun v hv => by obtain ⟨o9, MC, rfl, hcl⟩ := hv; exact (R.stN (o := 0) (vs := o9.cells.toArray) rfl rfl (B2.ext0 hJ) rfl (Nat.le_refl 2) (WriteV.cells.one o9)).mono (fun _ h => ⟨h.1, o9, MC, h.2.2, hcl.ext h.1 (fun g hg hm => by have := hcl.2.2.2 g hg; rw [List.mem_singleton.1 hm] at this; have := B2.lt; omega), h.1.after hJ⟩)) ?_
      refine Z.val rfl rfl rfl rfl rfl (fun w2 => R.as rfl) ?_
      refine Z.val rfl rfl rfl rfl rfl (fun w2 => R.as rfl) ?_
      refine Z.nil rfl rfl (fun w2 hJ => ?_)
      obtain ⟨o9, MC, B2n, hcl, X⟩ := hJ
      have hEs := E.size
      replace E := E.trans X (M := []) (by simp) (by intro x hx; rw [List.mem_singleton.1 hx]; exact .inr (by omega))
      refine N.seq ?_
      refine G.retCTT rfl rfl rfl rfl B2n rfl ?_
      exact ⟨fun h => absurd h (by rintro (h1 | h1); omega; exact h1 (by rw [hl0, h00])), fun _ => ⟨o9, MC, rfl, by rw [hcl.1, hl1]; rfl, hcl.2.1, hcl.2.2.1.trans hbs.len.symm, fun g hg => Nat.le_trans hEs (hcl.2.2.2 g hg)⟩, E⟩

end Go.Proofs.Ytiiiplhfgblamaa
