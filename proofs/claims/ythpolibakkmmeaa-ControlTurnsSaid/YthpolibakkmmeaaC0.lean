/-
  A calculus for walking Go functions of the model: environments (partial knowledge of a frame's slots), a stack of continuations, one rule a form of code. Nothing here speaks of one program.
-/
import Derived.WalkKit
import Derived.ProofKit
import Derived.Orders
import Derived.Deep.LoopGhost
import Derived.TacticsIn
import Derived.OrdersIn
import Derived.RangeFuncLeaves
import Derived.OwnWalk
namespace Brv
open Go

abbrev Env := List (Nat × Value)

def look : Env → Nat → Option Value
  | [], _ => none
  | (s, v) :: r, t => match Nat.beq s t with
    | true => some v
    | false => look r t

def ev (ρ : Env) : Operand → Option Value
  | .tmp t => look ρ t
  | .const v => some v
  | .global g => some (.pointer (some ⟨g, 0, none⟩))
  | .func f => some (.func (.func f) #[] #[])

def evs (ρ : Env) : List Operand → Option (List Value)
  | [] => some []
  | x :: r => match ev ρ x, evs ρ r with
    | some v, some vs => some (v :: vs)
    | _, _ => none

/-- A frame's size, what is deferred in it, of which loop's round it is. -/
structure Fm where
  n : Nat
  df : List Deferred
  ro : Option Nat
instance (k : Nat) : OfNat Fm k := ⟨⟨k, [], none⟩⟩
instance : Coe Fm Nat := ⟨Fm.n⟩
/-- The fence of such frames. -/
def fen : Option Nat → Fence
  | none => Fence.wide
  | some l => Fence.wide.inRound l
theorem fen_fn (r : Option Nat) (f : FuncId) : (fen r).fn f := by cases r <;> trivial
theorem fen_depth (r : Option Nat) : (fen r).depth = none := by cases r <;> rfl
theorem fen_round (r : Option Nat) : (fen r).round = r := by cases r <;> rfl
theorem fen_room (r : Option Nat) (n : Nat) : (fen r).room n := fun d h => by rw [fen_depth] at h; cases h
theorem fen_calls {r : Option Nat} {n : Nat} {P : Program} {f : FuncId} {args : Array Value} {w : World} {R : Ending → World → Prop} (h : Calls P f args w R) : CallsIn (fen r) n P f args w R := by
  have := (callsIn_wide (n := n)).2 h
  cases r
  · exact this
  · exact this
theorem fen_wp {r : Option Nat} {n m : Nat} {P : Program} {c : Code} {Q : Exit → Act → World → Prop} {a : Act} {w : World} (h : c.wpIn (fen r) n P Q a w) : c.wpIn (fen r) m P Q a w :=
  fun b k cs h1 h2 _ => h b k cs h1 h2 (fen_room r _)
def isDefer : Op → Bool
  | .defer _ => true
  | _ => false
/-- An operation, as it runs in any frame. -/
theorem wpIn_run {r : Option Nat} {P : Program} {o : Oper} {a : Act} {w : World} {K : Act → World → Prop} {Q : Exit → Act → World → Prop} {res : Result Next} (hd : isDefer o.op = false) (hr : (execOp a.eval o).run P w = res)
    (h : o.uponIn (fen r) 0 P a K Q res) : o.wpIn (fen r) 0 P a w K Q := by
  refine ⟨fun f _ => fen_fn r f, ?_⟩
  rw [Oper.semAt_eq _ _ _ (fun c e => by rw [e] at hd; cases hd), hr]
  exact h
/-- What is known of a frame: its size, what is deferred, some slots. -/
structure Fr (n : Fm) (ρ : Env) (a : Act) : Prop where
  size : a.tmps.size = n.n
  defers : a.defers = n.df
  vals : ∀ t v, look ρ t = some v → a.tmps[t]? = some v

def Sub (ρ' ρ : Env) : Prop := ∀ t v, look ρ' t = some v → look ρ t = some v

theorem look_cons (s : Nat) (v : Value) (r : Env) (t : Nat) : look ((s, v) :: r) t = if s = t then some v else look r t := by
  simp only [look]
  by_cases h : s = t
  · have hb : Nat.beq s t = true := by subst h; exact Nat.beq_refl s
    rw [hb]; simp [h]
  · have hb : Nat.beq s t = false := by
      cases hq : Nat.beq s t with
      | false => rfl
      | true => exact absurd (Nat.eq_of_beq_eq_true hq) h
    rw [hb]; simp [h]

theorem Sub.nil (ρ : Env) : Sub [] ρ := fun _ _ h => by cases h
theorem Sub.refl (ρ : Env) : Sub ρ ρ := fun _ _ h => h
theorem Sub.cons {t : Nat} {v : Value} {r ρ : Env} (h : look ρ t = some v) (hr : Sub r ρ) : Sub ((t, v) :: r) ρ := by
  intro s u hs
  rw [look_cons] at hs
  split at hs
  · rename_i e; subst e; cases hs; exact h
  · exact hr s u hs

theorem Fr.sub {n : Fm} {ρ ρ' : Env} {a : Act} (h : Fr n ρ a) (hs : Sub ρ' ρ) : Fr n ρ' a :=
  ⟨h.size, h.defers, fun t v hv => h.vals t v (hs t v hv)⟩

theorem Fr.eval {n : Fm} {ρ : Env} {a : Act} (h : Fr n ρ a) {x : Operand} {v : Value} (hx : ev ρ x = some v) : a.eval x = v := by
  cases x with
  | tmp t =>
    have := h.vals t v hx
    simp [Act.eval, this]
  | const c => simpa [ev, Act.eval] using hx
  | global g => simpa [ev, Act.eval] using hx
  | func f => simpa [ev, Act.eval] using hx

theorem Fr.evals {n : Fm} {ρ : Env} {a : Act} (h : Fr n ρ a) : ∀ {xs : List Operand} {vs : List Value}, evs ρ xs = some vs → xs.map a.eval = vs
  | [], vs, hx => by simp [evs] at hx; simp [hx]
  | x :: r, vs, hx => by
    simp only [evs] at hx
    split at hx
    · rename_i v vs' h1 h2
      cases hx
      simp [h.eval h1, h.evals h2]
    · cases hx

theorem Fr.put {n : Fm} {ρ : Env} {a : Act} (h : Fr n ρ a) {d : Nat} (hd : d < n) (v : Value) : Fr n ((d, v) :: ρ) (a.put (some d) v) := by
  refine ⟨by simp [Act.put, h.size], by simp [Act.put, h.defers], ?_⟩
  intro t u ht
  rw [look_cons] at ht
  simp only [Act.put]
  split at ht
  · rename_i e; subst e; cases ht
    simp [h.size, hd]
  · rename_i e
    rw [Array.getElem?_setIfInBounds_ne (by omega)]
    exact h.vals t u ht

theorem wpIn_loop_ghost {F : Fence} {rm : Nat} {P : Program} {Q : Exit → Act → World → Prop} {a : Act} {w : World} {c : Code} (I : Nat → Act → World → Prop) (n₀ : Nat) (h₀ : I n₀ a w)
    (round : ∀ n a w, I n a w → c.wpIn F rm P (Exit.then (fun a' w' => ∃ n', n' < n ∧ I n' a' w') Q) a w) : (Code.loop c).wpIn F rm P Q a w := by
  refine wpIn_loop (fun a w => ∃ n, I n a w) (fun a w => leastOf (fun n => I n a w)) ⟨n₀, h₀⟩ ?_
  intro a w hI
  refine wpIn_mono (round _ a w (leastOf_spec hI).1) ?_
  intro e a' w' hq
  cases e with
  | normal =>
    obtain ⟨n', hlt, hI'⟩ := hq
    exact show (∃ n, I n a' w') ∧ leastOf (fun n => I n a' w') < leastOf (fun n => I n a w) from ⟨⟨n', hI'⟩, Nat.lt_of_le_of_lt ((leastOf_spec ⟨n', hI'⟩).2 n' hI') hlt⟩
  | exit id => exact hq
  | goto l => exact hq
  | ret => exact hq
  | panic ch => exact hq
  | outgrown => exact hq

/-- The stack of continuations. -/
inductive K where
  | seq (y : Code)
  | block (id : Nat)
  | hand (J : Act → World → Prop)

def sem (P : Program) (r : Option Nat) (B : Exit → Act → World → Prop) : List K → Exit → Act → World → Prop
  | [] => B
  | .seq y :: ks => Exit.then (y.wpIn (fen r) 0 P (sem P r B ks)) (sem P r B ks)
  | .block id :: ks => Exit.inBlock id (sem P r B ks)
  | .hand J :: ks => Exit.then J (sem P r B ks)

section
variable (P : Program) (B : Exit → Act → World → Prop) (n : Fm)

/-- Code c, then the stack. -/
def G (ks : List K) (ρ : Env) (w : World) (c : Code) : Prop := ∀ a, Fr n ρ a → c.wpIn (fen n.ro) 0 P (sem P n.ro B ks) a w
/-- The stack, reached in the normal way. -/
def N (ks : List K) (ρ : Env) (w : World) : Prop := ∀ a, Fr n ρ a → sem P n.ro B ks .normal a w
/-- A region's operations, then the stack. -/
def L (ops : List Oper) (ks : List K) (ρ : Env) (w : World) (l : List Oper) : Prop :=
  ∀ a, Fr n ρ a → wpListIn (fen n.ro) 0 P ops.toArray (sem P n.ro B ks) l a w
end

section
variable {P : Program} {B : Exit → Act → World → Prop} {n : Fm} {ks : List K} {ρ : Env} {w : World}

theorem G.sub {c : Code} (ρ' : Env) (hs : Sub ρ' ρ) (h : G P B n ks ρ' w c) : G P B n ks ρ w c := fun a ha => h a (ha.sub hs)
theorem N.sub (ρ' : Env) (hs : Sub ρ' ρ) (h : N P B n ks ρ' w) : N P B n ks ρ w := fun a ha => h a (ha.sub hs)

theorem G.seq {x y : Code} (h : G P B n (.seq y :: ks) ρ w x) : G P B n ks ρ w (.seq x y) := fun a ha => wpIn_seq (h a ha)
theorem G.block {id : Nat} {c : Code} (h : G P B n (.block id :: ks) ρ w c) : G P B n ks ρ w (.block id c) := fun a ha => wpIn_block (h a ha)
theorem G.skip (h : N P B n ks ρ w) : G P B n ks ρ w .skip := fun a ha => wpIn_skip (h a ha)
theorem G.region {id : Nat} {l : List Oper} (h : L P B n l ks ρ w l) : G P B n ks ρ w (.region id l.toArray false) :=
  fun a ha => wpIn_region_list (by simpa using h a ha)
theorem N.seq {y : Code} (h : G P B n ks ρ w y) : N P B n (.seq y :: ks) ρ w := fun a ha => h a ha
theorem N.block {id : Nat} (h : N P B n ks ρ w) : N P B n (.block id :: ks) ρ w := fun a ha => h a ha
theorem N.hand {J : Act → World → Prop} (h : ∀ a, Fr n ρ a → J a w) : N P B n (.hand J :: ks) ρ w := fun a ha => h a ha
theorem N.done (h : ∀ a, Fr n ρ a → B .normal a w) : N P B n [] ρ w := fun a ha => h a ha

/-- The stack behind a block's exit. -/
def popTo (id : Nat) : List K → Option (List K)
  | [] => none
  | .block id' :: ks => if id = id' then some ks else popTo id ks
  | .seq _ :: ks => popTo id ks
  | .hand _ :: ks => popTo id ks

theorem sem_exit {r : Option Nat} {id : Nat} {a : Act} {w : World} : ∀ {ks ks' : List K}, popTo id ks = some ks' → sem P r B ks' .normal a w → sem P r B ks (.exit id) a w
  | [], _, h, _ => by cases h
  | .block id' :: ks, ks', h, hn => by
    simp only [popTo] at h
    simp only [sem, Exit.inBlock]
    split at h
    · rename_i e; cases h; simp [e]; exact hn
    · rename_i e; simp [e]; exact sem_exit h hn
  | .seq _ :: ks, ks', h, hn => sem_exit (ks := ks) h hn
  | .hand _ :: ks, ks', h, hn => sem_exit (ks := ks) h hn

theorem sem_ret {r : Option Nat} {a : Act} {w : World} : ∀ {ks : List K}, B .ret a w → sem P r B ks .ret a w
  | [], h => h
  | .block _ :: ks, h => sem_ret (ks := ks) h
  | .seq _ :: ks, h => sem_ret (ks := ks) h
  | .hand _ :: ks, h => sem_ret (ks := ks) h

theorem G.exit {id : Nat} (ks' : List K) (h : popTo id ks = some ks') (hn : N P B n ks' ρ w) : G P B n ks ρ w (.exit id) :=
  fun a ha => wpIn_exit (sem_exit h (hn a ha))
theorem G.ret (h : ∀ a, Fr n ρ a → B .ret a w) : G P B n ks ρ w .ret := fun a ha => wpIn_ret (sem_ret (h a ha))

theorem G.condT {c : Operand} {x y : Code} (hc : ev ρ c = some (.bool true)) (h : G P B n ks ρ w x) : G P B n ks ρ w (.cond c x y) :=
  fun a ha => wpIn_cond_true (ha.eval hc) (h a ha)
theorem G.condF {c : Operand} {x y : Code} (hc : ev ρ c = some (.bool false)) (h : G P B n ks ρ w y) : G P B n ks ρ w (.cond c x y) :=
  fun a ha => wpIn_cond_false (ha.eval hc) (h a ha)
theorem G.condB {c : Operand} {x y : Code} {b : Bool} (hc : ev ρ c = some (.bool b)) (ht : b = true → G P B n ks ρ w x) (hf : b = false → G P B n ks ρ w y) :
    G P B n ks ρ w (.cond c x y) := by
  cases b
  · exact G.condF hc (hf rfl)
  · exact G.condT hc (ht rfl)
theorem G.condP {c : Operand} {x y : Code} {p : Prop} {dp : Decidable p} (hc : ev ρ c = some (.bool (@decide p dp))) (ht : p → G P B n ks ρ w x) (hf : ¬ p → G P B n ks ρ w y) :
    G P B n ks ρ w (.cond c x y) :=
  G.condB hc (fun h => ht (of_decide_eq_true h)) (fun h => hf (of_decide_eq_false h))
/-- The ways meet again: what J says is enough for the rest. -/
theorem G.cut {X : Type} (ρJ : X → Env) (J : X → World → Prop) {c : Code} (h : G P B n (.hand (fun a' w' => ∃ x, Fr n (ρJ x) a' ∧ J x w') :: ks) ρ w c)
    (hn : ∀ x w', J x w' → N P B n ks (ρJ x) w') : G P B n ks ρ w c := by
  intro a ha
  refine wpIn_mono (h a ha) ?_
  intro e a' w' hq
  cases e with
  | normal => obtain ⟨x, hf, hj⟩ := hq; exact hn x w' hj a' hf
  | exit id => exact hq
  | goto l => exact hq
  | ret => exact hq
  | panic ch => exact hq
  | outgrown => exact hq
theorem N.handX {X : Type} {ρJ : X → Env} {J : X → World → Prop} (x : X) (hs : Sub (ρJ x) ρ) (h : J x w) :
    N P B n (.hand (fun a' w' => ∃ x, Fr n (ρJ x) a' ∧ J x w') :: ks) ρ w :=
  N.hand fun _ ha => ⟨x, ha.sub hs, h⟩

/-- A loop: a relation I x between the proof's own x and the world, the slots that x tells, a measure of x. -/
theorem G.loop {X : Type} (ρI : X → Env) (I : X → World → Prop) (μ : X → Nat) (x₀ : X) {c : Code} (hs : Sub (ρI x₀) ρ) (h₀ : I x₀ w)
    (round : ∀ x w, I x w → G P B n (.hand (fun a' w' => ∃ x', μ x' < μ x ∧ Fr n (ρI x') a' ∧ I x' w') :: ks) (ρI x) w c) : G P B n ks ρ w (.loop c) := by
  intro a ha
  refine wpIn_loop_ghost (fun k a w => ∃ x, μ x = k ∧ Fr n (ρI x) a ∧ I x w) (μ x₀) ⟨x₀, rfl, ha.sub hs, h₀⟩ ?_
  rintro k a w ⟨x, rfl, hf, hI⟩
  refine wpIn_mono (round x w hI a hf) ?_
  intro e a' w' hq
  cases e with
  | normal => obtain ⟨x', hlt, hf', hI'⟩ := hq; exact ⟨μ x', hlt, x', rfl, hf', hI'⟩
  | exit id => exact hq
  | goto l => exact hq
  | ret => exact hq
  | panic ch => exact hq
  | outgrown => exact hq
theorem N.again {X : Type} {ρI : X → Env} {I : X → World → Prop} {μ : X → Nat} {x : X} (x' : X) (hlt : μ x' < μ x) (hs : Sub (ρI x') ρ) (h : I x' w) :
    N P B n (.hand (fun a' w' => ∃ x', μ x' < μ x ∧ Fr n (ρI x') a' ∧ I x' w') :: ks) ρ w :=
  N.hand fun _ ha => ⟨x', hlt, ha.sub hs, h⟩

/-! ## A function's contract -/
end

/-- The call returns, and what it returns is so. -/
def Ret (Φ : Value → World → Prop) : Ending → World → Prop
  | .returned v, w => Φ v w
  | _, _ => False
def Meets (P : Program) (f : FuncId) (args : List Value) (w : World) (Φ : Value → World → Prop) : Prop := Calls P f args.toArray w (Ret Φ)

theorem Meets.mono {P : Program} {f : FuncId} {args : List Value} {w : World} {Φ Φ' : Value → World → Prop} (h : Meets P f args w Φ) (hm : ∀ v w', Φ v w' → Φ' v w') : Meets P f args w Φ' :=
  Calls.mono h fun e w' he => by cases e <;> first | exact hm _ _ he | exact he

def Func.base (P : Program) (fn : Func) (Φ : Value → World → Prop) : Exit → Act → World → Prop := bodyPostM Fence.wide 0 P fn (Ret Φ)

def argEnv : Nat → List Value → Env
  | _, [] => []
  | i, v :: vs => (i, v) :: argEnv (i + 1) vs

theorem look_argEnv : ∀ (vs : List Value) (i t : Nat) (v : Value), look (argEnv i vs) t = some v → ∃ j, t = i + j ∧ vs[j]? = some v
  | [], i, t, v, h => by cases h
  | u :: vs, i, t, v, h => by
    simp only [argEnv] at h
    rw [look_cons] at h
    split at h
    · rename_i e; cases h; exact ⟨0, by omega, rfl⟩
    · obtain ⟨j, hj, hv⟩ := look_argEnv vs (i + 1) t v h
      exact ⟨j + 1, by omega, by simpa using hv⟩

theorem Meets.enter {P : Program} {f : FuncId} {fn : Func} {c : Code} {args : List Value} {w : World} {Φ : Value → World → Prop} (hf : P.funcs[f]? = some fn) (hb : fn.body = some c)
    (n : Nat) (hn : fn.ntmps = n) (hl : args.length ≤ n) (h : G P (Func.base P fn Φ) ⟨n, [], none⟩ [] (argEnv 0 args) w c) : Meets P f args w Φ := by
  refine callsIn_wide.1 (callsIn_of_wp_marks (F := Fence.wide) (n := 0) hf hb trivial (h _ ⟨?_, rfl, ?_⟩))
  · simp; omega
  · intro t v ht
    obtain ⟨j, rfl, hv⟩ := look_argEnv _ _ _ _ ht
    have hj : j < args.length := by
      rcases Nat.lt_or_ge j args.length with h | h
      · exact h
      · rw [List.getElem?_eq_none h] at hv; cases hv
    simp only [Nat.zero_add]
    rw [Array.getElem?_append_left (by simpa using hj)]
    simpa using hv

/-- The marks of the frame's ranges over functions are taken away. -/
def Leave (P : Program) : List Deferred → World → World → Prop
  | [], w, w' => w' = w
  | d :: ds, w, w' => ∃ D w₁, d.target = .collected D ∧ (Instr.takeDeferred D).run P w = .ok [] w₁ ∧ Leave P ds w₁ w'
theorem leave_leaves {P : Program} {fn : Func} {tmps : Array Value} {v : Value} {w' : World} {Φ : Value → World → Prop} (hv : (results fn tmps).run P w' = .ok v w') (h : Φ v w') : ∀ {ds : List Deferred} {w : World}, Leave P ds w w' →
    LeavesInM Fence.wide 0 P fn tmps (Ret Φ) ds .returning w
  | [], w, hl => by
    cases hl
    exact ⟨v, hv, h⟩
  | d :: ds, w, ⟨D, w₁, hD, ht, hl⟩ => ⟨by simp, .inl ⟨D, w₁, hD, ht, leave_leaves hv h hl⟩⟩
section
variable {P : Program} {n : Fm} {ks : List K} {ρ : Env} {w w' : World} {fn : Func} {Φ : Value → World → Prop}
theorem G.retM {v : Value} (hl : Leave P n.df w w') (hv : ∀ a, Fr n ρ a → (results fn a.tmps).run P w' = .ok v w') (h : Φ v w') : G P (Func.base P fn Φ) n ks ρ w .ret :=
  G.ret fun a ha => by
    show LeavesInM Fence.wide 0 P fn a.tmps (Ret Φ) a.defers .returning w
    rw [ha.defers]
    exact leave_leaves (hv a ha) h hl
theorem N.endM {v : Value} (hl : Leave P n.df w w') (hv : ∀ a, Fr n ρ a → (results fn a.tmps).run P w' = .ok v w') (h : Φ v w') : N P (Func.base P fn Φ) n [] ρ w :=
  N.done fun a ha => by
    show LeavesInM Fence.wide 0 P fn a.tmps (Ret Φ) a.defers .returning w
    rw [ha.defers]
    exact leave_leaves (hv a ha) h hl
theorem Fr.getD {a : Act} {t : Nat} {v : Value} (ha : Fr n ρ a) (hv : look ρ t = some v) : a.tmps.getD t undef = v := by
  have := ha.vals t v hv
  rw [Array.getD_eq_getD_getElem?, this]; rfl
theorem res1 {a : Act} {t : Nat} {v : Value} (hr : fn.results = #[.tmp t]) (hv : look ρ t = some v) (ha : Fr n ρ a) : (results fn a.tmps).run P w = .ok v w := by
  rw [results_tmp hr, ha.getD hv]
theorem res2 {a : Act} {t u : Nat} {v x : Value} (hr : fn.results = #[.tmp t, .tmp u]) (hv : look ρ t = some v) (hx : look ρ u = some x) (ha : Fr n ρ a) : (results fn a.tmps).run P w = .ok (.tuple #[v, x]) w := by
  rw [results_tmp2 hr, ha.getD hv, ha.getD hx]
theorem res3 {a : Act} {t u s : Nat} {v x y : Value} (hr : fn.results = #[.tmp t, .tmp u, .tmp s]) (hv : look ρ t = some v) (hx : look ρ u = some x) (hy : look ρ s = some y) (ha : Fr n ρ a) : (results fn a.tmps).run P w = .ok (.tuple #[v, x, y]) w := by
  rw [results_tmp3 hr, ha.getD hv, ha.getD hx, ha.getD hy]
theorem G.ret1M {t : Nat} {v : Value} (hr : fn.results = #[.tmp t]) (hv : look ρ t = some v) (hl : Leave P n.df w w') (h : Φ v w') : G P (Func.base P fn Φ) n ks ρ w .ret := G.retM hl (fun _ ha => res1 hr hv ha) h
theorem G.ret2M {t u : Nat} {v x : Value} (hr : fn.results = #[.tmp t, .tmp u]) (hv : look ρ t = some v) (hx : look ρ u = some x) (hl : Leave P n.df w w') (h : Φ (.tuple #[v, x]) w') : G P (Func.base P fn Φ) n ks ρ w .ret := G.retM hl (fun _ ha => res2 hr hv hx ha) h
theorem G.ret3M {t u s : Nat} {v x y : Value} (hr : fn.results = #[.tmp t, .tmp u, .tmp s]) (hv : look ρ t = some v) (hx : look ρ u = some x) (hy : look ρ s = some y) (hl : Leave P n.df w w') (h : Φ (.tuple #[v, x, y]) w') : G P (Func.base P fn Φ) n ks ρ w .ret := G.retM hl (fun _ ha => res3 hr hv hx hy ha) h
theorem G.ret0M (hr : fn.results = #[]) (hl : Leave P n.df w w') (h : Φ (.tuple #[]) w') : G P (Func.base P fn Φ) n ks ρ w .ret := G.retM hl (fun _ _ => by rw [results_none hr]) h
theorem N.end0M (hr : fn.results = #[]) (hl : Leave P n.df w w') (h : Φ (.tuple #[]) w') : N P (Func.base P fn Φ) n [] ρ w := N.endM hl (fun _ _ => by rw [results_none hr]) h
end
section
variable {P : Program} {n : Nat} {ks : List K} {ρ : Env} {w : World} {fn : Func} {Φ : Value → World → Prop}
theorem G.ret1 {t : Nat} {v : Value} (hr : fn.results = #[.tmp t]) (hv : look ρ t = some v) (h : Φ v w) : G P (Func.base P fn Φ) ⟨n, [], none⟩ ks ρ w .ret := G.ret1M hr hv rfl h
theorem G.ret2 {t u : Nat} {v x : Value} (hr : fn.results = #[.tmp t, .tmp u]) (hv : look ρ t = some v) (hx : look ρ u = some x) (h : Φ (.tuple #[v, x]) w) : G P (Func.base P fn Φ) ⟨n, [], none⟩ ks ρ w .ret := G.ret2M hr hv hx rfl h
theorem G.ret3 {t u s : Nat} {v x y : Value} (hr : fn.results = #[.tmp t, .tmp u, .tmp s]) (hv : look ρ t = some v) (hx : look ρ u = some x) (hy : look ρ s = some y) (h : Φ (.tuple #[v, x, y]) w) : G P (Func.base P fn Φ) ⟨n, [], none⟩ ks ρ w .ret := G.ret3M hr hv hx hy rfl h
theorem G.ret0 (hr : fn.results = #[]) (h : Φ (.tuple #[]) w) : G P (Func.base P fn Φ) ⟨n, [], none⟩ ks ρ w .ret := G.ret0M hr rfl h
theorem N.end0 (hr : fn.results = #[]) (h : Φ (.tuple #[]) w) : N P (Func.base P fn Φ) ⟨n, [], none⟩ [] ρ w := N.end0M hr rfl h
end

/-! ## Operations -/
section
variable {P : Program} {B : Exit → Act → World → Prop} {n : Fm} {ops : List Oper} {ks : List K} {ρ : Env} {w : World} {rest : List Oper}

theorem L.nil (h : N P B n ks ρ w) : L P B n ops ks ρ w [] := fun a ha => wpListIn_nil (h a ha)

/-- Does the operation run? (its guard, as far as it is known) -/
def wants (ops : List Oper) (ρ : Env) : Option (Nat × Bool) → Option Bool
  | none => some true
  | some (j, want) => match (ops[j]?).bind (·.dst) with
    | some d => match look ρ d with
      | some (.bool b) => some (b == want)
      | some (.tuple _) => some false
      | _ => none
    | none => some false

theorem wants_spec {ρ : Env} {a : Act} (ha : Fr n ρ a) {o : Oper} {r : Bool} (h : wants ops ρ o.guard = some r) : Region.wanted o (yielded ops.toArray a.tmps) = r := by
  unfold Region.wanted
  cases hg : o.guard with
  | none => rw [hg] at h; simpa [wants] using h
  | some g =>
    obtain ⟨j, want⟩ := g
    rw [hg] at h
    simp only [wants] at h
    simp only [yielded]
    cases hd : (ops[j]?).bind (·.dst) with
    | none =>
      rw [hd] at h
      cases h
      simp [hd]
    | some d =>
      rw [hd] at h
      simp only [List.getElem?_toArray, hd]
      dsimp only at h
      cases hv : look ρ d with
      | none => rw [hv] at h; cases h
      | some v =>
        have hval := ha.vals d v hv
        rw [hv] at h
        cases v <;> simp_all <;> (try rfl)

/-- The operation runs, gives v and leaves w'. -/
def Runs (P : Program) (n : Fm) (ρ : Env) (w : World) (o : Oper) (v : Value) (w' : World) : Prop := ∀ a, Fr n ρ a → (execOp a.eval o).run P w = .ok (.value v) w'
/-- The operation runs, and of what it gives and leaves Φ holds. -/
def Does (P : Program) (n : Fm) (ρ : Env) (w : World) (o : Oper) (Φ : Value → World → Prop) : Prop := ∃ v w', Runs P n ρ w o v w' ∧ Φ v w'
/-- The operation runs, gives nothing, and of what it leaves Φ holds. -/
def Sets (P : Program) (n : Fm) (ρ : Env) (w : World) (o : Oper) (Φ : World → Prop) : Prop := ∃ w', (∀ a, Fr n ρ a → (execOp a.eval o).run P w = .ok .skip w') ∧ Φ w'
theorem Does.of {o : Oper} {v : Value} {w' : World} {Φ : Value → World → Prop} (h : Runs P n ρ w o v w') (hΦ : Φ v w') : Does P n ρ w o Φ := ⟨v, w', h, hΦ⟩
theorem Does.mono {o : Oper} {Φ Φ' : Value → World → Prop} (h : Does P n ρ w o Φ) (hm : ∀ v w', Φ v w' → Φ' v w') : Does P n ρ w o Φ' := let ⟨v, w', hr, hΦ⟩ := h; ⟨v, w', hr, hm v w' hΦ⟩
theorem Sets.mono {o : Oper} {Φ Φ' : World → Prop} (h : Sets P n ρ w o Φ) (hm : ∀ w', Φ w' → Φ' w') : Sets P n ρ w o Φ' := let ⟨w', hr, hΦ⟩ := h; ⟨w', hr, hm w' hΦ⟩

theorem L.do {d : Nat} {op : Op} {ty : TypeId} {pos : String} {af : Array Edge} {gd : Option (Nat × Bool)} {Φ : Value → World → Prop} (hg : wants ops ρ gd = some true) (hd : Nat.blt d n = true)
    (hrun : Does P n ρ w ⟨some d, op, ty, pos, af, gd⟩ Φ) (h : ∀ v w', Φ v w' → L P B n ops ks ((d, v) :: ρ) w' rest) (hdf : isDefer op = false := by rfl) :
    L P B n ops ks ρ w (⟨some d, op, ty, pos, af, gd⟩ :: rest) := by
  intro a ha
  have hd' : d < n := by simpa [Nat.blt_eq] using hd
  unfold wpListIn
  rw [if_pos (wants_spec ha hg)]
  obtain ⟨v, w', hr, hΦ⟩ := hrun
  refine wpIn_run hdf (hr a ha) ?_
  exact h v w' hΦ _ (ha.put hd' v)
theorem L.val {d : Nat} {op : Op} {ty : TypeId} {pos : String} {af : Array Edge} {gd : Option (Nat × Bool)} {v : Value} {w' : World} (hg : wants ops ρ gd = some true) (hd : Nat.blt d n = true)
    (hrun : Runs P n ρ w ⟨some d, op, ty, pos, af, gd⟩ v w') (h : L P B n ops ks ((d, v) :: ρ) w' rest) (hdf : isDefer op = false := by rfl) :
    L P B n ops ks ρ w (⟨some d, op, ty, pos, af, gd⟩ :: rest) :=
  L.do hg hd (Φ := fun v' w'' => v' = v ∧ w'' = w') (Does.of hrun ⟨rfl, rfl⟩) (by rintro _ _ ⟨rfl, rfl⟩; exact h) hdf
theorem L.do0 {op : Op} {ty : TypeId} {pos : String} {af : Array Edge} {gd : Option (Nat × Bool)} {Φ : Value → World → Prop} (hg : wants ops ρ gd = some true)
    (hrun : Does P n ρ w ⟨none, op, ty, pos, af, gd⟩ Φ) (h : ∀ v w', Φ v w' → L P B n ops ks ρ w' rest) (hdf : isDefer op = false := by rfl) :
    L P B n ops ks ρ w (⟨none, op, ty, pos, af, gd⟩ :: rest) := by
  intro a ha
  unfold wpListIn
  rw [if_pos (wants_spec ha hg)]
  obtain ⟨v, w', hr, hΦ⟩ := hrun
  refine wpIn_run hdf (hr a ha) ?_
  exact h v w' hΦ _ ha
theorem L.set {op : Op} {ty : TypeId} {pos : String} {af : Array Edge} {gd : Option (Nat × Bool)} {Φ : World → Prop} (hg : wants ops ρ gd = some true)
    (hrun : Sets P n ρ w ⟨none, op, ty, pos, af, gd⟩ Φ) (h : ∀ w', Φ w' → L P B n ops ks ρ w' rest) (hdf : isDefer op = false := by rfl) :
    L P B n ops ks ρ w (⟨none, op, ty, pos, af, gd⟩ :: rest) := by
  intro a ha
  unfold wpListIn
  rw [if_pos (wants_spec ha hg)]
  obtain ⟨w', hr, hΦ⟩ := hrun
  refine wpIn_run hdf (hr a ha) ?_
  exact h w' hΦ _ ha
/-- An operation that is passed over. -/
theorem L.pass {d : Nat} {op : Op} {ty : TypeId} {pos : String} {af : Array Edge} {gd : Option (Nat × Bool)} (hg : wants ops ρ gd = some false) (hd : Nat.blt d n = true)
    (h : L P B n ops ks ((d, undef) :: ρ) w rest) : L P B n ops ks ρ w (⟨some d, op, ty, pos, af, gd⟩ :: rest) := by
  intro a ha
  have hd' : d < n := by simpa [Nat.blt_eq] using hd
  unfold wpListIn
  have hw : Region.wanted ⟨some d, op, ty, pos, af, gd⟩ (yielded ops.toArray a.tmps) = false := wants_spec (o := ⟨some d, op, ty, pos, af, gd⟩) ha hg
  rw [hw]
  exact ⟨fun f _ => fen_fn _ f, h _ (ha.put hd' undef)⟩
theorem L.pass0 {op : Op} {ty : TypeId} {pos : String} {af : Array Edge} {gd : Option (Nat × Bool)} (hg : wants ops ρ gd = some false)
    (h : L P B n ops ks ρ w rest) : L P B n ops ks ρ w (⟨none, op, ty, pos, af, gd⟩ :: rest) := by
  intro a ha
  unfold wpListIn
  have hw : Region.wanted ⟨none, op, ty, pos, af, gd⟩ (yielded ops.toArray a.tmps) = false := wants_spec (o := ⟨none, op, ty, pos, af, gd⟩) ha hg
  rw [hw]
  exact ⟨fun f _ => fen_fn _ f, h _ ha⟩
theorem L.caseB {b : Bool} (d : Nat) (hv : look ρ d = some (.bool b)) (ht : b = true → L P B n ops ks ((d, .bool true) :: ρ) w rest) (hf : b = false → L P B n ops ks ((d, .bool false) :: ρ) w rest) :
    L P B n ops ks ρ w rest := by
  intro a ha
  have hput : ∀ b', b = b' → Fr n ((d, .bool b') :: ρ) a := by
    intro b' e; subst e
    exact ha.sub (Sub.cons hv (Sub.refl _))
  cases b
  · exact hf rfl a (hput _ rfl)
  · exact ht rfl a (hput _ rfl)
theorem L.caseP {p : Prop} {dp : Decidable p} (d : Nat) (hv : look ρ d = some (.bool (@decide p dp))) (ht : p → L P B n ops ks ((d, .bool true) :: ρ) w rest) (hf : ¬ p → L P B n ops ks ((d, .bool false) :: ρ) w rest) :
    L P B n ops ks ρ w rest :=
  L.caseB d hv (fun h => ht (of_decide_eq_true h)) (fun h => hf (of_decide_eq_false h))
theorem L.isT {b : Bool} (d : Nat) (hv : look ρ d = some (.bool b)) (e : b = true) (h : L P B n ops ks ((d, .bool true) :: ρ) w rest) : L P B n ops ks ρ w rest := L.caseB d hv (fun _ => h) (fun h' => by rw [e] at h'; cases h')
theorem L.isF {b : Bool} (d : Nat) (hv : look ρ d = some (.bool b)) (e : b = false) (h : L P B n ops ks ((d, .bool false) :: ρ) w rest) : L P B n ops ks ρ w rest := L.caseB d hv (fun h' => by rw [e] at h'; cases h') (fun _ => h)
/-- A slot's value, spelled otherwise. -/
theorem L.be {v v' : Value} (d : Nat) (hv : look ρ d = some v) (e : v = v') (h : L P B n ops ks ((d, v') :: ρ) w rest) : L P B n ops ks ρ w rest := by
  subst e
  exact fun a ha => h a (ha.sub (Sub.cons hv (Sub.refl _)))
theorem G.be {v v' : Value} {c : Code} (d : Nat) (hv : look ρ d = some v) (e : v = v') (h : G P B n ks ((d, v') :: ρ) w c) : G P B n ks ρ w c := by
  subst e
  exact fun a ha => h a (ha.sub (Sub.cons hv (Sub.refl _)))
theorem L.sub (ρ' : Env) (hs : Sub ρ' ρ) (h : L P B n ops ks ρ' w rest) : L P B n ops ks ρ w rest := fun a ha => h a (ha.sub hs)

theorem run_callV {a : Act} {d : Option Tmp} {x : Operand} {f : FuncId} {first cap : Array Value} {args : Array Operand} {ats : Array TypeId} {ty : TypeId} {pos : String} {af : Array Edge} {gd : Option (Nat × Bool)} {as vs : List Value}
    (hx : a.eval x = .func (.func f) first cap) (he : args.toList.map a.eval = as) (hvs : first.toList ++ as ++ cap.toList = vs)
    (hc : ∀ w, (callFunc f vs.toArray).run P w = .ok (.enter f vs.toArray) w) (w : World) :
    (execOp a.eval ⟨d, .call ⟨.value x, args, ats⟩, ty, pos, af, gd⟩).run P w = .ok (.enter f vs.toArray) w := by
  have he' : args.map a.eval = as.toArray := by
    apply Array.toList_inj.1
    simpa using he
  have h2 : execOp a.eval ⟨d, .call ⟨.value x, args, ats⟩, ty, pos, af, gd⟩ = (do let x ← resolve a.eval ⟨.value x, args, ats⟩ ty; invoke x.target x.args) := rfl
  have h3 : resolve a.eval ⟨.value x, args, ats⟩ ty = pure ⟨.fn (.func f) cap, first ++ as.toArray⟩ := by
    simp only [resolve, he', hx]
    rfl
  rw [h2, h3]
  simp only [Sem.run_bind, Sem.run_pure, Result.andThen_ok]
  show (callFunc f ((first ++ as.toArray) ++ cap)).run P w = _
  have h4 : (first ++ as.toArray) ++ cap = vs.toArray := by
    apply Array.toList_inj.1
    simpa using hvs
  rw [h4]
  exact hc w

/-- A call of a function value, by the function's contract. -/
theorem L.callV {d : Nat} {x : Operand} {f : FuncId} {first cap : Array Value} {args : Array Operand} {ats : Array TypeId} {ty : TypeId} {pos : String} {af : Array Edge} {gd : Option (Nat × Bool)} {as vs : List Value} {Φ : Value → World → Prop}
    (hg : wants ops ρ gd = some true) (hd : Nat.blt d n = true) (hx : ev ρ x = some (.func (.func f) first cap)) (hargs : evs ρ args.toList = some as) (hvs : first.toList ++ as ++ cap.toList = vs)
    (hc : ∀ (vs : Array Value) w, (callFunc f vs).run P w = .ok (.enter f vs) w)
    (hf : Meets P f vs w Φ) (h : ∀ v w', Φ v w' → L P B n ops ks ((d, v) :: ρ) w' rest) :
    L P B n ops ks ρ w (⟨some d, .call ⟨.value x, args, ats⟩, ty, pos, af, gd⟩ :: rest) := by
  intro a ha
  have hd' : d < n := by simpa [Nat.blt_eq] using hd
  unfold wpListIn
  rw [if_pos (wants_spec ha hg)]
  refine wpIn_run rfl (run_callV (ha.eval hx) (ha.evals hargs) hvs (hc _) w) ⟨fun h => (by rw [fen_depth] at h; cases h), fen_calls ?_⟩
  refine Calls.mono hf ?_
  intro e w' he
  cases e with
  | returned v => exact h v w' he _ (ha.put hd' v)
  | panicked c => exact he.elim
  | outgrown => exact he.elim
/-- .. of a function without results. -/
theorem L.callV0 {x : Operand} {f : FuncId} {first cap : Array Value} {args : Array Operand} {ats : Array TypeId} {ty : TypeId} {pos : String} {af : Array Edge} {gd : Option (Nat × Bool)} {as vs : List Value} {Φ : Value → World → Prop}
    (hg : wants ops ρ gd = some true) (hx : ev ρ x = some (.func (.func f) first cap)) (hargs : evs ρ args.toList = some as) (hvs : first.toList ++ as ++ cap.toList = vs)
    (hc : ∀ (vs : Array Value) w, (callFunc f vs).run P w = .ok (.enter f vs) w)
    (hf : Meets P f vs w Φ) (h : ∀ v w', Φ v w' → L P B n ops ks ρ w' rest) :
    L P B n ops ks ρ w (⟨none, .call ⟨.value x, args, ats⟩, ty, pos, af, gd⟩ :: rest) := by
  intro a ha
  unfold wpListIn
  rw [if_pos (wants_spec ha hg)]
  refine wpIn_run rfl (run_callV (ha.eval hx) (ha.evals hargs) hvs (hc _) w) ⟨fun h => (by rw [fen_depth] at h; cases h), fen_calls ?_⟩
  refine Calls.mono hf ?_
  intro e w' he
  cases e with
  | returned v => exact h v w' he _ ha
  | panicked c => exact he.elim
  | outgrown => exact he.elim
/-- A call of a named function, by its contract. -/
theorem L.callF {d : Nat} {f : FuncId} {args : Array Operand} {ats : Array TypeId} {ty : TypeId} {pos : String} {af : Array Edge} {gd : Option (Nat × Bool)} {vs : List Value} {Φ : Value → World → Prop}
    (hg : wants ops ρ gd = some true) (hd : Nat.blt d n = true) (hargs : evs ρ args.toList = some vs)
    (hc : ∀ (vs : Array Value) w, (callFunc f vs).run P w = .ok (.enter f vs) w)
    (hf : Meets P f vs w Φ) (h : ∀ v w', Φ v w' → L P B n ops ks ((d, v) :: ρ) w' rest) :
    L P B n ops ks ρ w (⟨some d, .call ⟨.value (.func f), args, ats⟩, ty, pos, af, gd⟩ :: rest) :=
  L.callV hg hd (x := .func f) (first := #[]) (cap := #[]) rfl hargs (by simp) hc hf h
theorem L.callF0 {f : FuncId} {args : Array Operand} {ats : Array TypeId} {ty : TypeId} {pos : String} {af : Array Edge} {gd : Option (Nat × Bool)} {vs : List Value} {Φ : Value → World → Prop}
    (hg : wants ops ρ gd = some true) (hargs : evs ρ args.toList = some vs)
    (hc : ∀ (vs : Array Value) w, (callFunc f vs).run P w = .ok (.enter f vs) w)
    (hf : Meets P f vs w Φ) (h : ∀ v w', Φ v w' → L P B n ops ks ρ w' rest) :
    L P B n ops ks ρ w (⟨none, .call ⟨.value (.func f), args, ats⟩, ty, pos, af, gd⟩ :: rest) :=
  L.callV0 hg (x := .func f) (first := #[]) (cap := #[]) rfl hargs (by simp) hc hf h
end

theorem callFunc_run {P : Program} {f : FuncId} {fn : Func} (hf : P.funcs[f]? = some fn) (hn : (fn.name == "runtime.NumGoroutine") = false) (hb : fn.body.isNone = false) (vs : Array Value) (w : World) :
    (callFunc f vs).run P w = .ok (.enter f vs) w := by
  unfold callFunc
  simp only [Sem.run_bind, run_program, Result.andThen_ok, hf, hn, hb]
  rfl

end Brv
