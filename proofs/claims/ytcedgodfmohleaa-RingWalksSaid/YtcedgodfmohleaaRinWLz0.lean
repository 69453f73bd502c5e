/-
  Texts of this claim, put together.
-/
import Derived.WalkKit
import Derived.ProofKit
import Derived.Orders
import Derived.Deep.LoopGhost
import Derived.TacticsIn
import Derived.OrdersIn
import Derived.RangeFuncLeaves
import Derived.OwnWalk
import Derived.OpenShut
import Derived.ShutString
import Derived.ChangeOld
import Derived.SizedLaws
import Derived.Lib.MakeNoZero
import Derived.Laws.Externs
import Derived.RangeFuncSeq
/-
  A calculus for walking Go functions of the model: environments (partial knowledge of a frame's slots), a stack of continuations, one rule a form of code. Nothing here speaks of one program.
-/
namespace Brv
open Go

abbrev Env := List (Nat × Value)

def look : Env → Nat → Option Value
  | [], _ => none
  | (s, v) :: r, t => match Nat.beq s t with
    | true => some v
    | false => look r t

def ev (ρ : Env) : Operand → Option Value
  | .tmp t => look ρ t
  | .const v => some v
  | .global g => some (.pointer (some ⟨g, 0, none⟩))
  | .func f => some (.func (.func f) #[] #[])

def evs (ρ : Env) : List Operand → Option (List Value)
  | [] => some []
  | x :: r => match ev ρ x, evs ρ r with
    | some v, some vs => some (v :: vs)
    | _, _ => none

/-- A frame's size, what is deferred in it, of which loop's round it is. -/
structure Fm where
  n : Nat
  df : List Deferred
  ro : Option Nat
instance (k : Nat) : OfNat Fm k := ⟨⟨k, [], none⟩⟩
instance : Coe Fm Nat := ⟨Fm.n⟩
/-- The fence of such frames. -/
def fen : Option Nat → Fence
  | none => Fence.wide
  | some l => Fence.wide.inRound l
theorem fen_fn (r : Option Nat) (f : FuncId) : (fen r).fn f := by cases r <;> trivial
theorem fen_depth (r : Option Nat) : (fen r).depth = none := by cases r <;> rfl
theorem fen_room (r : Option Nat) (n : Nat) : (fen r).room n := fun d h => by rw [fen_depth] at h; cases h
theorem fen_calls {r : Option Nat} {n : Nat} {P : Program} {f : FuncId} {args : Array Value} {w : World} {R : Ending → World → Prop} (h : Calls P f args w R) : CallsIn (fen r) n P f args w R := by
  have := (callsIn_wide (n := n)).2 h
  cases r
  · exact this
  · exact this
theorem fen_wp {r : Option Nat} {n m : Nat} {P : Program} {c : Code} {Q : Exit → Act → World → Prop} {a : Act} {w : World} (h : c.wpIn (fen r) n P Q a w) : c.wpIn (fen r) m P Q a w :=
  fun b k cs h1 h2 _ => h b k cs h1 h2 (fen_room r _)
def isDefer : Op → Bool
  | .defer _ => true
  | _ => false
/-- An operation, as it runs in any frame. -/
theorem wpIn_run {r : Option Nat} {P : Program} {o : Oper} {a : Act} {w : World} {K : Act → World → Prop} {Q : Exit → Act → World → Prop} {res : Result Next} (hd : isDefer o.op = false) (hr : (execOp a.eval o).run P w = res)
    (h : o.uponIn (fen r) 0 P a K Q res) : o.wpIn (fen r) 0 P a w K Q := by
  refine ⟨fun f _ => fen_fn r f, ?_⟩
  rw [Oper.semAt_eq _ _ _ (fun c e => by rw [e] at hd; cases hd), hr]
  exact h
/-- What is known of a frame: its size, what is deferred, some slots. -/
structure Fr (n : Fm) (ρ : Env) (a : Act) : Prop where
  size : a.tmps.size = n.n
  defers : a.defers = n.df
  vals : ∀ t v, look ρ t = some v → a.tmps[t]? = some v

def Sub (ρ' ρ : Env) : Prop := ∀ t v, look ρ' t = some v → look ρ t = some v

theorem look_cons (s : Nat) (v : Value) (r : Env) (t : Nat) : look ((s, v) :: r) t = if s = t then some v else look r t := by
  simp only [look]
  by_cases h : s = t
  · have hb : Nat.beq s t = true := by subst h; exact Nat.beq_refl s
    rw [hb]; simp [h]
  · have hb : Nat.beq s t = false := by
      cases hq : Nat.beq s t with
      | false => rfl
      | true => exact absurd (Nat.eq_of_beq_eq_true hq) h
    rw [hb]; simp [h]

theorem Sub.nil (ρ : Env) : Sub [] ρ := fun _ _ h => by cases h
theorem Sub.refl (ρ : Env) : Sub ρ ρ := fun _ _ h => h
theorem Sub.cons {t : Nat} {v : Value} {r ρ : Env} (h : look ρ t = some v) (hr : Sub r ρ) : Sub ((t, v) :: r) ρ := by
  intro s u hs
  rw [look_cons] at hs
  split at hs
  · rename_i e; subst e; cases hs; exact h
  · exact hr s u hs

theorem Fr.sub {n : Fm} {ρ ρ' : Env} {a : Act} (h : Fr n ρ a) (hs : Sub ρ' ρ) : Fr n ρ' a :=
  ⟨h.size, h.defers, fun t v hv => h.vals t v (hs t v hv)⟩

theorem Fr.eval {n : Fm} {ρ : Env} {a : Act} (h : Fr n ρ a) {x : Operand} {v : Value} (hx : ev ρ x = some v) : a.eval x = v := by
  cases x with
  | tmp t =>
    have := h.vals t v hx
    simp [Act.eval, this]
  | const c => simpa [ev, Act.eval] using hx
  | global g => simpa [ev, Act.eval] using hx
  | func f => simpa [ev, Act.eval] using hx

theorem Fr.evals {n : Fm} {ρ : Env} {a : Act} (h : Fr n ρ a) : ∀ {xs : List Operand} {vs : List Value}, evs ρ xs = some vs → xs.map a.eval = vs
  | [], vs, hx => by simp [evs] at hx; simp [hx]
  | x :: r, vs, hx => by
    simp only [evs] at hx
    split at hx
    · rename_i v vs' h1 h2
      cases hx
      simp [h.eval h1, h.evals h2]
    · cases hx

theorem Fr.put {n : Fm} {ρ : Env} {a : Act} (h : Fr n ρ a) {d : Nat} (hd : d < n) (v : Value) : Fr n ((d, v) :: ρ) (a.put (some d) v) := by
  refine ⟨by simp [Act.put, h.size], by simp [Act.put, h.defers], ?_⟩
  intro t u ht
  rw [look_cons] at ht
  simp only [Act.put]
  split at ht
  · rename_i e; subst e; cases ht
    simp [h.size, hd]
  · rename_i e
    rw [Array.getElem?_setIfInBounds_ne (by omega)]
    exact h.vals t u ht

theorem wpIn_loop_ghost {F : Fence} {rm : Nat} {P : Program} {Q : Exit → Act → World → Prop} {a : Act} {w : World} {c : Code} (I : Nat → Act → World → Prop) (n₀ : Nat) (h₀ : I n₀ a w)
    (round : ∀ n a w, I n a w → c.wpIn F rm P (Exit.then (fun a' w' => ∃ n', n' < n ∧ I n' a' w') Q) a w) : (Code.loop c).wpIn F rm P Q a w := by
  refine wpIn_loop (fun a w => ∃ n, I n a w) (fun a w => leastOf (fun n => I n a w)) ⟨n₀, h₀⟩ ?_
  intro a w hI
  refine wpIn_mono (round _ a w (leastOf_spec hI).1) ?_
  intro e a' w' hq
  cases e with
  | normal =>
    obtain ⟨n', hlt, hI'⟩ := hq
    exact show (∃ n, I n a' w') ∧ leastOf (fun n => I n a' w') < leastOf (fun n => I n a w) from ⟨⟨n', hI'⟩, Nat.lt_of_le_of_lt ((leastOf_spec ⟨n', hI'⟩).2 n' hI') hlt⟩
  | exit id => exact hq
  | goto l => exact hq
  | ret => exact hq
  | panic ch => exact hq
  | outgrown => exact hq

/-- The stack of continuations. -/
inductive K where
  | seq (y : Code)
  | block (id : Nat)
  | hand (J : Act → World → Prop)

def sem (P : Program) (r : Option Nat) (B : Exit → Act → World → Prop) : List K → Exit → Act → World → Prop
  | [] => B
  | .seq y :: ks => Exit.then (y.wpIn (fen r) 0 P (sem P r B ks)) (sem P r B ks)
  | .block id :: ks => Exit.inBlock id (sem P r B ks)
  | .hand J :: ks => Exit.then J (sem P r B ks)

section
variable (P : Program) (B : Exit → Act → World → Prop) (n : Fm)

/-- Code c, then the stack. -/
def G (ks : List K) (ρ : Env) (w : World) (c : Code) : Prop := ∀ a, Fr n ρ a → c.wpIn (fen n.ro) 0 P (sem P n.ro B ks) a w
/-- The stack, reached in the normal way. -/
def N (ks : List K) (ρ : Env) (w : World) : Prop := ∀ a, Fr n ρ a → sem P n.ro B ks .normal a w
/-- A region's operations, then the stack. -/
def L (ops : List Oper) (ks : List K) (ρ : Env) (w : World) (l : List Oper) : Prop :=
  ∀ a, Fr n ρ a → wpListIn (fen n.ro) 0 P ops.toArray (sem P n.ro B ks) l a w
end

section
variable {P : Program} {B : Exit → Act → World → Prop} {n : Fm} {ks : List K} {ρ : Env} {w : World}

theorem G.sub {c : Code} (ρ' : Env) (hs : Sub ρ' ρ) (h : G P B n ks ρ' w c) : G P B n ks ρ w c := fun a ha => h a (ha.sub hs)
theorem N.sub (ρ' : Env) (hs : Sub ρ' ρ) (h : N P B n ks ρ' w) : N P B n ks ρ w := fun a ha => h a (ha.sub hs)

theorem G.seq {x y : Code} (h : G P B n (.seq y :: ks) ρ w x) : G P B n ks ρ w (.seq x y) := fun a ha => wpIn_seq (h a ha)
theorem G.block {id : Nat} {c : Code} (h : G P B n (.block id :: ks) ρ w c) : G P B n ks ρ w (.block id c) := fun a ha => wpIn_block (h a ha)
theorem G.skip (h : N P B n ks ρ w) : G P B n ks ρ w .skip := fun a ha => wpIn_skip (h a ha)
theorem G.region {id : Nat} {l : List Oper} (h : L P B n l ks ρ w l) : G P B n ks ρ w (.region id l.toArray false) :=
  fun a ha => wpIn_region_list (by simpa using h a ha)
theorem N.seq {y : Code} (h : G P B n ks ρ w y) : N P B n (.seq y :: ks) ρ w := fun a ha => h a ha
theorem N.block {id : Nat} (h : N P B n ks ρ w) : N P B n (.block id :: ks) ρ w := fun a ha => h a ha
theorem N.hand {J : Act → World → Prop} (h : ∀ a, Fr n ρ a → J a w) : N P B n (.hand J :: ks) ρ w := fun a ha => h a ha
theorem N.done (h : ∀ a, Fr n ρ a → B .normal a w) : N P B n [] ρ w := fun a ha => h a ha

/-- The stack behind a block's exit. -/
def popTo (id : Nat) : List K → Option (List K)
  | [] => none
  | .block id' :: ks => if id = id' then some ks else popTo id ks
  | .seq _ :: ks => popTo id ks
  | .hand _ :: ks => popTo id ks

theorem sem_exit {r : Option Nat} {id : Nat} {a : Act} {w : World} : ∀ {ks ks' : List K}, popTo id ks = some ks' → sem P r B ks' .normal a w → sem P r B ks (.exit id) a w
  | [], _, h, _ => by cases h
  | .block id' :: ks, ks', h, hn => by
    simp only [popTo] at h
    simp only [sem, Exit.inBlock]
    split at h
    · rename_i e; cases h; simp [e]; exact hn
    · rename_i e; simp [e]; exact sem_exit h hn
  | .seq _ :: ks, ks', h, hn => sem_exit (ks := ks) h hn
  | .hand _ :: ks, ks', h, hn => sem_exit (ks := ks) h hn

theorem sem_ret {r : Option Nat} {a : Act} {w : World} : ∀ {ks : List K}, B .ret a w → sem P r B ks .ret a w
  | [], h => h
  | .block _ :: ks, h => sem_ret (ks := ks) h
  | .seq _ :: ks, h => sem_ret (ks := ks) h
  | .hand _ :: ks, h => sem_ret (ks := ks) h

theorem G.exit {id : Nat} (ks' : List K) (h : popTo id ks = some ks') (hn : N P B n ks' ρ w) : G P B n ks ρ w (.exit id) :=
  fun a ha => wpIn_exit (sem_exit h (hn a ha))
theorem G.ret (h : ∀ a, Fr n ρ a → B .ret a w) : G P B n ks ρ w .ret := fun a ha => wpIn_ret (sem_ret (h a ha))

theorem G.condT {c : Operand} {x y : Code} (hc : ev ρ c = some (.bool true)) (h : G P B n ks ρ w x) : G P B n ks ρ w (.cond c x y) :=
  fun a ha => wpIn_cond_true (ha.eval hc) (h a ha)
theorem G.condF {c : Operand} {x y : Code} (hc : ev ρ c = some (.bool false)) (h : G P B n ks ρ w y) : G P B n ks ρ w (.cond c x y) :=
  fun a ha => wpIn_cond_false (ha.eval hc) (h a ha)
theorem G.condB {c : Operand} {x y : Code} {b : Bool} (hc : ev ρ c = some (.bool b)) (ht : b = true → G P B n ks ρ w x) (hf : b = false → G P B n ks ρ w y) :
    G P B n ks ρ w (.cond c x y) := by
  cases b
  · exact G.condF hc (hf rfl)
  · exact G.condT hc (ht rfl)
theorem G.condP {c : Operand} {x y : Code} {p : Prop} {dp : Decidable p} (hc : ev ρ c = some (.bool (@decide p dp))) (ht : p → G P B n ks ρ w x) (hf : ¬ p → G P B n ks ρ w y) :
    G P B n ks ρ w (.cond c x y) :=
  G.condB hc (fun h => ht (of_decide_eq_true h)) (fun h => hf (of_decide_eq_false h))
/-- The ways meet again: what J says is enough for the rest. -/
theorem G.cut {X : Type} (ρJ : X → Env) (J : X → World → Prop) {c : Code} (h : G P B n (.hand (fun a' w' => ∃ x, Fr n (ρJ x) a' ∧ J x w') :: ks) ρ w c)
    (hn : ∀ x w', J x w' → N P B n ks (ρJ x) w') : G P B n ks ρ w c := by
  intro a ha
  refine wpIn_mono (h a ha) ?_
  intro e a' w' hq
  cases e with
  | normal => obtain ⟨x, hf, hj⟩ := hq; exact hn x w' hj a' hf
  | exit id => exact hq
  | goto l => exact hq
  | ret => exact hq
  | panic ch => exact hq
  | outgrown => exact hq
theorem N.handX {X : Type} {ρJ : X → Env} {J : X → World → Prop} (x : X) (hs : Sub (ρJ x) ρ) (h : J x w) :
    N P B n (.hand (fun a' w' => ∃ x, Fr n (ρJ x) a' ∧ J x w') :: ks) ρ w :=
  N.hand fun _ ha => ⟨x, ha.sub hs, h⟩

/-- A loop: a relation I x between the proof's own x and the world, the slots that x tells, a measure of x. -/
theorem G.loop {X : Type} (ρI : X → Env) (I : X → World → Prop) (μ : X → Nat) (x₀ : X) {c : Code} (hs : Sub (ρI x₀) ρ) (h₀ : I x₀ w)
    (round : ∀ x w, I x w → G P B n (.hand (fun a' w' => ∃ x', μ x' < μ x ∧ Fr n (ρI x') a' ∧ I x' w') :: ks) (ρI x) w c) : G P B n ks ρ w (.loop c) := by
  intro a ha
  refine wpIn_loop_ghost (fun k a w => ∃ x, μ x = k ∧ Fr n (ρI x) a ∧ I x w) (μ x₀) ⟨x₀, rfl, ha.sub hs, h₀⟩ ?_
  rintro k a w ⟨x, rfl, hf, hI⟩
  refine wpIn_mono (round x w hI a hf) ?_
  intro e a' w' hq
  cases e with
  | normal => obtain ⟨x', hlt, hf', hI'⟩ := hq; exact ⟨μ x', hlt, x', rfl, hf', hI'⟩
  | exit id => exact hq
  | goto l => exact hq
  | ret => exact hq
  | panic ch => exact hq
  | outgrown => exact hq
theorem N.again {X : Type} {ρI : X → Env} {I : X → World → Prop} {μ : X → Nat} {x : X} (x' : X) (hlt : μ x' < μ x) (hs : Sub (ρI x') ρ) (h : I x' w) :
    N P B n (.hand (fun a' w' => ∃ x', μ x' < μ x ∧ Fr n (ρI x') a' ∧ I x' w') :: ks) ρ w :=
  N.hand fun _ ha => ⟨x', hlt, ha.sub hs, h⟩

/-! ## A function's contract -/
end

/-- The call returns, and what it returns is so. -/
def Ret (Φ : Value → World → Prop) : Ending → World → Prop
  | .returned v, w => Φ v w
  | _, _ => False
def Meets (P : Program) (f : FuncId) (args : List Value) (w : World) (Φ : Value → World → Prop) : Prop := Calls P f args.toArray w (Ret Φ)

theorem Meets.mono {P : Program} {f : FuncId} {args : List Value} {w : World} {Φ Φ' : Value → World → Prop} (h : Meets P f args w Φ) (hm : ∀ v w', Φ v w' → Φ' v w') : Meets P f args w Φ' :=
  Calls.mono h fun e w' he => by cases e <;> first | exact hm _ _ he | exact he

def Func.base (P : Program) (fn : Func) (Φ : Value → World → Prop) : Exit → Act → World → Prop := bodyPostM Fence.wide 0 P fn (Ret Φ)

def argEnv : Nat → List Value → Env
  | _, [] => []
  | i, v :: vs => (i, v) :: argEnv (i + 1) vs

theorem look_argEnv : ∀ (vs : List Value) (i t : Nat) (v : Value), look (argEnv i vs) t = some v → ∃ j, t = i + j ∧ vs[j]? = some v
  | [], i, t, v, h => by cases h
  | u :: vs, i, t, v, h => by
    simp only [argEnv] at h
    rw [look_cons] at h
    split at h
    · rename_i e; cases h; exact ⟨0, by omega, rfl⟩
    · obtain ⟨j, hj, hv⟩ := look_argEnv vs (i + 1) t v h
      exact ⟨j + 1, by omega, by simpa using hv⟩

theorem Meets.enter {P : Program} {f : FuncId} {fn : Func} {c : Code} {args : List Value} {w : World} {Φ : Value → World → Prop} (hf : P.funcs[f]? = some fn) (hb : fn.body = some c)
    (n : Nat) (hn : fn.ntmps = n) (hl : args.length ≤ n) (h : G P (Func.base P fn Φ) ⟨n, [], none⟩ [] (argEnv 0 args) w c) : Meets P f args w Φ := by
  refine callsIn_wide.1 (callsIn_of_wp_marks (F := Fence.wide) (n := 0) hf hb trivial (h _ ⟨?_, rfl, ?_⟩))
  · simp; omega
  · intro t v ht
    obtain ⟨j, rfl, hv⟩ := look_argEnv _ _ _ _ ht
    have hj : j < args.length := by
      rcases Nat.lt_or_ge j args.length with h | h
      · exact h
      · rw [List.getElem?_eq_none h] at hv; cases hv
    simp only [Nat.zero_add]
    rw [Array.getElem?_append_left (by simpa using hj)]
    simpa using hv

/-- The marks of the frame's ranges over functions are taken away. -/
def Leave (P : Program) : List Deferred → World → World → Prop
  | [], w, w' => w' = w
  | d :: ds, w, w' => ∃ D w₁, d.target = .collected D ∧ (Instr.takeDeferred D).run P w = .ok [] w₁ ∧ Leave P ds w₁ w'
theorem leave_leaves {P : Program} {fn : Func} {tmps : Array Value} {v : Value} {w' : World} {Φ : Value → World → Prop} (hv : (results fn tmps).run P w' = .ok v w') (h : Φ v w') : ∀ {ds : List Deferred} {w : World}, Leave P ds w w' →
    LeavesInM Fence.wide 0 P fn tmps (Ret Φ) ds .returning w
  | [], w, hl => by
    cases hl
    exact ⟨v, hv, h⟩
  | d :: ds, w, ⟨D, w₁, hD, ht, hl⟩ => ⟨by simp, .inl ⟨D, w₁, hD, ht, leave_leaves hv h hl⟩⟩
section
variable {P : Program} {n : Fm} {ks : List K} {ρ : Env} {w w' : World} {fn : Func} {Φ : Value → World → Prop}
theorem G.retM {v : Value} (hl : Leave P n.df w w') (hv : ∀ a, Fr n ρ a → (results fn a.tmps).run P w' = .ok v w') (h : Φ v w') : G P (Func.base P fn Φ) n ks ρ w .ret :=
  G.ret fun a ha => by
    show LeavesInM Fence.wide 0 P fn a.tmps (Ret Φ) a.defers .returning w
    rw [ha.defers]
    exact leave_leaves (hv a ha) h hl
theorem N.endM {v : Value} (hl : Leave P n.df w w') (hv : ∀ a, Fr n ρ a → (results fn a.tmps).run P w' = .ok v w') (h : Φ v w') : N P (Func.base P fn Φ) n [] ρ w :=
  N.done fun a ha => by
    show LeavesInM Fence.wide 0 P fn a.tmps (Ret Φ) a.defers .returning w
    rw [ha.defers]
    exact leave_leaves (hv a ha) h hl
theorem Fr.getD {a : Act} {t : Nat} {v : Value} (ha : Fr n ρ a) (hv : look ρ t = some v) : a.tmps.getD t undef = v := by
  have := ha.vals t v hv
  rw [Array.getD_eq_getD_getElem?, this]; rfl
theorem res1 {a : Act} {t : Nat} {v : Value} (hr : fn.results = #[.tmp t]) (hv : look ρ t = some v) (ha : Fr n ρ a) : (results fn a.tmps).run P w = .ok v w := by
  rw [results_tmp hr, ha.getD hv]
theorem res2 {a : Act} {t u : Nat} {v x : Value} (hr : fn.results = #[.tmp t, .tmp u]) (hv : look ρ t = some v) (hx : look ρ u = some x) (ha : Fr n ρ a) : (results fn a.tmps).run P w = .ok (.tuple #[v, x]) w := by
  rw [results_tmp2 hr, ha.getD hv, ha.getD hx]
theorem res3 {a : Act} {t u s : Nat} {v x y : Value} (hr : fn.results = #[.tmp t, .tmp u, .tmp s]) (hv : look ρ t = some v) (hx : look ρ u = some x) (hy : look ρ s = some y) (ha : Fr n ρ a) : (results fn a.tmps).run P w = .ok (.tuple #[v, x, y]) w := by
  rw [results_tmp3 hr, ha.getD hv, ha.getD hx, ha.getD hy]
theorem G.ret1M {t : Nat} {v : Value} (hr : fn.results = #[.tmp t]) (hv : look ρ t = some v) (hl : Leave P n.df w w') (h : Φ v w') : G P (Func.base P fn Φ) n ks ρ w .ret := G.retM hl (fun _ ha => res1 hr hv ha) h
theorem G.ret2M {t u : Nat} {v x : Value} (hr : fn.results = #[.tmp t, .tmp u]) (hv : look ρ t = some v) (hx : look ρ u = some x) (hl : Leave P n.df w w') (h : Φ (.tuple #[v, x]) w') : G P (Func.base P fn Φ) n ks ρ w .ret := G.retM hl (fun _ ha => res2 hr hv hx ha) h
theorem G.ret3M {t u s : Nat} {v x y : Value} (hr : fn.results = #[.tmp t, .tmp u, .tmp s]) (hv : look ρ t = some v) (hx : look ρ u = some x) (hy : look ρ s = some y) (hl : Leave P n.df w w') (h : Φ (.tuple #[v, x, y]) w') : G P (Func.base P fn Φ) n ks ρ w .ret := G.retM hl (fun _ ha => res3 hr hv hx hy ha) h
theorem G.ret0M (hr : fn.results = #[]) (hl : Leave P n.df w w') (h : Φ (.tuple #[]) w') : G P (Func.base P fn Φ) n ks ρ w .ret := G.retM hl (fun _ _ => by rw [results_none hr]) h
theorem N.end0M (hr : fn.results = #[]) (hl : Leave P n.df w w') (h : Φ (.tuple #[]) w') : N P (Func.base P fn Φ) n [] ρ w := N.endM hl (fun _ _ => by rw [results_none hr]) h
end
section
variable {P : Program} {n : Nat} {ks : List K} {ρ : Env} {w : World} {fn : Func} {Φ : Value → World → Prop}
theorem G.ret1 {t : Nat} {v : Value} (hr : fn.results = #[.tmp t]) (hv : look ρ t = some v) (h : Φ v w) : G P (Func.base P fn Φ) ⟨n, [], none⟩ ks ρ w .ret := G.ret1M hr hv rfl h
theorem G.ret2 {t u : Nat} {v x : Value} (hr : fn.results = #[.tmp t, .tmp u]) (hv : look ρ t = some v) (hx : look ρ u = some x) (h : Φ (.tuple #[v, x]) w) : G P (Func.base P fn Φ) ⟨n, [], none⟩ ks ρ w .ret := G.ret2M hr hv hx rfl h
theorem G.ret3 {t u s : Nat} {v x y : Value} (hr : fn.results = #[.tmp t, .tmp u, .tmp s]) (hv : look ρ t = some v) (hx : look ρ u = some x) (hy : look ρ s = some y) (h : Φ (.tuple #[v, x, y]) w) : G P (Func.base P fn Φ) ⟨n, [], none⟩ ks ρ w .ret := G.ret3M hr hv hx hy rfl h
theorem G.ret0 (hr : fn.results = #[]) (h : Φ (.tuple #[]) w) : G P (Func.base P fn Φ) ⟨n, [], none⟩ ks ρ w .ret := G.ret0M hr rfl h
theorem N.end0 (hr : fn.results = #[]) (h : Φ (.tuple #[]) w) : N P (Func.base P fn Φ) ⟨n, [], none⟩ [] ρ w := N.end0M hr rfl h
end

/-! ## Operations -/
section
variable {P : Program} {B : Exit → Act → World → Prop} {n : Fm} {ops : List Oper} {ks : List K} {ρ : Env} {w : World} {rest : List Oper}

theorem L.nil (h : N P B n ks ρ w) : L P B n ops ks ρ w [] := fun a ha => wpListIn_nil (h a ha)

/-- Does the operation run? (its guard, as far as it is known) -/
def wants (ops : List Oper) (ρ : Env) : Option (Nat × Bool) → Option Bool
  | none => some true
  | some (j, want) => match (ops[j]?).bind (·.dst) with
    | some d => match look ρ d with
      | some (.bool b) => some (b == want)
      | some (.tuple _) => some false
      | _ => none
    | none => some false

theorem wants_spec {ρ : Env} {a : Act} (ha : Fr n ρ a) {o : Oper} {r : Bool} (h : wants ops ρ o.guard = some r) : Region.wanted o (yielded ops.toArray a.tmps) = r := by
  unfold Region.wanted
  cases hg : o.guard with
  | none => rw [hg] at h; simpa [wants] using h
  | some g =>
    obtain ⟨j, want⟩ := g
    rw [hg] at h
    simp only [wants] at h
    simp only [yielded]
    cases hd : (ops[j]?).bind (·.dst) with
    | none =>
      rw [hd] at h
      cases h
      simp [hd]
    | some d =>
      rw [hd] at h
      simp only [List.getElem?_toArray, hd]
      dsimp only at h
      cases hv : look ρ d with
      | none => rw [hv] at h; cases h
      | some v =>
        have hval := ha.vals d v hv
        rw [hv] at h
        cases v <;> simp_all <;> (try rfl)

/-- The operation runs, gives v and leaves w'. -/
def Runs (P : Program) (n : Fm) (ρ : Env) (w : World) (o : Oper) (v : Value) (w' : World) : Prop := ∀ a, Fr n ρ a → (execOp a.eval o).run P w = .ok (.value v) w'
/-- The operation runs, and of what it gives and leaves Φ holds. -/
def Does (P : Program) (n : Fm) (ρ : Env) (w : World) (o : Oper) (Φ : Value → World → Prop) : Prop := ∃ v w', Runs P n ρ w o v w' ∧ Φ v w'
/-- The operation runs, gives nothing, and of what it leaves Φ holds. -/
def Sets (P : Program) (n : Fm) (ρ : Env) (w : World) (o : Oper) (Φ : World → Prop) : Prop := ∃ w', (∀ a, Fr n ρ a → (execOp a.eval o).run P w = .ok .skip w') ∧ Φ w'
theorem Does.of {o : Oper} {v : Value} {w' : World} {Φ : Value → World → Prop} (h : Runs P n ρ w o v w') (hΦ : Φ v w') : Does P n ρ w o Φ := ⟨v, w', h, hΦ⟩
theorem Does.mono {o : Oper} {Φ Φ' : Value → World → Prop} (h : Does P n ρ w o Φ) (hm : ∀ v w', Φ v w' → Φ' v w') : Does P n ρ w o Φ' := let ⟨v, w', hr, hΦ⟩ := h; ⟨v, w', hr, hm v w' hΦ⟩
theorem Sets.mono {o : Oper} {Φ Φ' : World → Prop} (h : Sets P n ρ w o Φ) (hm : ∀ w', Φ w' → Φ' w') : Sets P n ρ w o Φ' := let ⟨w', hr, hΦ⟩ := h; ⟨w', hr, hm w' hΦ⟩

theorem L.do {d : Nat} {op : Op} {ty : TypeId} {pos : String} {af : Array Edge} {gd : Option (Nat × Bool)} {Φ : Value → World → Prop} (hg : wants ops ρ gd = some true) (hd : Nat.blt d n = true)
    (hrun : Does P n ρ w ⟨some d, op, ty, pos, af, gd⟩ Φ) (h : ∀ v w', Φ v w' → L P B n ops ks ((d, v) :: ρ) w' rest) (hdf : isDefer op = false := by rfl) :
    L P B n ops ks ρ w (⟨some d, op, ty, pos, af, gd⟩ :: rest) := by
  intro a ha
  have hd' : d < n := by simpa [Nat.blt_eq] using hd
  unfold wpListIn
  rw [if_pos (wants_spec ha hg)]
  obtain ⟨v, w', hr, hΦ⟩ := hrun
  refine wpIn_run hdf (hr a ha) ?_
  exact h v w' hΦ _ (ha.put hd' v)
theorem L.val {d : Nat} {op : Op} {ty : TypeId} {pos : String} {af : Array Edge} {gd : Option (Nat × Bool)} {v : Value} {w' : World} (hg : wants ops ρ gd = some true) (hd : Nat.blt d n = true)
    (hrun : Runs P n ρ w ⟨some d, op, ty, pos, af, gd⟩ v w') (h : L P B n ops ks ((d, v) :: ρ) w' rest) (hdf : isDefer op = false := by rfl) :
    L P B n ops ks ρ w (⟨some d, op, ty, pos, af, gd⟩ :: rest) :=
  L.do hg hd (Φ := fun v' w'' => v' = v ∧ w'' = w') (Does.of hrun ⟨rfl, rfl⟩) (by rintro _ _ ⟨rfl, rfl⟩; exact h) hdf
theorem L.set {op : Op} {ty : TypeId} {pos : String} {af : Array Edge} {gd : Option (Nat × Bool)} {Φ : World → Prop} (hg : wants ops ρ gd = some true)
    (hrun : Sets P n ρ w ⟨none, op, ty, pos, af, gd⟩ Φ) (h : ∀ w', Φ w' → L P B n ops ks ρ w' rest) (hdf : isDefer op = false := by rfl) :
    L P B n ops ks ρ w (⟨none, op, ty, pos, af, gd⟩ :: rest) := by
  intro a ha
  unfold wpListIn
  rw [if_pos (wants_spec ha hg)]
  obtain ⟨w', hr, hΦ⟩ := hrun
  refine wpIn_run hdf (hr a ha) ?_
  exact h w' hΦ _ ha
/-- An operation that is passed over. -/
theorem L.pass {d : Nat} {op : Op} {ty : TypeId} {pos : String} {af : Array Edge} {gd : Option (Nat × Bool)} (hg : wants ops ρ gd = some false) (hd : Nat.blt d n = true)
    (h : L P B n ops ks ((d, undef) :: ρ) w rest) : L P B n ops ks ρ w (⟨some d, op, ty, pos, af, gd⟩ :: rest) := by
  intro a ha
  have hd' : d < n := by simpa [Nat.blt_eq] using hd
  unfold wpListIn
  have hw : Region.wanted ⟨some d, op, ty, pos, af, gd⟩ (yielded ops.toArray a.tmps) = false := wants_spec (o := ⟨some d, op, ty, pos, af, gd⟩) ha hg
  rw [hw]
  exact ⟨fun f _ => fen_fn _ f, h _ (ha.put hd' undef)⟩
theorem L.pass0 {op : Op} {ty : TypeId} {pos : String} {af : Array Edge} {gd : Option (Nat × Bool)} (hg : wants ops ρ gd = some false)
    (h : L P B n ops ks ρ w rest) : L P B n ops ks ρ w (⟨none, op, ty, pos, af, gd⟩ :: rest) := by
  intro a ha
  unfold wpListIn
  have hw : Region.wanted ⟨none, op, ty, pos, af, gd⟩ (yielded ops.toArray a.tmps) = false := wants_spec (o := ⟨none, op, ty, pos, af, gd⟩) ha hg
  rw [hw]
  exact ⟨fun f _ => fen_fn _ f, h _ ha⟩
theorem L.caseB {b : Bool} (d : Nat) (hv : look ρ d = some (.bool b)) (ht : b = true → L P B n ops ks ((d, .bool true) :: ρ) w rest) (hf : b = false → L P B n ops ks ((d, .bool false) :: ρ) w rest) :
    L P B n ops ks ρ w rest := by
  intro a ha
  have hput : ∀ b', b = b' → Fr n ((d, .bool b') :: ρ) a := by
    intro b' e; subst e
    exact ha.sub (Sub.cons hv (Sub.refl _))
  cases b
  · exact hf rfl a (hput _ rfl)
  · exact ht rfl a (hput _ rfl)
theorem L.caseP {p : Prop} {dp : Decidable p} (d : Nat) (hv : look ρ d = some (.bool (@decide p dp))) (ht : p → L P B n ops ks ((d, .bool true) :: ρ) w rest) (hf : ¬ p → L P B n ops ks ((d, .bool false) :: ρ) w rest) :
    L P B n ops ks ρ w rest :=
  L.caseB d hv (fun h => ht (of_decide_eq_true h)) (fun h => hf (of_decide_eq_false h))
theorem L.isT {b : Bool} (d : Nat) (hv : look ρ d = some (.bool b)) (e : b = true) (h : L P B n ops ks ((d, .bool true) :: ρ) w rest) : L P B n ops ks ρ w rest := L.caseB d hv (fun _ => h) (fun h' => by rw [e] at h'; cases h')
theorem L.isF {b : Bool} (d : Nat) (hv : look ρ d = some (.bool b)) (e : b = false) (h : L P B n ops ks ((d, .bool false) :: ρ) w rest) : L P B n ops ks ρ w rest := L.caseB d hv (fun h' => by rw [e] at h'; cases h') (fun _ => h)
/-- A slot's value, spelled otherwise. -/
theorem L.be {v v' : Value} (d : Nat) (hv : look ρ d = some v) (e : v = v') (h : L P B n ops ks ((d, v') :: ρ) w rest) : L P B n ops ks ρ w rest := by
  subst e
  exact fun a ha => h a (ha.sub (Sub.cons hv (Sub.refl _)))
theorem G.be {v v' : Value} {c : Code} (d : Nat) (hv : look ρ d = some v) (e : v = v') (h : G P B n ks ((d, v') :: ρ) w c) : G P B n ks ρ w c := by
  subst e
  exact fun a ha => h a (ha.sub (Sub.cons hv (Sub.refl _)))
theorem L.sub (ρ' : Env) (hs : Sub ρ' ρ) (h : L P B n ops ks ρ' w rest) : L P B n ops ks ρ w rest := fun a ha => h a (ha.sub hs)

theorem run_callV {a : Act} {d : Option Tmp} {x : Operand} {f : FuncId} {first cap : Array Value} {args : Array Operand} {ats : Array TypeId} {ty : TypeId} {pos : String} {af : Array Edge} {gd : Option (Nat × Bool)} {as vs : List Value}
    (hx : a.eval x = .func (.func f) first cap) (he : args.toList.map a.eval = as) (hvs : first.toList ++ as ++ cap.toList = vs)
    (hc : ∀ w, (callFunc f vs.toArray).run P w = .ok (.enter f vs.toArray) w) (w : World) :
    (execOp a.eval ⟨d, .call ⟨.value x, args, ats⟩, ty, pos, af, gd⟩).run P w = .ok (.enter f vs.toArray) w := by
  have he' : args.map a.eval = as.toArray := by
    apply Array.toList_inj.1
    simpa using he
  have h2 : execOp a.eval ⟨d, .call ⟨.value x, args, ats⟩, ty, pos, af, gd⟩ = (do let x ← resolve a.eval ⟨.value x, args, ats⟩ ty; invoke x.target x.args) := rfl
  have h3 : resolve a.eval ⟨.value x, args, ats⟩ ty = pure ⟨.fn (.func f) cap, first ++ as.toArray⟩ := by
    simp only [resolve, he', hx]
    rfl
  rw [h2, h3]
  simp only [Sem.run_bind, Sem.run_pure, Result.andThen_ok]
  show (callFunc f ((first ++ as.toArray) ++ cap)).run P w = _
  have h4 : (first ++ as.toArray) ++ cap = vs.toArray := by
    apply Array.toList_inj.1
    simpa using hvs
  rw [h4]
  exact hc w

/-- A call of a function value, by the function's contract. -/
theorem L.callV {d : Nat} {x : Operand} {f : FuncId} {first cap : Array Value} {args : Array Operand} {ats : Array TypeId} {ty : TypeId} {pos : String} {af : Array Edge} {gd : Option (Nat × Bool)} {as vs : List Value} {Φ : Value → World → Prop}
    (hg : wants ops ρ gd = some true) (hd : Nat.blt d n = true) (hx : ev ρ x = some (.func (.func f) first cap)) (hargs : evs ρ args.toList = some as) (hvs : first.toList ++ as ++ cap.toList = vs)
    (hc : ∀ (vs : Array Value) w, (callFunc f vs).run P w = .ok (.enter f vs) w)
    (hf : Meets P f vs w Φ) (h : ∀ v w', Φ v w' → L P B n ops ks ((d, v) :: ρ) w' rest) :
    L P B n ops ks ρ w (⟨some d, .call ⟨.value x, args, ats⟩, ty, pos, af, gd⟩ :: rest) := by
  intro a ha
  have hd' : d < n := by simpa [Nat.blt_eq] using hd
  unfold wpListIn
  rw [if_pos (wants_spec ha hg)]
  refine wpIn_run rfl (run_callV (ha.eval hx) (ha.evals hargs) hvs (hc _) w) ⟨fun h => (by rw [fen_depth] at h; cases h), fen_calls ?_⟩
  refine Calls.mono hf ?_
  intro e w' he
  cases e with
  | returned v => exact h v w' he _ (ha.put hd' v)
  | panicked c => exact he.elim
  | outgrown => exact he.elim
end

theorem callFunc_run {P : Program} {f : FuncId} {fn : Func} (hf : P.funcs[f]? = some fn) (hn : (fn.name == "runtime.NumGoroutine") = false) (hb : fn.body.isNone = false) (vs : Array Value) (w : World) :
    (callFunc f vs).run P w = .ok (.enter f vs) w := by
  unfold callFunc
  simp only [Sem.run_bind, run_program, Result.andThen_ok, hf, hn, hb]
  rfl

end Brv
/-
  Worlds and what is known of them: what changed (Ext), cells that are read (Cells), blocks (Blk), a slice's own row (Own). Rules for the operations that only reckon.
-/
namespace Brv
open Go

/-! ## Worlds -/

/-- From w to w' nothing has changed but the blocks of M and what is new. -/
structure Ext (M : List Nat) (w w' : World) : Prop where
  os : w'.os = w.os
  tape : w'.tape = w.tape
  output : w'.output = w.output
  size : w.heap.size ≤ w'.heap.size
  keep : ∀ k, k < w.heap.size → k ∉ M → w'.heap[k]? = w.heap[k]?

theorem Ext.refl (M : List Nat) (w : World) : Ext M w w := ⟨rfl, rfl, rfl, Nat.le_refl _, fun _ _ _ => rfl⟩
theorem Ext.trans {M M₁ M₂ : List Nat} {a b c : World} (h : Ext M₁ a b) (k : Ext M₂ b c) (h1 : ∀ x ∈ M₁, x ∈ M ∨ a.heap.size ≤ x) (h2 : ∀ x ∈ M₂, x ∈ M ∨ a.heap.size ≤ x) : Ext M a c :=
  ⟨k.os.trans h.os, k.tape.trans h.tape, k.output.trans h.output, Nat.le_trans h.size k.size, fun i hi hm =>
    (k.keep i (Nat.lt_of_lt_of_le hi h.size) (fun hx => (h2 i hx).elim hm (by omega))).trans (h.keep i hi (fun hx => (h1 i hx).elim hm (by omega)))⟩
theorem Ext.mono {M M' : List Nat} {a b : World} (h : Ext M a b) (hm : ∀ x ∈ M, x ∈ M' ∨ a.heap.size ≤ x) : Ext M' a b :=
  (h.trans (Ext.refl [] b) hm (by simp))
theorem Ext.trans0 {M : List Nat} {a b c : World} (h : Ext M a b) (k : Ext [] b c) : Ext M a c := h.trans k (fun _ hx => .inl hx) (by simp)
theorem Ext.transN {M M₂ : List Nat} {a b c : World} (h : Ext M a b) (k : Ext M₂ b c) (h2 : ∀ x ∈ M₂, x ∈ M ∨ a.heap.size ≤ x) : Ext M a c := h.trans k (fun _ hx => .inl hx) h2
theorem Ext.after {M : List Nat} {a b c : World} (k : Ext M b c) (h : Ext [] a b) : Ext M a c := h.trans k (by simp) (fun _ hx => .inl hx)
theorem Ext.below {w w' : World} (h : Ext [] w w') : RowKit.Below w.heap.size w w' := ⟨h.os, h.tape, h.output, h.size, fun k hk => h.keep k hk (by simp)⟩
theorem Ext.of_below {w w' : World} (h : RowKit.Below w.heap.size w w') : Ext [] w w' := ⟨h.os, h.tape, h.output, h.size, fun k hk _ => h.block k hk⟩
theorem Ext.drew (w : World) : Ext [] w w.drew := ⟨rfl, rfl, rfl, Nat.le_refl _, fun _ _ _ => rfl⟩
theorem Ext.drawn (w : World) : Ext [] w { w with drawn := w.drawn + 1 } := ⟨rfl, rfl, rfl, Nat.le_refl _, fun _ _ _ => rfl⟩
theorem Ext.alloc (w : World) (o : Obj) : Ext [] w (w.alloc o) :=
  ⟨rfl, rfl, rfl, by simp, fun k hk _ => by show (w.heap.push o)[k]? = _; rw [Array.getElem?_push, if_neg (by omega)]⟩
theorem Ext.setCell (w : World) (a : Addr) (v : Value) : Ext [a.block] w (w.setCell a v) :=
  ⟨rfl, rfl, rfl, by simp [World.setCell], fun k _ hm => by
    simp only [World.setCell, Array.getElem?_modify]; rw [if_neg (by simp at hm; omega)]⟩

/-- A block of cells. -/
def Blk (w : World) (b : Nat) (cs : Array Value) (T : TypeId) (fz : Nat × Nat) : Prop := w.heap[b]? = some (.cells cs T fz)
theorem Blk.lt {w : World} {b : Nat} {cs : Array Value} {T : TypeId} {fz : Nat × Nat} (h : Blk w b cs T fz) : b < w.heap.size := (Array.getElem?_eq_some_iff.1 h).1
theorem Blk.ext {w w' : World} {b : Nat} {cs : Array Value} {T : TypeId} {fz : Nat × Nat} {M : List Nat} (h : Blk w b cs T fz) (he : Ext M w w') (hm : b ∉ M) : Blk w' b cs T fz :=
  (he.keep b h.lt hm).trans h
theorem Blk.ext0 {w w' : World} {b : Nat} {cs : Array Value} {T : TypeId} {fz : Nat × Nat} (h : Blk w b cs T fz) (he : Ext [] w w') : Blk w' b cs T fz := h.ext he (by simp)
theorem Blk.new (w : World) (cs : Array Value) (T : TypeId) (fz : Nat × Nat) : Blk (w.alloc (.cells cs T fz)) w.heap.size cs T fz := by
  show (w.heap.push _)[w.heap.size]? = _
  simp
theorem Blk.cell {w : World} {b : Nat} {cs : Array Value} {T : TypeId} {fz : Nat × Nat} (h : Blk w b cs T fz) (o : Nat) : w.cell? ⟨b, o, none⟩ = cs[o]? := by
  simp only [World.cell?]
  rw [show w.heap[b]? = some (.cells cs T fz) from h]
  simp
theorem Blk.set {w : World} {b : Nat} {cs : Array Value} {T : TypeId} {fz : Nat × Nat} (h : Blk w b cs T fz) (o : Nat) (v : Value) : Blk (w.setCell ⟨b, o, none⟩ v) b (cs.setIfInBounds o v) T fz := by
  simp only [Blk, World.setCell, Array.getElem?_modify]
  rw [show w.heap[b]? = some (.cells cs T fz) from h]
  simp

/-- Cells from a on hold vs (where vs is empty a may be nil). -/
def Cells (w : World) (a : Option Addr) (vs : List Value) : Prop := ∀ j v, vs[j]? = some v → ∃ p, a = some p ∧ w.cell? (p.add j) = some v
theorem Addr.add_block (p : Addr) (n : Nat) : (p.add n).block = p.block := by unfold Addr.add; split <;> rfl
theorem add_add (p : Addr) (i j : Nat) : (p.add i).add j = p.add (i + j) := by
  obtain ⟨b, o, s⟩ := p
  unfold Go.Addr.add
  by_cases hi : i = 0
  · simp [hi]
  · by_cases hj : j = 0
    · simp [hi, hj]
    · simp [hi, hj, Nat.add_assoc]
theorem cell?_ext {w w' : World} {M : List Nat} {p : Addr} {v : Value} (h : w.cell? p = some v) (he : Ext M w w') (hm : p.block ∉ M) : w'.cell? p = some v :=
  (World.cell?_of_block (he.keep _ (World.block_lt_of_cell? w p h) hm)).trans h
theorem Cells.ext {w w' : World} {M : List Nat} {a : Option Addr} {vs : List Value} (h : Cells w a vs) (he : Ext M w w') (hm : ∀ p, a = some p → p.block ∉ M) : Cells w' a vs := by
  intro j v hv
  obtain ⟨p, rfl, hc⟩ := h j v hv
  exact ⟨p, rfl, cell?_ext hc he (by rw [Addr.add_block]; exact hm p rfl)⟩
theorem Cells.ext0 {w w' : World} {a : Option Addr} {vs : List Value} (h : Cells w a vs) (he : Ext [] w w') : Cells w' a vs := h.ext he (by simp)
theorem Cells.nil (w : World) (a : Option Addr) : Cells w a [] := fun j v h => by simp at h
theorem Cells.of_blk {w : World} {b : Nat} {cs : Array Value} {T : TypeId} {fz : Nat × Nat} (h : Blk w b cs T fz) (o : Nat) (vs : List Value) (hv : ∀ j v, vs[j]? = some v → cs[o + j]? = some v) : Cells w (some ⟨b, o, none⟩) vs :=
  fun j v hj => ⟨_, rfl, by rw [Go.Addr.add_lit, h.cell]; exact hv j v hj⟩
theorem Cells.load {w : World} {p : Addr} {vs : List Value} (h : Cells w (some p) vs) {j : Nat} {v : Value} (hv : vs[j]? = some v) : w.cell? (p.add j) = some v := by
  obtain ⟨q, hq, hc⟩ := h j v hv
  cases hq; exact hc

/-! ## Types, by instances -/
class TyInt (P : Program) (T : TypeId) (k : outParam IntKind) : Prop where
  h : P.underlying T = some (.int k)
class TyStr (P : Program) (T : TypeId) : Prop where
  h : P.underlying T = some .string
/-- A slice type: its element's type, the element's cells and bytes. -/
class TySlice (P : Program) (T : TypeId) (E : outParam TypeId) (size bytes : outParam Nat) (z : outParam Value) : Prop where
  h : P.underlying T = some (.slice E)
  i : ∃ i, P.info? E = some i ∧ i.size = size ∧ i.bytes = bytes ∧ i.zero = some z
  zs : z.cells.size = size
  pos : 0 < size
theorem TySlice.of {P : Program} {T E size bytes : Nat} {z : Value} (h : P.underlying T = some (.slice E)) (hi : (P.info? E).map (fun i => (i.size, i.bytes, i.zero)) = some (size, bytes, some z)) (zs : z.cells.size = size) (pos : 0 < size) : TySlice P T E size bytes z := by
  cases hq : P.info? E with
  | none => simp [hq] at hi
  | some i =>
    simp [hq] at hi
    exact ⟨h, ⟨i, hq, hi.1, hi.2.1, hi.2.2⟩, zs, pos⟩
/-- A type of one cell. -/
class TyOne (P : Program) (T : TypeId) : Prop where
  h : (match P.underlying T with | some (.struct _) | some (.array _ _) | none => false | _ => true) = true
  size : (P.info? T).map (·.size) = some 1
/-- A struct or an array, of so many cells. -/
class TyAgg (P : Program) (T : TypeId) (size : outParam Nat) : Prop where
  h : (match P.underlying T with | some (.struct _) | some (.array _ _) => true | _ => false) = true
  size : (P.info? T).map (·.size) = some size
class TyField (P : Program) (T : TypeId) (i : Nat) (off : outParam Nat) : Prop where
  h : ∃ fs f, P.underlying T = some (.struct fs) ∧ fs[i]? = some f ∧ f.offset = off ∧ (P.info? f.type).any (fun i => decide (i.size ≠ 0)) = true
/-- An array type: so many elements of E. -/
class TyArr (P : Program) (T : TypeId) (m : outParam Nat) (E : outParam TypeId) (size : outParam Nat) : Prop where
  h : P.underlying T = some (.array m E)
  i : (P.info? E).map (·.size) = some size
class TyPtr (P : Program) (T : TypeId) : Prop where
  h : ∃ E, P.underlying T = some (.pointer E)
class TyZero (P : Program) (T : TypeId) (z : outParam Value) : Prop where
  h : (P.info? T).bind (·.zero) = some z

/-- How a struct, or an array, is put together. -/
class TyBuilt (P : Program) (T : TypeId) (pl : outParam (Nat → Option (Nat × Nat))) (z : outParam Value) : Prop where
  h : ∀ vs, P.built T vs = Instr.fill pl z.cells vs
theorem TyBuilt.struct {P : Program} {T : TypeId} {fs : Array Field} {ps : List (Nat × Nat)} {z : Value} (hu : P.underlying T = some (.struct fs)) (hz : (P.info? T).bind (·.zero) = some z)
    (hp : fs.toList.mapM (fun f => (P.info? f.type).map fun i => (f.offset, i.size)) = some ps) : TyBuilt P T (fun i => ps.toArray[i]?) z := ⟨fun vs => by
  cases hi : P.info? T with
  | none => rw [hi] at hz; cases hz
  | some it =>
    rw [hi] at hz
    simp only [Option.bind_some] at hz
    unfold Program.built
    rw [hi, hu]
    simp only [hz, hp]⟩
theorem TyBuilt.array {P : Program} {T : TypeId} {l e s : Nat} {z : Value} (hu : P.underlying T = some (.array l e)) (hz : (P.info? T).bind (·.zero) = some z)
    (hs : (P.info? e).map (·.size) = some s) : TyBuilt P T (fun i => some (i * s, s)) z := ⟨fun vs => by
  cases hi : P.info? T with
  | none => rw [hi] at hz; cases hz
  | some it =>
    cases he : P.info? e with
    | none => rw [he] at hs; cases hs
    | some ie =>
      rw [hi] at hz; rw [he] at hs
      simp only [Option.bind_some] at hz
      cases hs
      unfold Program.built
      rw [hi, hu]
      simp only [hz, he]⟩

/-! ## Rules: reckoning -/
section
variable {P : Program} {B : Exit → Act → World → Prop} {n : Fm} {ops : List Oper} {ks : List K} {ρ : Env} {w : World} {rest : List Oper}
variable {d : Nat} {ty : TypeId} {pos : String} {af : Array Edge} {gd : Option (Nat × Bool)}

theorem R.mv {x : Operand} {v : Value}  (hx : ev ρ x = some v) :
    Runs P n ρ w ⟨some d, .move x, ty, pos, af, gd⟩ (v) w := (fun a ha => by simp [execOp, ha.eval hx])
theorem R.as {x : Operand} {v : Value}  (hx : ev ρ x = some v) :
    Runs P n ρ w ⟨some d, .assign x, ty, pos, af, gd⟩ (v) w := (fun a ha => by simp [execOp, ha.eval hx])
theorem R.pickT {c x y : Operand} {v : Value}  (hc : ev ρ c = some (.bool true)) (hx : ev ρ x = some v) :
    Runs P n ρ w ⟨some d, .pick c x y, ty, pos, af, gd⟩ (v) w := (fun a ha => by simp [execOp, ha.eval hc, ha.eval hx, asBool])
theorem R.pickF {c x y : Operand} {v : Value}  (hc : ev ρ c = some (.bool false)) (hx : ev ρ y = some v) :
    Runs P n ρ w ⟨some d, .pick c x y, ty, pos, af, gd⟩ (v) w := (fun a ha => by simp [execOp, ha.eval hc, ha.eval hx, asBool])
theorem R.not {T : TypeId} {x : Operand} {b : Bool}  (hx : ev ρ x = some (.bool b)) :
    Runs P n ρ w ⟨some d, .unOp .not T x, ty, pos, af, gd⟩ (.bool (!b)) w := (fun a ha => by simp [execOp, ha.eval hx, Op.unary])
theorem R.bin {op : BinOp} {T T' : TypeId} {x y : Operand} {u v z : Value}  (hx : ev ρ x = some u) (hy : ev ρ y = some v)
    (hz : ∀ w, (do eqGuard op T x y u v; binOp op T u v : Sem Value).run P w = .ok z w) :
    Runs P n ρ w ⟨some d, .binOp op T x y T', ty, pos, af, gd⟩ (z) w := (fun a ha => by
    have := hz w
    simp only [execOp, ha.eval hx, ha.eval hy, Sem.run_bind, Sem.run_pure] at this ⊢
    rw [this]; rfl)
/-- An int's operation: sums. -/
theorem R.addW {T T' : TypeId} {x y : Operand} {k : IntKind} {a b : Int}  (hx : ev ρ x = some (.int k a)) (hy : ev ρ y = some (.int k b)) (z : Int) (hz : k.wrap (a + b) = z) :
    Runs P n ρ w ⟨some d, .binOp .add T x y T', ty, pos, af, gd⟩ (.int k z) w := R.bin hx hy (fun w => by subst hz; simp [eqGuard_add, binOp, Op.intArith])
theorem R.subW {T T' : TypeId} {x y : Operand} {k : IntKind} {a b : Int}  (hx : ev ρ x = some (.int k a)) (hy : ev ρ y = some (.int k b)) (z : Int) (hz : k.wrap (a - b) = z) :
    Runs P n ρ w ⟨some d, .binOp .sub T x y T', ty, pos, af, gd⟩ (.int k z) w := R.bin hx hy (fun w => by subst hz; simp [eqGuard_sub, binOp, Op.intArith])
theorem R.mulW {T T' : TypeId} {x y : Operand} {k : IntKind} {a b : Int}  (hx : ev ρ x = some (.int k a)) (hy : ev ρ y = some (.int k b)) (z : Int) (hz : k.wrap (a * b) = z) :
    Runs P n ρ w ⟨some d, .binOp .mul T x y T', ty, pos, af, gd⟩ (.int k z) w := R.bin hx hy (fun w => by subst hz; simp [eqGuard_mul, binOp, Op.intArith])
theorem wrap_i64 {z : Int} (h : -9223372036854775808 ≤ z ∧ z ≤ 9223372036854775807) : IntKind.i64.wrap z = z := by
  simp only [IntKind.wrap, IntKind.bits, IntKind.signed, Bool.true_and]
  split <;> rename_i hc <;> simp at hc ⊢ <;> omega
theorem wrap_u8 {z : Int} (h : 0 ≤ z ∧ z ≤ 255) : IntKind.u8.wrap z = z := by
  simp only [IntKind.wrap, IntKind.bits, IntKind.signed]
  simp; omega
theorem wrap_u32 {z : Int} (h : 0 ≤ z ∧ z ≤ 4294967295) : IntKind.u32.wrap z = z := by
  simp only [IntKind.wrap, IntKind.bits, IntKind.signed]
  simp; omega
theorem R.add {T T' : TypeId} {x y : Operand} {a b : Int}  (hx : ev ρ x = some (.int .i64 a)) (hy : ev ρ y = some (.int .i64 b)) (hr : -9223372036854775808 ≤ a + b ∧ a + b ≤ 9223372036854775807) :
    Runs P n ρ w ⟨some d, .binOp .add T x y T', ty, pos, af, gd⟩ (.int .i64 (a + b)) w := R.addW hx hy _ (wrap_i64 hr)
theorem R.sub' {T T' : TypeId} {x y : Operand} {a b : Int}  (hx : ev ρ x = some (.int .i64 a)) (hy : ev ρ y = some (.int .i64 b)) (hr : -9223372036854775808 ≤ a - b ∧ a - b ≤ 9223372036854775807) :
    Runs P n ρ w ⟨some d, .binOp .sub T x y T', ty, pos, af, gd⟩ (.int .i64 (a - b)) w := R.subW hx hy _ (wrap_i64 hr)
theorem R.mul {T T' : TypeId} {x y : Operand} {a b : Int}  (hx : ev ρ x = some (.int .i64 a)) (hy : ev ρ y = some (.int .i64 b)) (hr : -9223372036854775808 ≤ a * b ∧ a * b ≤ 9223372036854775807) :
    Runs P n ρ w ⟨some d, .binOp .mul T x y T', ty, pos, af, gd⟩ (.int .i64 (a * b)) w := R.mulW hx hy _ (wrap_i64 hr)
theorem R.quoW {T T' : TypeId} {x y : Operand} {k : IntKind} {a b : Int}  (hx : ev ρ x = some (.int k a)) (hy : ev ρ y = some (.int k b)) (hb : b ≠ 0) (z : Int) (hz : k.wrap (a.tdiv b) = z) :
    Runs P n ρ w ⟨some d, .binOp .quo T x y T', ty, pos, af, gd⟩ (.int k z) w := R.bin hx hy (fun w => by subst hz; simp [eqGuard_quo, binOp, Op.intDiv, hb])
theorem R.remW {T T' : TypeId} {x y : Operand} {k : IntKind} {a b : Int}  (hx : ev ρ x = some (.int k a)) (hy : ev ρ y = some (.int k b)) (hb : b ≠ 0) (z : Int) (hz : a.tmod b = z) :
    Runs P n ρ w ⟨some d, .binOp .rem T x y T', ty, pos, af, gd⟩ (.int k z) w := R.bin hx hy (fun w => by subst hz; simp [eqGuard_rem, binOp, Op.intDiv, hb])
theorem R.quo {T T' : TypeId} {x y : Operand} {a b : Int}  (hx : ev ρ x = some (.int .i64 a)) (hy : ev ρ y = some (.int .i64 b)) (ha : 0 ≤ a ∧ a ≤ 9223372036854775807) (hb : 0 < b) :
    Runs P n ρ w ⟨some d, .binOp .quo T x y T', ty, pos, af, gd⟩ (.int .i64 (a / b)) w := R.quoW hx hy (by omega) _ (by rw [Int.tdiv_eq_ediv_of_nonneg ha.1]; exact wrap_i64 (by
    have h1 : 0 ≤ a / b := Int.ediv_nonneg ha.1 (by omega)
    have h2 : a / b ≤ a := Int.ediv_le_self _ ha.1
    omega))
theorem R.rem {T T' : TypeId} {x y : Operand} {k : IntKind} {a b : Int}  (hx : ev ρ x = some (.int k a)) (hy : ev ρ y = some (.int k b)) (ha : 0 ≤ a) (hb : 0 < b) :
    Runs P n ρ w ⟨some d, .binOp .rem T x y T', ty, pos, af, gd⟩ (.int k (a % b)) w := R.remW hx hy (by omega) _ (Int.tmod_eq_emod_of_nonneg ha)
theorem R.lss {T T' : TypeId} {x y : Operand} {k : IntKind} {a b : Int}  (hx : ev ρ x = some (.int k a)) (hy : ev ρ y = some (.int k b)) :
    Runs P n ρ w ⟨some d, .binOp .lss T x y T', ty, pos, af, gd⟩ (.bool (decide (a < b))) w := R.bin hx hy (fun w => by simp [eqGuard_lss, binOp, Op.intCmp])
theorem R.leq {T T' : TypeId} {x y : Operand} {k : IntKind} {a b : Int}  (hx : ev ρ x = some (.int k a)) (hy : ev ρ y = some (.int k b)) :
    Runs P n ρ w ⟨some d, .binOp .leq T x y T', ty, pos, af, gd⟩ (.bool (decide (a ≤ b))) w := R.bin hx hy (fun w => by simp [eqGuard_leq, binOp, Op.intCmp])
theorem R.gtr {T T' : TypeId} {x y : Operand} {k : IntKind} {a b : Int}  (hx : ev ρ x = some (.int k a)) (hy : ev ρ y = some (.int k b)) :
    Runs P n ρ w ⟨some d, .binOp .gtr T x y T', ty, pos, af, gd⟩ (.bool (decide (b < a))) w := R.bin hx hy (fun w => by simp [eqGuard_gtr, binOp, Op.intCmp])
theorem R.geq {T T' : TypeId} {x y : Operand} {k : IntKind} {a b : Int}  (hx : ev ρ x = some (.int k a)) (hy : ev ρ y = some (.int k b)) :
    Runs P n ρ w ⟨some d, .binOp .geq T x y T', ty, pos, af, gd⟩ (.bool (decide (b ≤ a))) w := R.bin hx hy (fun w => by simp [eqGuard_geq, binOp, Op.intCmp])
theorem R.eqI {T T' : TypeId} {x y : Operand} {k : IntKind} {a b : Int}  (hx : ev ρ x = some (.int k a)) (hy : ev ρ y = some (.int k b)) :
    Runs P n ρ w ⟨some d, .binOp .eql T x y T', ty, pos, af, gd⟩ (.bool (decide (a = b))) w := R.bin hx hy (fun w => by simp [eqGuard_at_int, binOp, Op.intCmp]; rfl)
theorem R.neI {T T' : TypeId} {x y : Operand} {k : IntKind} {a b : Int}  (hx : ev ρ x = some (.int k a)) (hy : ev ρ y = some (.int k b)) :
    Runs P n ρ w ⟨some d, .binOp .neq T x y T', ty, pos, af, gd⟩ (.bool (decide (a ≠ b))) w := R.bin hx hy (fun w => by simp [eqGuard_at_int, binOp, Op.intCmp]; rfl)
end
end Brv
/-
  Rules for the operations that read and write memory.
-/
namespace Brv
open Go

def one (v : Value) : Bool := v.oneCell'

section
variable {P : Program} {B : Exit → Act → World → Prop} {n : Fm} {ops : List Oper} {ks : List K} {ρ : Env} {w : World} {rest : List Oper}
variable {d : Nat} {ty : TypeId} {pos : String} {af : Array Edge} {gd : Option (Nat × Bool)}

theorem TyOne.info {T : TypeId} [t : TyOne P T] : ∃ i, P.info? T = some i ∧ i.size = 1 := by
  have h := t.size
  cases hq : P.info? T with
  | none => simp [hq] at h
  | some i => exact ⟨i, rfl, by simpa [hq] using h⟩
theorem TyOne.agg {T : TypeId} [t : TyOne P T] (w : World) : (isAgg T).run P w = .ok false w := by
  have h := t.h
  unfold isAgg
  cases hq : P.underlying T with
  | none => simp [hq] at h
  | some dd =>
    rw [Sem.run_bind, run_underlying hq w]
    cases dd <;> simp_all
theorem TyAgg.info {T : TypeId} {s : Nat} [t : TyAgg P T s] : ∃ i, P.info? T = some i ∧ i.size = s := by
  have h := t.size
  cases hq : P.info? T with
  | none => simp [hq] at h
  | some i => exact ⟨i, rfl, by simpa [hq] using h⟩
theorem TyAgg.agg {T : TypeId} {s : Nat} [t : TyAgg P T s] (w : World) : (isAgg T).run P w = .ok true w := by
  have h := t.h
  unfold isAgg
  cases hq : P.underlying T with
  | none => simp [hq] at h
  | some dd =>
    rw [Sem.run_bind, run_underlying hq w]
    cases dd <;> simp_all

/-! ### len -/
theorem R.lenS {T E size bytes : Nat} {z : Value} [t : TySlice P T E size bytes z] {x : Operand} {a : Option Addr} {m c : Nat}  (hx : ev ρ x = some (.slice a m c)) :
    Runs P n ρ w ⟨some d, .call ⟨.builtin .len, #[x], #[T]⟩, ty, pos, af, gd⟩ (.int .i64 m) w := (fun f hf => by
    simp [execOp, resolve, invoke, builtin, Builtin.len_, hf.eval hx, run_underlying t.h, goInt])
theorem R.lenStr {T : Nat} [t : TyStr P T] {x : Operand} {s : ByteArray}  (hx : ev ρ x = some (.string s)) :
    Runs P n ρ w ⟨some d, .call ⟨.builtin .len, #[x], #[T]⟩, ty, pos, af, gd⟩ (.int .i64 s.size) w := (fun f hf => by
    simp [execOp, resolve, invoke, builtin, Builtin.len_, hf.eval hx, run_underlying t.h, goInt])
theorem R.min {T T' : Nat} {x y : Operand} {k k' : IntKind} {a b : Int}  (hx : ev ρ x = some (.int k a)) (hy : ev ρ y = some (.int k' b)) (z : Int) (hz : (if b < a then b else a) = z) :
    Runs P n ρ w ⟨some d, .call ⟨.builtin .min, #[x, y], #[T, T']⟩, ty, pos, af, gd⟩ (.int k z) w := (fun f hf => by
    subst hz
    simp [execOp, resolve, invoke, builtin, Builtin.min_, Builtin.min2, hf.eval hx, hf.eval hy])
theorem R.max {T T' : Nat} {x y : Operand} {k k' : IntKind} {a b : Int}  (hx : ev ρ x = some (.int k a)) (hy : ev ρ y = some (.int k' b)) (z : Int) (hz : (if b > a then b else a) = z) :
    Runs P n ρ w ⟨some d, .call ⟨.builtin .max, #[x, y], #[T, T']⟩, ty, pos, af, gd⟩ (.int k z) w := (fun f hf => by
    subst hz
    simp [execOp, resolve, invoke, builtin, Builtin.max_, Builtin.max2, hf.eval hx, hf.eval hy])
/-! ### numbers of other kinds -/
theorem R.conv {S T : TypeId} {k k' : IntKind} [tS : TyInt P S k'] [t : TyInt P T k] {x : Operand} {a : Int}  (hx : ev ρ x = some (.int k' a)) (z : Int) (hz : k.wrap a = z) :
    Runs P n ρ w ⟨some d, .convert S T x, ty, pos, af, gd⟩ (.int k z) w := (fun f hf => by
    subst hz
    simp [execOp, convert, hf.eval hx, run_underlying tS.h, run_underlying t.h, Conv.intToInt])
theorem R.shrW {T T' : TypeId} {x y : Operand} {k k' : IntKind} {a b : Int}  (hx : ev ρ x = some (.int k a)) (hy : ev ρ y = some (.int k' b)) (hb : 0 ≤ b) (z : Int) (hz : a.fdiv (2 ^ (Min.min b.toNat k.bits)) = z) :
    Runs P n ρ w ⟨some d, .binOp .shr T x y T', ty, pos, af, gd⟩ (.int k z) w := R.bin hx hy (fun w => by subst hz; simp [eqGuard_shr, binOp, Op.shift, show ¬ b < 0 by omega])
theorem R.shlW {T T' : TypeId} {x y : Operand} {k k' : IntKind} {a b : Int}  (hx : ev ρ x = some (.int k a)) (hy : ev ρ y = some (.int k' b)) (hb : 0 ≤ b) (z : Int) (hz : k.wrap (a * 2 ^ (Min.min b.toNat k.bits)) = z) :
    Runs P n ρ w ⟨some d, .binOp .shl T x y T', ty, pos, af, gd⟩ (.int k z) w := R.bin hx hy (fun w => by subst hz; simp [eqGuard_shl, binOp, Op.shift, show ¬ b < 0 by omega])
def xorI (k : IntKind) (a b : Int) : Int := k.wrap (BitVec.ofInt k.bits a ^^^ BitVec.ofInt k.bits b).toNat
def orI (k : IntKind) (a b : Int) : Int := k.wrap (BitVec.ofInt k.bits a ||| BitVec.ofInt k.bits b).toNat
theorem R.xorW {T T' : TypeId} {x y : Operand} {k : IntKind} {a b : Int}  (hx : ev ρ x = some (.int k a)) (hy : ev ρ y = some (.int k b)) (z : Int) (hz : xorI k a b = z) :
    Runs P n ρ w ⟨some d, .binOp .xor T x y T', ty, pos, af, gd⟩ (.int k z) w := R.bin hx hy (fun w => by subst hz; simp [eqGuard_xor, binOp, Op.intBits, xorI])
theorem R.orW {T T' : TypeId} {x y : Operand} {k : IntKind} {a b : Int}  (hx : ev ρ x = some (.int k a)) (hy : ev ρ y = some (.int k b)) (z : Int) (hz : orI k a b = z) :
    Runs P n ρ w ⟨some d, .binOp .or T x y T', ty, pos, af, gd⟩ (.int k z) w := R.bin hx hy (fun w => by subst hz; simp [eqGuard_or, binOp, Op.intBits, orI])
theorem R.complW {T : TypeId} {x : Operand} {k : IntKind} {a : Int}  (hx : ev ρ x = some (.int k a)) (z : Int) (hz : xorI k (if k.signed then -1 else k.max) a = z) :
    Runs P n ρ w ⟨some d, .unOp .xor T x, ty, pos, af, gd⟩ (.int k z) w := (fun f hf => by subst hz; simp [execOp, hf.eval hx, Op.unary, Op.intBits, xorI])
/-! ### what is the same -/
theorem depth_succ : ∃ d, Op.maxDepth = d + 1 := ⟨9999, rfl⟩
theorem run_equal {T : TypeId} {x y : Value} {r : Bool} (w : World) (h : ∀ d, (Op.equalIn (d + 1) T x y).run P w = .ok r w) : (Op.equal T x y).run P w = .ok r w := by
  obtain ⟨d, hd⟩ := depth_succ
  unfold Op.equal
  rw [hd]
  exact h d
theorem R.eqNilP {T T' : TypeId} [t : TyPtr P T] {x y : Operand} {a : Option Addr}  (hx : ev ρ x = some (.pointer a)) (hy : ev ρ y = some (.pointer none)) :
    Runs P n ρ w ⟨some d, .binOp .eql T x y T', ty, pos, af, gd⟩ (.bool a.isNone) w := R.bin hx hy (fun w => by
    obtain ⟨E, hE⟩ := t.h
    have he := run_equal (P := P) (T := T) (x := .pointer a) (y := .pointer none) (r := a.isNone) w (fun d => by cases a <;> simp only [Op.equalIn, Sem.run_bind, run_underlying hE, Result.andThen_ok] <;> rfl)
    simp only [eqGuard_at_pointer, binOp, Sem.run_bind, Sem.run_pure, Result.andThen_ok, he])
theorem R.neNilP {T T' : TypeId} [t : TyPtr P T] {x y : Operand} {a : Option Addr}  (hx : ev ρ x = some (.pointer a)) (hy : ev ρ y = some (.pointer none)) :
    Runs P n ρ w ⟨some d, .binOp .neq T x y T', ty, pos, af, gd⟩ (.bool (!a.isNone)) w := R.bin hx hy (fun w => by
    obtain ⟨E, hE⟩ := t.h
    have he := run_equal (P := P) (T := T) (x := .pointer a) (y := .pointer none) (r := a.isNone) w (fun d => by cases a <;> simp only [Op.equalIn, Sem.run_bind, run_underlying hE, Result.andThen_ok] <;> rfl)
    simp only [eqGuard_at_pointer, binOp, Sem.run_bind, Sem.run_pure, Result.andThen_ok, he])
theorem R.eqNilS {T T' E size bytes : TypeId} {z : Value} [t : TySlice P T E size bytes z] {x y : Operand} {a : Option Addr} {m c : Nat}  (hx : ev ρ x = some (.slice a m c)) (hy : ev ρ y = some (.slice none 0 0)) :
    Runs P n ρ w ⟨some d, .binOp .eql T x y T', ty, pos, af, gd⟩ (.bool a.isNone) w := R.bin hx hy (fun w => by
    have he := run_equal (P := P) (T := T) (x := .slice a m c) (y := .slice none 0 0) (r := a.isNone) w (fun d => by cases a <;> simp only [Op.equalIn, Sem.run_bind, run_underlying t.h, Result.andThen_ok] <;> rfl)
    simp only [eqGuard_at_slice, binOp, Sem.run_bind, Sem.run_pure, Result.andThen_ok, he])
class TyBool (P : Program) (T : TypeId) : Prop where
  h : P.underlying T = some .bool
theorem R.eqB {T T' : TypeId} [t : TyBool P T] {x y : Operand} {a b : Bool}  (hx : ev ρ x = some (.bool a)) (hy : ev ρ y = some (.bool b)) :
    Runs P n ρ w ⟨some d, .binOp .eql T x y T', ty, pos, af, gd⟩ (.bool (a == b)) w := R.bin hx hy (fun w => by
    have he := run_equal (P := P) (T := T) (x := .bool a) (y := .bool b) (r := a == b) w (fun d => by simp only [Op.equalIn, Sem.run_bind, run_underlying t.h, Result.andThen_ok, Sem.run_pure])
    simp only [eqGuard_at_bool, binOp, Sem.run_bind, Sem.run_pure, Result.andThen_ok, he])
theorem R.neB {T T' : TypeId} [t : TyBool P T] {x y : Operand} {a b : Bool}  (hx : ev ρ x = some (.bool a)) (hy : ev ρ y = some (.bool b)) :
    Runs P n ρ w ⟨some d, .binOp .neq T x y T', ty, pos, af, gd⟩ (.bool (a != b)) w := R.bin hx hy (fun w => by
    have he := run_equal (P := P) (T := T) (x := .bool a) (y := .bool b) (r := a == b) w (fun d => by simp only [Op.equalIn, Sem.run_bind, run_underlying t.h, Result.andThen_ok, Sem.run_pure])
    simp only [eqGuard_at_bool, binOp, Sem.run_bind, Sem.run_pure, Result.andThen_ok, he]; rfl)
/-! ### strings: 'str l' has the bytes l -/
def str (l : List UInt8) : ByteArray := ⟨l.toArray⟩
theorem str_toList (s : ByteArray) : str s.data.toList = s := by cases s; rfl
theorem ba_size (s : ByteArray) : s.size = s.data.toList.length := rfl
theorem str_size (l : List UInt8) : (str l).size = l.length := by rw [ba_size]; simp [str]
theorem ba_toList (s : ByteArray) : s.toList = s.data.toList := by
  have loop : ∀ (k : Nat) (i : Nat) (r : List UInt8), s.size - i = k → ByteArray.toList.loop s i r = r.reverse ++ s.data.toList.drop i := by
    intro k
    induction k with
    | zero =>
      intro i r h
      unfold ByteArray.toList.loop
      rw [if_neg (by omega), List.drop_eq_nil_of_le (by rw [← ba_size]; omega)]
      simp
    | succ k ih =>
      intro i r h
      unfold ByteArray.toList.loop
      have hi : i < s.size := by omega
      rw [if_pos hi, ih (i + 1) _ (by omega)]
      have hi' : i < s.data.toList.length := by rw [← ba_size]; exact hi
      rw [List.drop_eq_getElem_cons hi']
      have : s.get! i = s.data.toList[i] := by
        have h2 : s.get! i = s.data[i]! := rfl
        rw [h2, getElem!_pos s.data i hi]
        simp
      simp [this]
  have := loop s.size 0 [] (by omega)
  simpa [ByteArray.toList] using this
theorem R.neStr {T T' : TypeId} {x y : Operand} {a b : List UInt8}  (hx : ev ρ x = some (.string (str a))) (hy : ev ρ y = some (.string (str b))) :
    Runs P n ρ w ⟨some d, .binOp .neq T x y T', ty, pos, af, gd⟩ (.bool (decide (a ≠ b))) w := R.bin hx hy (fun w => by simp [eqGuard_at_string, binOp, Op.stringOp, ba_toList, str]; exact Bool.eq_iff_iff.2 (by simp))
theorem R.addStr {T T' : TypeId} {x y : Operand} {a b : List UInt8}  (hx : ev ρ x = some (.string (str a))) (hy : ev ρ y = some (.string (str b))) (hl : a.length + b.length ≤ 9223372036854775807) :
    Runs P n ρ w ⟨some d, .binOp .add T x y T', ty, pos, af, gd⟩ (.string (str (a ++ b))) w := R.bin hx hy (fun w => by
    have h1 : ¬ ((a.length : Int) + b.length > 9223372036854775807) := by omega
    have h2 : str a ++ str b = str (a ++ b) := by
      simp only [str]
      show ByteArray.append _ _ = _
      apply ByteArray.ext
      simp [ByteArray.append]
    simp [eqGuard_at_string, binOp, Op.stringOp, str_size, h1, h2])
theorem R.idxStr {T : TypeId} [t : TyStr P T] {x y : Operand} {k : IntKind} {l : List UInt8} {i : Int} {b : UInt8}  (hx : ev ρ x = some (.string (str l))) (hy : ev ρ y = some (.int k i)) (h0 : 0 ≤ i) (hb : l[i.toNat]? = some b) :
    Runs P n ρ w ⟨some d, .index T x y, ty, pos, af, gd⟩ (.int .u8 b.toNat) w := (fun f hf => by
    have h1 : (str l)[i.toNat]? = some b := by
      have hlt := (List.getElem?_eq_some_iff.1 hb)
      obtain ⟨hlt, he⟩ := hlt
      have : i.toNat < (str l).size := by rw [str_size]; exact hlt
      rw [getElem?_pos (str l) i.toNat this]
      subst he
      exact congrArg some (List.getElem_toArray _)
    simp [execOp, Instr.index, hf.eval hx, hf.eval hy, asIntOf, run_underlying t.h, h0, h1])
theorem extract_str (l : List UInt8) (a b : Nat) : (str l).extract a b = str ((l.take b).drop a) := by
  apply ByteArray.ext
  simp only [str, ByteArray.data_extract, List.extract_toArray]
  congr 1
  rw [List.extract_eq_take_drop, List.drop_take]
theorem sliceBound_ok {k : IntKind} {i : Int} {y : Nat} {code : BoundsCode} (h0 : 0 ≤ i) (h1 : i ≤ y) (w : World) : (Instr.sliceBound (.int k i) y code).run P w = .ok i.toNat w := run_sliceBound w k i y code h0 h1
theorem R.slStrL {T : TypeId} [t : TyStr P T] {x lo : Operand} {k : IntKind} {l : List UInt8} {i : Int}  (hx : ev ρ x = some (.string (str l))) (hlo : ev ρ lo = some (.int k i)) (h0 : 0 ≤ i) (h2 : i ≤ l.length) :
    Runs P n ρ w ⟨some d, .slice T x (some lo) none none, ty, pos, af, gd⟩ (.string (str (l.drop i.toNat))) w := (fun f hf => by
    simp [execOp, Instr.sliceAt, Instr.slice, Instr.sliceBounds, hf.eval hx, hf.eval hlo, run_underlying t.h, str_size, sliceBound_ok (P := P) (k := k) (i := i) (y := l.length) h0 h2 w, extract_str])
theorem R.slStrH {T : TypeId} [t : TyStr P T] {x hi : Operand} {k : IntKind} {l : List UInt8} {j : Int}  (hx : ev ρ x = some (.string (str l))) (hhi : ev ρ hi = some (.int k j)) (h0 : 0 ≤ j) (h2 : j ≤ l.length) :
    Runs P n ρ w ⟨some d, .slice T x none (some hi) none, ty, pos, af, gd⟩ (.string (str (l.take j.toNat))) w := (fun f hf => by
    simp [execOp, Instr.sliceAt, Instr.slice, Instr.sliceBounds, hf.eval hx, hf.eval hhi, run_underlying t.h, str_size, sliceBound_ok (P := P) (k := k) (i := j) (y := l.length) h0 h2 w, extract_str])
/-! ### bytes -/
def vb (b : UInt8) : Value := .int .u8 (b.toNat : Int)
def vbs (l : List UInt8) : List Value := l.map vb
theorem vbs_length (l : List UInt8) : (vbs l).length = l.length := by simp [vbs]
theorem vbs_get (l : List UInt8) (i : Nat) : (vbs l)[i]? = (l[i]?).map vb := by simp [vbs]
theorem vbs_one (l : List UInt8) : ∀ u ∈ vbs l, u.oneCell' = true := by
  intro u hu
  simp [vbs] at hu
  obtain ⟨b, _, rfl⟩ := hu
  rfl
class TyBytes (P : Program) (T : TypeId) (E : outParam TypeId) : Prop where
  h : P.underlying T = some (.slice E)
  e : P.underlying E = some (.int .u8)
theorem run_bytesStr {T S E : TypeId} [t : TyBytes P T E] [s : TyStr P S] {a : Option Addr} {c : Nat} {l : List UInt8} (hc : Cells w a (vbs l)) :
    (convert T S (.slice a l.length c)).run P w = .ok (.string (str l)) w := by
  cases a with
  | none =>
    have : l = [] := by
      cases l with
      | nil => rfl
      | cons x r => obtain ⟨p, hp, _⟩ := hc 0 (vb x) (by simp [vbs]); cases hp
    subst this
    simp [convert, run_underlying t.h, run_underlying s.h, run_underlying t.e, Conv.bytesToString]
    rfl
  | some p =>
    refine run_convert_bytes_back w T S E p c l t.h t.e s.h ?_
    intro j hj
    exact hc.load (by simp [vbs, vb, hj])
theorem R.bytesStr {T S E : TypeId} [t : TyBytes P T E] [s : TyStr P S] {x : Operand} {a : Option Addr} {m c : Nat} {l : List UInt8}  (hx : ev ρ x = some (.slice a m c)) (hc : Cells w a (vbs l)) (hm : m = l.length) :
    Runs P n ρ w ⟨some d, .convert T S x, ty, pos, af, gd⟩ (.string (str l)) w := by
  subst hm
  exact (fun f hf => by
    simp only [execOp, hf.eval hx, Sem.run_bind, run_bytesStr (T := T) (S := S) hc]
    rfl)
/-! ### addresses -/
theorem R.nilChk {x : Operand} {p : Addr}  (hx : ev ρ x = some (.pointer (some p))) :
    Runs P n ρ w ⟨some d, .nilCheck x, ty, pos, af, gd⟩ (.pointer (some p)) w := (fun f hf => by simp [execOp, hf.eval hx])
theorem run_field {T : TypeId} {i off : Nat} [t : TyField P T i off] (p : Addr) (w : World) : (Instr.fieldAt T (.pointer (some p)) i).run P w = .ok (.pointer (some (p.add off))) w := by
  obtain ⟨fs, f, h1, h2, h3, h4⟩ := t.h
  cases hq : P.info? f.type with
  | none => simp [hq] at h4
  | some j =>
    have hs : j.size ≠ 0 := by simpa [hq] using h4
    subst h3
    simp [Instr.fieldAt, run_underlying h1, h2, Instr.sureAddr, fieldPlace, Go.sizeOf, typeInfo, hq, hs]
theorem R.fld {T : TypeId} {i off b o : Nat} [t : TyField P T i off] {x : Operand}  (hx : ev ρ x = some (.pointer (some ⟨b, o, none⟩))) :
    Runs P n ρ w ⟨some d, .fieldAddr T x i, ty, pos, af, gd⟩ (.pointer (some ⟨b, o + off, none⟩)) w := (fun f hf => by
    have := run_field (P := P) (T := T) (i := i) (off := off) ⟨b, o, none⟩ w
    simp only [execOp, hf.eval hx, Sem.run_bind, this, Go.Addr.add_lit]
    rfl)
theorem R.fldA {T : TypeId} {i off : Nat} [t : TyField P T i off] {x : Operand} {p : Addr}  (hx : ev ρ x = some (.pointer (some p))) :
    Runs P n ρ w ⟨some d, .fieldAddr T x i, ty, pos, af, gd⟩ (.pointer (some (p.add off))) w := (fun f hf => by
    have := run_field (P := P) (T := T) (i := i) (off := off) p w
    simp only [execOp, hf.eval hx, Sem.run_bind, this]
    rfl)
/-- &xs[i] of a slice. -/
theorem run_idxS {T E size bytes : Nat} {z : Value} [t : TySlice P T E size bytes z] {k : IntKind} {p : Addr} {m c : Nat} {i : Int} (h0 : 0 ≤ i) (h1 : i < m) (w : World) :
    (Instr.indexAt T (.slice (some p) m c) (.int k i)).run P w = .ok (.pointer (some (p.add (i.toNat * size)))) w := by
  obtain ⟨j, hj, hs, _, _⟩ := t.i
  subst hs
  simp [Instr.indexAt, asIntOf, run_underlying t.h, h0, h1, Go.sizeOf, typeInfo, hj]
theorem R.idx {T E size bytes : Nat} {z : Value} [t : TySlice P T E size bytes z] {x y : Operand} {k : IntKind} {a : Option Addr} {m c : Nat} {i : Int}  (hx : ev ρ x = some (.slice a m c)) (hy : ev ρ y = some (.int k i)) (h0 : 0 ≤ i) (h1 : i < m) (p : Addr) (hp : a = some p) :
    Runs P n ρ w ⟨some d, .indexAddr T x y, ty, pos, af, gd⟩ (.pointer (some (p.add (i.toNat * size)))) w := by
  subst hp
  exact (fun f hf => by
    have := run_idxS (P := P) (T := T) (k := k) (p := p) (m := m) (c := c) h0 h1 w
    simp only [execOp, hf.eval hx, hf.eval hy, Sem.run_bind, this]
    rfl)
/-! ### loads -/
theorem run_load1 {T : TypeId} [t : TyOne P T] {p : Addr} {v : Value} (hc : w.cell? p = some v) : (Instr.loadAt T (.pointer (some p))).run P w = .ok v w := by
  simp [Instr.loadAt, Instr.sureAddr, loadVar, TyOne.agg, hc]
theorem R.ld {T : TypeId} [t : TyOne P T] {x : Operand} {p : Addr} {v : Value}  (hx : ev ρ x = some (.pointer (some p))) (hc : w.cell? p = some v) :
    Runs P n ρ w ⟨some d, .load T x, ty, pos, af, gd⟩ (v) w := (fun f hf => by
    simp only [execOp, hf.eval hx, Sem.run_bind, run_load1 (T := T) hc]
    rfl)
theorem R.ldB {T : TypeId} [t : TyOne P T] {x : Operand} {b o : Nat} {cs : Array Value} {U : TypeId} {fz : Nat × Nat} {v : Value}  (hx : ev ρ x = some (.pointer (some ⟨b, o, none⟩))) (hb : Blk w b cs U fz) (hv : cs[o]? = some v) :
    Runs P n ρ w ⟨some d, .load T x, ty, pos, af, gd⟩ (v) w := R.ld hx ((hb.cell o).trans hv)
theorem run_loadN {T : TypeId} {s : Nat} [t : TyAgg P T s] {p : Addr} {vs : List Value} (hc : Cells w (some p) vs) (hl : vs.length = s) : (Instr.loadAt T (.pointer (some p))).run P w = .ok (.agg vs.toArray) w := by
  obtain ⟨j, hj, hs⟩ := TyAgg.info (P := P) (T := T) (s := s)
  have hload : (loadCells p s).run P w = .ok vs.toArray w := by
    subst hl
    exact run_loadCells_list (P := P) w p vs (fun j v hv => hc.load hv)
  simp [Instr.loadAt, Instr.sureAddr, loadVar, TyAgg.agg (P := P) (T := T) (s := s), Go.sizeOf, typeInfo, hj, hs, hload]
theorem R.ldN {T : TypeId} {s : Nat} [t : TyAgg P T s] {x : Operand} {p : Addr} {vs : List Value}  (hx : ev ρ x = some (.pointer (some p))) (hc : Cells w (some p) vs) (hl : vs.length = s) :
    Runs P n ρ w ⟨some d, .load T x, ty, pos, af, gd⟩ (.agg vs.toArray) w := (fun f hf => by
    simp only [execOp, hf.eval hx, Sem.run_bind, run_loadN (T := T) hc hl]
    rfl)
/-- A whole block. -/
theorem R.ldBN {T : TypeId} {s : Nat} [t : TyAgg P T s] {x : Operand} {b : Nat} {cs : Array Value} {U : TypeId} {fz : Nat × Nat}  (hx : ev ρ x = some (.pointer (some ⟨b, 0, none⟩))) (hb : Blk w b cs U fz) (hl : cs.size = s) :
    Runs P n ρ w ⟨some d, .load T x, ty, pos, af, gd⟩ (.agg cs) w := R.ldN hx (vs := cs.toList) (Cells.of_blk hb 0 _ (fun j v hj => by simpa using hj)) (by simpa using hl)
/-! ### parts of tuples and structs -/
theorem R.ext {x : Operand} {vs : Array Value} {i : Nat} {v : Value}  (hx : ev ρ x = some (.tuple vs)) (hv : vs[i]? = some v) :
    Runs P n ρ w ⟨some d, .extract x i, ty, pos, af, gd⟩ (v) w := (fun f hf => by simp [execOp, hf.eval hx, Instr.extract, hv])
/-! ### making blocks -/
theorem run_newVar {T : TypeId} {v : Value} (w : World) : (newVar T v).run P w = .ok ⟨w.heap.size, 0, none⟩ (w.alloc (.cells v.cells T)) := by
  simp [newVar, newRow]
/-- What a new block of its own gives: its pointer. -/
def New (w : World) (cs : Array Value) (T : TypeId) (v : Value) (w' : World) : Prop := ∃ b, v = .pointer (some ⟨b, 0, none⟩) ∧ w.heap.size = b ∧ w'.heap.size = b + 1 ∧ Ext [] w w' ∧ Blk w' b cs T (0, 0)
theorem New.of (w : World) (cs : Array Value) (T : TypeId) : New w cs T (.pointer (some ⟨w.heap.size, 0, none⟩)) (w.alloc (.cells cs T)) := ⟨_, rfl, rfl, by simp, Ext.alloc _ _, Blk.new _ _ _ _⟩
theorem R.alloc {T : TypeId} {z : Value} [t : TyZero P T z] : Does P n ρ w ⟨some d, .alloc T, ty, pos, af, gd⟩ (New w z.cells T) :=
  ⟨_, _, fun f _ => by
    have hz := t.h
    cases hq : P.info? T with
    | none => simp [hq] at hz
    | some i =>
      have hz' : i.zero = some z := by simpa [hq] using hz
      simp [execOp, Instr.alloc, zeroValue, typeInfo, hq, hz', run_newVar], New.of _ _ _⟩
theorem R.box {T : TypeId} {x : Operand} {v : Value} (hx : ev ρ x = some v) : Does P n ρ w ⟨some d, .box T x, ty, pos, af, gd⟩ (New w v.cells T) :=
  ⟨_, _, fun f hf => by simp [execOp, hf.eval hx, Instr.box, run_newVar], New.of _ _ _⟩
def evps (ρ : Env) : List (Nat × Operand) → Option (List (Nat × Value))
  | [] => some []
  | (i, x) :: r => match ev ρ x, evps ρ r with
    | some v, some vs => some ((i, v) :: vs)
    | _, _ => none
theorem evps_spec {a : Act} (ha : Fr n ρ a) : ∀ {ps : List (Nat × Operand)} {vs : List (Nat × Value)}, evps ρ ps = some vs → ps.map (fun (i, x) => (i, a.eval x)) = vs
  | [], vs, h => by simp [evps] at h; simp [h]
  | (i, x) :: r, vs, h => by
    simp only [evps] at h
    split at h
    · rename_i v vs' h1 h2
      cases h
      simp [ha.eval h1, evps_spec ha h2]
    · cases h
theorem R.build {T : TypeId} {pl : Nat → Option (Nat × Nat)} {z : Value} [t : TyBuilt P T pl z] {parts : Array (Nat × Operand)} {vs : List (Nat × Value)} {cs : Array Value}  (hp : evps ρ parts.toList = some vs) (hb : Instr.fill pl z.cells vs = some cs) :
    Runs P n ρ w ⟨some d, .build T parts, ty, pos, af, gd⟩ (.agg cs) w := (fun f hf => by
    have h1 := evps_spec hf hp
    have h2 : (parts.map fun (i, x) => (i, f.eval x)).toList = vs := by simpa using h1
    have h3 := run_build (P := P) w T (parts.map fun (i, x) => (i, f.eval x)) cs (by rw [h2, t.h]; exact hb)
    simp only [execOp, Sem.run_bind, h3]
    rfl)
theorem run_buildSlice {T E size bytes : Nat} {z : Value} [t : TySlice P T E size bytes z] {len : Nat} {vs : List (Nat × Value)} {cs : Array Value} (hl : len * size ≤ 16777216)
    (hf : Instr.fill (fun i => some (i * size, size)) ((Array.range (len * size)).map (fun i => z.cells[i % z.cells.size]!)) vs = some cs) (w : World) :
    (Instr.buildSlice T len vs.toArray).run P w = .ok (.slice (some ⟨w.heap.size, 0, none⟩) len len) (w.alloc (.cells cs E)) := by
  obtain ⟨j, hj, hs, hb, hz⟩ := t.i
  subst hs
  by_cases h0 : len * j.size = 0
  · have e1 : Array.map (fun i => z.cells[i % z.cells.size]!) (Array.range (len * j.size)) = #[] := by simp [h0]
    rw [e1] at hf
    simp [Instr.buildSlice, run_underlying t.h, Go.sizeOf, typeInfo, hj, h0, newRow]
    rw [show Array.map (fun _ => (default : Value)) (Array.range 0) = #[] by simp, hf]
    rfl
  · simp [Instr.buildSlice, run_underlying t.h, Go.sizeOf, typeInfo, hj, show ¬ 16777216 < len * j.size by omega, h0, newRow, zeroValue, hz, hf]
/-- What a new row of its own gives: a slice over it. -/
def NewS (w : World) (cs : Array Value) (E : TypeId) (len cap : Nat) (v : Value) (w' : World) : Prop := ∃ b, v = .slice (some ⟨b, 0, none⟩) len cap ∧ w.heap.size = b ∧ w'.heap.size = b + 1 ∧ Ext [] w w' ∧ Blk w' b cs E (0, 0)
theorem NewS.of (w : World) (cs : Array Value) (E : TypeId) (len cap : Nat) : NewS w cs E len cap (.slice (some ⟨w.heap.size, 0, none⟩) len cap) (w.alloc (.cells cs E)) := ⟨_, rfl, rfl, by simp, Ext.alloc _ _, Blk.new _ _ _ _⟩
theorem R.buildS {T E size bytes : Nat} {z : Value} [t : TySlice P T E size bytes z] {len : Nat} {parts : Array (Nat × Operand)} {vs : List (Nat × Value)} {cs : Array Value} (hp : evps ρ parts.toList = some vs) (hl : len * size ≤ 16777216)
    (hf : Instr.fill (fun i => some (i * size, size)) ((Array.range (len * size)).map (fun i => z.cells[i % z.cells.size]!)) vs = some cs) :
    Does P n ρ w ⟨some d, .buildSlice T len parts, ty, pos, af, gd⟩ (NewS w cs E len len) :=
  ⟨_, _, fun f hff => by
    have h1 := evps_spec hff hp
    have h2 : (parts.map fun (i, x) => (i, f.eval x)) = vs.toArray := by apply Array.toList_inj.1; simpa using h1
    simp only [execOp, Sem.run_bind, h2, run_buildSlice (T := T) hl hf w]
    rfl, NewS.of _ _ _ _ _⟩
theorem R.make {T E size bytes : Nat} {z : Value} [t : TySlice P T E size bytes z] {x y : Operand} {k k' : IntKind} {l c : Int} (hx : ev ρ x = some (.int k l)) (hy : ev ρ y = some (.int k' c)) (h0 : 0 ≤ l) (h1 : l ≤ c) (h2 : (bytes : Int) * c ≤ 281474976710656) (h3 : c ≤ 9223372036854775807) :
    Does P n ρ w ⟨some d, .makeSlice T x y, ty, pos, af, gd⟩ (NewS w (madeCells z.cells (c.toNat * size)) E l.toNat c.toNat) := by
  obtain ⟨j, hj, hs, hb, hz⟩ := t.i
  subst hs hb
  exact ⟨_, _, fun f hf => by
    have := run_make (P := P) w T E j z t.h hj hz k k' l c h0 h1 h2 h3
    simp only [execOp, Sem.run_bind, hf.eval hx, hf.eval hy, this]
    rfl, NewS.of _ _ _ _ _⟩
/-! ### stores -/
theorem run_store1 {T : TypeId} [t : TyOne P T] {b o : Nat} {cs : Array Value} {U : TypeId} {v : Value} (hb : Blk w b cs U (0, 0)) (ho : o < cs.size) (h1 : v.oneCell' = true) :
    (Instr.storeAt T (.pointer (some ⟨b, o, none⟩)) v).run P w = .ok () (w.setCell ⟨b, o, none⟩ v) := by
  obtain ⟨i, hi, hs⟩ := TyOne.info (P := P) (T := T)
  have hc : v.cells = #[v] := by cases v <;> simp_all [Value.cells, Value.oneCell']
  have hcell : w.cell? ⟨b, o, none⟩ = some cs[o] := by rw [hb.cell]; simp [ho]
  have hfr : w.frozen? ⟨b, o, none⟩ = false := by
    simp only [World.frozen?]
    rw [show w.heap[b]? = some (.cells cs U (0, 0)) from hb]
    simp
  have hst := run_store P w ⟨b, o, none⟩ v .plain h1
  simp only [hcell, hfr] at hst
  simp [Instr.storeAt, Instr.sureAddr, storeVar, hc, Go.sizeOf, typeInfo, hi, hs, storeCells, Go.Addr.add_zero', hst]
/-- One cell of a block is written. -/
def Put (w : World) (b : Nat) (cs : Array Value) (U : TypeId) (w' : World) : Prop := Ext [b] w w' ∧ w'.heap.size = w.heap.size ∧ Blk w' b cs U (0, 0)
theorem R.st {T : TypeId} [t : TyOne P T] {x y : Operand} {b o : Nat} {cs : Array Value} {U : TypeId} {v : Value} (hx : ev ρ x = some (.pointer (some ⟨b, o, none⟩))) (hy : ev ρ y = some v) (hb : Blk w b cs U (0, 0)) (ho : o < cs.size) (h1 : v.oneCell' = true) :
    Sets P n ρ w ⟨none, .store T x y, ty, pos, af, gd⟩ (Put w b (cs.setIfInBounds o v) U) :=
  ⟨_, fun f hf => by
    simp only [execOp, hf.eval hx, hf.eval hy, Sem.run_bind, run_store1 (T := T) hb ho h1]
    rfl, Ext.setCell _ ⟨b, o, none⟩ _, by simp, hb.set o v⟩
end
end Brv
/-
  Slices: parts of slices, the row that a slice owns, append, copy, bytes of strings.
-/
namespace Brv
open Go

/-- The address of xs[l:h] of a slice at a (m: its new end, size: an element's cells). -/
def subA (a : Option Addr) (l m size : Nat) : Option Addr := if m = l then a else a.map (·.add (l * size))

theorem Cells.sub {w : World} {a : Option Addr} {vs : List Value} (h : Cells w a vs) (l m size k : Nat) (_hk : l * size + k ≤ vs.length) (hm : m = l → k = 0) :
    Cells w (subA a l m size) ((vs.drop (l * size)).take k) := by
  intro j v hj
  have hlt := (List.getElem?_eq_some_iff.1 hj).1
  simp at hlt
  have hne : ¬ m = l := fun e => by have := hm e; omega
  have hj' : vs[l * size + j]? = some v := by
    rw [List.getElem?_take, if_pos (by omega), List.getElem?_drop] at hj
    exact hj
  obtain ⟨p, rfl, hc⟩ := h _ _ hj'
  refine ⟨p.add (l * size), by simp [subA, hne], ?_⟩
  rw [add_add]
  exact hc

/-- What a slice owns: nil, or a row that begins where the slice does and ends at its capacity. M: its block. -/
def Own (w : World) (E size : Nat) (a : Option Addr) (n cap : Nat) (xs : List Value) (M : List Nat) : Prop :=
  xs.length = n * size ∧
  ((a = none ∧ n = 0 ∧ cap = 0 ∧ M = []) ∨
   ∃ g cur, a = some ⟨g, 0, none⟩ ∧ M = [g] ∧ Blk w g cur E (0, 0) ∧ n ≤ cap ∧ cap ≤ maxLen ∧ cap * size ≤ cur.size ∧ cur.toList.take (n * size) = xs)

theorem Own.nil (w : World) (E size : Nat) : Own w E size none 0 0 [] [] := ⟨by simp, .inl ⟨rfl, rfl, rfl, rfl⟩⟩
theorem Own.len {w : World} {E size : Nat} {a : Option Addr} {n cap : Nat} {xs : List Value} {M : List Nat} (h : Own w E size a n cap xs M) : xs.length = n * size := h.1
theorem Own.le {w : World} {E size : Nat} {a : Option Addr} {n cap : Nat} {xs : List Value} {M : List Nat} (h : Own w E size a n cap xs M) : n ≤ cap := by
  rcases h.2 with ⟨_, rfl, rfl, _⟩ | ⟨g, cur, _, _, _, h, _⟩
  · exact Nat.le_refl _
  · exact h
theorem Own.lt {w : World} {E size : Nat} {a : Option Addr} {n cap : Nat} {xs : List Value} {M : List Nat} (h : Own w E size a n cap xs M) : ∀ b ∈ M, b < w.heap.size := by
  rcases h.2 with ⟨_, _, _, rfl⟩ | ⟨g, cur, _, rfl, hb, _⟩
  · simp
  · intro b hm; simp at hm; subst hm; exact hb.lt
theorem Own.ext {w w' : World} {E size : Nat} {a : Option Addr} {n cap : Nat} {xs : List Value} {M M' : List Nat} (h : Own w E size a n cap xs M) (he : Ext M' w w') (hm : ∀ b ∈ M, b ∉ M') : Own w' E size a n cap xs M := by
  refine ⟨h.1, ?_⟩
  rcases h.2 with h | ⟨g, cur, ha, hM, hb, h⟩
  · exact .inl h
  · exact .inr ⟨g, cur, ha, hM, hb.ext he (hm g (by simp [hM])), h⟩
theorem Own.ext0 {w w' : World} {E size : Nat} {a : Option Addr} {n cap : Nat} {xs : List Value} {M : List Nat} (h : Own w E size a n cap xs M) (he : Ext [] w w') : Own w' E size a n cap xs M := h.ext he (by simp)
theorem Own.cells {w : World} {E size : Nat} {a : Option Addr} {n cap : Nat} {xs : List Value} {M : List Nat} (h : Own w E size a n cap xs M) : Cells w a xs := by
  rcases h.2 with ⟨rfl, rfl, _, _⟩ | ⟨g, cur, rfl, _, hb, _, _, _, ht⟩
  · have : xs = [] := List.eq_nil_of_length_eq_zero (by simpa using h.1)
    subst this; exact Cells.nil _ _
  · refine Cells.of_blk hb 0 _ (fun j v hj => ?_)
    rw [← ht, List.getElem?_take] at hj
    split at hj
    · simpa using hj
    · cases hj
theorem Own.block {w : World} {E size : Nat} {a : Option Addr} {n cap : Nat} {xs : List Value} {M : List Nat} (h : Own w E size a n cap xs M) : ∀ p, a = some p → M = [p.block] := by
  intro p hp
  rcases h.2 with ⟨rfl, _⟩ | ⟨g, cur, rfl, rfl, _⟩
  · cases hp
  · cases hp; rfl
/-- A whole block, made at this length. -/
theorem Own.blk {w : World} {E size : Nat} {b : Nat} {cs : Array Value} {n : Nat} (hb : Blk w b cs E (0, 0)) (hn : cs.size = n * size) (hm : n ≤ maxLen) : Own w E size (some ⟨b, 0, none⟩) n n cs.toList [b] :=
  ⟨by simpa using hn, .inr ⟨b, cs, rfl, rfl, hb, Nat.le_refl _, hm, Nat.le_of_eq hn.symm, List.take_of_length_le (by rw [Array.length_toList]; omega)⟩⟩

section
variable {P : Program} {B : Exit → Act → World → Prop} {n : Fm} {ops : List Oper} {ks : List K} {ρ : Env} {w : World} {rest : List Oper}
variable {d : Nat} {ty : TypeId} {pos : String} {af : Array Edge} {gd : Option (Nat × Bool)}

/-! ### xs[l:h] -/
theorem run_subS {T E size bytes : Nat} {z : Value} [t : TySlice P T E size bytes z] {a : Option Addr} {m c l h x : Nat} {lo hi mx : Option Value} (w : World)
    (hb : (Instr.sliceBounds true m c lo hi mx).run P w = .ok (l, h, x) w) :
    (Instr.sliceAt T (.slice a m c) lo hi mx).run P w = .ok (.slice (subA a l x size) (h - l) (x - l)) w := by
  obtain ⟨j, hj, hs, _, _⟩ := t.i
  subst hs
  simp [Instr.sliceAt, Instr.slice, run_underlying t.h, hb, Go.sizeOf, typeInfo, hj, subA]
theorem R.slLH {T E size bytes : Nat} {z : Value} [t : TySlice P T E size bytes z] {x lo hi : Operand} {k k' : IntKind} {a : Option Addr} {m c : Nat} {i j : Int}  (hx : ev ρ x = some (.slice a m c)) (hlo : ev ρ lo = some (.int k i)) (hhi : ev ρ hi = some (.int k' j)) (h0 : 0 ≤ i) (h1 : i ≤ j) (h2 : j ≤ c) :
    Runs P n ρ w ⟨some d, .slice T x (some lo) (some hi) none, ty, pos, af, gd⟩ (.slice (subA a i.toNat c size) (j.toNat - i.toNat) (c - i.toNat)) w := (fun f hf => by
    have hb : (Instr.sliceBounds true m c (some (.int k i)) (some (.int k' j)) none).run P w = .ok (i.toNat, j.toNat, c) w := by
      simp [Instr.sliceBounds, sliceBound_ok (P := P) (k := k') (i := j) (y := c) (code := .sliceAcap) (by omega) h2 w, sliceBound_ok (P := P) (k := k) (i := i) (y := j.toNat) (code := .sliceB) h0 (by omega) w]
    have := run_subS (P := P) (T := T) (a := a) w hb
    simp only [execOp, hf.eval hx, hf.eval hlo, hf.eval hhi, Sem.run_bind, Option.map_some, Option.map_none, this]
    rfl)
theorem R.slH {T E size bytes : Nat} {z : Value} [t : TySlice P T E size bytes z] {x hi : Operand} {k' : IntKind} {a : Option Addr} {m c : Nat} {j : Int}  (hx : ev ρ x = some (.slice a m c)) (hhi : ev ρ hi = some (.int k' j)) (h1 : 0 ≤ j) (h2 : j ≤ c) :
    Runs P n ρ w ⟨some d, .slice T x none (some hi) none, ty, pos, af, gd⟩ (.slice (subA a 0 c size) j.toNat c) w := (fun f hf => by
    have hb : (Instr.sliceBounds true m c none (some (.int k' j)) none).run P w = .ok (0, j.toNat, c) w := by
      simp [Instr.sliceBounds, sliceBound_ok (P := P) (k := k') (i := j) (y := c) (code := .sliceAcap) (by omega) h2 w]
    have := run_subS (P := P) (T := T) (a := a) w hb
    simp only [execOp, hf.eval hx, hf.eval hhi, Sem.run_bind, Option.map_some, Option.map_none, this]
    rfl)
theorem R.slL {T E size bytes : Nat} {z : Value} [t : TySlice P T E size bytes z] {x lo : Operand} {k : IntKind} {a : Option Addr} {m c : Nat} {i : Int}  (hx : ev ρ x = some (.slice a m c)) (hlo : ev ρ lo = some (.int k i)) (h0 : 0 ≤ i) (h1 : i ≤ m) :
    Runs P n ρ w ⟨some d, .slice T x (some lo) none none, ty, pos, af, gd⟩ (.slice (subA a i.toNat c size) (m - i.toNat) (c - i.toNat)) w := (fun f hf => by
    have hb : (Instr.sliceBounds true m c (some (.int k i)) none none).run P w = .ok (i.toNat, m, c) w := by
      simp [Instr.sliceBounds, sliceBound_ok (P := P) (k := k) (i := i) (y := m) (code := .sliceB) h0 (by omega) w]
    have := run_subS (P := P) (T := T) (a := a) w hb
    simp only [execOp, hf.eval hx, hf.eval hlo, Sem.run_bind, Option.map_some, Option.map_none, this]
    rfl)
theorem R.slHM {T E size bytes : Nat} {z : Value} [t : TySlice P T E size bytes z] {x hi mx : Operand} {k k' : IntKind} {a : Option Addr} {m c : Nat} {j e : Int}  (hx : ev ρ x = some (.slice a m c)) (hhi : ev ρ hi = some (.int k j)) (hmx : ev ρ mx = some (.int k' e)) (h0 : 0 ≤ j) (h1 : j ≤ e) (h2 : e ≤ c) :
    Runs P n ρ w ⟨some d, .slice T x none (some hi) (some mx), ty, pos, af, gd⟩ (.slice (subA a 0 e.toNat size) j.toNat e.toNat) w := (fun f hf => by
    have hb : (Instr.sliceBounds true m c none (some (.int k j)) (some (.int k' e))).run P w = .ok (0, j.toNat, e.toNat) w := by
      simp [Instr.sliceBounds, sliceBound_ok (P := P) (k := k') (i := e) (y := c) (code := .slice3Acap) (by omega) h2 w, sliceBound_ok (P := P) (k := k) (i := j) (y := e.toNat) (code := .slice3B) h0 (by omega) w]
    have := run_subS (P := P) (T := T) (a := a) w hb
    simp only [execOp, hf.eval hx, hf.eval hhi, hf.eval hmx, Sem.run_bind, Option.map_some, Option.map_none, this]
    rfl)
theorem subA_zero (a : Option Addr) (m size : Nat) : subA a 0 m size = a := by
  unfold subA
  split
  · rfl
  · cases a <;> simp [Go.Addr.add_zero']

/-! ### append -/
theorem cells_none {w : World} {vs : List Value} (h : Cells w none vs) : vs = [] := by
  cases vs with
  | nil => rfl
  | cons v r => obtain ⟨p, hp, _⟩ := h 0 v rfl; cases hp
theorem run_first {w : World} {size m c : Nat} {b : Option Addr} {cs : List Value} (hc : Cells w b cs) (hl : cs.length = m * size) :
    (Builtin.firstCells size m (.slice b m c)).run P w = .ok cs.toArray w := by
  cases b with
  | none =>
    have := cells_none hc; subst this
    simp [Builtin.firstCells]
  | some p => exact run_firstCells_some (P := P) w size m p m c cs hl (fun j v hv => hc.load hv)

theorem run_app {T E size bytes : Nat} {z : Value} [t : TySlice P T E size bytes z] {a : Option Addr} {n cap : Nat} {xs : List Value} {M : List Nat} (hown : Own w E size a n cap xs M)
    {b : Option Addr} {m c : Nat} {news : List Value} (hnews : Cells w b news) (hl : news.length = m * size) (h1 : ∀ u ∈ news, u.oneCell' = true) (h63 : n + m ≤ maxLen) (hby : (n + m) * bytes ≤ 140737488355328) (ty : Nat) :
    ∃ a' cap' M' w', (Builtin.append_ #[T, T] ty #[.slice a n cap, .slice b m c]).run P w = .ok (.slice a' (n + m) cap') w' ∧ Own w' E size a' (n + m) cap' (xs ++ news) M' ∧ Ext M w w' ∧ (∀ g ∈ M', g ∈ M ∨ w.heap.size ≤ g) := by
  obtain ⟨j, hj, hs, hb, hz⟩ := t.i
  have hzs := t.zs
  subst hs hb
  have hsmall : n + m ≤ 9223372036854775807 := by simp only [maxLen] at h63; omega
  have hlen : (xs ++ news).length = (n + m) * j.size := by rw [List.length_append, hown.1, hl, Nat.add_mul]
  by_cases hroom : n + m ≤ cap
  · rcases hown.2 with ⟨rfl, rfl, rfl, rfl⟩ | ⟨g, cur, rfl, rfl, hg, hnc, hcm, hcs, ht⟩
    · have hm0 : m = 0 := by omega
      subst hm0
      have : news = [] := List.eq_nil_of_length_eq_zero (by simpa using hl)
      subst this
      refine ⟨none, 0, [], w, ?_, ⟨by simpa using hown.1, .inl ⟨rfl, rfl, rfl, rfl⟩⟩, Ext.refl _ _, by simp⟩
      have hf := run_first (P := P) (size := j.size) (c := c) hnews hl
      simp [Builtin.append_, run_underlying t.h, Go.sizeOf, typeInfo, hj, Builtin.lenOf, hf]
    · have hf := run_first (P := P) (size := j.size) (c := c) hnews hl
      have hfit : n * j.size + news.length ≤ cur.size := by rw [hl, ← Nat.add_mul]; exact Nat.le_trans (Nat.mul_le_mul_right _ hroom) hcs
      have hst := run_storeCells_at P g (n * j.size) E news 0 cur w hg (by simpa using hfit) h1
      simp only [Nat.add_zero] at hst
      refine ⟨some ⟨g, 0, none⟩, cap, [g], w.setRow g (cur.toList.take (n * j.size) ++ news ++ cur.toList.drop (n * j.size + news.length)).toArray, ?_, ⟨hlen, .inr ⟨g, _, rfl, rfl, setRow_heap w g cur _ E _ hg, hroom, hcm, ?_, ?_⟩⟩, ⟨rfl, rfl, rfl, by simp, fun k _ hk => setRow_other w g k _ (fun e => hk (by simp [e]))⟩, fun x hx => .inl hx⟩
      · simp [Builtin.append_, run_underlying t.h, Go.sizeOf, typeInfo, hj, Builtin.lenOf, hroom, hf, Go.Addr.add_lit, hst]
      · simp only [List.size_toArray, List.length_append, List.length_take, List.length_drop, Array.length_toList]
        refine Nat.le_trans hcs ?_
        omega
      · rw [ht, ← hlen]
        exact List.take_left
  · have hf := run_first (P := P) (size := j.size) (c := c) (w := w.drew) (b := b) (cs := news) (fun i v hv => by
      obtain ⟨p, hp, hc⟩ := hnews i v hv; exact ⟨p, hp, by simpa using hc⟩) hl
    have hfo := run_first (P := P) (size := j.size) (c := cap) (w := w.drew) (b := a) (cs := xs) (m := n) (fun i v hv => by
      obtain ⟨p, hp, hc⟩ := hown.cells i v hv; exact ⟨p, hp, by simpa using hc⟩) hown.1
    have h63' : ¬ (9223372036854775807 < ((n : Int) + (m : Int))) := by omega
    have hfit := growslice_fits (need := n + m) (old := cap) (bytes := j.bytes) (by omega) hby
    have h48' : ¬ (281474976710656 < Builtin.nextslicecap (n + m) cap * j.bytes) := by omega
    have hge := grownCap_ge w (n + m) cap E
    have hcm := grownCap_le_maxLen w (n + m) cap E h63
    refine ⟨some ⟨w.heap.size, 0, none⟩, grownCap w (n + m) cap E, [w.heap.size], w.drew.alloc (.cells (xs.toArray ++ news.toArray ++ Builtin.zeroCells z.cells (grownCap w (n + m) cap E - (n + m))) E), ?_, ⟨hlen, .inr ⟨w.heap.size, _, rfl, rfl, Blk.new w.drew _ _ _, hge, hcm, ?_, ?_⟩⟩, ?_, fun x hx => .inr (by simp at hx; omega)⟩
    · simp [Builtin.append_, run_underlying t.h, Go.sizeOf, typeInfo, zeroValue, hj, hz, Builtin.lenOf, show ¬ n + m ≤ cap by omega, h63', h48', Question.forced, hf, hfo, newRow, grownCap]
      congr 2
      apply Array.ext'
      simp [List.append_assoc]
    · simp only [Array.size_append, List.size_toArray, size_zeroCells, hzs, hown.1, hl, ← Nat.add_mul]
      refine Nat.le_of_eq ?_
      congr 1
      omega
    · simp only [Array.toList_append, List.append_assoc]
      rw [← List.append_assoc, ← hlen]
      exact List.take_left
    · have h1 := (Ext.drew w).trans0 (Ext.alloc w.drew (.cells (xs.toArray ++ news.toArray ++ Builtin.zeroCells z.cells (grownCap w (n + m) cap E - (n + m))) E))
      exact h1.mono (by simp)
theorem run_appZ {T E I size bytes : Nat} {z : Value} [t : TySlice P T E size bytes z] [ti : TyInt P I .i64] {a : Option Addr} {n cap : Nat} {xs : List Value} {M : List Nat} (hown : Own w E size a n cap xs M)
    {m : Nat} (h1 : ∀ u ∈ z.cells.toList, u.oneCell' = true) (h63 : n + m ≤ maxLen) (hby : (n + m) * bytes ≤ 140737488355328) (hpos : 0 < size) (hbp : 0 < bytes) (ty : Nat) :
    ∃ a' cap' M' w', (Builtin.append_ #[T, I] ty #[.slice a n cap, .int .i64 m]).run P w = .ok (.slice a' (n + m) cap') w' ∧ Own w' E size a' (n + m) cap' (xs ++ (Builtin.zeroCells z.cells m).toList) M' ∧ Ext M w w' ∧ (∀ g ∈ M', g ∈ M ∨ w.heap.size ≤ g) := by
  obtain ⟨j, hj, hs, hb, hz⟩ := t.i
  have hzs := t.zs
  subst hs hb
  have hI := ti.h
  have hl : (Builtin.zeroCells z.cells m).toList.length = m * j.size := by rw [Array.length_toList, size_zeroCells, hzs]
  have hmm : m ≤ m * j.bytes := Nat.le_mul_of_pos_right _ hbp
  have hmb : m * j.bytes ≤ (n + m) * j.bytes := Nat.mul_le_mul_right _ (by omega)
  have hsmall : n + m ≤ 9223372036854775807 := by simp only [maxLen] at h63; omega
  have hwr : IntKind.i64.wrap ((m : Nat) : Int) = m := wrap_i64 (by omega)
  have hbig : ¬ (281474976710656 : Int) < (m : Int) * (j.bytes : Int) := by
    have : ((m * j.bytes : Nat) : Int) = (m : Int) * (j.bytes : Int) := by simp
    omega
  have hneg : ¬ ((m : Nat) : Int) < 0 := by omega
  have hai : (asInt (.int .i64 (m : Int))).run P w = .ok (m : Int) w := by simp [asInt, asIntOf]
  have hlen : (xs ++ (Builtin.zeroCells z.cells m).toList).length = (n + m) * j.size := by rw [List.length_append, hown.1, hl, Nat.add_mul]
  have h1' : ∀ u ∈ (Builtin.zeroCells z.cells m).toList, u.oneCell' = true := by
    intro u hu
    simp only [Builtin.zeroCells, Array.toList_map, List.mem_map, Array.mem_toList_iff, Array.mem_range] at hu
    obtain ⟨i, hi, rfl⟩ := hu
    have : i % z.cells.size < z.cells.size := Nat.mod_lt _ (by rw [hzs]; exact hpos)
    rw [getElem!_pos z.cells _ this]
    exact h1 _ (by simp)
  have hzl : m * j.size = 0 → (Builtin.zeroCells z.cells m) = #[] := by
    intro h0
    exact Array.eq_empty_of_size_eq_zero (by rw [size_zeroCells, hzs]; exact h0)
  by_cases hroom : n + m ≤ cap
  · rcases hown.2 with ⟨rfl, rfl, rfl, rfl⟩ | ⟨g, cur, rfl, rfl, hg, hnc, hcm, hcs, ht⟩
    · have hm0 : m = 0 := by omega
      subst hm0
      refine ⟨none, 0, [], w, ?_, ⟨hlen, .inl ⟨rfl, rfl, rfl, rfl⟩⟩, Ext.refl _ _, by simp⟩
      have hai0 : (asInt (.int .i64 0)).run P w = .ok 0 w := hai
      have hwr0 : IntKind.i64.wrap 0 = 0 := hwr
      simp [Builtin.append_, run_underlying t.h, run_underlying hI, Go.sizeOf, typeInfo, hj, hai0, hwr0]
    · have hfit : n * j.size + (Builtin.zeroCells z.cells m).toList.length ≤ cur.size := by rw [hl, ← Nat.add_mul]; exact Nat.le_trans (Nat.mul_le_mul_right _ hroom) hcs
      have hst := run_storeCells_at P g (n * j.size) E (Builtin.zeroCells z.cells m).toList 0 cur w hg (by simpa using hfit) h1'
      simp only [Nat.add_zero] at hst
      refine ⟨some ⟨g, 0, none⟩, cap, [g], w.setRow g (cur.toList.take (n * j.size) ++ (Builtin.zeroCells z.cells m).toList ++ cur.toList.drop (n * j.size + (Builtin.zeroCells z.cells m).toList.length)).toArray, ?_, ⟨hlen, .inr ⟨g, _, rfl, rfl, setRow_heap w g cur _ E _ hg, hroom, hcm, ?_, ?_⟩⟩, ⟨rfl, rfl, rfl, by simp, fun k _ hk => setRow_other w g k _ (fun e => hk (by simp [e]))⟩, fun x hx => .inl hx⟩
      · by_cases h0 : m * j.size = 0
        · rw [hzl h0] at hst ⊢
          simp [Builtin.append_, run_underlying t.h, run_underlying hI, Go.sizeOf, typeInfo, hj, hroom, h0, hwr, hneg, hbig, hai, Go.Addr.add_lit] at hst ⊢
          simp [hst]
        · simp [Builtin.append_, run_underlying t.h, run_underlying hI, Go.sizeOf, typeInfo, zeroValue, hz, hj, hroom, h0, hwr, hneg, hbig, hai, Go.Addr.add_lit, hst]
      · simp only [List.size_toArray, List.length_append, List.length_take, List.length_drop, Array.length_toList]
        refine Nat.le_trans hcs ?_
        omega
      · rw [ht, ← hlen]
        exact List.take_left
  · have hfo := run_first (P := P) (size := j.size) (c := cap) (w := w.drew) (b := a) (cs := xs) (m := n) (fun i v hv => by
      obtain ⟨p, hp, hc⟩ := hown.cells i v hv; exact ⟨p, hp, by simpa using hc⟩) hown.1
    have h63' : ¬ (9223372036854775807 < ((n : Int) + (m : Int))) := by omega
    have hfit := growslice_fits (need := n + m) (old := cap) (bytes := j.bytes) (by omega) hby
    have h48' : ¬ (281474976710656 < Builtin.nextslicecap (n + m) cap * j.bytes) := by omega
    have hge := grownCap_ge w (n + m) cap E
    have hcm := grownCap_le_maxLen w (n + m) cap E h63
    refine ⟨some ⟨w.heap.size, 0, none⟩, grownCap w (n + m) cap E, [w.heap.size], w.drew.alloc (.cells (xs.toArray ++ (Builtin.zeroCells z.cells m) ++ Builtin.zeroCells z.cells (grownCap w (n + m) cap E - (n + m))) E), ?_, ⟨hlen, .inr ⟨w.heap.size, _, rfl, rfl, Blk.new w.drew _ _ _, hge, hcm, ?_, ?_⟩⟩, ?_, fun x hx => .inr (by simp at hx; omega)⟩
    · by_cases h0 : m * j.size = 0
      · rw [hzl h0]
        simp [Builtin.append_, run_underlying t.h, run_underlying hI, Go.sizeOf, typeInfo, zeroValue, hj, hz, h0, hwr, hneg, hbig, hai, show ¬ n + m ≤ cap by omega, h63', h48', Question.forced, hfo, newRow, grownCap]
      · simp [Builtin.append_, run_underlying t.h, run_underlying hI, Go.sizeOf, typeInfo, zeroValue, hj, hz, h0, hwr, hneg, hbig, hai, show ¬ n + m ≤ cap by omega, h63', h48', Question.forced, hfo, newRow, grownCap]
    · simp only [Array.size_append, List.size_toArray, size_zeroCells, hzs, hown.1, ← Nat.add_mul]
      refine Nat.le_of_eq ?_
      congr 1
      omega
    · simp only [Array.toList_append, List.append_assoc]
      rw [← List.append_assoc, ← hlen]
      exact List.take_left
    · have h1 := (Ext.drew w).trans0 (Ext.alloc w.drew (.cells (xs.toArray ++ (Builtin.zeroCells z.cells m) ++ Builtin.zeroCells z.cells (grownCap w (n + m) cap E - (n + m))) E))
      exact h1.mono (by simp)
/-- What an append leaves: a slice that owns the longer row. -/
def Appended (w : World) (E size : Nat) (M : List Nat) (n : Nat) (xs : List Value) (v : Value) (w' : World) : Prop :=
  ∃ a' cap' M', v = .slice a' n cap' ∧ Ext M w w' ∧ (∀ g ∈ M', g ∈ M ∨ w.heap.size ≤ g) ∧ Own w' E size a' n cap' xs M'
theorem R.app {T E size bytes : Nat} {z : Value} [t : TySlice P T E size bytes z] {s x : Operand} {a : Option Addr} {m0 cap : Nat} {xs : List Value} {M : List Nat} {b : Option Addr} {m c : Nat} {news : List Value}
    (hs : ev ρ s = some (.slice a m0 cap)) (hx : ev ρ x = some (.slice b m c)) (hown : Own w E size a m0 cap xs M)
    (hnews : Cells w b news) (hl : news.length = m * size) (h1 : ∀ u ∈ news, u.oneCell' = true) (h63 : m0 + m ≤ maxLen) (hby : (m0 + m) * bytes ≤ 140737488355328) :
    Does P n ρ w ⟨some d, .call ⟨.builtin .append, #[s, x], #[T, T]⟩, ty, pos, af, gd⟩ (Appended w E size M (m0 + m) (xs ++ news)) := by
  obtain ⟨a', cap', M', w', hr, ho, he, hm⟩ := run_app (P := P) (T := T) hown (c := c) hnews hl h1 h63 hby ty
  exact ⟨_, _, fun f hf => by
    simp only [execOp, resolve, invoke, builtin, Sem.run_bind, Sem.run_pure, Result.andThen_ok, List.map_toArray, List.map_cons, List.map_nil, hf.eval hs, hf.eval hx, hr], a', cap', M', rfl, he, hm, ho⟩

/-! ### bytes of strings -/
/-- append(xs, make(_, m)...) -/
theorem R.appZ {T E I size bytes : Nat} {z : Value} [t : TySlice P T E size bytes z] [ti : TyInt P I .i64] {s x : Operand} {a : Option Addr} {m0 cap m : Nat} {xs : List Value} {M : List Nat}
    (hs : ev ρ s = some (.slice a m0 cap)) (hx : ev ρ x = some (.int .i64 m)) (hown : Own w E size a m0 cap xs M)
    (h1 : ∀ u ∈ z.cells.toList, u.oneCell' = true) (h63 : m0 + m ≤ maxLen) (hby : (m0 + m) * bytes ≤ 140737488355328) (hpos : 0 < size) (hbp : 0 < bytes) :
    Does P n ρ w ⟨some d, .call ⟨.builtin .append, #[s, x], #[T, I]⟩, ty, pos, af, gd⟩ (Appended w E size M (m0 + m) (xs ++ (Builtin.zeroCells z.cells m).toList)) := by
  obtain ⟨a', cap', M', w', hr, ho, he, hm⟩ := run_appZ (P := P) (T := T) (I := I) hown (m := m) h1 h63 hby hpos hbp ty
  exact ⟨_, _, fun f hf => by
    simp only [execOp, resolve, invoke, builtin, Sem.run_bind, Sem.run_pure, Result.andThen_ok, List.map_toArray, List.map_cons, List.map_nil, hf.eval hs, hf.eval hx, hr], a', cap', M', rfl, he, hm, ho⟩

/-- Bytes in a new row, to be read. -/
def NewB (w : World) (l : List UInt8) (v : Value) (w' : World) : Prop := ∃ b cap, v = .slice (some ⟨b, 0, none⟩) l.length cap ∧ w.heap.size = b ∧ b < w'.heap.size ∧ l.length ≤ cap ∧ Ext [] w w' ∧ Cells w' (some ⟨b, 0, none⟩) (vbs l)
theorem R.strBytes {S T E : TypeId} [s : TyStr P S] [t : TyBytes P T E] {x : Operand} {l : List UInt8} (hx : ev ρ x = some (.string (str l))) :
    Does P n ρ w ⟨some d, .convert S T x, ty, pos, af, gd⟩ (NewB w l) := by
  have hr := run_bytes_of_string w S T E (str l) s.h t.h t.e
  have hge := grownCap_ge w l.length 0 E
  rw [str_size] at hr
  have hcl : Cells (w.drew.alloc (.cells (bytesRow (str l) (grownCap w l.length 0 E)) E ((bytesRow (str l) (grownCap w l.length 0 E)).size, (bytesRow (str l) (grownCap w l.length 0 E)).size + 1))) (some ⟨w.heap.size, 0, none⟩) (vbs l) := by
    refine Cells.of_blk (Blk.new w.drew _ _ _) 0 _ (fun j v hj => ?_)
    simp only [vbs_get] at hj
    have hlt : j < l.length := by
      rcases Nat.lt_or_ge j l.length with h | h
      · exact h
      · rw [List.getElem?_eq_none h] at hj; cases hj
    rw [List.getElem?_eq_getElem hlt] at hj
    simp at hj; subst hj
    have h2 : j < (Array.map (fun b : UInt8 => Value.int .u8 b.toNat) (str l).data).size := by simpa [str] using hlt
    simp only [bytesRow, Nat.zero_add]
    rw [Array.getElem?_append_left h2]
    simp [str, vb, hlt]
  refine ⟨_, _, fun f hf => ?_, w.heap.size, grownCap w l.length 0 E, rfl, rfl, by simp, hge, (Ext.drew w).trans0 (Ext.alloc w.drew _), hcl⟩
  simp only [execOp, hf.eval hx, Sem.run_bind, hr, Result.andThen_ok]
  rfl
end
end Brv
/-
  Regions that draw their order: one walk in the text's order serves every order, where each operation's result is told by a value, or by a fact that stays true while the others run.
-/
namespace Brv
open Go

/-- What is known of a slot: its value, or a fact on it. -/
inductive Sp where
  | eq (v : Value)
  | rel (A : Value → World → Prop)
def Sp.ok : Sp → Value → World → Prop
  | .eq u, v, _ => v = u
  | .rel A, v, w => A v w
abbrev DEnv := List (Nat × Sp)
def lookD : DEnv → Nat → Option Sp
  | [], _ => none
  | (s, x) :: r, t => match Nat.beq s t with
    | true => some x
    | false => lookD r t
theorem lookD_cons (s : Nat) (x : Sp) (r : DEnv) (t : Nat) : lookD ((s, x) :: r) t = if s = t then some x else lookD r t := by
  simp only [lookD]
  by_cases h : s = t
  · have hb : Nat.beq s t = true := by subst h; exact Nat.beq_refl s
    rw [hb]; simp [h]
  · have hb : Nat.beq s t = false := by
      cases hq : Nat.beq s t with
      | false => rfl
      | true => exact absurd (Nat.eq_of_beq_eq_true hq) h
    rw [hb]; simp [h]
def ofEnv (ρ : Env) : DEnv := ρ.map fun p => (p.1, .eq p.2)
theorem lookD_ofEnv : ∀ (ρ : Env) (t : Nat), lookD (ofEnv ρ) t = (look ρ t).map Sp.eq
  | [], t => rfl
  | (s, v) :: r, t => by
    simp only [ofEnv, List.map_cons]
    rw [lookD_cons, look_cons]
    split
    · rfl
    · exact lookD_ofEnv r t

/-- The slots that an operation looks at. -/
def tmpsOf : List Operand → List Nat
  | [] => []
  | .tmp t :: r => t :: tmpsOf r
  | _ :: r => tmpsOf r
def slots (ops : List Oper) (o : Oper) : List Nat :=
  tmpsOf o.op.operands.toList ++ (match o.guard with
    | some (j, _) => match (ops[j]?).bind (·.dst) with
      | some d => [d]
      | none => []
    | none => [])
theorem mem_tmpsOf {t : Nat} : ∀ {xs : List Operand}, Operand.tmp t ∈ xs → t ∈ tmpsOf xs
  | x :: r, h => by
    simp only [List.mem_cons] at h
    rcases h with h | h
    · subst h; simp [tmpsOf]
    · have := mem_tmpsOf h
      cases x <;> simp [tmpsOf, this]

/-- Does the edge bind in every order? -/
def bindsAny (e : Edge) : Bool := Region.binds .any e
def afters (ops : List Oper) (i : Nat) : List Nat :=
  match ops[i]? with
  | some o => (o.after.toList.filter bindsAny).map (·.on)
  | none => []
/-- Of each of the first k operations, a mask of all that it comes behind. -/
def masks (ops : List Oper) : Nat → List Nat
  | 0 => []
  | k + 1 => (fun l => l ++ [(afters ops k).foldl (fun m e => m ||| (2 ^ e ||| l.getD e 0)) 0]) (masks ops k)
/-- i comes behind j. -/
def reachIn (ms : List Nat) (i j : Nat) : Bool := (ms.getD i 0).testBit j
/-- Is the operation's order told, as far as slots are shared? (σ: the operations that turn the state, one behind the other) -/
def isSelect : Op → Bool
  | .defer _ => true
  | .select .. => true
  | _ => false
def chkAt (ops : List Oper) (i : Nat) (o : Oper) : Bool :=
  !isSelect o.op &&
  (afters ops i).all (fun k => Nat.blt k i) &&
  (slots ops o).all (fun t => ops.zipIdx.all fun p => match p.1.dst with
    | some d => !Nat.beq d t || Nat.beq p.2 i || (afters ops i).any (Nat.beq p.2) || (afters ops p.2).any (Nat.beq i)
    | none => true) &&
  (match o.dst with
    | some d => !(slots ops o).any (Nat.beq d) && ops.zipIdx.all (fun p => Nat.beq p.2 i || (match p.1.dst with | some d' => !Nat.beq d d' | none => true))
    | none => true)
def chain (ms : List Nat) : List Nat → Bool
  | [] => true
  | [_] => true
  | s :: t :: r => reachIn ms t s && chain ms (t :: r)
def chk (ops : List Oper) (σ : List Nat) : Bool :=
  (ops.zipIdx.all fun p => chkAt ops p.2 p.1) && chain (masks ops ops.length) σ

/-- The stages in which operation i may run: how many of σ are done. -/
def loF (ms : List Nat) (i : Nat) : List Nat → Nat → Nat → Nat
  | [], _, acc => acc
  | s :: r, m, acc => loF ms i r (m + 1) (if reachIn ms i s then m + 1 else acc)
def hiF (ms : List Nat) (i : Nat) : List Nat → Nat → Nat
  | [], m => m
  | s :: r, m => if Nat.beq s i || reachIn ms s i then m else hiF ms i r (m + 1)
def inRng (ops : List Oper) (σ : List Nat) (i k : Nat) : Prop := loF (masks ops ops.length) i σ 0 0 ≤ k ∧ k ≤ hiF (masks ops ops.length) i σ 0
def stepsOf (σ : List Nat) (i : Nat) : Nat := if σ.any (Nat.beq i) then 1 else 0

/-- Is a slot's fact given up by some operation? -/
def killed (X : List (Nat × Nat)) (t : Nat) : Bool := X.any fun p => Nat.beq p.2 t
/-- An operation that gives up a slot's fact comes behind all others that look at the slot. -/
def chkKill (ops : List Oper) (X : List (Nat × Nat)) : Bool :=
  X.all fun p => ops.zipIdx.all fun q => !(slots ops q.1).any (Nat.beq p.2) || Nat.beq q.2 p.1 || reachIn (masks ops ops.length) p.1 q.2

section
variable (P : Program) (n : Fm) (ops : List Oper) (Q : Exit → Act → World → Prop) (J : Nat → World → Prop) (R : Nat → World → World → Prop) (X : List (Nat × Nat)) (σ : List Nat)

/-- What an operation finds in the slots that it looks at. -/
def Finds (δ : DEnv) (o : Oper) (a : Act) (w : World) : Prop := ∀ t ∈ slots ops o, ∀ s, lookD δ t = some s → ∃ v, a.tmps[t]? = some v ∧ s.ok v w

/-- The operation, or what it leaves where it is passed over. -/
def wpo (o : Oper) (K' : Act → World → Prop) (a : Act) (w : World) : Prop :=
  if Region.wanted o (yielded ops.toArray a.tmps) then o.wpIn (fen n.ro) 0 P a w K' Q else K' (a.put o.dst undef) w

def ValidOp (δ : DEnv) (i : Nat) (o : Oper) (sp : Sp) : Prop :=
  (∀ t s, lookD δ t = some s → t < n.n) → ∀ a w k, a.tmps.size = n.n → a.defers = n.df → Finds ops δ o a w → inRng ops σ i k → J k w →
    wpo P n ops Q o (fun a' w' => ∃ v, a' = a.put o.dst v ∧ (o.dst ≠ none → sp.ok v w') ∧ R i w w' ∧ J (k + stepsOf σ i) w') a w

/-- The walk of the operations from the i-th on. -/
def D : DEnv → Nat → List Oper → Prop
  | δ, _, [] => ∀ a w, a.tmps.size = n.n → a.defers = n.df → (∀ t s, lookD δ t = some s → killed X t = false → ∃ v, a.tmps[t]? = some v ∧ s.ok v w) → J σ.length w → Q .normal a w
  | δ, i, o :: rest => ∃ sp, (∀ A d, sp = .rel A → o.dst = some d → ∀ i', (i', d) ∉ X → reachIn (masks ops ops.length) i i' = false → i' ≠ i → ∀ v w w', R i' w w' → A v w → A v w') ∧ (∀ d, o.dst = some d → d < n.n) ∧ ValidOp P n ops Q J R σ δ i o sp ∧
      D (match o.dst with | some d => (d, sp) :: δ | none => δ) (i + 1) rest
end

section
variable {P : Program} {n : Fm} {ops : List Oper} {Q : Exit → Act → World → Prop} {J : Nat → World → Prop} {R : Nat → World → World → Prop} {X : List (Nat × Nat)} {σ : List Nat}

theorem Finds.congr {δ δ' : DEnv} {o : Oper} {a : Act} {w : World} (h : ∀ t, lookD δ t = lookD δ' t) (hf : Finds ops δ o a w) : Finds ops δ' o a w :=
  fun t ht s hs => hf t ht s (by rw [h]; exact hs)
theorem D.congr : ∀ {l : List Oper} {δ δ' : DEnv} {i : Nat}, (∀ t, lookD δ t = lookD δ' t) → D P n ops Q J R X σ δ i l → D P n ops Q J R X σ δ' i l
  | [], δ, δ', i, h, hd => fun a w h1 h2 h3 h4 => hd a w h1 h2 (fun t s hs => h3 t s (by rw [← h]; exact hs)) h4
  | o :: rest, δ, δ', i, h, ⟨sp, h1, h2, h3, h4⟩ => by
    refine ⟨sp, h1, h2, ?_, ?_⟩
    · intro hn a w k hs hd hf
      exact h3 (fun t s ht => hn t s (by rw [← h]; exact ht)) a w k hs hd (hf.congr (fun t => (h t).symm))
    · cases hdst : o.dst with
      | none => rw [hdst] at h4; exact D.congr h h4
      | some d =>
        rw [hdst] at h4
        refine D.congr (fun t => ?_) h4
        rw [lookD_cons, lookD_cons, h]

/-! ### soundness -/
theorem beq_iff (a b : Nat) : Nat.beq a b = true ↔ a = b := ⟨Nat.eq_of_beq_eq_true, fun h => by subst h; exact Nat.beq_refl a⟩

/-- The environment that the text has ahead of the i-th operation. -/
def envAt (ops : List Oper) (sps : Nat → Sp) (δ₀ : DEnv) : Nat → DEnv
  | 0 => δ₀
  | i + 1 => match (ops[i]?).bind (·.dst) with
    | some d => (d, sps i) :: envAt ops sps δ₀ i
    | none => envAt ops sps δ₀ i

/-- All the obligations at once. -/
theorem D.all : ∀ {l pre : List Oper} {δ : DEnv} {i : Nat} (δ₀ : DEnv) (sps₀ : Nat → Sp), ops = pre ++ l → i = pre.length → δ = envAt ops sps₀ δ₀ i → D P n ops Q J R X σ δ i l →
    ∃ sps : Nat → Sp, (∀ j, j < i → sps j = sps₀ j) ∧
      (∀ j o, i ≤ j → ops[j]? = some o → (∀ A d, sps j = .rel A → o.dst = some d → ∀ i', (i', d) ∉ X → reachIn (masks ops ops.length) j i' = false → i' ≠ j → ∀ v w w', R i' w w' → A v w → A v w') ∧ (∀ d, o.dst = some d → d < n.n) ∧ ValidOp P n ops Q J R σ (envAt ops sps δ₀ j) j o (sps j)) ∧
      (∀ a w, a.tmps.size = n.n → a.defers = n.df → (∀ t s, lookD (envAt ops sps δ₀ ops.length) t = some s → killed X t = false → ∃ v, a.tmps[t]? = some v ∧ s.ok v w) → J σ.length w → Q .normal a w)
  | [], pre, δ, i, δ₀, sps₀, ho, hi, hδ, hd => by
    refine ⟨sps₀, fun _ _ => rfl, fun j o hj hoj => ?_, ?_⟩
    · have : j < ops.length := (List.getElem?_eq_some_iff.1 hoj).1
      rw [ho] at this; simp at this; omega
    · have : ops.length = i := by rw [ho, hi]; simp
      rw [this, ← hδ]
      exact hd
  | o :: rest, pre, δ, i, δ₀, sps₀, ho, hi, hδ, ⟨sp, h1, h2, h3, h4⟩ => by
    have hoi : ops[i]? = some o := by rw [ho, hi]; simp
    have agree : ∀ m, m ≤ i → envAt ops (fun j => if j = i then sp else sps₀ j) δ₀ m = envAt ops sps₀ δ₀ m := by
      intro m
      induction m with
      | zero => intro _; rfl
      | succ m ih =>
        intro hm
        simp only [envAt]
        rw [ih (by omega), if_neg (by omega : ¬ m = i)]
    obtain ⟨sps, g1, g2, g3⟩ := D.all (l := rest) (pre := pre ++ [o]) (i := i + 1) δ₀ (fun j => if j = i then sp else sps₀ j) (by rw [ho]; simp) (by simp [hi]) (by
      simp only [envAt, hoi, Option.bind_some]
      rw [agree i (Nat.le_refl _), ← hδ]
      simp) h4
    refine ⟨sps, fun j hj => by rw [g1 j (by omega)]; simp [show ¬ j = i by omega], fun j o' hj ho' => ?_, g3⟩
    by_cases hji : j = i
    · subst hji
      rw [hoi] at ho'; cases ho'
      have hsp : sps j = sp := by rw [g1 j (by omega)]; simp
      have henv : envAt ops sps δ₀ j = δ := by
        rw [hδ, ← agree j (Nat.le_refl _)]
        have : ∀ m, m ≤ j → envAt ops sps δ₀ m = envAt ops (fun q => if q = j then sp else sps₀ q) δ₀ m := by
          intro m
          induction m with
          | zero => intro _; rfl
          | succ m ih => intro hm; simp only [envAt]; rw [ih (by omega), g1 m (by omega)]
        exact this j (Nat.le_refl _)
      rw [hsp, henv]
      exact ⟨h1, h2, h3⟩
    · exact g2 j o' (by omega) ho'

/-- Where the text's environment at i has a slot from. -/
theorem lookD_envAt {sps : Nat → Sp} {δ₀ : DEnv} {t : Nat} {s : Sp} : ∀ {i : Nat}, lookD (envAt ops sps δ₀ i) t = some s →
    (∃ j o, j < i ∧ ops[j]? = some o ∧ o.dst = some t ∧ s = sps j) ∨ (lookD δ₀ t = some s ∧ ∀ j o, j < i → ops[j]? = some o → o.dst ≠ some t)
  | 0, h => .inr ⟨h, fun j o hj => by omega⟩
  | i + 1, h => by
    simp only [envAt] at h
    cases ho : ops[i]? with
    | none =>
      simp only [ho, Option.bind_none] at h
      rcases lookD_envAt h with ⟨j, o, hj, hoj, hd, hs⟩ | ⟨h1, h2⟩
      · exact .inl ⟨j, o, by omega, hoj, hd, hs⟩
      · refine .inr ⟨h1, fun j o hj hoj => ?_⟩
        by_cases e : j = i
        · subst e; rw [ho] at hoj; cases hoj
        · exact h2 j o (by omega) hoj
    | some o =>
      simp only [ho, Option.bind_some] at h
      cases hd : o.dst with
      | none =>
        simp only [hd] at h
        rcases lookD_envAt h with ⟨j, o', hj, hoj, hd', hs⟩ | ⟨h1, h2⟩
        · exact .inl ⟨j, o', by omega, hoj, hd', hs⟩
        · refine .inr ⟨h1, fun j o' hj hoj => ?_⟩
          by_cases e : j = i
          · subst e; rw [ho] at hoj; cases hoj; rw [hd]; simp
          · exact h2 j o' (by omega) hoj
      | some d =>
        simp only [hd] at h
        rw [lookD_cons] at h
        split at h
        · rename_i e; subst e; cases h
          exact .inl ⟨i, o, by omega, ho, hd, rfl⟩
        · rename_i e
          rcases lookD_envAt h with ⟨j, o', hj, hoj, hd', hs⟩ | ⟨h1, h2⟩
          · exact .inl ⟨j, o', by omega, hoj, hd', hs⟩
          · refine .inr ⟨h1, fun j o' hj hoj => ?_⟩
            by_cases e' : j = i
            · subst e'; rw [ho] at hoj; cases hoj; rw [hd]; simpa using e
            · exact h2 j o' (by omega) hoj

/-- The operations that are done are closed under what they come behind. -/
def Closed (ops : List Oper) (q : Nat → Prop) : Prop := ∀ i, q i → ∀ k ∈ afters ops i, q k
/-- i comes behind j: where all that i comes behind directly is done, j is. -/
def Behind (ops : List Oper) (i j : Nat) : Prop := ∀ q, Closed ops q → (∀ x ∈ afters ops i, q x) → q j
structure Chk (ops : List Oper) (σ : List Nat) : Prop where
  sel : ∀ (i : Nat) (o : Oper), ops[i]? = some o → ∀ cs b, o.op ≠ .select cs b
  back : ∀ (i : Nat) (o : Oper), ops[i]? = some o → ∀ k ∈ afters ops i, k < i
  share : ∀ (i : Nat) (o : Oper), ops[i]? = some o → ∀ t ∈ slots ops o, ∀ (j : Nat) (o' : Oper), ops[j]? = some o' → o'.dst = some t → j = i ∨ j ∈ afters ops i ∨ i ∈ afters ops j
  own : ∀ (i : Nat) (o : Oper) (d : Nat), ops[i]? = some o → o.dst = some d → d ∉ slots ops o
  apart : ∀ (i : Nat) (o : Oper) (d : Nat), ops[i]? = some o → o.dst = some d → ∀ (j : Nat) (o' : Oper), ops[j]? = some o' → o'.dst = some d → j = i
  chain : ∀ m s t, σ[m]? = some s → σ[m + 1]? = some t → Behind ops t s

theorem or_split {a b : Bool} (h : (a || b) = true) : a = true ∨ b = true := by cases a <;> simp_all
theorem any_beq {l : List Nat} {x : Nat} : l.any (Nat.beq x) = true ↔ x ∈ l := by
  rw [List.any_eq_true]
  constructor
  · rintro ⟨y, hy, he⟩; rw [(beq_iff x y).1 he]; exact hy
  · intro h; exact ⟨x, h, Nat.beq_refl x⟩
theorem foldl_mask (l : List Nat) (j : Nat) : ∀ (es : List Nat) (m : Nat), (es.foldl (fun m e => m ||| (2 ^ e ||| l.getD e 0)) m).testBit j = true → m.testBit j = true ∨ ∃ e ∈ es, j = e ∨ (l.getD e 0).testBit j = true
  | [], m, h => .inl h
  | e :: es, m, h => by
    rcases foldl_mask l j es _ h with h | ⟨e', he', h⟩
    · rw [Nat.testBit_or, Nat.testBit_or] at h
      rcases or_split h with h | h
      · exact .inl h
      · rcases or_split h with h | h
        · rw [Nat.testBit_two_pow] at h
          exact .inr ⟨e, by simp, .inl (by simpa using (of_decide_eq_true h).symm)⟩
        · exact .inr ⟨e, by simp, .inr h⟩
    · exact .inr ⟨e', by simp [he'], h⟩
theorem masks_length (ops : List Oper) : ∀ k, (masks ops k).length = k
  | 0 => rfl
  | k + 1 => by simp [masks, masks_length ops k]
theorem masks_spec : ∀ (k i j : Nat), reachIn (masks ops k) i j = true → Behind ops i j
  | 0, i, j, h => by simp [reachIn, masks] at h
  | k + 1, i, j, h => by
    simp only [reachIn, masks] at h
    rcases Nat.lt_trichotomy i k with hlt | rfl | hgt
    · rw [List.getD_eq_getElem?_getD, List.getElem?_append_left (by rw [masks_length]; exact hlt), ← List.getD_eq_getElem?_getD] at h
      exact masks_spec k i j h
    · rw [List.getD_eq_getElem?_getD, List.getElem?_append_right (by rw [masks_length]; exact Nat.le_refl _), masks_length, Nat.sub_self] at h
      simp only [List.getElem?_cons_zero, Option.getD_some] at h
      rcases foldl_mask _ j _ _ h with h | ⟨e, he, h⟩
      · simp at h
      · intro q hq hall
        rcases h with rfl | h
        · exact hall _ he
        · exact masks_spec i e j h q hq (hq e (hall e he))
    · rw [List.getD_eq_getElem?_getD, List.getElem?_append_right (by rw [masks_length]; omega), masks_length] at h
      obtain ⟨d, hd⟩ : ∃ d, i - k = d + 1 := ⟨i - k - 1, by omega⟩
      rw [hd] at h
      simp at h
theorem chain_spec : ∀ {σ : List Nat}, chain (masks ops ops.length) σ = true → ∀ m s t, σ[m]? = some s → σ[m + 1]? = some t → Behind ops t s
  | [], _, m, s, t, h, _ => by simp at h
  | [x], _, m, s, t, _, h => by simp at h
  | x :: y :: r, hc, m, s, t, hs, ht => by
    simp only [chain, Bool.and_eq_true] at hc
    cases m with
    | zero => simp at hs ht; subst hs; subst ht; exact masks_spec _ _ _ hc.1
    | succ m => exact chain_spec hc.2 m s t (by simpa using hs) (by simpa using ht)
theorem chk_spec (h : chk ops σ = true) : Chk ops σ := by
  simp only [chk, Bool.and_eq_true] at h
  have hat : ∀ i o, ops[i]? = some o → chkAt ops i o = true := by
    intro i o hi
    have := List.all_eq_true.1 h.1 (o, i) (by rw [List.mem_zipIdx_iff_getElem?]; simpa using hi)
    exact this
  have hz : ∀ {f : Oper × Nat → Bool}, ops.zipIdx.all f = true → ∀ j o', ops[j]? = some o' → f (o', j) = true := by
    intro f hf j o' hj
    exact List.all_eq_true.1 hf (o', j) (by rw [List.mem_zipIdx_iff_getElem?]; simpa using hj)
  refine ⟨?_, ?_, ?_, ?_, ?_, chain_spec h.2⟩
  · intro i o hi cs b e
    have := hat i o hi
    simp only [chkAt, Bool.and_eq_true] at this
    rw [e] at this
    simp [isSelect] at this
  · intro i o hi k hk
    have := hat i o hi
    simp only [chkAt, Bool.and_eq_true] at this
    have h2 := List.all_eq_true.1 this.1.1.2 k hk
    simpa [Nat.blt_eq] using h2
  · intro i o hi t ht j o' hj hd
    have := hat i o hi
    simp only [chkAt, Bool.and_eq_true] at this
    have h2 := hz (List.all_eq_true.1 this.1.2 t ht) j o' hj
    simp only [hd, Bool.or_eq_true, Bool.not_eq_true'] at h2
    rcases h2 with ((h2 | h2) | h2) | h2
    · rw [Nat.beq_refl] at h2; cases h2
    · exact .inl ((beq_iff j i).1 h2)
    · exact .inr (.inl (any_beq.1 h2))
    · exact .inr (.inr (any_beq.1 h2))
  · intro i o d hi hd hm
    have := hat i o hi
    simp only [chkAt, Bool.and_eq_true, hd] at this
    have h2 := this.2.1
    simp only [Bool.not_eq_true'] at h2
    have h3 := any_beq.2 hm
    rw [h2] at h3; cases h3
  · intro i o d hi hd j o' hj hd'
    have := hat i o hi
    simp only [chkAt, Bool.and_eq_true, hd] at this
    have h2 := hz this.2.2 j o' hj
    simp only [hd', Bool.or_eq_true, Bool.not_eq_true'] at h2
    rcases h2 with h2 | h2
    · exact (beq_iff j i).1 h2
    · rw [Nat.beq_refl] at h2; cases h2

theorem loF_le {i k : Nat} {q : Nat → Prop} (hc : Closed ops q) (hi : ∀ x ∈ afters ops i, q x) : ∀ (l : List Nat) (m acc : Nat), (∀ x s, l[x]? = some s → q s → m + x < k) → acc ≤ k → loF (masks ops ops.length) i l m acc ≤ k
  | [], m, acc, _, ha => ha
  | s :: r, m, acc, hl, ha => by
    simp only [loF]
    refine loF_le hc hi r (m + 1) _ (fun x s' hx hq => by have := hl (x + 1) s' (by simpa using hx) hq; omega) ?_
    split
    · rename_i hr
      have : q s := masks_spec _ _ _ hr q hc hi
      have := hl 0 s (by simp) this
      omega
    · exact ha
theorem le_hiF {i k : Nat} {q : Nat → Prop} (hc : Closed ops q) (hi : ¬ q i) : ∀ (l : List Nat) (m : Nat), (∀ x s, l[x]? = some s → m + x < k → q s) → k ≤ m + l.length → k ≤ hiF (masks ops ops.length) i l m
  | [], m, _, hk => by simpa [hiF] using hk
  | s :: r, m, hl, hk => by
    simp only [hiF]
    split
    · rename_i hr
      rcases Nat.lt_or_ge m k with hlt | hge
      · exfalso
        have hq := hl 0 s (by simp) (by omega)
        rcases or_split hr with he | he
        · rw [(beq_iff s i).1 he] at hq; exact hi hq
        · exact hi (masks_spec _ _ _ he q hc (hc s hq))
      · exact hge
    · exact le_hiF hc hi r (m + 1) (fun x s' hx hlt => hl (x + 1) s' (by simpa using hx) (by omega)) (by simp at hk; omega)

def Inv (n : Fm) (ops : List Oper) (J : Nat → World → Prop) (X : List (Nat × Nat)) (σ : List Nat) (sps : Nat → Sp) (δ₀ : DEnv) (listed : Array Bool) (a : Act) (w : World) : Prop :=
  listed.size = ops.length ∧ a.tmps.size = n.n ∧ a.defers = n.df ∧
  Closed ops (fun i => listed[i]? = some true) ∧
  (∀ t s, lookD δ₀ t = some s → (∀ (j : Nat) (o : Oper), listed[j]? = some true → ops[j]? = some o → o.dst ≠ some t) → ∃ v, a.tmps[t]? = some v ∧ s.ok v w) ∧
  (∀ (j : Nat) (o : Oper) (d : Nat), listed[j]? = some true → ops[j]? = some o → o.dst = some d → (∀ i', listed[i']? = some true → (i', d) ∉ X) → ∃ v, a.tmps[d]? = some v ∧ (sps j).ok v w) ∧
  ∃ k, k ≤ σ.length ∧ (∀ m s, σ[m]? = some s → (listed[s]? = some true ↔ m < k)) ∧ J k w

theorem wpo_wpOp {i : Nat} {o : Oper} (hoi : ops[i]? = some o) {K' K₂ : Act → World → Prop} {a : Act} {w : World} (h : wpo P n ops Q o K' a w) (hK : ∀ a w, K' a w → K₂ a w) :
    wpOpIn (fen n.ro) 0 P ops.toArray Q i K₂ a w := by
  unfold wpOpIn
  simp only [List.getElem?_toArray, hoi]
  unfold wpo at h
  split
  · rename_i hw
    rw [if_pos hw] at h
    exact Oper.wpIn_mono hK h
  · rename_i hw
    rw [if_neg hw] at h
    exact ⟨fun f _ => fen_fn _ f, hK _ _ h⟩

theorem D.sound {δ₀ : DEnv} (hchk : chk ops σ = true) (hkill : chkKill ops X = true) (hσ : ∀ s ∈ σ, s < ops.length) (hJ0 : ∀ A t, lookD δ₀ t = some (.rel A) → False) (hn : ∀ t s, lookD δ₀ t = some s → t < n.n)
    (hD : D P n ops Q J R X σ δ₀ 0 ops) {a : Act} {w : World} (hsz : a.tmps.size = n.n) (hdf : a.defers = n.df) (ha : ∀ t s, lookD δ₀ t = some s → ∃ v, a.tmps[t]? = some v ∧ s.ok v w) (hJ : J 0 w) :
    wpAnyIn (fen n.ro) 0 P .any ops.toArray Q ops.length (Array.replicate ops.length false) a w := by
  have C := chk_spec hchk
  obtain ⟨sps, -, hob, hfin⟩ := D.all (pre := []) δ₀ (fun _ => .eq undef) (by simp) rfl rfl hD
  have hob' : ∀ j o, ops[j]? = some o → (∀ A d, sps j = .rel A → o.dst = some d → ∀ i', (i', d) ∉ X → reachIn (masks ops ops.length) j i' = false → i' ≠ j → ∀ v w w', R i' w w' → A v w → A v w') ∧ (∀ d, o.dst = some d → d < n.n) ∧ ValidOp P n ops Q J R σ (envAt ops sps δ₀ j) j o (sps j) := fun j o hj => hob j o (Nat.zero_le _) hj
  have hready : ∀ (listed : Array Bool) (i : Nat), i ∈ Region.ready .any ops.toArray listed → i < ops.length ∧ listed[i]? ≠ some true ∧ ∀ k ∈ afters ops i, listed[k]? = some true := by
    intro listed i hi
    simp only [Region.ready, List.mem_filter, List.mem_range, Bool.and_eq_true] at hi
    obtain ⟨h1, h2, h3⟩ := hi
    have h1' : i < ops.length := by simpa using h1
    refine ⟨h1', ?_, ?_⟩
    · intro e
      simp [Array.getD_eq_getD_getElem?, e] at h2
    · intro k hk
      rw [List.getElem?_toArray, List.getElem?_eq_getElem h1'] at h3
      simp only [Option.map_some, Option.getD_some] at h3
      simp only [afters, List.getElem?_eq_getElem h1'] at hk
      simp only [List.mem_map, List.mem_filter] at hk
      obtain ⟨e, ⟨he, hb⟩, rfl⟩ := hk
      have := (Array.all_eq_true_iff_forall_mem.1 h3) e (by simpa using he)
      simp only [bindsAny] at hb
      simp only [hb, Bool.not_true, Bool.false_or] at this
      simp only [Array.getD_eq_getD_getElem?] at this
      cases hq : listed[e.on]? with
      | none => simp [hq] at this
      | some b => simp [hq] at this; subst this; rfl
  have allReady : ∀ (listed : Array Bool), listed.size = ops.length → Closed ops (fun i => listed[i]? = some true) → (∀ m, m < ops.length → listed[m]? ≠ some true → ∃ i, i ∈ Region.ready .any ops.toArray listed) := by
    intro listed hsz hcl m
    induction m using Nat.strongRecOn with
    | _ m ih =>
      intro hm hne
      by_cases hall : ∀ k ∈ afters ops m, listed[k]? = some true
      · refine ⟨m, ?_⟩
        simp only [Region.ready, List.mem_filter, List.mem_range, Bool.and_eq_true]
        refine ⟨by simpa using hm, ?_, ?_⟩
        · have hlt : m < listed.size := by omega
          rw [Array.getD_eq_getD_getElem?, Array.getElem?_eq_getElem hlt]
          rw [Array.getElem?_eq_getElem hlt] at hne
          cases hv : listed[m] with
          | true => rw [hv] at hne; exact absurd rfl hne
          | false => rfl
        · rw [List.getElem?_toArray, List.getElem?_eq_getElem hm]
          simp only [Option.map_some, Option.getD_some]
          rw [Array.all_eq_true_iff_forall_mem]
          intro e he
          cases hb : Region.binds .any e with
          | false => rfl
          | true =>
            have := hall e.on (by
              simp only [afters, List.getElem?_eq_getElem hm, List.mem_map, List.mem_filter]
              exact ⟨e, ⟨by simpa using he, hb⟩, rfl⟩)
            simp [Array.getD_eq_getD_getElem?, this]
      · have hex : ∃ k, k ∈ afters ops m ∧ ¬ listed[k]? = some true := Classical.byContradiction fun hno => hall fun k hk => Classical.byContradiction fun hk' => hno ⟨k, hk, hk'⟩
        obtain ⟨k, hk, hk'⟩ := hex
        have hlt := C.back m _ (List.getElem?_eq_getElem hm) k hk
        exact ih k hlt (by omega) hk'
  have key : ∀ (fuel : Nat) (listed : Array Bool) (a : Act) (w : World), ((List.range ops.length).filter (fun i => listed[i]? ≠ some true)).length ≤ fuel → Inv n ops J X σ sps δ₀ listed a w →
      wpAnyIn (fen n.ro) 0 P .any ops.toArray Q fuel listed a w := by
    intro fuel
    have finish : ∀ (listed : Array Bool) (a : Act) (w : World), Inv n ops J X σ sps δ₀ listed a w → (∀ i, i < ops.length → listed[i]? = some true) → Q .normal a w := by
      intro listed a w hI hall
      obtain ⟨i1, i2, i3, i4, i5, i6, k, hk, i7, i8⟩ := hI
      have hk2 : k = σ.length := by
        rcases Nat.lt_or_ge k σ.length with h | h
        · have hs : σ[k]? = some σ[k] := List.getElem?_eq_getElem h
          have := (i7 k _ hs).1 (hall _ (hσ _ (List.getElem_mem h)))
          omega
        · omega
      subst hk2
      refine hfin a w i2 i3 (fun t s hs hk => ?_) i8
      rcases lookD_envAt hs with ⟨j, o, hj, ho, hd, rfl⟩ | ⟨h1, h2⟩
      · refine i6 j o t (hall j hj) ho hd (fun i' _ hx => ?_)
        have : killed X t = true := List.any_eq_true.2 ⟨(i', t), hx, Nat.beq_refl t⟩
        rw [hk] at this; cases this
      · exact i5 t s h1 (fun j o _ ho => h2 j o (List.getElem?_eq_some_iff.1 ho).1 ho)
    induction fuel with
    | zero =>
      intro listed a w hcnt hI
      have hall : ∀ i, i < ops.length → listed[i]? = some true := by
        intro i hi
        refine Classical.byContradiction fun hne => ?_
        have hmem : i ∈ (List.range ops.length).filter (fun i => listed[i]? ≠ some true) := by
          rw [List.mem_filter]; exact ⟨List.mem_range.2 hi, by simpa using hne⟩
        have : (List.range ops.length).filter (fun i => listed[i]? ≠ some true) = [] := List.eq_nil_of_length_eq_zero (by omega)
        rw [this] at hmem; cases hmem
      refine ⟨?_, finish listed a w hI hall⟩
      apply List.eq_nil_iff_forall_not_mem.2
      intro i hi
      have := hready listed i hi
      exact this.2.1 (hall i this.1)
    | succ fuel ih =>
      intro listed a w hcnt hI
      refine ⟨fun hnil => ?_, fun i hi => ?_⟩
      · refine finish listed a w hI (fun i hi => Classical.byContradiction fun hne => ?_)
        obtain ⟨x, hx⟩ := allReady listed hI.1 hI.2.2.2.1 i hi hne
        rw [hnil] at hx; cases hx
      · obtain ⟨hlt, hnl, haft⟩ := hready listed i hi
        obtain ⟨i1, i2, i3, i4, i5, i6, k, hk, i7, i8⟩ := hI
        have hoi : ops[i]? = some ops[i] := List.getElem?_eq_getElem hlt
        obtain ⟨hst, hdn, hval⟩ := hob' i _ hoi
        have hbd : ∀ t s, lookD (envAt ops sps δ₀ i) t = some s → t < n := by
          intro t s hs
          rcases lookD_envAt hs with ⟨j, o, hj, ho, hd, rfl⟩ | ⟨h1, h2⟩
          · exact (hob' j o ho).2.1 t hd
          · exact hn t s h1
        have hfinds : Finds ops (envAt ops sps δ₀ i) ops[i] a w := by
          intro t ht s hs
          rcases lookD_envAt hs with ⟨j, o, hj, ho, hd, rfl⟩ | ⟨h1, h2⟩
          · rcases C.share i _ hoi t ht j o ho hd with e | e | e
            · omega
            · refine i6 j o t (haft j e) ho hd (fun i' hi' hx => ?_)
              have h1 := List.all_eq_true.1 hkill (i', t) hx
              have h2 := List.all_eq_true.1 h1 (ops[i], i) (by rw [List.mem_zipIdx_iff_getElem?]; simp)
              simp only [Bool.or_eq_true, Bool.not_eq_true'] at h2
              rcases h2 with (h2 | h2) | h2
              · have := any_beq.2 ht; rw [h2] at this; cases this
              · have := (beq_iff i i').1 h2; subst this; exact hnl hi'
              · exact hnl (masks_spec _ _ _ h2 (fun x => listed[x]? = some true) i4 (i4 i' hi'))
            · have := C.back j o ho i e; omega
          · refine i5 t s h1 (fun j o hj ho hd => ?_)
            rcases C.share i _ hoi t ht j o ho hd with e | e | e
            · subst e; exact hnl hj
            · exact h2 j o (C.back i _ hoi j e) ho hd
            · exact hnl (i4 j hj i e)
        have hrng : inRng ops σ i k := by
          refine ⟨loF_le (q := fun x => listed[x]? = some true) i4 haft σ 0 0 (fun x s hx hq => by simpa using (i7 x s hx).1 hq) (Nat.zero_le _), ?_⟩
          exact le_hiF (q := fun x => listed[x]? = some true) i4 hnl σ 0 (fun x s hx hlt => (i7 x s hx).2 (by omega)) (by omega)
        refine wpo_wpOp hoi (hval hbd a w k i2 i3 hfinds hrng i8) ?_
        rintro a' w' ⟨v, rfl, hsp, hR, hJ'⟩
        refine ih _ _ _ ?_ ⟨by simp [i1], ?_, ?_, ?_, ?_, ?_, k + stepsOf σ i, ?_, ?_, hJ'⟩
        · -- one less is left
          have hsub : ((List.range ops.length).filter (fun j => (listed.setIfInBounds i true)[j]? ≠ some true)).length + 1 ≤ ((List.range ops.length).filter (fun j => listed[j]? ≠ some true)).length := by
            have gen : ∀ (l : List Nat), l.Nodup → i ∈ l → (l.filter (fun j => (listed.setIfInBounds i true)[j]? ≠ some true)).length + 1 ≤ (l.filter (fun j => listed[j]? ≠ some true)).length := by
              intro l
              induction l with
              | nil => intro _ h; cases h
              | cons x r ihl =>
                intro hnd hmem
                have hnd' := List.nodup_cons.1 hnd
                have hle : ∀ (r : List Nat), (r.filter (fun j => (listed.setIfInBounds i true)[j]? ≠ some true)).length ≤ (r.filter (fun j => listed[j]? ≠ some true)).length := by
                  intro r
                  induction r with
                  | nil => simp
                  | cons y r ihr =>
                    by_cases hyi : y = i
                    · subst hyi
                      have e1 : (listed.setIfInBounds y true)[y]? = some true := by rw [Array.getElem?_setIfInBounds]; simp [i1, hlt]
                      simp only [List.filter_cons, e1]
                      simp
                      refine Nat.le_trans (by simpa using ihr) ?_
                      split <;> simp
                    · have e1 : (listed.setIfInBounds i true)[y]? = listed[y]? := Array.getElem?_setIfInBounds_ne (fun e => hyi e.symm)
                      simp only [List.filter_cons, e1]
                      split
                      · simpa using ihr
                      · simpa using ihr
                rcases List.mem_cons.1 hmem with rfl | hr
                · have e1 : (listed.setIfInBounds i true)[i]? = some true := by rw [Array.getElem?_setIfInBounds]; simp [i1, hlt]
                  have e2 : (decide (listed[i]? ≠ some true)) = true := by simpa using hnl
                  simp only [List.filter_cons, e1, e2]
                  simp
                  simpa using hle r
                · have hxi : x ≠ i := fun e => hnd'.1 (e ▸ hr)
                  have e1 : (listed.setIfInBounds i true)[x]? = listed[x]? := Array.getElem?_setIfInBounds_ne (fun e => hxi e.symm)
                  have := ihl hnd'.2 hr
                  simp only [List.filter_cons, e1]
                  split
                  · simpa using this
                  · simpa using this
            exact gen _ List.nodup_range (List.mem_range.2 hlt)
          omega
        · cases hd : ops[i].dst <;> simp [Act.put, i2]
        · cases hd : ops[i].dst <;> simp [Act.put, i3]
        · intro x hx y hy
          simp only [Array.getElem?_setIfInBounds] at hx ⊢
          by_cases hix : i = x
          · subst hix
            have := haft y hy
            by_cases hiy : i = y
            · simp [hiy, i1]
              have := C.back i _ hoi y hy
              omega
            · simp [hiy, this]
          · simp [hix] at hx
            have := i4 x hx y hy
            by_cases hiy : i = y
            · simp [hiy, i1]; omega
            · simp [hiy, this]
        · intro t s hs hno
          have hne : ops[i].dst ≠ some t := hno i _ (by rw [Array.getElem?_setIfInBounds]; simp [i1, hlt]) hoi
          obtain ⟨v', hv', hok⟩ := i5 t s hs (fun j o hj ho => hno j o (by
            rw [Array.getElem?_setIfInBounds]
            by_cases e : i = j
            · simp [e, i1]; exact (List.getElem?_eq_some_iff.1 ho).1
            · simp [e, hj]) ho)
          refine ⟨v', ?_, ?_⟩
          · cases hd : ops[i].dst with
            | none => simpa [Act.put] using hv'
            | some d =>
              simp only [Act.put]
              rw [Array.getElem?_setIfInBounds_ne (fun e => hne (by rw [hd, e]))]
              exact hv'
          · cases s with
            | eq u => exact hok
            | rel A => exact (hJ0 A t hs).elim
        · intro j o d hj ho hd hnk
          simp only [Array.getElem?_setIfInBounds] at hj
          by_cases e : i = j
          · subst e
            rw [hoi] at ho; cases ho
            refine ⟨v, ?_, hsp (by rw [hd]; simp)⟩
            simp only [Act.put, hd]
            rw [Array.getElem?_setIfInBounds]
            simp [i2, hdn d hd]
          · simp [e] at hj
            obtain ⟨v', hv', hok⟩ := i6 j o d hj ho hd (fun i' hi' => hnk i' (by
              rw [Array.getElem?_setIfInBounds]
              by_cases e' : i = i'
              · simp [e', i1]; have := (Array.getElem?_eq_some_iff.1 hi').1; omega
              · simp [e', hi']))
            refine ⟨v', ?_, ?_⟩
            · cases hd' : ops[i].dst with
              | none => simpa [Act.put] using hv'
              | some d' =>
                simp only [Act.put]
                have hne : d' ≠ d := by
                  intro e'; subst e'
                  exact e (C.apart j o d' ho hd i _ hoi hd')
                rw [Array.getElem?_setIfInBounds_ne hne]
                exact hv'
            · cases hs : sps j with
              | eq u => rw [hs] at hok; exact hok
              | rel A =>
                rw [hs] at hok
                refine (hob' j o ho).1 A d hs hd i (hnk i (by rw [Array.getElem?_setIfInBounds]; simp [i1, hlt])) ?_ e v' w w' hR hok
                cases hr : reachIn (masks ops ops.length) j i with
                | false => rfl
                | true => exact absurd (masks_spec _ _ _ hr (fun x => listed[x]? = some true) i4 (i4 j hj)) hnl
        · -- the stages
          unfold stepsOf
          split
          · rename_i hm
            obtain ⟨m, hm', hs⟩ := List.getElem_of_mem (any_beq.1 hm)
            have hs' : σ[m]? = some i := by rw [List.getElem?_eq_getElem hm', hs]
            have hge : ¬ m < k := fun h => hnl ((i7 m i hs').2 h)
            omega
          · omega
        · intro m s hs
          unfold stepsOf
          rw [Array.getElem?_setIfInBounds]
          by_cases hmem : σ.any (Nat.beq i) = true
          · rw [if_pos hmem]
            obtain ⟨m', hm', hs'⟩ := List.getElem_of_mem (any_beq.1 hmem)
            have hs'' : σ[m']? = some i := by rw [List.getElem?_eq_getElem hm', hs']
            have hge : ¬ m' < k := fun h => hnl ((i7 m' i hs'').2 h)
            have hmk : m' = k := by
              refine Nat.le_antisymm ?_ (by omega)
              rcases Nat.lt_or_ge k m' with hlt' | hge'
              · exfalso
                obtain ⟨q, rfl⟩ : ∃ q, m' = q + 1 := ⟨m' - 1, by omega⟩
                have hq : σ[q]? = some σ[q] := List.getElem?_eq_getElem (by omega)
                have := C.chain q _ i hq hs'' (fun x => listed[x]? = some true) i4 haft
                have := (i7 q _ hq).1 this
                omega
              · exact hge'
            subst hmk
            by_cases e : i = s
            · subst e
              simp [i1, hlt]
              have : m ≤ m' := by
                rcases Nat.lt_or_ge m' m with h | h
                · exfalso
                  -- σ[m'] = σ[m] = i with m' < m: the one ahead of m is behind i
                  obtain ⟨q, rfl⟩ : ∃ q, m = q + 1 := ⟨m - 1, by omega⟩
                  have hql : q + 1 < σ.length := (List.getElem?_eq_some_iff.1 hs).1
                  have hq : σ[q]? = some (σ[q]'(by omega)) := List.getElem?_eq_getElem (by omega)
                  have h1 := C.chain q _ i hq hs (fun x => listed[x]? = some true) i4 haft
                  have := (i7 q _ hq).1 h1
                  omega
                · exact h
              omega
            · simp [e]
              rw [i7 m s hs]
              constructor
              · intro h; omega
              · intro h
                rcases Nat.lt_or_ge m m' with h' | h'
                · exact h'
                · have : m = m' := by omega
                  subst this; rw [hs''] at hs; cases hs; exact absurd rfl e
          · rw [if_neg hmem]
            have e : i ≠ s := by
              intro e; subst e
              exact hmem (any_beq.2 (List.mem_of_getElem? hs))
            simp [e]
            exact i7 m s hs
  refine key _ _ a w ?_ ⟨by simp, hsz, hdf, ?_, fun t s hs _ => ha t s hs, ?_, 0, Nat.zero_le _, ?_, hJ⟩
  · exact Nat.le_trans (List.length_filter_le _ _) (by simp)
  · intro x hx
    simp [Array.getElem?_replicate] at hx
  · intro j o d hj
    simp [Array.getElem?_replicate] at hj
  · intro m s hs
    simp [Array.getElem?_replicate]
end
end Brv
/-
  The rules of the walk through a region that draws its order.
-/
namespace Brv
open Go

abbrev RelEnv := List (Nat × (Value → World → Prop))
def lookT : RelEnv → Nat → Option (Value → World → Prop)
  | [], _ => none
  | (s, A) :: r, t => match Nat.beq s t with
    | true => some A
    | false => lookT r t
theorem lookT_cons (s : Nat) (A : Value → World → Prop) (r : RelEnv) (t : Nat) : lookT ((s, A) :: r) t = if s = t then some A else lookT r t := by
  simp only [lookT]
  by_cases h : s = t
  · have hb : Nat.beq s t = true := by subst h; exact Nat.beq_refl s
    rw [hb]; simp [h]
  · have hb : Nat.beq s t = false := by
      cases hq : Nat.beq s t with
      | false => rfl
      | true => exact absurd (Nat.eq_of_beq_eq_true hq) h
    rw [hb]; simp [h]
def mkD (ρ : Env) (τ : RelEnv) : DEnv := τ.map (fun p => (p.1, .rel p.2)) ++ ofEnv ρ
theorem lookD_mkD (ρ : Env) : ∀ (τ : RelEnv) (t : Nat), lookD (mkD ρ τ) t = match lookT τ t with | some A => some (.rel A) | none => (look ρ t).map .eq
  | [], t => by simp only [mkD, List.map_nil, List.nil_append, lookT]; exact lookD_ofEnv ρ t
  | (s, A) :: r, t => by
    have h := lookD_mkD ρ r t
    simp only [mkD, List.map_cons, List.cons_append] at h ⊢
    rw [lookD_cons, lookT_cons]
    split
    · rfl
    · exact h
/-- ρ without slot t. -/
def dropS (t : Nat) : Env → Env
  | [] => []
  | (s, v) :: r => match Nat.beq s t with
    | true => dropS t r
    | false => (s, v) :: dropS t r
theorem look_dropS (t s : Nat) : ∀ (ρ : Env), look (dropS t ρ) s = if t = s then none else look ρ s
  | [] => by simp [dropS, look]
  | (q, v) :: r => by
    simp only [dropS]
    have ih := look_dropS t s r
    by_cases h : q = t
    · have hb : Nat.beq q t = true := by subst h; exact Nat.beq_refl q
      rw [hb, look_cons]
      simp only [ih]
      split
      · rfl
      · rename_i e; rw [if_neg (by omega)]
    · have hb : Nat.beq q t = false := by
        cases hq : Nat.beq q t with
        | false => rfl
        | true => exact absurd (Nat.eq_of_beq_eq_true hq) h
      rw [hb]
      show look ((q, v) :: dropS t r) s = _
      rw [look_cons, look_cons, ih]
      split
      · rename_i e; rw [if_neg (by omega)]
      · rfl

/-- For whatever values those of the slots have of which a fact is known. -/
def RelsT (τ : RelEnv) (w : World) : List Nat → Env → (Env → Prop) → Prop
  | [], ρ, K => K ρ
  | t :: ts, ρ, K => match lookT τ t with
    | some A => ∀ v, A v w → RelsT τ w ts ((t, v) :: ρ) K
    | none => RelsT τ w ts ρ K

class Mixed (P : Program) : Prop where
  h : P.follows .mixedOrders = true

section
variable (P : Program) (n : Fm) (ops : List Oper) (Q : Exit → Act → World → Prop) (J : Nat → World → Prop) (R : Nat → World → World → Prop) (X : List (Nat × Nat)) (σ : List Nat)
def DS (ρ : Env) (τ : RelEnv) (i : Nat) (l : List Oper) : Prop := (∀ t, lookT τ t ≠ none → look ρ t = none) → D P n ops Q J R X σ (mkD ρ τ) i l
end

section
variable {P : Program} {n : Fm} {ops : List Oper} {Q : Exit → Act → World → Prop} {J : Nat → World → Prop} {R : Nat → World → World → Prop} {X : List (Nat × Nat)} {σ : List Nat}
variable {ρ : Env} {τ : RelEnv} {i : Nat} {rest : List Oper} {d : Nat} {op : Op} {ty : TypeId} {pos : String} {af : Array Edge} {gd : Option (Nat × Bool)}

theorem rels_take {w : World} {a : Act} : ∀ {ts : List Nat} {ρ₀ : Env} {K : Env → Prop}, RelsT τ w ts ρ₀ K → (∀ t ∈ ts, ∀ A, lookT τ t = some A → ∃ v, a.tmps[t]? = some v ∧ A v w) →
    ∃ ρ', K ρ' ∧ (∀ t v, look ρ' t = some v → (t ∈ ts ∧ lookT τ t ≠ none ∧ a.tmps[t]? = some v) ∨ look ρ₀ t = some v) ∧ (∀ t ∈ ts, lookT τ t ≠ none → ∃ v, look ρ' t = some v ∧ a.tmps[t]? = some v) ∧
      (∀ t v, look ρ₀ t = some v → (lookT τ t ≠ none ∧ a.tmps[t]? = look ρ' t) ∨ look ρ' t = some v)
  | [], ρ₀, K, h, _ => ⟨ρ₀, h, fun t v hv => .inr hv, (fun t ht => by cases ht), fun t v hv => .inr hv⟩
  | t :: ts, ρ₀, K, h, hf => by
    simp only [RelsT] at h
    cases hA : lookT τ t with
    | none =>
      rw [hA] at h
      obtain ⟨ρ', h1, h2, h3, h4⟩ := rels_take h (fun s hs => hf s (List.mem_cons_of_mem _ hs))
      refine ⟨ρ', h1, fun s v hv => (h2 s v hv).imp (fun ⟨x, y, z⟩ => ⟨List.mem_cons_of_mem _ x, y, z⟩) id, fun s hs hn => ?_, h4⟩
      rcases List.mem_cons.1 hs with rfl | hs
      · exact absurd hA hn
      · exact h3 s hs hn
    | some A =>
      rw [hA] at h
      obtain ⟨v, hv, hav⟩ := hf t (by simp) A hA
      obtain ⟨ρ', h1, h2, h3, h4⟩ := rels_take (h v hav) (fun s hs => hf s (List.mem_cons_of_mem _ hs))
      refine ⟨ρ', h1, fun s u hu => ?_, fun s hs hn => ?_, fun s u hu => ?_⟩
      · rcases h2 s u hu with ⟨x, y, z⟩ | h
        · exact .inl ⟨List.mem_cons_of_mem _ x, y, z⟩
        · rw [look_cons] at h
          split at h
          · rename_i e; subst e; cases h
            exact .inl ⟨by simp, by rw [hA]; simp, hv⟩
          · exact .inr h
      · rcases List.mem_cons.1 hs with rfl | hs
        · rcases h4 s v (by rw [look_cons]; simp) with ⟨_, h⟩ | h
          · refine ⟨v, ?_, hv⟩; rw [← h, hv]
          · exact ⟨v, h, hv⟩
        · exact h3 s hs hn
      · by_cases e : t = s
        · subst e
          refine .inl ⟨by rw [hA]; simp, ?_⟩
          rcases h4 t v (by rw [look_cons]; simp) with ⟨_, h⟩ | h
          · exact h
          · rw [h, hv]
        · exact h4 s u (by rw [look_cons]; simp [e, hu])

/-- The frame that an operation may as well be given: what is known of slots is so, and the slots that it looks at are as they are. -/
theorem virtual {o : Oper} {a : Act} {w : World} (hsep : ∀ t, lookT τ t ≠ none → look ρ t = none) (hn : ∀ t s, lookD (mkD ρ τ) t = some s → t < n.n) (hsz : a.tmps.size = n.n) (hf : Finds ops (mkD ρ τ) o a w)
    {K : Env → Prop} (hK : RelsT τ w (slots ops o) ρ K) : ∃ ρ' a₀, K ρ' ∧ Fr n ρ' a₀ ∧ (∀ t ∈ slots ops o, a.tmps.getD t undef = a₀.tmps.getD t undef ∧ a.tmps[t]? = a₀.tmps[t]?) ∧ (∀ t ∈ slots ops o, ∀ v, look ρ t = some v → look ρ' t = some v) := by
  have hτ : ∀ t ∈ slots ops o, ∀ A, lookT τ t = some A → ∃ v, a.tmps[t]? = some v ∧ A v w := by
    intro t ht A hA
    have := hf t ht (.rel A) (by rw [lookD_mkD, hA])
    exact this
  obtain ⟨ρ', h1, h2, h3, h4⟩ := rels_take hK hτ
  have hlt : ∀ t v, look ρ' t = some v → t < n := by
    intro t v hv
    rcases h2 t v hv with ⟨_, y, _⟩ | h
    · cases hA : lookT τ t with
      | none => exact absurd hA y
      | some A => exact hn t (.rel A) (by rw [lookD_mkD, hA])
    · have hnone : lookT τ t = none := by
        cases hA : lookT τ t with
        | none => rfl
        | some A => have := hsep t (by rw [hA]; simp); rw [h] at this; cases this
      exact hn t (.eq v) (by rw [lookD_mkD, hnone]; simp [h])
  refine ⟨ρ', { tmps := Array.ofFn (n := n.n) fun t => match look ρ' t.1 with | some v => v | none => a.tmps.getD t.1 undef, defers := n.df }, h1, ⟨by simp, rfl, ?_⟩, ?_, ?_⟩
  · intro t v hv
    have := hlt t v hv
    simp [this, hv]
  · intro t ht
    have hval : ∀ v, look ρ' t = some v → a.tmps[t]? = some v := by
      intro v hv
      rcases h2 t v hv with ⟨_, _, z⟩ | h
      · exact z
      · have hnone : lookT τ t = none := by
          cases hA : lookT τ t with
          | none => rfl
          | some A => have := hsep t (by rw [hA]; simp); rw [h] at this; cases this
        obtain ⟨u, hu, he⟩ := hf t ht (.eq v) (by rw [lookD_mkD, hnone]; simp [h])
        rw [hu]; exact congrArg some he
    have key : a.tmps[t]? = (Array.ofFn (n := n.n) fun t => match look ρ' t.1 with | some v => v | none => a.tmps.getD t.1 undef)[t]? := by
      rcases Nat.lt_or_ge t n with hlt' | hge
      · rw [Array.getElem?_ofFn]
        rw [dif_pos hlt']
        cases hv : look ρ' t with
        | some v => rw [hval v hv]
        | none =>
          simp only []
          have : t < a.tmps.size := by omega
          rw [Array.getElem?_eq_getElem this, Array.getD_eq_getD_getElem?, Array.getElem?_eq_getElem this]
          rfl
      · rw [Array.getElem?_eq_none (by omega), Array.getElem?_eq_none (by simp; omega)]
    exact ⟨by rw [Array.getD_eq_getD_getElem?, Array.getD_eq_getD_getElem?, key], key⟩
  · intro t ht v hv
    have hnone : lookT τ t = none := by
      cases hA : lookT τ t with
      | none => rfl
      | some A => have := hsep t (by rw [hA]; simp); rw [hv] at this; cases this
    rcases h4 t v hv with ⟨h, _⟩ | h
    · exact absurd hnone h
    · exact h

theorem wanted_virtual {o : Oper} {a a₀ : Act} {b : Bool} (hg : wants ops ρ o.guard = some b) {ρ' : Env} (hfr : Fr n ρ' a₀) (hag : ∀ t ∈ slots ops o, a.tmps.getD t undef = a₀.tmps.getD t undef ∧ a.tmps[t]? = a₀.tmps[t]?)
    (hsub : ∀ t ∈ slots ops o, ∀ v, look ρ t = some v → look ρ' t = some v) : Region.wanted o (yielded ops.toArray a.tmps) = b := by
  have h1 : wants ops ρ' o.guard = some b := by
    cases hgd : o.guard with
    | none => rw [hgd] at hg; exact hg
    | some g =>
      obtain ⟨j, want⟩ := g
      rw [hgd] at hg
      simp only [wants] at hg ⊢
      cases hd : (ops[j]?).bind (·.dst) with
      | none => rw [hd] at hg; exact hg
      | some d =>
        rw [hd] at hg
        dsimp only at hg ⊢
        cases hv : look ρ d with
        | none => rw [hv] at hg; cases hg
        | some v =>
          rw [hv] at hg
          rw [hsub d (by simp [slots, hgd, hd]) v hv]
          exact hg
  have h2 := wants_spec hfr h1
  rw [← h2]
  unfold Region.wanted
  cases hgd : o.guard with
  | none => rfl
  | some g =>
    obtain ⟨j, want⟩ := g
    simp only [yielded, List.getElem?_toArray]
    cases hd : (ops[j]?).bind (·.dst) with
    | none => simp
    | some d =>
      have := (hag d (by simp [slots, hgd, hd])).2
      simp only [Option.bind_some, this]

theorem eval_virtual {o : Oper} {a a₀ : Act} (hag : ∀ t ∈ slots ops o, a.tmps.getD t undef = a₀.tmps.getD t undef ∧ a.tmps[t]? = a₀.tmps[t]?) (hs : ∀ cs b, o.op ≠ .select cs b) : execOp a.eval o = execOp a₀.eval o := by
  refine execOp_congr o hs (fun x hx => ?_)
  cases x with
  | tmp t =>
    have ht : t ∈ slots ops o := by
      unfold slots
      exact List.mem_append_left _ (mem_tmpsOf (by simpa using hx))
    exact (hag t ht).1
  | const v => rfl
  | global g => rfl
  | func f => rfl

theorem nosel (h : isSelect op = false) : ∀ cs b, op ≠ .select cs b := by
  intro cs b e; subst e; cases h
theorem nodef (h : isSelect op = false) : isDefer op = false := by cases op <;> first | rfl | cases h

/-- One operation, its result by a fact (st: does it turn the state?). -/
theorem DS.rel (A : Value → World → Prop) (hA : ∀ i', (i', d) ∉ X → reachIn (masks ops ops.length) i i' = false → i' ≠ i → ∀ v w w', R i' w w' → A v w → A v w') (hg : wants ops ρ gd = some true) (hd : Nat.blt d n = true) (hns : isSelect op = false)
    (h : ∀ w k, inRng ops σ i k → J k w → RelsT τ w (slots ops ⟨some d, op, ty, pos, af, gd⟩) ρ (fun ρ' => Does P n ρ' w ⟨some d, op, ty, pos, af, gd⟩ (fun v w' => A v w' ∧ R i w w' ∧ J (k + stepsOf σ i) w')))
    (hnext : DS P n ops Q J R X σ (dropS d ρ) ((d, A) :: τ) (i + 1) rest) : DS P n ops Q J R X σ ρ τ i (⟨some d, op, ty, pos, af, gd⟩ :: rest) := by
  intro hsep
  refine ⟨.rel A, fun A' d' e e' => by cases e; cases e'; exact hA, fun d' e => by cases e; simpa [Nat.blt_eq] using hd, ?_, ?_⟩
  · intro hn a w k hsz hdf hf hr hJ
    obtain ⟨ρ', a₀, hK, hfr, hag, hsub⟩ := virtual hsep hn hsz hf (h w k hr hJ)
    unfold wpo
    rw [wanted_virtual hg hfr hag hsub]
    simp only [if_true]
    obtain ⟨v, w', hrun, h1, h2, h3⟩ := hK
    refine wpIn_run (nodef hns) ((congrArg (fun s => s.run P w) (eval_virtual hag (nosel hns))).trans (hrun a₀ hfr)) ?_
    exact ⟨v, rfl, fun _ => h1, h2, h3⟩
  · refine D.congr (fun t => ?_) (hnext (fun t ht => ?_))
    · rw [lookD_cons, lookD_mkD, lookD_mkD, lookT_cons, look_dropS]
      by_cases e : d = t
      · simp only [e, if_true]
      · simp only [e, if_false]
    · rw [lookT_cons] at ht
      rw [look_dropS]
      split
      · rfl
      · rename_i e; rw [if_neg e] at ht; exact hsep t ht
theorem DS.eq (v : Value) (hg : wants ops ρ gd = some true) (hd : Nat.blt d n = true) (hns : isSelect op = false) (hfree : (lookT τ d).isNone = true)
    (h : ∀ w k, inRng ops σ i k → J k w → RelsT τ w (slots ops ⟨some d, op, ty, pos, af, gd⟩) ρ (fun ρ' => Does P n ρ' w ⟨some d, op, ty, pos, af, gd⟩ (fun v' w' => v' = v ∧ R i w w' ∧ J (k + stepsOf σ i) w')))
    (hnext : DS P n ops Q J R X σ ((d, v) :: ρ) τ (i + 1) rest) : DS P n ops Q J R X σ ρ τ i (⟨some d, op, ty, pos, af, gd⟩ :: rest) := by
  intro hsep
  refine ⟨.eq v, fun A' d' e => (by cases e), fun d' e => by cases e; simpa [Nat.blt_eq] using hd, ?_, ?_⟩
  · intro hn a w k hsz hdf hf hr hJ
    obtain ⟨ρ', a₀, hK, hfr, hag, hsub⟩ := virtual hsep hn hsz hf (h w k hr hJ)
    unfold wpo
    rw [wanted_virtual hg hfr hag hsub]
    simp only [if_true]
    obtain ⟨v', w', hrun, h1, h2, h3⟩ := hK
    refine wpIn_run (nodef hns) ((congrArg (fun s => s.run P w) (eval_virtual hag (nosel hns))).trans (hrun a₀ hfr)) ?_
    exact ⟨v', rfl, fun _ => h1, h2, h3⟩
  · have hnone : lookT τ d = none := by simpa using hfree
    refine D.congr (fun t => ?_) (hnext (fun t ht => ?_))
    · rw [lookD_cons, lookD_mkD, lookD_mkD, look_cons]
      by_cases e : d = t
      · subst e; simp only [hnone, if_true]; rfl
      · simp only [e, if_false]
    · rw [look_cons]
      split
      · rename_i e; subst e; exact absurd hnone ht
      · exact hsep t ht
/-- .. that only reckons, or reads. -/
theorem DS.val {v : Value} (hg : wants ops ρ gd = some true) (hd : Nat.blt d n = true) (hns : isSelect op = false) (hfree : (lookT τ d).isNone = true) (hst : stepsOf σ i = 0) (hR : ∀ w, R i w w)
    (h : ∀ w k, inRng ops σ i k → J k w → RelsT τ w (slots ops ⟨some d, op, ty, pos, af, gd⟩) ρ (fun ρ' => Runs P n ρ' w ⟨some d, op, ty, pos, af, gd⟩ v w))
    (hnext : DS P n ops Q J R X σ ((d, v) :: ρ) τ (i + 1) rest) : DS P n ops Q J R X σ ρ τ i (⟨some d, op, ty, pos, af, gd⟩ :: rest) := by
  refine DS.eq v hg hd hns hfree (fun w k hr hJ => ?_) hnext
  have mono : ∀ {ts : List Nat} {ρ₀ : Env} {K K' : Env → Prop}, (∀ ρ, K ρ → K' ρ) → RelsT τ w ts ρ₀ K → RelsT τ w ts ρ₀ K' := by
    intro ts
    induction ts with
    | nil => intro ρ₀ K K' hKK hk; exact hKK _ hk
    | cons t ts ih =>
      intro ρ₀ K K' hKK hk
      simp only [RelsT] at hk ⊢
      split
      · rename_i A hA; rw [hA] at hk; intro v hv; exact ih hKK (hk v hv)
      · rename_i hA; rw [hA] at hk; exact ih hKK hk
  refine mono (fun ρ' hrun => ?_) (h w k hr hJ)
  exact Does.of hrun ⟨rfl, hR w, by rw [hst]; exact hJ⟩
theorem DS.relv (A : Value → World → Prop) (hA : ∀ i', (i', d) ∉ X → reachIn (masks ops ops.length) i i' = false → i' ≠ i → ∀ v w w', R i' w w' → A v w → A v w') (hg : wants ops ρ gd = some true) (hd : Nat.blt d n = true) (hns : isSelect op = false) (hst : stepsOf σ i = 0) (hR : ∀ w, R i w w)
    (h : ∀ w k, inRng ops σ i k → J k w → RelsT τ w (slots ops ⟨some d, op, ty, pos, af, gd⟩) ρ (fun ρ' => ∃ v, Runs P n ρ' w ⟨some d, op, ty, pos, af, gd⟩ v w ∧ A v w))
    (hnext : DS P n ops Q J R X σ (dropS d ρ) ((d, A) :: τ) (i + 1) rest) : DS P n ops Q J R X σ ρ τ i (⟨some d, op, ty, pos, af, gd⟩ :: rest) := by
  refine DS.rel A hA hg hd hns (fun w k hr hJ => ?_) hnext
  have mono : ∀ {ts : List Nat} {ρ₀ : Env} {K K' : Env → Prop}, (∀ ρ, K ρ → K' ρ) → RelsT τ w ts ρ₀ K → RelsT τ w ts ρ₀ K' := by
    intro ts
    induction ts with
    | nil => intro ρ₀ K K' hKK hk; exact hKK _ hk
    | cons t ts ih =>
      intro ρ₀ K K' hKK hk
      simp only [RelsT] at hk ⊢
      split
      · rename_i A hA; rw [hA] at hk; intro v hv; exact ih hKK (hk v hv)
      · rename_i hA; rw [hA] at hk; exact ih hKK hk
  refine mono (fun ρ' ⟨v, hrun, hv⟩ => ?_) (h w k hr hJ)
  exact Does.of hrun ⟨hv, hR w, by rw [hst]; exact hJ⟩
/-- A store. -/
theorem DS.set (hg : wants ops ρ gd = some true) (hns : isSelect op = false)
    (h : ∀ w k, inRng ops σ i k → J k w → RelsT τ w (slots ops ⟨none, op, ty, pos, af, gd⟩) ρ (fun ρ' => Sets P n ρ' w ⟨none, op, ty, pos, af, gd⟩ (fun w' => R i w w' ∧ J (k + stepsOf σ i) w')))
    (hnext : DS P n ops Q J R X σ ρ τ (i + 1) rest) : DS P n ops Q J R X σ ρ τ i (⟨none, op, ty, pos, af, gd⟩ :: rest) := by
  intro hsep
  refine ⟨.eq undef, fun A' d' e => (by cases e), fun d' e => (by cases e), ?_, hnext hsep⟩
  intro hn a w k hsz hdf hf hr hJ
  obtain ⟨ρ', a₀, hK, hfr, hag, hsub⟩ := virtual hsep hn hsz hf (h w k hr hJ)
  unfold wpo
  rw [wanted_virtual hg hfr hag hsub]
  simp only [if_true]
  obtain ⟨w', hrun, h2, h3⟩ := hK
  refine wpIn_run (nodef hns) ((congrArg (fun s => s.run P w) (eval_virtual hag (nosel hns))).trans (hrun a₀ hfr)) ?_
  exact ⟨undef, rfl, fun e => absurd rfl e, h2, h3⟩
/-- An operation that is passed over. -/
theorem DS.pass (hg : wants ops ρ gd = some false) (hd : Nat.blt d n = true) (hfree : (lookT τ d).isNone = true) (hst : stepsOf σ i = 0) (hR : ∀ w, R i w w)
    (hnext : DS P n ops Q J R X σ ((d, undef) :: ρ) τ (i + 1) rest) : DS P n ops Q J R X σ ρ τ i (⟨some d, op, ty, pos, af, gd⟩ :: rest) := by
  intro hsep
  refine ⟨.eq undef, fun A' d' e => (by cases e), fun d' e => by cases e; simpa [Nat.blt_eq] using hd, ?_, ?_⟩
  · intro hn a w k hsz hdf hf hr hJ
    obtain ⟨ρ', a₀, hK, hfr, hag, hsub⟩ := virtual (o := ⟨some d, op, ty, pos, af, gd⟩) hsep hn hsz hf (K := fun _ => True) (by
      have triv : ∀ (ts : List Nat) (ρ₀ : Env), RelsT τ w ts ρ₀ (fun _ => True) := by
        intro ts
        induction ts with
        | nil => intro ρ₀; trivial
        | cons t ts ih => intro ρ₀; simp only [RelsT]; split <;> (try intro v hv) <;> exact ih _
      exact triv _ _)
    unfold wpo
    rw [wanted_virtual (o := ⟨some d, op, ty, pos, af, gd⟩) hg hfr hag hsub]
    simp only [Bool.false_eq_true, if_false]
    exact ⟨undef, rfl, fun _ => rfl, hR w, by rw [hst]; exact hJ⟩
  · have hnone : lookT τ d = none := by simpa using hfree
    refine D.congr (fun t => ?_) (hnext (fun t ht => ?_))
    · rw [lookD_cons, lookD_mkD, lookD_mkD, look_cons]
      by_cases e : d = t
      · subst e; simp only [hnone, if_true]; rfl
      · simp only [e, if_false]
    · rw [look_cons]
      split
      · rename_i e; subst e; exact absurd hnone ht
      · exact hsep t ht
theorem DS.be {v v' : Value} (d : Nat) (hv : look ρ d = some v) (e : v = v') (h : DS P n ops Q J R X σ ((d, v') :: ρ) τ i rest) : DS P n ops Q J R X σ ρ τ i rest := by
  subst e
  intro hsep
  refine D.congr (fun t => ?_) (h (fun t ht => ?_))
  · rw [lookD_mkD, lookD_mkD, look_cons]
    by_cases e : d = t
    · subst e; simp only [hv, if_true]
    · simp only [e, if_false]
  · rw [look_cons]
    split
    · rename_i e; subst e; have := hsep d ht; rw [hv] at this; cases this
    · exact hsep t ht
theorem DS.caseB {b : Bool} (d : Nat) (hv : look ρ d = some (.bool b)) (ht : b = true → DS P n ops Q J R X σ ((d, .bool true) :: ρ) τ i rest) (hf : b = false → DS P n ops Q J R X σ ((d, .bool false) :: ρ) τ i rest) : DS P n ops Q J R X σ ρ τ i rest := by
  cases b
  · exact DS.be d hv rfl (hf rfl)
  · exact DS.be d hv rfl (ht rfl)
theorem DS.isT {b : Bool} (d : Nat) (hv : look ρ d = some (.bool b)) (e : b = true) (h : DS P n ops Q J R X σ ((d, .bool true) :: ρ) τ i rest) : DS P n ops Q J R X σ ρ τ i rest := DS.be d hv (congrArg Value.bool e) h
theorem DS.isF {b : Bool} (d : Nat) (hv : look ρ d = some (.bool b)) (e : b = false) (h : DS P n ops Q J R X σ ((d, .bool false) :: ρ) τ i rest) : DS P n ops Q J R X σ ρ τ i rest := DS.be d hv (congrArg Value.bool e) h
theorem DS.caseP {p : Prop} {dp : Decidable p} (d : Nat) (hv : look ρ d = some (.bool (@decide p dp))) (ht : p → DS P n ops Q J R X σ ((d, .bool true) :: ρ) τ i rest) (hf : ¬ p → DS P n ops Q J R X σ ((d, .bool false) :: ρ) τ i rest) : DS P n ops Q J R X σ ρ τ i rest :=
  DS.caseB d hv (fun h => ht (of_decide_eq_true h)) (fun h => hf (of_decide_eq_false h))
/-- A call, by its contract; the result by a fact. -/
theorem DS.callRel (A : Value → World → Prop) (hA : ∀ i', (i', d) ∉ X → reachIn (masks ops ops.length) i i' = false → i' ≠ i → ∀ v w w', R i' w w' → A v w → A v w') {x : Operand} {f : FuncId} {first cap : Array Value} {args : Array Operand} {ats : Array TypeId} (hg : wants ops ρ gd = some true) (hd : Nat.blt d n = true)
    (hc : ∀ (vs : Array Value) w, (callFunc f vs).run P w = .ok (.enter f vs) w)
    (h : ∀ w k, inRng ops σ i k → J k w → RelsT τ w (slots ops ⟨some d, .call ⟨.value x, args, ats⟩, ty, pos, af, gd⟩) ρ (fun ρ' => ∃ as, ev ρ' x = some (.func (.func f) first cap) ∧ evs ρ' args.toList = some as ∧
      Meets P f (first.toList ++ as ++ cap.toList) w (fun v w' => A v w' ∧ R i w w' ∧ J (k + stepsOf σ i) w')))
    (hnext : DS P n ops Q J R X σ (dropS d ρ) ((d, A) :: τ) (i + 1) rest) : DS P n ops Q J R X σ ρ τ i (⟨some d, .call ⟨.value x, args, ats⟩, ty, pos, af, gd⟩ :: rest) := by
  intro hsep
  refine ⟨.rel A, fun A' d' e e' => by cases e; cases e'; exact hA, fun d' e => by cases e; simpa [Nat.blt_eq] using hd, ?_, ?_⟩
  · intro hn a w k hsz hdf hf hr hJ
    obtain ⟨ρ', a₀, ⟨as, hx, has, hM⟩, hfr, hag, hsub⟩ := virtual hsep hn hsz hf (h w k hr hJ)
    unfold wpo
    rw [wanted_virtual (o := ⟨some d, .call ⟨.value x, args, ats⟩, ty, pos, af, gd⟩) hg hfr hag hsub]
    simp only [if_true]
    refine wpIn_run rfl ((congrArg (fun s => s.run P w) (eval_virtual hag (nosel rfl))).trans (run_callV (hfr.eval hx) (hfr.evals has) rfl (hc _) w)) ?_
    refine ⟨fun h => (by rw [fen_depth] at h; cases h), fen_calls ?_⟩
    refine Calls.mono hM ?_
    intro e w' he
    cases e with
    | returned v => exact ⟨v, rfl, fun _ => he.1, he.2.1, he.2.2⟩
    | panicked c => exact he.elim
    | outgrown => exact he.elim
  · refine D.congr (fun t => ?_) (hnext (fun t ht => ?_))
    · rw [lookD_cons, lookD_mkD, lookD_mkD, lookT_cons, look_dropS]
      by_cases e : d = t
      · simp only [e, if_true]
      · simp only [e, if_false]
    · rw [lookT_cons] at ht
      rw [look_dropS]
      split
      · rfl
      · rename_i e; rw [if_neg e] at ht; exact hsep t ht
theorem DS.callEq (v : Value) {x : Operand} {f : FuncId} {first cap : Array Value} {args : Array Operand} {ats : Array TypeId} (hg : wants ops ρ gd = some true) (hd : Nat.blt d n = true) (hfree : (lookT τ d).isNone = true)
    (hc : ∀ (vs : Array Value) w, (callFunc f vs).run P w = .ok (.enter f vs) w)
    (h : ∀ w k, inRng ops σ i k → J k w → RelsT τ w (slots ops ⟨some d, .call ⟨.value x, args, ats⟩, ty, pos, af, gd⟩) ρ (fun ρ' => ∃ as, ev ρ' x = some (.func (.func f) first cap) ∧ evs ρ' args.toList = some as ∧
      Meets P f (first.toList ++ as ++ cap.toList) w (fun v' w' => v' = v ∧ R i w w' ∧ J (k + stepsOf σ i) w')))
    (hnext : DS P n ops Q J R X σ ((d, v) :: ρ) τ (i + 1) rest) : DS P n ops Q J R X σ ρ τ i (⟨some d, .call ⟨.value x, args, ats⟩, ty, pos, af, gd⟩ :: rest) := by
  intro hsep
  refine ⟨.eq v, fun A' d' e => (by cases e), fun d' e => by cases e; simpa [Nat.blt_eq] using hd, ?_, ?_⟩
  · intro hn a w k hsz hdf hf hr hJ
    obtain ⟨ρ', a₀, ⟨as, hx, has, hM⟩, hfr, hag, hsub⟩ := virtual hsep hn hsz hf (h w k hr hJ)
    unfold wpo
    rw [wanted_virtual (o := ⟨some d, .call ⟨.value x, args, ats⟩, ty, pos, af, gd⟩) hg hfr hag hsub]
    simp only [if_true]
    refine wpIn_run rfl ((congrArg (fun s => s.run P w) (eval_virtual hag (nosel rfl))).trans (run_callV (hfr.eval hx) (hfr.evals has) rfl (hc _) w)) ?_
    refine ⟨fun h => (by rw [fen_depth] at h; cases h), fen_calls ?_⟩
    refine Calls.mono hM ?_
    intro e w' he
    cases e with
    | returned v' => exact ⟨v', rfl, fun _ => he.1, he.2.1, he.2.2⟩
    | panicked c => exact he.elim
    | outgrown => exact he.elim
  · have hnone : lookT τ d = none := by simpa using hfree
    refine D.congr (fun t => ?_) (hnext (fun t ht => ?_))
    · rw [lookD_cons, lookD_mkD, lookD_mkD, look_cons]
      by_cases e : d = t
      · subst e; simp only [hnone, if_true]; rfl
      · simp only [e, if_false]
    · rw [look_cons]
      split
      · rename_i e; subst e; exact absurd hnone ht
      · exact hsep t ht
end

section
variable {P : Program} {B : Exit → Act → World → Prop} {n : Fm} {ops : List Oper} {ks : List K} {J : Nat → World → Prop} {R : Nat → World → World → Prop} {X : List (Nat × Nat)} {σ : List Nat} {ρ : Env} {τ : RelEnv} {i : Nat} {w : World}
/-- The end: whatever the order was, the rest goes on in a world of the last stage. -/
theorem DS.nil (hρ : X.all (fun p => (look ρ p.2).isNone) = true) (h : ∀ w, J σ.length w → RelsT τ w ((τ.map Prod.fst).filter fun t => !killed X t) ρ (fun ρ' => N P B n ks ρ' w)) : DS P n ops (sem P n.ro B ks) J R X σ ρ τ i [] := by
  intro hsep a w hsz hdf hv hJ
  have hτ : ∀ t ∈ (τ.map Prod.fst).filter fun t => !killed X t, ∀ A, lookT τ t = some A → ∃ v, a.tmps[t]? = some v ∧ A v w := by
    intro t ht A hA
    have := (List.mem_filter.1 ht).2
    exact hv t (.rel A) (by rw [lookD_mkD, hA]) (by simpa using this)
  obtain ⟨ρ', h1, h2, _, _⟩ := rels_take (h w hJ) hτ
  refine h1 a ⟨hsz, hdf, fun t v hv' => ?_⟩
  rcases h2 t v hv' with ⟨_, _, z⟩ | hh
  · exact z
  · have hnone : lookT τ t = none := by
      cases hA : lookT τ t with
      | none => rfl
      | some A => have := hsep t (by rw [hA]; simp); rw [hh] at this; cases this
    obtain ⟨u, hu, he⟩ := hv t (.eq v) (by rw [lookD_mkD, hnone]; simp [hh]) (by
      cases hk : killed X t with
      | false => rfl
      | true =>
        obtain ⟨p, hp, hpt⟩ := List.any_eq_true.1 hk
        have := List.all_eq_true.1 hρ p hp
        rw [(beq_iff p.2 t).1 hpt, hh] at this; cases this)
    rw [hu]; exact congrArg some he
theorem G.draw [hm : Mixed P] {id : Nat} (σ : List Nat) (J : Nat → World → Prop) (R : Nat → World → World → Prop) (X : List (Nat × Nat)) (hchk : chk ops σ = true) (hkill : chkKill ops X = true) (hσ : σ.all (fun s => Nat.blt s ops.length) = true) (hlt : ρ.all (fun p => Nat.blt p.1 n) = true)
    (hJ : J 0 { w with drawn := w.drawn + 1 }) (h : DS P n ops (sem P n.ro B ks) J R X σ ρ [] 0 ops) : G P B n ks ρ w (.region id ops.toArray true) := by
  intro a ha
  have hlk : ∀ t s, lookD (mkD ρ []) t = some s → ∃ v, look ρ t = some v ∧ s = .eq v := by
    intro t s hs
    rw [lookD_mkD] at hs
    simp only [lookT] at hs
    cases hv : look ρ t with
    | none => rw [hv] at hs; cases hs
    | some v => rw [hv] at hs; cases hs; exact ⟨v, rfl, rfl⟩
  have hmem : ∀ (r : Env) t v, look r t = some v → (t, v) ∈ r := by
    intro r
    induction r with
    | nil => intro t v h; cases h
    | cons p r ih =>
      obtain ⟨s, u⟩ := p
      intro t v h
      rw [look_cons] at h
      split at h
      · rename_i e; subst e; cases h; simp
      · exact List.mem_cons_of_mem _ (ih t v h)
  refine wpIn_region_any hm.h ?_
  have := D.sound (P := P) (Q := sem P n.ro B ks) (R := R) (X := X) hchk hkill (fun s hs => by simpa [Nat.blt_eq] using List.all_eq_true.1 hσ s hs) (fun A t hA => by obtain ⟨v, _, e⟩ := hlk t _ hA; cases e)
    (fun t s hs => by
      obtain ⟨v, hv, _⟩ := hlk t s hs
      have := List.all_eq_true.1 hlt (t, v) (hmem ρ t v hv)
      simpa [Nat.blt_eq] using this) (h (fun t ht => absurd rfl ht)) (a := a) (w := { w with drawn := w.drawn + 1 }) ha.size ha.defers (fun t s hs => by
      obtain ⟨v, hv, rfl⟩ := hlk t s hs
      exact ⟨v, ha.vals t v hv, rfl⟩) hJ
  simpa using this
end

/-! ## Quiet regions: nothing that was there is turned, no stages -/
section
variable (P : Program) (n : Fm) (ops : List Oper) (Q : Exit → Act → World → Prop) (w₀ : World)
def DQ (ρ : Env) (τ : RelEnv) (i : Nat) (l : List Oper) : Prop := DS P n ops Q (fun _ w' => Ext [] w₀ w') (fun _ => Ext []) [] [] ρ τ i l
end
section
variable {P : Program} {n : Fm} {ops : List Oper} {Q : Exit → Act → World → Prop} {w₀ : World}
variable {ρ : Env} {τ : RelEnv} {i : Nat} {rest : List Oper} {d : Nat} {op : Op} {ty : TypeId} {pos : String} {af : Array Edge} {gd : Option (Nat × Bool)}
theorem RelsT.mono {w : World} : ∀ {ts : List Nat} {ρ₀ : Env} {K K' : Env → Prop}, (∀ ρ, K ρ → K' ρ) → RelsT τ w ts ρ₀ K → RelsT τ w ts ρ₀ K' := by
  intro ts
  induction ts with
  | nil => intro ρ₀ K K' hKK hk; exact hKK _ hk
  | cons t ts ih =>
    intro ρ₀ K K' hKK hk
    simp only [RelsT] at hk ⊢
    split
    · rename_i A hA; rw [hA] at hk; intro v hv; exact ih hKK (hk v hv)
    · rename_i hA; rw [hA] at hk; exact ih hKK hk
theorem Q.val {v : Value} (hg : wants ops ρ gd = some true) (hd : Nat.blt d n = true) (hfree : (lookT τ d).isNone = true) (hns : isSelect op = false)
    (h : ∀ w, Ext [] w₀ w → RelsT τ w (slots ops ⟨some d, op, ty, pos, af, gd⟩) ρ (fun ρ' => Runs P n ρ' w ⟨some d, op, ty, pos, af, gd⟩ v w))
    (hnext : DQ P n ops Q w₀ ((d, v) :: ρ) τ (i + 1) rest) : DQ P n ops Q w₀ ρ τ i (⟨some d, op, ty, pos, af, gd⟩ :: rest) :=
  DS.val hg hd hns hfree rfl (Ext.refl _) (fun w _ _ hJ => h w hJ) hnext
theorem Q.new {A : Value → World → Prop} (hA : ∀ v w w', Ext [] w w' → A v w → A v w') (hg : wants ops ρ gd = some true) (hd : Nat.blt d n = true) (hns : isSelect op = false)
    (h : ∀ w, Ext [] w₀ w → RelsT τ w (slots ops ⟨some d, op, ty, pos, af, gd⟩) ρ (fun ρ' => Does P n ρ' w ⟨some d, op, ty, pos, af, gd⟩ (fun v w' => A v w' ∧ Ext [] w w')))
    (hnext : DQ P n ops Q w₀ (dropS d ρ) ((d, A) :: τ) (i + 1) rest) : DQ P n ops Q w₀ ρ τ i (⟨some d, op, ty, pos, af, gd⟩ :: rest) :=
  DS.rel A (fun _ _ _ _ => hA) hg hd hns (fun w _ _ hJ => RelsT.mono (fun _ hk => hk.mono fun _ _ h => ⟨h.1, h.2, hJ.trans0 h.2⟩) (h w hJ)) hnext
theorem Q.valR {A : Value → World → Prop} (hA : ∀ v w w', Ext [] w w' → A v w → A v w') (hg : wants ops ρ gd = some true) (hd : Nat.blt d n = true) (hns : isSelect op = false)
    (h : ∀ w, Ext [] w₀ w → RelsT τ w (slots ops ⟨some d, op, ty, pos, af, gd⟩) ρ (fun ρ' => ∃ v, Runs P n ρ' w ⟨some d, op, ty, pos, af, gd⟩ v w ∧ A v w))
    (hnext : DQ P n ops Q w₀ (dropS d ρ) ((d, A) :: τ) (i + 1) rest) : DQ P n ops Q w₀ ρ τ i (⟨some d, op, ty, pos, af, gd⟩ :: rest) :=
  DS.relv A (fun _ _ _ _ => hA) hg hd hns rfl (Ext.refl _) (fun w _ _ hJ => h w hJ) hnext
theorem Q.pass (hg : wants ops ρ gd = some false) (hd : Nat.blt d n = true) (hfree : (lookT τ d).isNone = true)
    (hnext : DQ P n ops Q w₀ ((d, undef) :: ρ) τ (i + 1) rest) : DQ P n ops Q w₀ ρ τ i (⟨some d, op, ty, pos, af, gd⟩ :: rest) :=
  DS.pass hg hd hfree rfl (Ext.refl _) hnext
theorem Q.call (v : Value) {f : FuncId} {args : Array Operand} {ats : Array TypeId} (hg : wants ops ρ gd = some true) (hd : Nat.blt d n = true) (hfree : (lookT τ d).isNone = true)
    (hc : ∀ (vs : Array Value) w, (callFunc f vs).run P w = .ok (.enter f vs) w)
    (h : ∀ w, Ext [] w₀ w → RelsT τ w (slots ops ⟨some d, .call ⟨.value (.func f), args, ats⟩, ty, pos, af, gd⟩) ρ (fun ρ' => ∃ as, evs ρ' args.toList = some as ∧ Meets P f as w (fun v' w' => v' = v ∧ Ext [] w w')))
    (hnext : DQ P n ops Q w₀ ((d, v) :: ρ) τ (i + 1) rest) : DQ P n ops Q w₀ ρ τ i (⟨some d, .call ⟨.value (.func f), args, ats⟩, ty, pos, af, gd⟩ :: rest) :=
  DS.callEq v (x := .func f) (first := #[]) (cap := #[]) hg hd hfree hc (fun w _ _ hJ => RelsT.mono (fun _ ⟨as, h1, h2⟩ => ⟨as, rfl, h1, by simpa using h2.mono fun _ _ h => ⟨h.1, h.2, hJ.trans0 h.2⟩⟩) (h w hJ)) hnext
theorem Q.callR {A : Value → World → Prop} (hA : ∀ v w w', Ext [] w w' → A v w → A v w') {f : FuncId} {args : Array Operand} {ats : Array TypeId} (hg : wants ops ρ gd = some true) (hd : Nat.blt d n = true)
    (hc : ∀ (vs : Array Value) w, (callFunc f vs).run P w = .ok (.enter f vs) w)
    (h : ∀ w, Ext [] w₀ w → RelsT τ w (slots ops ⟨some d, .call ⟨.value (.func f), args, ats⟩, ty, pos, af, gd⟩) ρ (fun ρ' => ∃ as, evs ρ' args.toList = some as ∧ Meets P f as w (fun v' w' => A v' w' ∧ Ext [] w w')))
    (hnext : DQ P n ops Q w₀ (dropS d ρ) ((d, A) :: τ) (i + 1) rest) : DQ P n ops Q w₀ ρ τ i (⟨some d, .call ⟨.value (.func f), args, ats⟩, ty, pos, af, gd⟩ :: rest) :=
  DS.callRel A (fun _ _ _ _ => hA) (x := .func f) (first := #[]) (cap := #[]) hg hd hc (fun w _ _ hJ => RelsT.mono (fun _ ⟨as, h1, h2⟩ => ⟨as, rfl, h1, by simpa using h2.mono fun _ _ h => ⟨h.1, h.2, hJ.trans0 h.2⟩⟩) (h w hJ)) hnext
theorem Q.be {v v' : Value} (d : Nat) (hv : look ρ d = some v) (e : v = v') (h : DQ P n ops Q w₀ ((d, v') :: ρ) τ i rest) : DQ P n ops Q w₀ ρ τ i rest := DS.be d hv e h
theorem Q.isT {b : Bool} (d : Nat) (hv : look ρ d = some (.bool b)) (e : b = true) (h : DQ P n ops Q w₀ ((d, .bool true) :: ρ) τ i rest) : DQ P n ops Q w₀ ρ τ i rest := DS.isT d hv e h
theorem Q.isF {b : Bool} (d : Nat) (hv : look ρ d = some (.bool b)) (e : b = false) (h : DQ P n ops Q w₀ ((d, .bool false) :: ρ) τ i rest) : DQ P n ops Q w₀ ρ τ i rest := DS.isF d hv e h
theorem Q.caseB {b : Bool} (d : Nat) (hv : look ρ d = some (.bool b)) (ht : b = true → DQ P n ops Q w₀ ((d, .bool true) :: ρ) τ i rest) (hf : b = false → DQ P n ops Q w₀ ((d, .bool false) :: ρ) τ i rest) : DQ P n ops Q w₀ ρ τ i rest := DS.caseB d hv ht hf
theorem Q.caseP {p : Prop} {dp : Decidable p} (d : Nat) (hv : look ρ d = some (.bool (@decide p dp))) (ht : p → DQ P n ops Q w₀ ((d, .bool true) :: ρ) τ i rest) (hf : ¬ p → DQ P n ops Q w₀ ((d, .bool false) :: ρ) τ i rest) : DQ P n ops Q w₀ ρ τ i rest := DS.caseP d hv ht hf
end
section
variable {P : Program} {B : Exit → Act → World → Prop} {n : Fm} {ops : List Oper} {ks : List K} {ρ : Env} {τ : RelEnv} {i : Nat} {w : World}
theorem Q.nil (h : ∀ w', Ext [] w w' → RelsT τ w' (τ.map Prod.fst) ρ (fun ρ' => N P B n ks ρ' w')) : DQ P n ops (sem P n.ro B ks) w ρ τ i [] :=
  DS.nil rfl (fun w' hJ => by
    have e : (τ.map Prod.fst).filter (fun t => !killed [] t) = τ.map Prod.fst := List.filter_eq_self.2 (fun _ _ => rfl)
    rw [e]; exact h w' hJ)
end

/-! ## Regions in which some operations (ws) write in blocks that are younger than the region -/
/-- What an operation may do. -/
def RW (w₀ : World) (ws : List Nat) (i : Nat) (w w' : World) : Prop := RowKit.Below w₀.heap.size w w' ∧ (ws.any (Nat.beq i) = false → Ext [] w w')
theorem RW.refl (w₀ : World) (ws : List Nat) (i : Nat) (w : World) : RW w₀ ws i w w := ⟨RowKit.Below.refl _ _, fun _ => Ext.refl _ _⟩
theorem RW.of {w₀ w w' : World} {ws : List Nat} {i : Nat} (hJ : Ext [] w₀ w) (h : Ext [] w w') : RW w₀ ws i w w' :=
  ⟨⟨h.os, h.tape, h.output, h.size, fun k hk => h.keep k (Nat.lt_of_lt_of_le hk hJ.size) (by simp)⟩, fun _ => h⟩
theorem Ext.then_below {w₀ w w' : World} (hJ : Ext [] w₀ w) (h : RowKit.Below w₀.heap.size w w') : Ext [] w₀ w' := Ext.of_below ((Ext.below hJ).trans h)
theorem Ext.below_of {M : List Nat} {w₀ w w' : World} (hJ : Ext [] w₀ w) (h : Ext M w w') (hM : ∀ b ∈ M, w₀.heap.size ≤ b) : RowKit.Below w₀.heap.size w w' :=
  ⟨h.os, h.tape, h.output, h.size, fun k hk => h.keep k (Nat.lt_of_lt_of_le hk hJ.size) (fun hm => by have := hM k hm; omega)⟩
/-- The writers that a fact on slot d does not outlive must be on the list of kills, or come first. -/
def chkW (ops : List Oper) (X : List (Nat × Nat)) (ws : List Nat) (d i : Nat) : Bool :=
  ws.all fun j => X.any (fun p => Nat.beq p.1 j && Nat.beq p.2 d) || reachIn (masks ops ops.length) i j || Nat.beq j i
theorem chkW_spec {ops : List Oper} {X : List (Nat × Nat)} {ws : List Nat} {d i : Nat} (h : chkW ops X ws d i = true) {w₀ : World} {A : Value → World → Prop} (hA : ∀ v w w', Ext [] w w' → A v w → A v w') :
    ∀ i', (i', d) ∉ X → reachIn (masks ops ops.length) i i' = false → i' ≠ i → ∀ v w w', RW w₀ ws i' w w' → A v w → A v w' := by
  intro i' hx hr hne v w w' hR
  refine hA v w w' (hR.2 ?_)
  cases hq : ws.any (Nat.beq i') with
  | false => rfl
  | true =>
    obtain ⟨j, hj, e⟩ := List.any_eq_true.1 hq
    obtain rfl := (beq_iff i' j).1 e
    have := List.all_eq_true.1 h i' hj
    simp only [Bool.or_eq_true, List.any_eq_true, Bool.and_eq_true, beq_iff] at this
    rcases this with (⟨p, hp, e1, e2⟩ | h1) | h1
    · obtain ⟨x, y⟩ := p
      simp only at e1 e2
      subst e1; subst e2
      exact absurd hp hx
    · rw [h1] at hr; cases hr
    · exact absurd h1 hne
section
variable (P : Program) (n : Fm) (ops : List Oper) (Q : Exit → Act → World → Prop) (w₀ : World) (ws : List Nat) (X : List (Nat × Nat))
def DW (ρ : Env) (τ : RelEnv) (i : Nat) (l : List Oper) : Prop := DS P n ops Q (fun _ w' => Ext [] w₀ w') (RW w₀ ws) X [] ρ τ i l
end
section
variable {P : Program} {n : Fm} {ops : List Oper} {Q : Exit → Act → World → Prop} {w₀ : World} {ws : List Nat} {X : List (Nat × Nat)}
variable {ρ : Env} {τ : RelEnv} {i : Nat} {rest : List Oper} {d : Nat} {op : Op} {ty : TypeId} {pos : String} {af : Array Edge} {gd : Option (Nat × Bool)}
theorem W.val {v : Value} (hg : wants ops ρ gd = some true) (hd : Nat.blt d n = true) (hfree : (lookT τ d).isNone = true) (hns : isSelect op = false)
    (h : ∀ w, Ext [] w₀ w → RelsT τ w (slots ops ⟨some d, op, ty, pos, af, gd⟩) ρ (fun ρ' => Runs P n ρ' w ⟨some d, op, ty, pos, af, gd⟩ v w))
    (hnext : DW P n ops Q w₀ ws X ((d, v) :: ρ) τ (i + 1) rest) : DW P n ops Q w₀ ws X ρ τ i (⟨some d, op, ty, pos, af, gd⟩ :: rest) :=
  DS.val hg hd hns hfree rfl (RW.refl _ _ _) (fun w _ _ hJ => h w hJ) hnext
theorem W.new {A : Value → World → Prop} (hA : ∀ v w w', Ext [] w w' → A v w → A v w') (hw : chkW ops X ws d i = true) (hg : wants ops ρ gd = some true) (hd : Nat.blt d n = true) (hns : isSelect op = false)
    (h : ∀ w, Ext [] w₀ w → RelsT τ w (slots ops ⟨some d, op, ty, pos, af, gd⟩) ρ (fun ρ' => Does P n ρ' w ⟨some d, op, ty, pos, af, gd⟩ (fun v w' => A v w' ∧ Ext [] w w')))
    (hnext : DW P n ops Q w₀ ws X (dropS d ρ) ((d, A) :: τ) (i + 1) rest) : DW P n ops Q w₀ ws X ρ τ i (⟨some d, op, ty, pos, af, gd⟩ :: rest) :=
  DS.rel A (chkW_spec hw hA) hg hd hns (fun w _ _ hJ => RelsT.mono (fun _ hk => hk.mono fun _ _ h => ⟨h.1, RW.of hJ h.2, hJ.trans0 h.2⟩) (h w hJ)) hnext
/-- An operation that writes. -/
theorem W.put {A : Value → World → Prop} (hA : ∀ v w w', Ext [] w w' → A v w → A v w') (hw : chkW ops X ws d i = true) (hi : ws.any (Nat.beq i) = true) (hg : wants ops ρ gd = some true) (hd : Nat.blt d n = true) (hns : isSelect op = false)
    (h : ∀ w, Ext [] w₀ w → RelsT τ w (slots ops ⟨some d, op, ty, pos, af, gd⟩) ρ (fun ρ' => Does P n ρ' w ⟨some d, op, ty, pos, af, gd⟩ (fun v w' => A v w' ∧ RowKit.Below w₀.heap.size w w')))
    (hnext : DW P n ops Q w₀ ws X (dropS d ρ) ((d, A) :: τ) (i + 1) rest) : DW P n ops Q w₀ ws X ρ τ i (⟨some d, op, ty, pos, af, gd⟩ :: rest) :=
  DS.rel A (chkW_spec hw hA) hg hd hns (fun w _ _ hJ => RelsT.mono (fun _ hk => hk.mono fun _ _ h => ⟨h.1, ⟨h.2, fun e => by rw [hi] at e; cases e⟩, hJ.then_below h.2⟩) (h w hJ)) hnext
theorem W.valR {A : Value → World → Prop} (hA : ∀ v w w', Ext [] w w' → A v w → A v w') (hw : chkW ops X ws d i = true) (hg : wants ops ρ gd = some true) (hd : Nat.blt d n = true) (hns : isSelect op = false)
    (h : ∀ w, Ext [] w₀ w → RelsT τ w (slots ops ⟨some d, op, ty, pos, af, gd⟩) ρ (fun ρ' => ∃ v, Runs P n ρ' w ⟨some d, op, ty, pos, af, gd⟩ v w ∧ A v w))
    (hnext : DW P n ops Q w₀ ws X (dropS d ρ) ((d, A) :: τ) (i + 1) rest) : DW P n ops Q w₀ ws X ρ τ i (⟨some d, op, ty, pos, af, gd⟩ :: rest) :=
  DS.relv A (chkW_spec hw hA) hg hd hns rfl (RW.refl _ _ _) (fun w _ _ hJ => h w hJ) hnext
theorem W.pass (hg : wants ops ρ gd = some false) (hd : Nat.blt d n = true) (hfree : (lookT τ d).isNone = true)
    (hnext : DW P n ops Q w₀ ws X ((d, undef) :: ρ) τ (i + 1) rest) : DW P n ops Q w₀ ws X ρ τ i (⟨some d, op, ty, pos, af, gd⟩ :: rest) :=
  DS.pass hg hd hfree rfl (RW.refl _ _ _) hnext
theorem W.call (v : Value) {f : FuncId} {args : Array Operand} {ats : Array TypeId} (hg : wants ops ρ gd = some true) (hd : Nat.blt d n = true) (hfree : (lookT τ d).isNone = true)
    (hc : ∀ (vs : Array Value) w, (callFunc f vs).run P w = .ok (.enter f vs) w)
    (h : ∀ w, Ext [] w₀ w → RelsT τ w (slots ops ⟨some d, .call ⟨.value (.func f), args, ats⟩, ty, pos, af, gd⟩) ρ (fun ρ' => ∃ as, evs ρ' args.toList = some as ∧ Meets P f as w (fun v' w' => v' = v ∧ Ext [] w w')))
    (hnext : DW P n ops Q w₀ ws X ((d, v) :: ρ) τ (i + 1) rest) : DW P n ops Q w₀ ws X ρ τ i (⟨some d, .call ⟨.value (.func f), args, ats⟩, ty, pos, af, gd⟩ :: rest) :=
  DS.callEq v (x := .func f) (first := #[]) (cap := #[]) hg hd hfree hc (fun w _ _ hJ => RelsT.mono (fun _ ⟨as, h1, h2⟩ => ⟨as, rfl, h1, by simpa using h2.mono fun _ _ h => ⟨h.1, RW.of hJ h.2, hJ.trans0 h.2⟩⟩) (h w hJ)) hnext
theorem W.callR {A : Value → World → Prop} (hA : ∀ v w w', Ext [] w w' → A v w → A v w') (hw : chkW ops X ws d i = true) {f : FuncId} {args : Array Operand} {ats : Array TypeId} (hg : wants ops ρ gd = some true) (hd : Nat.blt d n = true)
    (hc : ∀ (vs : Array Value) w, (callFunc f vs).run P w = .ok (.enter f vs) w)
    (h : ∀ w, Ext [] w₀ w → RelsT τ w (slots ops ⟨some d, .call ⟨.value (.func f), args, ats⟩, ty, pos, af, gd⟩) ρ (fun ρ' => ∃ as, evs ρ' args.toList = some as ∧ Meets P f as w (fun v' w' => A v' w' ∧ Ext [] w w')))
    (hnext : DW P n ops Q w₀ ws X (dropS d ρ) ((d, A) :: τ) (i + 1) rest) : DW P n ops Q w₀ ws X ρ τ i (⟨some d, .call ⟨.value (.func f), args, ats⟩, ty, pos, af, gd⟩ :: rest) :=
  DS.callRel A (chkW_spec hw hA) (x := .func f) (first := #[]) (cap := #[]) hg hd hc (fun w _ _ hJ => RelsT.mono (fun _ ⟨as, h1, h2⟩ => ⟨as, rfl, h1, by simpa using h2.mono fun _ _ h => ⟨h.1, RW.of hJ h.2, hJ.trans0 h.2⟩⟩) (h w hJ)) hnext
theorem W.be {v v' : Value} (d : Nat) (hv : look ρ d = some v) (e : v = v') (h : DW P n ops Q w₀ ws X ((d, v') :: ρ) τ i rest) : DW P n ops Q w₀ ws X ρ τ i rest := DS.be d hv e h
theorem W.isT {b : Bool} (d : Nat) (hv : look ρ d = some (.bool b)) (e : b = true) (h : DW P n ops Q w₀ ws X ((d, .bool true) :: ρ) τ i rest) : DW P n ops Q w₀ ws X ρ τ i rest := DS.isT d hv e h
theorem W.isF {b : Bool} (d : Nat) (hv : look ρ d = some (.bool b)) (e : b = false) (h : DW P n ops Q w₀ ws X ((d, .bool false) :: ρ) τ i rest) : DW P n ops Q w₀ ws X ρ τ i rest := DS.isF d hv e h
theorem W.caseB {b : Bool} (d : Nat) (hv : look ρ d = some (.bool b)) (ht : b = true → DW P n ops Q w₀ ws X ((d, .bool true) :: ρ) τ i rest) (hf : b = false → DW P n ops Q w₀ ws X ((d, .bool false) :: ρ) τ i rest) : DW P n ops Q w₀ ws X ρ τ i rest := DS.caseB d hv ht hf
theorem W.caseP {p : Prop} {dp : Decidable p} (d : Nat) (hv : look ρ d = some (.bool (@decide p dp))) (ht : p → DW P n ops Q w₀ ws X ((d, .bool true) :: ρ) τ i rest) (hf : ¬ p → DW P n ops Q w₀ ws X ((d, .bool false) :: ρ) τ i rest) : DW P n ops Q w₀ ws X ρ τ i rest := DS.caseP d hv ht hf
end
section
variable {P : Program} {B : Exit → Act → World → Prop} {n : Fm} {ops : List Oper} {ks : List K} {ρ : Env} {τ : RelEnv} {i : Nat} {w : World} {ws : List Nat} {X : List (Nat × Nat)}
theorem W.nil (hρ : X.all (fun p => (look ρ p.2).isNone) = true) (h : ∀ w', Ext [] w w' → RelsT τ w' ((τ.map Prod.fst).filter fun t => !killed X t) ρ (fun ρ' => N P B n ks ρ' w')) : DW P n ops (sem P n.ro B ks) w ws X ρ τ i [] :=
  DS.nil hρ h
theorem G.writes [Mixed P] {id : Nat} (ws : List Nat) (X : List (Nat × Nat)) (hchk : chk ops [] = true) (hkill : chkKill ops X = true) (hlt : ρ.all (fun p => Nat.blt p.1 n) = true) (h : DW P n ops (sem P n.ro B ks) w ws X ρ [] 0 ops) : G P B n ks ρ w (.region id ops.toArray true) :=
  G.draw [] _ _ X hchk hkill rfl hlt (Ext.drawn w) h
end

/-! ## Regions in stages: the operations σ, one behind the other, turn what was there; Ms: the blocks that each may turn -/
def stage (Js : List (World → Prop)) (k : Nat) (w : World) : Prop := ∃ Ψ, Js[k]? = some Ψ ∧ Ψ w
/-- What a step may turn: these blocks; or whatever lies above s. -/
inductive Foot where
  | blocks (M : List Nat)
  | above (s : Nat)
structure Above (s : Nat) (w w' : World) : Prop where
  os : w'.os = w.os
  tape : w'.tape = w.tape
  output : w'.output = w.output
  size : w.heap.size ≤ w'.heap.size
  keep : ∀ k, k < w.heap.size → k < s → w'.heap[k]? = w.heap[k]?
theorem Above.refl (s : Nat) (w : World) : Above s w w := ⟨rfl, rfl, rfl, Nat.le_refl _, fun _ _ _ => rfl⟩
theorem Above.of {s : Nat} {M : List Nat} {w w' : World} (h : Ext M w w') (hM : ∀ g ∈ M, s ≤ g) : Above s w w' :=
  ⟨h.os, h.tape, h.output, h.size, fun k hk hs => h.keep k hk (fun hm => absurd (hM k hm) (by omega))⟩
theorem Above.trans {s : Nat} {a b c : World} (h : Above s a b) (k : Above s b c) : Above s a c :=
  ⟨k.os.trans h.os, k.tape.trans h.tape, k.output.trans h.output, Nat.le_trans h.size k.size, fun i hi hs => (k.keep i (Nat.lt_of_lt_of_le hi h.size) hs).trans (h.keep i hi hs)⟩
theorem Above.ext {s : Nat} {w₀ w w' : World} (h : Ext [] w₀ w) (hs : s = w₀.heap.size) (k : Above s w w') : Ext [] w₀ w' :=
  ⟨k.os.trans h.os, k.tape.trans h.tape, k.output.trans h.output, Nat.le_trans h.size k.size, fun i hi _ => (k.keep i (Nat.lt_of_lt_of_le hi h.size) (by omega)).trans (h.keep i hi (by simp))⟩
def Foot.ok : Foot → World → World → Prop
  | .blocks M, w, w' => Ext M w w'
  | .above s, w, w' => Above s w w'
def footOf : List Nat → List Foot → Nat → Foot
  | s :: σ, M :: Ms, i => match Nat.beq s i with
    | true => M
    | false => footOf σ Ms i
  | _, _, _ => .blocks []
theorem footOf_mem : ∀ (σ : List Nat) (Ms : List Foot) (i : Nat), footOf σ Ms i ∈ Foot.blocks [] :: Ms
  | [], _, _ => by simp [footOf]
  | _ :: _, [], _ => by simp [footOf]
  | s :: σ, M :: Ms, i => by
    unfold footOf
    split
    · simp
    · have := footOf_mem σ Ms i
      simp only [List.mem_cons] at this ⊢
      exact this.imp id .inr
def RS (σ : List Nat) (Ms : List Foot) (i : Nat) (w w' : World) : Prop := (footOf σ Ms i).ok w w'
theorem RS.of {σ : List Nat} {Ms : List Foot} {i : Nat} {M : Foot} {w w' : World} (hM : footOf σ Ms i = M) (h : M.ok w w') : RS σ Ms i w w' := by unfold RS; rw [hM]; exact h
theorem RS.of0 {σ : List Nat} {Ms : List Foot} {i : Nat} {w w' : World} (h : Ext [] w w') : RS σ Ms i w w' := by
  unfold RS
  cases footOf σ Ms i with
  | blocks M => exact h.mono (by simp)
  | above s => exact Above.of h (by simp)
/-- A fact on slot d that operation i finds lasts: .. -/
def Lasts (ops : List Oper) (X : List (Nat × Nat)) (σ : List Nat) (Ms : List Foot) (d i : Nat) (A : Value → World → Prop) : Prop :=
  ∀ i', (i', d) ∉ X → reachIn (masks ops ops.length) i i' = false → i' ≠ i → ∀ v w w', RS σ Ms i' w w' → A v w → A v w'
/-- .. or no step touches it. -/
theorem Lasts.apart {ops : List Oper} {X : List (Nat × Nat)} {σ : List Nat} {Ms : List Foot} {d i : Nat} {A : Value → World → Prop} (hA : ∀ M ∈ Foot.blocks [] :: Ms, ∀ v w w', M.ok w w' → A v w → A v w') : Lasts ops X σ Ms d i A :=
  fun i' _ _ _ v w w' hR => hA _ (footOf_mem σ Ms i') v w w' hR
/-- Operation i runs at stage k0, and at no other. -/
def atStage (ops : List Oper) (σ : List Nat) (i k0 : Nat) : Bool := Nat.beq (loF (masks ops ops.length) i σ 0 0) k0 && Nat.beq (hiF (masks ops ops.length) i σ 0) k0
theorem atStage_eq {ops : List Oper} {σ : List Nat} {i k0 k : Nat} (h : atStage ops σ i k0 = true) (hr : inRng ops σ i k) : k = k0 := by
  unfold atStage at h
  rw [Bool.and_eq_true, beq_iff, beq_iff] at h
  unfold inRng at hr
  omega
theorem stage_at {Js : List (World → Prop)} {k : Nat} {Ψ : World → Prop} {w : World} (hΨ : Js[k]? = some Ψ) (h : stage Js k w) : Ψ w := by
  obtain ⟨Ψ', h1, h2⟩ := h
  rw [hΨ] at h1; cases h1; exact h2
section
variable (P : Program) (n : Fm) (ops : List Oper) (Q : Exit → Act → World → Prop) (Js : List (World → Prop)) (σ : List Nat) (Ms : List Foot) (X : List (Nat × Nat))
def DZ (ρ : Env) (τ : RelEnv) (i : Nat) (l : List Oper) : Prop := DS P n ops Q (stage Js) (RS σ Ms) X σ ρ τ i l
end
section
variable {P : Program} {n : Fm} {ops : List Oper} {Q : Exit → Act → World → Prop} {Js : List (World → Prop)} {σ : List Nat} {Ms : List Foot} {X : List (Nat × Nat)}
variable {ρ : Env} {τ : RelEnv} {i : Nat} {rest : List Oper} {d : Nat} {op : Op} {ty : TypeId} {pos : String} {af : Array Edge} {gd : Option (Nat × Bool)}
/-- An operation that only reckons. -/
theorem Z.val {v : Value} (hst : stepsOf σ i = 0) (hg : wants ops ρ gd = some true) (hd : Nat.blt d n = true) (hfree : (lookT τ d).isNone = true) (hns : isSelect op = false)
    (h : ∀ w, RelsT τ w (slots ops ⟨some d, op, ty, pos, af, gd⟩) ρ (fun ρ' => Runs P n ρ' w ⟨some d, op, ty, pos, af, gd⟩ v w))
    (hnext : DZ P n ops Q Js σ Ms X ((d, v) :: ρ) τ (i + 1) rest) : DZ P n ops Q Js σ Ms X ρ τ i (⟨some d, op, ty, pos, af, gd⟩ :: rest) :=
  DS.val hg hd hns hfree hst (fun w => RS.of0 (Ext.refl _ w)) (fun w _ _ _ => h w) hnext
/-- One that reads, at a known stage. -/
theorem Z.read {v : Value} (k0 : Nat) (hk : atStage ops σ i k0 = true) {Ψ : World → Prop} (hΨ : Js[k0]? = some Ψ) (hst : stepsOf σ i = 0) (hg : wants ops ρ gd = some true) (hd : Nat.blt d n = true) (hfree : (lookT τ d).isNone = true) (hns : isSelect op = false)
    (h : ∀ w, Ψ w → RelsT τ w (slots ops ⟨some d, op, ty, pos, af, gd⟩) ρ (fun ρ' => Runs P n ρ' w ⟨some d, op, ty, pos, af, gd⟩ v w))
    (hnext : DZ P n ops Q Js σ Ms X ((d, v) :: ρ) τ (i + 1) rest) : DZ P n ops Q Js σ Ms X ρ τ i (⟨some d, op, ty, pos, af, gd⟩ :: rest) :=
  DS.val hg hd hns hfree hst (fun w => RS.of0 (Ext.refl _ w)) (fun w k hr hJ => by obtain rfl := atStage_eq hk hr; exact h w (stage_at hΨ hJ)) hnext
/-- One whose result is known by a fact. -/
theorem Z.valR {A : Value → World → Prop} (hA : Lasts ops X σ Ms d i A) (hst : stepsOf σ i = 0) (hg : wants ops ρ gd = some true) (hd : Nat.blt d n = true) (hns : isSelect op = false)
    (h : ∀ w, RelsT τ w (slots ops ⟨some d, op, ty, pos, af, gd⟩) ρ (fun ρ' => ∃ v, Runs P n ρ' w ⟨some d, op, ty, pos, af, gd⟩ v w ∧ A v w))
    (hnext : DZ P n ops Q Js σ Ms X (dropS d ρ) ((d, A) :: τ) (i + 1) rest) : DZ P n ops Q Js σ Ms X ρ τ i (⟨some d, op, ty, pos, af, gd⟩ :: rest) :=
  DS.relv A hA hg hd hns hst (fun w => RS.of0 (Ext.refl _ w)) (fun w _ _ _ => h w) hnext
/-- One that makes something new, at a known stage. -/
theorem Z.new {A : Value → World → Prop} (hA : Lasts ops X σ Ms d i A) (k0 : Nat) (hk : atStage ops σ i k0 = true) {Ψ : World → Prop} (hΨ : Js[k0]? = some Ψ) (hst : stepsOf σ i = 0)
    (hg : wants ops ρ gd = some true) (hd : Nat.blt d n = true) (hns : isSelect op = false)
    (h : ∀ w, Ψ w → RelsT τ w (slots ops ⟨some d, op, ty, pos, af, gd⟩) ρ (fun ρ' => Does P n ρ' w ⟨some d, op, ty, pos, af, gd⟩ (fun v w' => A v w' ∧ Ext [] w w' ∧ Ψ w')))
    (hnext : DZ P n ops Q Js σ Ms X (dropS d ρ) ((d, A) :: τ) (i + 1) rest) : DZ P n ops Q Js σ Ms X ρ τ i (⟨some d, op, ty, pos, af, gd⟩ :: rest) :=
  DS.rel A hA hg hd hns (fun w k hr hJ => by
    obtain rfl := atStage_eq hk hr
    refine RelsT.mono (fun _ hx => hx.mono fun _ _ h => ⟨h.1, RS.of0 h.2.1, ?_⟩) (h w (stage_at hΨ hJ))
    rw [hst]; exact ⟨_, hΨ, h.2.2⟩) hnext
/-- A step, with a result. -/
theorem Z.put {A : Value → World → Prop} (hA : Lasts ops X σ Ms d i A) (k0 : Nat) (hk : atStage ops σ i k0 = true) {Ψ Ψ' : World → Prop} {M : Foot} (hΨ : Js[k0]? = some Ψ) (hΨ' : Js[k0 + 1]? = some Ψ') (hi : σ.any (Nat.beq i) = true) (hM : footOf σ Ms i = M)
    (hg : wants ops ρ gd = some true) (hd : Nat.blt d n = true) (hns : isSelect op = false)
    (h : ∀ w, Ψ w → RelsT τ w (slots ops ⟨some d, op, ty, pos, af, gd⟩) ρ (fun ρ' => Does P n ρ' w ⟨some d, op, ty, pos, af, gd⟩ (fun v w' => A v w' ∧ M.ok w w' ∧ Ψ' w')))
    (hnext : DZ P n ops Q Js σ Ms X (dropS d ρ) ((d, A) :: τ) (i + 1) rest) : DZ P n ops Q Js σ Ms X ρ τ i (⟨some d, op, ty, pos, af, gd⟩ :: rest) :=
  DS.rel A hA hg hd hns (fun w k hr hJ => by
    obtain rfl := atStage_eq hk hr
    refine RelsT.mono (fun _ hx => hx.mono fun _ _ h => ⟨h.1, RS.of hM h.2.1, ?_⟩) (h w (stage_at hΨ hJ))
    unfold stepsOf; rw [hi]; exact ⟨_, hΨ', h.2.2⟩) hnext
/-- A step: a store. -/
theorem Z.set (k0 : Nat) (hk : atStage ops σ i k0 = true) {Ψ Ψ' : World → Prop} {M : Foot} (hΨ : Js[k0]? = some Ψ) (hΨ' : Js[k0 + 1]? = some Ψ') (hi : σ.any (Nat.beq i) = true) (hM : footOf σ Ms i = M) (hg : wants ops ρ gd = some true) (hns : isSelect op = false)
    (h : ∀ w, Ψ w → RelsT τ w (slots ops ⟨none, op, ty, pos, af, gd⟩) ρ (fun ρ' => Sets P n ρ' w ⟨none, op, ty, pos, af, gd⟩ (fun w' => M.ok w w' ∧ Ψ' w')))
    (hnext : DZ P n ops Q Js σ Ms X ρ τ (i + 1) rest) : DZ P n ops Q Js σ Ms X ρ τ i (⟨none, op, ty, pos, af, gd⟩ :: rest) :=
  DS.set hg hns (fun w k hr hJ => by
    obtain rfl := atStage_eq hk hr
    refine RelsT.mono (fun _ ⟨w', hx, hp⟩ => ⟨w', hx, RS.of hM hp.1, ?_⟩) (h w (stage_at hΨ hJ))
    unfold stepsOf; rw [hi]; exact ⟨_, hΨ', hp.2⟩) hnext
theorem Z.pass (hst : stepsOf σ i = 0) (hg : wants ops ρ gd = some false) (hd : Nat.blt d n = true) (hfree : (lookT τ d).isNone = true)
    (hnext : DZ P n ops Q Js σ Ms X ((d, undef) :: ρ) τ (i + 1) rest) : DZ P n ops Q Js σ Ms X ρ τ i (⟨some d, op, ty, pos, af, gd⟩ :: rest) :=
  DS.pass hg hd hfree hst (fun w => RS.of0 (Ext.refl _ w)) hnext
theorem Z.call (v : Value) (k0 : Nat) {f : FuncId} {args : Array Operand} {ats : Array TypeId} (hk : atStage ops σ i k0 = true) {Ψ : World → Prop} (hΨ : Js[k0]? = some Ψ) (hst : stepsOf σ i = 0) (hg : wants ops ρ gd = some true) (hd : Nat.blt d n = true) (hfree : (lookT τ d).isNone = true)
    (hc : ∀ (vs : Array Value) w, (callFunc f vs).run P w = .ok (.enter f vs) w)
    (h : ∀ w, Ψ w → RelsT τ w (slots ops ⟨some d, .call ⟨.value (.func f), args, ats⟩, ty, pos, af, gd⟩) ρ (fun ρ' => ∃ as, evs ρ' args.toList = some as ∧ Meets P f as w (fun v' w' => v' = v ∧ Ext [] w w' ∧ Ψ w')))
    (hnext : DZ P n ops Q Js σ Ms X ((d, v) :: ρ) τ (i + 1) rest) : DZ P n ops Q Js σ Ms X ρ τ i (⟨some d, .call ⟨.value (.func f), args, ats⟩, ty, pos, af, gd⟩ :: rest) :=
  DS.callEq v (x := .func f) (first := #[]) (cap := #[]) hg hd hfree hc (fun w k hr hJ => by
    obtain rfl := atStage_eq hk hr
    refine RelsT.mono (fun _ ⟨as, h1, h2⟩ => ⟨as, rfl, h1, by simpa using h2.mono fun _ _ h => ⟨h.1, RS.of0 h.2.1, by rw [hst]; exact ⟨_, hΨ, h.2.2⟩⟩⟩) (h w (stage_at hΨ hJ))) hnext
/-- A call that makes something new. -/
theorem Z.callR {A : Value → World → Prop} (hA : Lasts ops X σ Ms d i A) (k0 : Nat) {f : FuncId} {args : Array Operand} {ats : Array TypeId} (hk : atStage ops σ i k0 = true) {Ψ : World → Prop} (hΨ : Js[k0]? = some Ψ) (hst : stepsOf σ i = 0) (hg : wants ops ρ gd = some true) (hd : Nat.blt d n = true)
    (hc : ∀ (vs : Array Value) w, (callFunc f vs).run P w = .ok (.enter f vs) w)
    (h : ∀ w, Ψ w → RelsT τ w (slots ops ⟨some d, .call ⟨.value (.func f), args, ats⟩, ty, pos, af, gd⟩) ρ (fun ρ' => ∃ as, evs ρ' args.toList = some as ∧ Meets P f as w (fun v' w' => A v' w' ∧ Ext [] w w' ∧ Ψ w')))
    (hnext : DZ P n ops Q Js σ Ms X (dropS d ρ) ((d, A) :: τ) (i + 1) rest) : DZ P n ops Q Js σ Ms X ρ τ i (⟨some d, .call ⟨.value (.func f), args, ats⟩, ty, pos, af, gd⟩ :: rest) :=
  DS.callRel A hA (x := .func f) (first := #[]) (cap := #[]) hg hd hc (fun w k hr hJ => by
    obtain rfl := atStage_eq hk hr
    refine RelsT.mono (fun _ ⟨as, h1, h2⟩ => ⟨as, rfl, h1, by simpa using h2.mono fun _ _ h => ⟨h.1, RS.of0 h.2.1, by rw [hst]; exact ⟨_, hΨ, h.2.2⟩⟩⟩) (h w (stage_at hΨ hJ))) hnext
theorem Z.be {v v' : Value} (d : Nat) (hv : look ρ d = some v) (e : v = v') (h : DZ P n ops Q Js σ Ms X ((d, v') :: ρ) τ i rest) : DZ P n ops Q Js σ Ms X ρ τ i rest := DS.be d hv e h
theorem Z.isT {b : Bool} (d : Nat) (hv : look ρ d = some (.bool b)) (e : b = true) (h : DZ P n ops Q Js σ Ms X ((d, .bool true) :: ρ) τ i rest) : DZ P n ops Q Js σ Ms X ρ τ i rest := DS.isT d hv e h
theorem Z.isF {b : Bool} (d : Nat) (hv : look ρ d = some (.bool b)) (e : b = false) (h : DZ P n ops Q Js σ Ms X ((d, .bool false) :: ρ) τ i rest) : DZ P n ops Q Js σ Ms X ρ τ i rest := DS.isF d hv e h
theorem Z.caseB {b : Bool} (d : Nat) (hv : look ρ d = some (.bool b)) (ht : b = true → DZ P n ops Q Js σ Ms X ((d, .bool true) :: ρ) τ i rest) (hf : b = false → DZ P n ops Q Js σ Ms X ((d, .bool false) :: ρ) τ i rest) : DZ P n ops Q Js σ Ms X ρ τ i rest := DS.caseB d hv ht hf
theorem Z.caseP {p : Prop} {dp : Decidable p} (d : Nat) (hv : look ρ d = some (.bool (@decide p dp))) (ht : p → DZ P n ops Q Js σ Ms X ((d, .bool true) :: ρ) τ i rest) (hf : ¬ p → DZ P n ops Q Js σ Ms X ((d, .bool false) :: ρ) τ i rest) : DZ P n ops Q Js σ Ms X ρ τ i rest := DS.caseP d hv ht hf
end
section
variable {P : Program} {B : Exit → Act → World → Prop} {n : Fm} {ops : List Oper} {ks : List K} {ρ : Env} {τ : RelEnv} {i : Nat} {w : World} {Js : List (World → Prop)} {σ : List Nat} {Ms : List Foot} {X : List (Nat × Nat)}
theorem Z.nil {Ψ : World → Prop} (hΨ : Js[σ.length]? = some Ψ) (hρ : X.all (fun p => (look ρ p.2).isNone) = true) (h : ∀ w', Ψ w' → RelsT τ w' ((τ.map Prod.fst).filter fun t => !killed X t) ρ (fun ρ' => N P B n ks ρ' w')) : DZ P n ops (sem P n.ro B ks) Js σ Ms X ρ τ i [] :=
  DS.nil hρ (fun w hJ => h w (stage_at hΨ hJ))
end
end Brv
/-
  What slices read as: bytes (Bs). What slices own, and how they are written.
-/
namespace Brv
open Go

/-- The slice at a, of n elements, reads as the bytes l. -/
structure Bs (w : World) (a : Option Addr) (n : Nat) (l : List UInt8) : Prop where
  cells : Cells w a (vbs l)
  len : n = l.length
theorem Bs.ext {w w' : World} {a : Option Addr} {n : Nat} {l : List UInt8} {M : List Nat} (h : Bs w a n l) (he : Ext M w w') (hm : ∀ p, a = some p → p.block ∉ M) : Bs w' a n l := ⟨h.cells.ext he hm, h.len⟩
theorem Bs.ext0 {w w' : World} {a : Option Addr} {n : Nat} {l : List UInt8} (h : Bs w a n l) (he : Ext [] w w') : Bs w' a n l := ⟨h.cells.ext0 he, h.len⟩
theorem Bs.nil (w : World) : Bs w none 0 [] := ⟨Cells.nil _ _, rfl⟩
theorem Bs.none {w : World} {n : Nat} {l : List UInt8} (h : Bs w none n l) : l = [] ∧ n = 0 := by
  have : vbs l = [] := cells_none h.cells
  have hl : l = [] := by cases l with | nil => rfl | cons x r => simp [vbs] at this
  exact ⟨hl, by rw [h.len, hl]; rfl⟩
theorem Bs.at {w : World} {a : Option Addr} {n : Nat} {l : List UInt8} (h : Bs w a n l) (k : Nat) (hk : k < l.length) : ∃ p, a = some p ∧ w.cell? (p.add (k * 1)) = some (vb l[k]) := by
  obtain ⟨p, hp, hc⟩ := h.cells k (vb l[k]) (by simp [vbs, hk])
  exact ⟨p, hp, by simpa using hc⟩
theorem Bs.sub {w : World} {a : Option Addr} {n : Nat} {l : List UInt8} (h : Bs w a n l) (i m k : Nat) (hk : i + k ≤ n) (hm : m = i → k = 0) : Bs w (subA a i m 1) k ((l.drop i).take k) := by
  have hl := h.len
  refine ⟨?_, by simp; omega⟩
  have := h.cells.sub i m 1 k (by simp [vbs_length]; omega) hm
  simp only [Nat.mul_one] at this
  have e : ((vbs l).drop i).take k = vbs ((l.drop i).take k) := by simp [vbs]
  rw [e] at this; exact this
theorem Bs.take {w : World} {a : Option Addr} {n : Nat} {l : List UInt8} (h : Bs w a n l) (m k : Nat) (hk : k ≤ n) (hm : n ≤ m) : Bs w (subA a 0 m 1) k (l.take k) := by
  have := h.sub 0 m k (by omega) (by omega)
  simpa using this
theorem Bs.drop {w : World} {a : Option Addr} {n : Nat} {l : List UInt8} (h : Bs w a n l) (i m : Nat) (hi : i ≤ n) (hm : n ≤ m) : Bs w (subA a i m 1) (n - i) (l.drop i) := by
  have := h.sub i m (n - i) (by omega) (by omega)
  rw [List.take_of_length_le (by rw [List.length_drop, ← h.len]; omega)] at this
  exact this
theorem Bs.pre {w : World} {a : Option Addr} {n : Nat} {l : List UInt8} (h : Bs w a n l) (k : Nat) (hk : k ≤ n) : Bs w a k (l.take k) := by
  have := h.take (n + 1) k hk (by omega)
  rwa [subA_zero] at this
theorem Bs.of_own {w : World} {E : Nat} {a : Option Addr} {n cap : Nat} {l : List UInt8} {M : List Nat} (h : Own w E 1 a n cap (vbs l) M) : Bs w a n l :=
  ⟨h.cells, by have := h.len; simp [vbs_length] at this; omega⟩
theorem Bs.of_blk {w : World} {b E : Nat} {cs : Array Value} {fz : Nat × Nat} (h : Blk w b cs E fz) (l : List UInt8) (hl : cs.toList = vbs l) (n : Nat) (hn : n = l.length) : Bs w (some ⟨b, 0, Option.none⟩) n l := by
  refine ⟨Cells.of_blk h 0 _ (fun j v hj => ?_), hn⟩
  rw [← hl] at hj
  simpa using hj
/-- The k-th element of an owned row (of one cell each) may be written. -/
theorem Own.set {w : World} {E : Nat} {a : Option Addr} {n cap : Nat} {xs : List Value} {M : List Nat} (h : Own w E 1 a n cap xs M) (k : Nat) (hk : k < n) :
    ∃ g cur, a = some ⟨g, 0, none⟩ ∧ M = [g] ∧ Blk w g cur E (0, 0) ∧ k < cur.size ∧ ∀ v w', Ext [g] w w' → Blk w' g (cur.setIfInBounds k v) E (0, 0) → Own w' E 1 a n cap (xs.set k v) M := by
  rcases h.2 with ⟨_, rfl, _, _⟩ | ⟨g, cur, ha, hM, hb, hnc, hcm, hcs, ht⟩
  · omega
  · refine ⟨g, cur, ha, hM, hb, by omega, fun v w' he hb' => ⟨by simp [h.1], .inr ⟨g, _, ha, hM, hb', hnc, hcm, by simp; omega, ?_⟩⟩⟩
    rw [← ht, Array.toList_setIfInBounds, List.take_set]
theorem vbs_set (l : List UInt8) (k : Nat) (b : UInt8) : (vbs l).set k (vb b) = vbs (l.set k b) := by simp [vbs, List.map_set]

/-- What slices.Clone gives. -/
def Cloned (w : World) (E size n : Nat) (xs : List Value) (v : Value) (w' : World) : Prop :=
  ∃ a' c' M', v = .slice a' n c' ∧ Ext [] w w' ∧ Own w' E size a' n c' xs M' ∧ ∀ g ∈ M', w.heap.size ≤ g
/-- Bytes in a slice (a fact that stays while nothing old is turned). -/
def IsBs (n : Nat) (l : List UInt8) (v : Value) (w : World) : Prop := ∃ a c, v = .slice a n c ∧ n ≤ c ∧ Bs w a n l
theorem IsBs.keep (n : Nat) (l : List UInt8) : ∀ v w w', Ext [] w w' → IsBs n l v w → IsBs n l v w' := fun _ _ _ he ⟨a, c, hv, hc, h⟩ => ⟨a, c, hv, hc, h.ext0 he⟩
theorem Cloned.is {w w' : World} {E n : Nat} {l : List UInt8} {v : Value} (h : Cloned w E 1 n (vbs l) v w') : IsBs n l v w' := by
  obtain ⟨a, c, M, hv, _, ho, _⟩ := h
  exact ⟨a, c, hv, ho.le, Bs.of_own ho⟩

/-! ### []T{x, y, ..}, all of it written out -/
def inOrder : Nat → List (Nat × Value) → Bool
  | _, [] => true
  | k, (i, _) :: r => Nat.beq i k && inOrder (k + 1) r
def cellsOf (vs : List (Nat × Value)) : List Value := vs.flatMap fun p => p.2.cells.toList
theorem seg_fold (off : Nat) : ∀ (vs : List Value) (s : Nat) (A : Array Value), off + s + vs.length ≤ A.size →
    ((vs.zipIdx s).foldl (fun cs (p : Value × Nat) => cs.setIfInBounds (off + p.2) p.1) A).toList = A.toList.take (off + s) ++ vs ++ A.toList.drop (off + s + vs.length)
  | [], s, A, _ => by simp
  | v :: r, s, A, h => by
    simp only [List.zipIdx_cons, List.foldl_cons]
    simp only [List.length_cons] at h
    rw [seg_fold off r (s + 1) (A.setIfInBounds (off + s) v) (by simp; omega)]
    have e := list_seg_step A.toList (off + s) v r (by simp; omega)
    simpa [Array.toList_setIfInBounds, Nat.add_assoc, Nat.add_comm, Nat.add_left_comm] using e
theorem fill_all (size : Nat) : ∀ (vs : List (Nat × Value)) (k : Nat) (A : Array Value), inOrder k vs = true → vs.all (fun p => Nat.beq p.2.cells.size size) = true → A.size = k * size + vs.length * size →
    Instr.fill (fun i => some (i * size, size)) A vs = some (A.toList.take (k * size) ++ cellsOf vs).toArray
  | [], k, A, _, _, h => by
    simp only [Instr.fill, cellsOf, List.flatMap_nil, List.append_nil]
    rw [List.take_of_length_le (by simp at h ⊢; omega)]
  | (i, v) :: r, k, A, ho, hs, h => by
    simp only [inOrder, Bool.and_eq_true] at ho
    have hi := Nat.eq_of_beq_eq_true ho.1
    subst hi
    simp only [List.all_cons, Bool.and_eq_true] at hs
    have hv := Nat.eq_of_beq_eq_true hs.1
    simp only [List.length_cons, Nat.add_mul, Nat.one_mul] at h
    have hroom : ¬ (i * size + v.cells.size > A.size) := by rw [hv, h]; omega
    simp only [Instr.fill, hv, ne_eq, not_true_eq_false, decide_false, Bool.false_or, decide_eq_true_eq]
    rw [if_neg (by rw [hv] at hroom; exact hroom)]
    have hf := seg_fold (i * size) v.cells.toList 0 A (by simp only [Array.length_toList, hv, h]; omega)
    have e : (v.cells.zipIdx.foldl (fun cs (p : Value × Nat) => cs.setIfInBounds (i * size + p.2) p.1) A) = ((v.cells.toList.zipIdx 0).foldl (fun cs (p : Value × Nat) => cs.setIfInBounds (i * size + p.2) p.1) A) := by
      rw [← Array.foldl_toList]; simp
    have hsz : ((v.cells.toList.zipIdx 0).foldl (fun cs (p : Value × Nat) => cs.setIfInBounds (i * size + p.2) p.1) A).size = A.size := by
      rw [← Array.length_toList, hf]
      simp only [List.length_append, List.length_take, List.length_drop, Array.length_toList, hv]
      omega
    rw [e, fill_all size r (i + 1) _ ho.2 hs.2 (by rw [hsz, h, Nat.add_mul]; omega)]
    rw [hf]
    congr 2
    simp only [cellsOf, List.flatMap_cons]
    have hl : (A.toList.take (i * size + 0) ++ v.cells.toList).length = (i + 1) * size := by
      simp only [List.length_append, List.length_take, Array.length_toList, hv, Nat.add_mul, Nat.one_mul, Nat.add_zero]
      omega
    rw [← hl, List.take_left]
    simp [List.append_assoc]
section
variable {P : Program} {n : Fm} {ρ : Env} {w : World} {d : Nat} {ty : TypeId} {pos : String} {af : Array Edge} {gd : Option (Nat × Bool)}
theorem R.buildA {T E size bytes : Nat} {z : Value} [t : TySlice P T E size bytes z] {len : Nat} {parts : Array (Nat × Operand)} {vs : List (Nat × Value)} (hp : evps ρ parts.toList = some vs) (hl : Nat.ble (len * size) 16777216 = true) (hlen : Nat.beq vs.length len = true) (ho : inOrder 0 vs = true) (hs : vs.all (fun p => Nat.beq p.2.cells.size size) = true) :
    Does P n ρ w ⟨some d, .buildSlice T len parts, ty, pos, af, gd⟩ (NewS w (cellsOf vs).toArray E len len) := by
  refine R.buildS hp (Nat.le_of_ble_eq_true hl) ?_
  have hlen' := Nat.eq_of_beq_eq_true hlen
  rw [fill_all size vs 0 _ ho hs (by simp; rw [hlen'])]
  simp
end

/-- A row that is owned, in blocks from s on. -/
def Mine (s E size n : Nat) (xs : List Value) (v : Value) (w : World) : Prop := ∃ a c M, v = .slice a n c ∧ Own w E size a n c xs M ∧ ∀ g ∈ M, s ≤ g
theorem Mine.keep (s E size n : Nat) (xs : List Value) : ∀ v w w', Ext [] w w' → Mine s E size n xs v w → Mine s E size n xs v w' := fun _ _ _ he ⟨a, c, M, hv, ho, hM⟩ => ⟨a, c, M, hv, ho.ext0 he, hM⟩
theorem Mine.none {w₀ w w' : World} {E size : Nat} {cs : Array Value} {v : Value} (h : NewS w cs E 0 0 v w') (hcs : cs.toList = []) (hJ : Ext [] w₀ w) : Mine w₀.heap.size E size 0 [] v w' ∧ Ext [] w w' := by
  obtain ⟨b, rfl, hb, hs, e, B⟩ := h
  have hz : cs.size = 0 := by rw [← Array.length_toList, hcs]; rfl
  have o := Own.blk (n := 0) (size := size) B (by rw [hz, Nat.zero_mul]) (by decide)
  rw [hcs] at o
  exact ⟨⟨_, _, _, rfl, o, fun g hg => by rw [List.mem_singleton.1 hg, ← hb]; exact hJ.size⟩, e⟩
theorem Mine.app {w₀ w w' : World} {E size m n : Nat} {M : List Nat} {xs ys : List Value} {v : Value} (h : Appended w E size M m xs v w') (hM : ∀ g ∈ M, w₀.heap.size ≤ g) (hJ : Ext [] w₀ w) (hm : m = n) (hx : xs = ys) :
    Mine w₀.heap.size E size n ys v w' ∧ RowKit.Below w₀.heap.size w w' := by
  subst hm; subst hx
  obtain ⟨a, c, M', rfl, e, hM', o⟩ := h
  exact ⟨⟨a, c, M', rfl, o, fun g hg => (hM' g hg).elim (hM g) (fun h => Nat.le_trans hJ.size h)⟩, hJ.below_of e hM⟩
theorem Mine.bs {s E n : Nat} {l : List UInt8} {v : Value} {w : World} (h : Mine s E 1 n (vbs l) v w) : IsBs n l v w := by
  obtain ⟨a, c, M, hv, o, _⟩ := h
  exact ⟨a, c, hv, o.le, Bs.of_own o⟩
theorem Cloned.ext {w w' : World} {E size n : Nat} {xs : List Value} {v : Value} (h : Cloned w E size n xs v w') : Ext [] w w' := by
  obtain ⟨a, c, M, hv, he, _⟩ := h; exact he
end Brv
/-
  Things that grow: how the blocks of a thing change, and slices that are held.
-/
set_option linter.unusedVariables false
namespace Brv
open Go

/-- A thing of the blocks S becomes one of the blocks S'. -/
def Grown (S S' : List Nat) (w w' : World) : Prop := Ext S w w' ∧ ∀ g ∈ S', g ∈ S ∨ w.heap.size ≤ g
theorem Grown.refl (S : List Nat) (w : World) : Grown S S w w := ⟨Ext.refl _ _, fun _ h => .inl h⟩
theorem Grown.trans {S S₁ S₂ : List Nat} {a b c : World} (h : Grown S S₁ a b) (k : Grown S₁ S₂ b c) : Grown S S₂ a c := by
  refine ⟨h.1.transN k.1 h.2, fun g hg => ?_⟩
  rcases k.2 g hg with hg | hg
  · exact h.2 g hg
  · exact .inr (Nat.le_trans h.1.size hg)
theorem Grown.of0 {a b : World} (S : List Nat) (h : Ext [] a b) : Grown S S a b := ⟨h.mono (by simp), fun _ h => .inl h⟩
/-- What was there and is none of S is as it was. -/
theorem Grown.apart {S S' Z : List Nat} {a b : World} (h : Grown S S' a b) (hz : ∀ z ∈ Z, z ∉ S) (hl : ∀ z ∈ Z, z < a.heap.size) : ∀ z ∈ Z, z ∉ S' := by
  intro z hz' hs
  rcases h.2 z hs with hs | hs
  · exact hz z hz' hs
  · have := hl z hz'; omega

theorem Ext.fresh {S : List Nat} {w a b : World} (E : Ext [] w a) (e : Ext S a b) (h : ∀ g ∈ S, w.heap.size ≤ g) : Ext [] w b := E.trans e (by simp) (fun x hx => .inr (h x hx))
theorem Grown.fresh {S S' : List Nat} {s : Nat} {a b : World} (h : Grown S S' a b) (hs : ∀ g ∈ S, s ≤ g) (ha : s ≤ a.heap.size) : ∀ g ∈ S', s ≤ g := fun g hg => (h.2 g hg).elim (hs g) (Nat.le_trans ha)
/-- A value that is a slice of n elements, which it owns; its blocks are of M, or from s on. -/
def Held (M : List Nat) (s E size n : Nat) (xs : List Value) (v : Value) (w : World) : Prop := ∃ a c M', v = .slice a n c ∧ Own w E size a n c xs M' ∧ ∀ g ∈ M', g ∈ M ∨ s ≤ g
theorem Held.keep (M : List Nat) (s E size n : Nat) (xs : List Value) : ∀ v w w', Ext [] w w' → Held M s E size n xs v w → Held M s E size n xs v w' := fun _ _ _ he ⟨a, c, M', hv, ho, hM⟩ => ⟨a, c, M', hv, ho.ext0 he, hM⟩
theorem Held.app {w₀ w w' : World} {E size m n : Nat} {M : List Nat} {xs ys : List Value} {v : Value} (h : Appended w E size M m xs v w') (hJ : Ext [] w₀ w) (hm : m = n) (hx : xs = ys) :
    Held M w₀.heap.size E size n ys v w' ∧ Ext M w w' ∧ Ext M w₀ w' := by
  subst hm; subst hx
  obtain ⟨a, c, M', rfl, e, hM', o⟩ := h
  exact ⟨⟨a, c, M', rfl, o, fun g hg => (hM' g hg).imp id (Nat.le_trans hJ.size)⟩, e, e.after hJ⟩
theorem NewS.bs {w w' : World} {cs : Array Value} {E n : Nat} {v : Value} {l : List UInt8} (h : NewS w cs E n n v w') (hc : cs.toList = vbs l) (hn : n = l.length) : IsBs n l v w' ∧ Ext [] w w' := by
  obtain ⟨b, rfl, hb, hs, e, B⟩ := h
  exact ⟨⟨_, _, rfl, Nat.le_refl _, Bs.of_blk B l hc n hn⟩, e⟩

theorem zeroCells_bytes (m : Nat) : (Builtin.zeroCells (Value.int .u8 0).cells m).toList = vbs (List.replicate m 0) := by
  refine List.ext_getElem (by simp [Builtin.zeroCells, vbs, Value.cells]) (fun i h1 h2 => ?_)
  simp [Builtin.zeroCells, vbs, Value.cells, vb, Nat.mod_one]
theorem Own.typ {w : World} {E size : Nat} {a : Option Addr} {n cap : Nat} {xs : List Value} {M : List Nat} (h : Own w E size a n cap xs M) : ∀ g ∈ M, ∃ cs, Blk w g cs E (0, 0) := by
  rcases h.2 with ⟨_, _, _, rfl⟩ | ⟨g, cur, _, rfl, hb, _⟩
  · simp
  · intro b hm; rw [List.mem_singleton.1 hm]; exact ⟨cur, hb⟩
theorem Blk.ne {w : World} {b b' : Nat} {cs cs' : Array Value} {T T' : TypeId} {fz fz' : Nat × Nat} (h : Blk w b cs T fz) (h' : Blk w b' cs' T' fz') (ht : T ≠ T') : b ≠ b' := by
  rintro rfl
  have : some (Obj.cells cs T fz) = some (Obj.cells cs' T' fz') := h.symm.trans h'
  cases this; exact ht rfl
/-- A clipped row. -/
theorem Own.clip {w : World} {E size : Nat} {a : Option Addr} {n cap : Nat} {xs : List Value} {M : List Nat} (h : Own w E size a n cap xs M) : Own w E size a n n xs M := by
  refine ⟨h.1, ?_⟩
  rcases h.2 with ⟨h1, h2, h3, h4⟩ | ⟨g, cur, h1, h2, h3, h4, h5, h6, h7⟩
  · exact .inl ⟨h1, h2, h2, h4⟩
  · exact .inr ⟨g, cur, h1, h2, h3, Nat.le_refl _, by omega, Nat.le_trans (Nat.mul_le_mul_right _ h4) h6, h7⟩
/-- A pen at p (a block with one slice), that wrote the bytes l. S: its blocks. -/
def PenAt (T E : Nat) (w : World) (p : Nat) (l : List UInt8) (S : List Nat) : Prop :=
  ∃ a n c M, S = p :: M ∧ p ∉ M ∧ n = l.length ∧ Blk w p #[.slice a n c] T (0, 0) ∧ Own w E 1 a n c (vbs l) M
theorem PenAt.ext {T E : Nat} {w w' : World} {p : Nat} {l : List UInt8} {S M' : List Nat} (h : PenAt T E w p l S) (he : Ext M' w w') (hm : ∀ x ∈ S, x ∉ M') : PenAt T E w' p l S := by
  obtain ⟨a, n, c, M, rfl, h1, h2, h3, h4⟩ := h
  exact ⟨a, n, c, M, rfl, h1, h2, h3.ext he (hm p (by simp)), h4.ext he (fun b hb => hm b (by simp [hb]))⟩
theorem PenAt.ext0 {T E : Nat} {w w' : World} {p : Nat} {l : List UInt8} {S : List Nat} (h : PenAt T E w p l S) (he : Ext [] w w') : PenAt T E w' p l S := h.ext he (by simp)
theorem PenAt.lt {T E : Nat} {w : World} {p : Nat} {l : List UInt8} {S : List Nat} (h : PenAt T E w p l S) : ∀ g ∈ S, g < w.heap.size := by
  obtain ⟨a, n, c, M, rfl, h1, h2, h3, h4⟩ := h
  intro g hg
  rcases List.mem_cons.1 hg with rfl | hg
  · exact h3.lt
  · exact h4.lt g hg
theorem PenAt.mem {T E : Nat} {w : World} {p : Nat} {l : List UInt8} {S : List Nat} (h : PenAt T E w p l S) : p ∈ S := by
  obtain ⟨a, n, c, M, rfl, _⟩ := h; simp
theorem PenAt.new {T E : Nat} {w : World} {p : Nat} (B : Blk w p #[.slice none 0 0] T (0, 0)) : PenAt T E w p [] [p] := ⟨none, 0, 0, [], rfl, by simp, rfl, B, Own.nil _ _ _⟩
/-- A held slice is put into the pen. -/
theorem PenAt.put {T E : Nat} {w₀ w w' : World} {p m : Nat} {k : List UInt8} {M : List Nat} {v : Value} (hs : p < w₀.heap.size) (hpM : p ∉ M) (hk : m = k.length) (h : Held M w₀.heap.size E 1 m (vbs k) v w) (hJ : Ext M w₀ w) (hp : Put w p #[v] T w') :
    ∃ S', PenAt T E w' p k S' ∧ Grown (p :: M) S' w₀ w' := by
  obtain ⟨a, c, M', rfl, ho, hM'⟩ := h
  obtain ⟨e, hsz, B⟩ := hp
  have hpM' : p ∉ M' := fun hm => (hM' p hm).elim hpM (fun h => by omega)
  refine ⟨p :: M', ⟨a, m, c, M', rfl, hpM', hk, B, ho.ext e (fun b hb => by intro h; rw [List.mem_singleton.1 h] at hb; exact hpM' hb)⟩, ?_, ?_⟩
  · exact hJ.trans e (fun x hx => .inl (by simp [hx])) (fun x hx => .inl (by rw [List.mem_singleton.1 hx]; simp))
  · intro g hg
    rcases List.mem_cons.1 hg with rfl | hg
    · exact .inl (by simp)
    · exact (hM' g hg).imp (fun h => by simp [h]) id
/-- A scan at s (a block with a slice and an error): the bytes l are left, in blocks of D. -/
def ScanAt (T : Nat) (w : World) (s : Nat) (D : List Nat) (l : List UInt8) (e : Int) : Prop :=
  ∃ a n c, s ∉ D ∧ n ≤ c ∧ (∀ q, a = some q → q.block ∈ D) ∧ Blk w s #[.slice a n c, .int .i64 e] T (0, 0) ∧ Bs w a n l
theorem ScanAt.ext {T : Nat} {w w' : World} {s : Nat} {D : List Nat} {l : List UInt8} {e : Int} {M : List Nat} (h : ScanAt T w s D l e) (he : Ext M w w') (hs : s ∉ M) (hD : ∀ d ∈ D, d ∉ M) : ScanAt T w' s D l e := by
  obtain ⟨a, n, c, h1, h2, h3, h4, h5⟩ := h
  exact ⟨a, n, c, h1, h2, h3, h4.ext he hs, h5.ext he (fun q hq => hD _ (h3 q hq))⟩
theorem ScanAt.ext0 {T : Nat} {w w' : World} {s : Nat} {D : List Nat} {l : List UInt8} {e : Int} (h : ScanAt T w s D l e) (he : Ext [] w w') : ScanAt T w' s D l e := h.ext he (by simp) (by simp)
theorem ScanAt.lt {T : Nat} {w : World} {s : Nat} {D : List Nat} {l : List UInt8} {e : Int} (h : ScanAt T w s D l e) : s < w.heap.size := by
  obtain ⟨a, n, c, h1, h2, h3, h4, h5⟩ := h; exact h4.lt
/-- A value that is a new scan; a value that is a new block of a string and an error. -/
def IsScan (T E s0 : Nat) (l : List UInt8) (v : Value) (w : World) : Prop := ∃ s D, v = .pointer (some ⟨s, 0, none⟩) ∧ ScanAt T w s D l 0 ∧ s0 ≤ s ∧ (∀ d ∈ D, s0 ≤ d) ∧ (∃ cs, Blk w s cs T (0, 0)) ∧ ∀ d ∈ D, ∃ cs, Blk w d cs E (0, 0)
theorem IsScan.keep (T E s0 : Nat) (l : List UInt8) : ∀ v w w', Ext [] w w' → IsScan T E s0 l v w → IsScan T E s0 l v w' :=
  fun _ _ _ he ⟨s, D, h1, h2, h3, h4, ⟨cs, h5⟩, h6⟩ => ⟨s, D, h1, h2.ext0 he, h3, h4, ⟨cs, h5.ext0 he⟩, fun d hd => (h6 d hd).imp fun _ h => h.ext0 he⟩
def IsBox (T s0 : Nat) (cs : Array Value) (v : Value) (w : World) : Prop := ∃ x, v = .pointer (some ⟨x, 0, none⟩) ∧ Blk w x cs T (0, 0) ∧ s0 ≤ x
theorem IsBox.keep (T s0 : Nat) (cs : Array Value) : ∀ v w w', Ext [] w w' → IsBox T s0 cs v w → IsBox T s0 cs v w' := fun _ _ _ he ⟨x, h1, h2, h3⟩ => ⟨x, h1, h2.ext0 he, h3⟩
theorem New.is {w₀ w w' : World} {cs : Array Value} {T : TypeId} {v : Value} (h : New w cs T v w') (hJ : Ext [] w₀ w) : IsBox T w₀.heap.size cs v w' ∧ Ext [] w w' := by
  obtain ⟨b, rfl, hb, hs, e, B⟩ := h
  exact ⟨⟨b, rfl, B, by rw [← hb]; exact hJ.size⟩, e⟩
/-- Bytes in blocks of D. -/
def BsIn (D : List Nat) (l : List UInt8) (v : Value) (w : World) : Prop := ∃ a c, v = .slice a l.length c ∧ l.length ≤ c ∧ Bs w a l.length l ∧ ∀ q, a = some q → q.block ∈ D
theorem BsIn.keep {D : List Nat} {l : List UInt8} {M : List Nat} (hM : ∀ d ∈ D, d ∉ M) : ∀ v w w', Ext M w w' → BsIn D l v w → BsIn D l v w' :=
  fun _ _ _ he ⟨a, c, h1, h2, h3, h4⟩ => ⟨a, c, h1, h2, h3.ext he (fun q hq => hM _ (h4 q hq)), h4⟩
theorem PenAt.apart {T E F : Nat} {w : World} {p : Nat} {l : List UInt8} {S : List Nat} {size : Nat} {a : Option Addr} {n c : Nat} {xs : List Value} {M : List Nat} (h : PenAt T E w p l S) (ho : Own w F size a n c xs M) (h1 : T ≠ F) (h2 : E ≠ F) : ∀ g ∈ S, g ∉ M := by
  obtain ⟨_, _, _, M', rfl, _, _, hB, hO⟩ := h
  intro g hg hm
  obtain ⟨_, hb⟩ := ho.typ g hm
  rcases List.mem_cons.1 hg with rfl | hg
  · exact hB.ne hb h1 rfl
  · obtain ⟨_, hb'⟩ := hO.typ g hg
    exact hb'.ne hb h2 rfl
theorem Blk.cellsAll {w : World} {b : Nat} {cs : Array Value} {T : TypeId} {fz : Nat × Nat} (h : Blk w b cs T fz) : Cells w (some ⟨b, 0, none⟩) cs.toList := Cells.of_blk h 0 _ (fun j v hj => by simpa using hj)
end Brv
/-
  What a law's arguments read as, for every type of plain data: out of the reading that the row gives.
-/
set_option linter.unusedVariables false
namespace Brv
open Go

/-- The cells cs read as plain data of type t. -/
def Rd (P : Program) (w : World) : Nat → TypeId → List Value → Prop
  | 0, _, _ => False
  | f + 1, t, cs => match P.underlying t with
    | some .bool => ∃ b, cs = [.bool b]
    | some (.int k) => ∃ n, cs = [.int k n] ∧ (Lit.int k n).wf = true
    | some .string => ∃ l : List UInt8, cs = [.string (str l)] ∧ l.length ≤ 140737488351232
    | some (.slice e) => ∃ a n c, cs = [.slice a n c] ∧ n ≤ c ∧ (a = none → c = 0) ∧ c * P.bytesOf e ≤ 140737488351232 ∧
        ∃ vss : List (List Value), vss.length = n ∧ Cells w a vss.flatten ∧ ∀ vs ∈ vss, vs.length = P.cellsOf e ∧ Rd P w f e vs
    | some (.struct fs) => cs.length = P.cellsOf t ∧ ∀ (i : Nat) (f' : Field), fs[i]? = some f' → Rd P w f f'.type ((cs.drop f'.offset).take (P.cellsOf f'.type))
    | some (.array m e) => cs.length = P.cellsOf t ∧ ∀ i, i < m → Rd P w f e ((cs.drop (i * P.cellsOf e)).take (P.cellsOf e))
    | _ => True

theorem cells?_get {w : World} {base : Nat} {a : Addr} {n : Nat} {vs : List Value} (h : w.cells? base a n = some vs) : vs.length = n ∧ ∀ j v, vs[j]? = some v → w.cell? (a.add j) = some v := by
  unfold World.cells? at h
  split at h
  · have hl : vs.length = n := by simpa using mapM_some_length h
    refine ⟨hl, fun j v hj => ?_⟩
    have hlt : j < n := by have := (List.getElem?_eq_some_iff.1 hj).1; omega
    have := mapM_some_get h j j (by simp [hlt])
    rw [this]; exact hj
  · cases h

theorem mem_weightsAll {H : Type} {P : Program} {e : TypeId} {x : Nat} : ∀ {ds : List (DataW H)} {d : DataW H}, d ∈ ds → x ∈ d.weights P e → x ∈ DataW.weightsAll P e ds
  | y :: r, d, hd, hx => by
    simp only [DataW.weightsAll, List.mem_append]
    rcases List.mem_cons.1 hd with rfl | hd
    · exact .inl hx
    · exact .inr (mem_weightsAll hd hx)

theorem flatten_cells {w : World} {p : Addr} {size : Nat} : ∀ (vss : List (List Value)) (k : Nat), (∀ i vs, vss[i]? = some vs → vs.length = size ∧ ∀ j v, vs[j]? = some v → w.cell? ((p.add ((k + i) * size)).add j) = some v) →
    ∀ j v, vss.flatten[j]? = some v → w.cell? (p.add (k * size + j)) = some v
  | [], k, _, j, v, hj => by simp at hj
  | vs :: r, k, h, j, v, hj => by
    obtain ⟨hl, hc⟩ := h 0 vs rfl
    rw [List.flatten_cons] at hj
    by_cases hlt : j < size
    · rw [List.getElem?_append_left (by omega)] at hj
      have := hc j v hj
      rw [add_add] at this
      simpa using this
    · rw [List.getElem?_append_right (by omega)] at hj
      have := flatten_cells r (k + 1) (fun i us hu => by
        have := h (i + 1) us (by simpa using hu)
        rw [show k + (i + 1) = k + 1 + i by omega] at this
        exact this) (j - vs.length) v hj
      rw [show (k + 1) * size + (j - vs.length) = k * size + j by rw [Nat.add_mul]; omega] at this
      exact this

theorem rd_of_trod {H : Type} {enc : TypeId × Value → H} {P : Program} {w : World} {base : Nat} {sp : Nat → Bool} (hsp : ∀ b, sp b = true) : ∀ (fuel : Nat) (t : TypeId) (cs : List Value) (x : DataW H × List MemPlace), DataW.trod enc P w base sp true fuel t cs = some x →
    (∀ n ∈ x.1.weights P t, n ≤ 140737488351232) → Rd P w fuel t cs
  | 0, t, cs, x, h, _ => by simp [DataW.trod] at h
  | fuel + 1, t, cs, x, h, hw => by
    unfold Rd
    cases hu : P.underlying t with
    | none => trivial
    | some dsc =>
      cases dsc with
      | bool => obtain ⟨b, rfl, _⟩ := DataW.trod_bool hu h; exact ⟨b, rfl⟩
      | int k => obtain ⟨n, rfl, _, hwf⟩ := DataW.trod_int hu h; exact ⟨n, rfl, hwf⟩
      | string =>
        obtain ⟨s, rfl, rfl, _⟩ := DataW.trod_string hu h
        refine ⟨s.data.toList, by rw [str_toList], ?_⟩
        exact hw _ (by simp [DataW.weights])
      | slice e =>
        rcases DataW.trod_slice hu h with ⟨rfl, rfl⟩ | ⟨a, len, cap, elems, rest, n, hf, rfl, rfl, _, hlc, _, hel, hcell, hsr, _⟩
        · exact ⟨none, 0, 0, rfl, Nat.le_refl _, fun _ => rfl, by simp, [], rfl, Cells.nil _ _, by simp⟩
        · cases hf
          have hrest := (hsr (hsp _)).1
          have hget : ∀ i, i < len → ∃ vs y, w.cells? base (a.add (i * P.cellsOf e)) (P.cellsOf e) = some vs ∧ DataW.trod enc P w base sp true fuel e vs = some y ∧ elems[i]? = some y := by
            intro i hi
            have := hcell i hi
            rw [List.getElem?_eq_getElem (by omega)] at this
            obtain ⟨vs, h1, h2⟩ := Option.bind_eq_some_iff.1 this
            exact ⟨vs, _, h1, h2, List.getElem?_eq_getElem (by omega)⟩
          refine ⟨some a, len, cap, rfl, hlc, (fun h => by cases h), ?_, ?_⟩
          · have := hw ((elems.length + rest.length) * P.bytesOf e) (by simp [DataW.weights, hu])
            rw [hel, hrest, show len + (cap - len) = cap by omega] at this
            exact this
          · let vss : List (List Value) := (List.range len).map fun i => (w.cells? base (a.add (i * P.cellsOf e)) (P.cellsOf e)).getD []
            have hvget : ∀ i vs, vss[i]? = some vs → i < len ∧ w.cells? base (a.add (i * P.cellsOf e)) (P.cellsOf e) = some vs := by
              intro i vs hi
              have hlt : i < len := by have := (List.getElem?_eq_some_iff.1 hi).1; simpa [vss] using this
              obtain ⟨vs', _, h1, _⟩ := hget i hlt
              simp [vss, hlt, h1] at hi
              subst hi
              exact ⟨hlt, h1⟩
            refine ⟨vss, by simp [vss], ?_, ?_⟩
            · intro j v hj
              refine ⟨a, rfl, ?_⟩
              have := flatten_cells (w := w) (p := a) (size := P.cellsOf e) vss 0 (fun i vs hi => by
                obtain ⟨_, h1⟩ := hvget i vs hi
                obtain ⟨hl, hc⟩ := cells?_get h1
                refine ⟨hl, fun j v hj => ?_⟩
                rw [Nat.zero_add]; exact hc j v hj) j v hj
              simpa using this
            · intro vs hvs
              obtain ⟨i, hi⟩ := List.getElem?_of_mem hvs
              obtain ⟨hlt, h1⟩ := hvget i vs hi
              obtain ⟨vs', y, h1', h2, h3⟩ := hget i hlt
              rw [h1] at h1'; cases h1'
              refine ⟨(cells?_get h1).1, rd_of_trod hsp fuel e vs y h2 (fun m hm => ?_)⟩
              refine hw m ?_
              simp only [DataW.weights, hu, List.mem_cons, List.mem_append]
              refine .inr (.inl (mem_weightsAll (List.mem_map.2 ⟨y, List.mem_of_getElem? h3, rfl⟩) hm))
      | struct fs =>
        obtain ⟨xs, n, hf, rfl, hl, hxl, hget⟩ := DataW.trod_struct hu h
        cases hf
        refine ⟨hl, fun i f' hf' => ?_⟩
        have := hget i f' hf'
        have hlt : i < xs.length := by have := (Array.getElem?_eq_some_iff.1 hf').1; omega
        rw [List.getElem?_eq_getElem hlt] at this
        refine rd_of_trod hsp fuel f'.type _ _ this (fun m hm => ?_)
        refine hw m ?_
        simp only [DataW.weights, hu]
        exact DataW.weights_mem_each (j := i) (by simp [hf']) (by simp [List.getElem?_eq_getElem hlt]) m hm
      | array m e =>
        obtain ⟨xs, n, hf, rfl, hl, hxl, hget⟩ := DataW.trod_array hu h
        cases hf
        refine ⟨hl, fun i hi => ?_⟩
        have := hget i hi
        rw [List.getElem?_eq_getElem (by omega)] at this
        refine rd_of_trod hsp fuel e _ _ this (fun q hm => ?_)
        refine hw q ?_
        simp only [DataW.weights, hu]
        exact mem_weightsAll (List.mem_map.2 ⟨_, List.getElem_mem (by omega), rfl⟩) hm
      | _ => trivial

theorem okWide_array {P : Program} {w : World} {r : Reach} {base : Nat} {t : TypeId} {v : Value} {m : Nat} {e : TypeId} (ht : P.underlying t = some (.array m e)) (h : Value.okWide P w r base t v) : ∃ cs, v = .agg cs ∧ cs.size = P.cellsOf t := by
  simp only [Value.okWide, ht] at h
  obtain ⟨cs, h1, h2, _⟩ := h
  exact ⟨cs, h1, h2⟩
theorem Rd.arr {P : Program} {w : World} {f : Nat} {T m e s : Nat} (ht : P.underlying T = some (.array m e)) (hs : P.cellsOf e = s) {cs : List Value} (h : Rd P w f T cs) : ∀ i, i < m → ∃ f, Rd P w f e ((cs.drop (i * s)).take s) := by
  cases f with
  | zero => exact h.elim
  | succ f =>
    unfold Rd at h
    rw [ht] at h
    subst hs
    exact fun i hi => ⟨f, h.2 i hi⟩

theorem Rd.of {H : Type} {enc : TypeId × Value → H} {P : Program} {w : World} {t : TypeId} {v : Value} {d : DataW H} {ps : List MemPlace} {ts : List TypeId} {ds : List (DataW H)} {j : Nat}
    (h : DataW.Trod enc P w 0 (fun _ => true) true t v d ps) (hsz : (DataW.weightsEach P ts ds).all (· ≤ reachBytes) = true) (ht : ts[j]? = some t) (hd : ds[j]? = some d) : ∃ f, Rd P w f t v.cells.toList := by
  obtain ⟨fuel, hf⟩ := h
  refine ⟨fuel, rd_of_trod (fun _ => rfl) fuel t _ _ hf (fun n hn => ?_)⟩
  have := List.all_eq_true.1 hsz n (DataW.weights_mem_each ht hd n hn)
  exact of_decide_eq_true this

theorem wf_bounds {k : IntKind} {n : Int} (h : (Lit.int k n).wf = true) : k.min ≤ n ∧ n ≤ k.max := by
  simpa [Lit.wf] using h
theorem wf_u8 {n : Int} (h : (Lit.int .u8 n).wf = true) : 0 ≤ n ∧ n ≤ 255 := by
  have := wf_bounds h
  simpa [IntKind.min, IntKind.max, IntKind.signed, IntKind.bits] using this
/-- A slice of bytes. -/
theorem Rd.bytes {P : Program} {w : World} {f : Nat} {T E : TypeId} [t : TyBytes P T E] (hc : P.cellsOf E = 1) (hby : P.bytesOf E = 1) {cs : List Value} (h : Rd P w f T cs) :
    ∃ a n c l, cs = [.slice a n c] ∧ n ≤ c ∧ (a = none → c = 0) ∧ c ≤ 140737488351232 ∧ Bs w a n l := by
  cases f with
  | zero => exact h.elim
  | succ f =>
    unfold Rd at h
    rw [t.h] at h
    obtain ⟨a, n, c, rfl, hnc, ha, hb, vss, hl, hcell, hv⟩ := h
    have hel : ∀ vs ∈ vss, ∃ b : UInt8, vs = [vb b] := by
      intro vs hvs
      obtain ⟨_, hr⟩ := hv vs hvs
      cases f with
      | zero => exact hr.elim
      | succ f =>
        unfold Rd at hr
        rw [t.e] at hr
        obtain ⟨x, rfl, hwf⟩ := hr
        have := wf_u8 hwf
        refine ⟨UInt8.ofNat x.toNat, ?_⟩
        simp only [vb, UInt8.toNat_ofNat', List.cons.injEq, Value.int.injEq, true_and, and_true]
        omega
    have hex : ∃ l : List UInt8, vss = l.map (fun b => [vb b]) := by
      clear hcell hl hv
      induction vss with
      | nil => exact ⟨[], rfl⟩
      | cons vs r ih =>
        obtain ⟨b, rfl⟩ := hel vs (by simp)
        obtain ⟨l, rfl⟩ := ih (fun x hx => hel x (by simp [hx]))
        exact ⟨b :: l, rfl⟩
    obtain ⟨l, rfl⟩ := hex
    refine ⟨a, n, c, l, rfl, hnc, ha, by rw [hby] at hb; omega, ?_, by simpa using hl.symm⟩
    have : (l.map (fun b => [vb b])).flatten = vbs l := by
      clear hcell hl hv hel
      induction l with
      | nil => rfl
      | cons b r ih => simp [vbs, ih]
    rw [this] at hcell; exact hcell
theorem Rd.int {P : Program} {w : World} {f : Nat} {T : TypeId} {k : IntKind} [t : TyInt P T k] {cs : List Value} (h : Rd P w f T cs) : ∃ n, cs = [.int k n] ∧ (Lit.int k n).wf = true := by
  cases f with
  | zero => exact h.elim
  | succ f => unfold Rd at h; rw [t.h] at h; exact h
theorem Rd.bool {P : Program} {w : World} {f : Nat} {T : TypeId} [t : TyBool P T] {cs : List Value} (h : Rd P w f T cs) : ∃ b, cs = [.bool b] := by
  cases f with
  | zero => exact h.elim
  | succ f => unfold Rd at h; rw [t.h] at h; exact h
theorem Rd.str {P : Program} {w : World} {f : Nat} {T : TypeId} [t : TyStr P T] {cs : List Value} (h : Rd P w f T cs) : ∃ l : List UInt8, cs = [.string (str l)] ∧ l.length ≤ 140737488351232 := by
  cases f with
  | zero => exact h.elim
  | succ f => unfold Rd at h; rw [t.h] at h; exact h
end Brv
/-
  Structs in memory: stores of several cells, rows of structs.
-/
set_option linter.unusedVariables false
namespace Brv
open Go
section
variable {P : Program} {n : Fm} {ρ : Env} {w : World} {pos : String} {af : Array Edge} {gd : Option (Nat × Bool)} {ty : TypeId} {d : Nat}

theorem madeCells_bytes (m : Nat) : (madeCells (Value.int .u8 0).cells m).toList = vbs (List.replicate m 0) := by
  refine List.ext_getElem (by simp [madeCells, vbs, Value.cells]) (fun i h1 h2 => ?_)
  simp [madeCells, vbs, Value.cells, vb, Nat.mod_one]
/-- A struct is stored. -/
theorem R.stN {T : TypeId} {s : Nat} [t : TyAgg P T s] {x y : Operand} {b o : Nat} {cs vs : Array Value} {U : TypeId} (hx : ev ρ x = some (.pointer (some ⟨b, o, none⟩))) (hy : ev ρ y = some (.agg vs)) (hb : Blk w b cs U (0, 0))
    (hs : vs.size = s) (ho : o + vs.size ≤ cs.size) (h1 : ∀ u ∈ vs.toList, u.oneCell' = true) :
    Sets P n ρ w ⟨none, .store T x y, ty, pos, af, gd⟩ (Put w b (cs.toList.take o ++ vs.toList ++ cs.toList.drop (o + vs.size)).toArray U) := by
  obtain ⟨j, hj, hs'⟩ := TyAgg.info (P := P) (T := T) (s := s)
  have hst := run_storeCells_at P b o U vs.toList 0 cs w hb (by simpa using ho) h1
  simp only [Nat.add_zero, Array.length_toList] at hst
  refine ⟨w.setRow b (cs.toList.take o ++ vs.toList ++ cs.toList.drop (o + vs.size)).toArray, fun f hf => ?_, ⟨rfl, rfl, rfl, by simp, fun k _ hk => setRow_other w b k _ (fun e => hk (by simp [e]))⟩, by simp, setRow_heap w b cs _ U (0, 0) hb⟩
  simp only [execOp, hf.eval hx, hf.eval hy, Sem.run_bind]
  simp [Instr.storeAt, Instr.sureAddr, storeVar, Value.cells, Go.sizeOf, typeInfo, hj, hs', hs] at hst ⊢
  simp [hst]
end
/-- A slice of n elements, of size cells each. -/
structure Tab (w : World) (a : Option Addr) (n size : Nat) (vss : List (List Value)) : Prop where
  cells : Cells w a vss.flatten
  len : n = vss.length
  each : ∀ vs ∈ vss, vs.length = size
theorem Tab.ext0 {w w' : World} {a : Option Addr} {n size : Nat} {vss : List (List Value)} (h : Tab w a n size vss) (he : Ext [] w w') : Tab w' a n size vss := ⟨h.cells.ext0 he, h.len, h.each⟩
theorem flatten_get {size : Nat} : ∀ (vss : List (List Value)) (i : Nat), (∀ vs ∈ vss, vs.length = size) → ∀ (h : i < vss.length) (j : Nat), j < size → vss.flatten[i * size + j]? = vss[i][j]?
  | [], i, _, h, _, _ => by simp at h
  | vs :: r, 0, he, _, j, hj => by
    have := he vs (by simp)
    rw [List.flatten_cons, Nat.zero_mul, Nat.zero_add, List.getElem?_append_left (by omega)]; rfl
  | vs :: r, i + 1, he, h, j, hj => by
    have := he vs (by simp)
    rw [List.flatten_cons, List.getElem?_append_right (by rw [this, Nat.add_mul]; omega), this]
    rw [show (i + 1) * size + j - size = i * size + j by rw [Nat.add_mul]; omega]
    exact flatten_get r i (fun x hx => he x (by simp [hx])) (by simpa using h) j hj
theorem Tab.at {w : World} {a : Option Addr} {n size : Nat} {vss : List (List Value)} (h : Tab w a n size vss) (hs : 0 < size) (i : Nat) (hi : i < vss.length) : ∃ p, a = some p ∧ Cells w (some (p.add (i * size))) vss[i] := by
  have hlen := h.each vss[i] (List.getElem_mem hi)
  have get : ∀ j (v : Value), vss[i][j]? = some v → ∃ p, a = some p ∧ w.cell? (p.add (i * size + j)) = some v := by
    intro j v hv
    have hj : j < size := by rw [← hlen]; exact (List.getElem?_eq_some_iff.1 hv).1
    rw [← flatten_get vss i h.each hi j hj] at hv
    exact h.cells _ _ hv
  obtain ⟨p, hp, _⟩ := get 0 vss[i][0] (List.getElem?_eq_getElem (by omega))
  refine ⟨p, hp, fun j v hv => ⟨_, rfl, ?_⟩⟩
  obtain ⟨q, hq, hc⟩ := get j v hv
  rw [hp] at hq; cases hq
  rw [add_add]; exact hc
section
variable {P : Program} {n : Nat} {ks : List K} {ρ : Env} {w : World} {fn : Func} {Φ : Value → World → Prop}
/-- A return of a struct that lives in a block, and of a plain result. -/
theorem G.retCT {t u : Nat} {T : TypeId} {s b : Nat} [ta : TyAgg P T s] {cs : Array Value} {U : TypeId} {fz : Nat × Nat} {x : Value} (hr : fn.results = #[.cell t T, .tmp u]) (hv : look ρ t = some (.pointer (some ⟨b, 0, none⟩))) (hx : look ρ u = some x)
    (hb : Blk w b cs U fz) (hs : cs.size = s) (h : Φ (.tuple #[.agg cs, x]) w) : G P (Func.base P fn Φ) ⟨n, [], none⟩ ks ρ w .ret := by
  refine G.retM (n := ⟨n, [], none⟩) rfl (fun a ha => ?_) h
  have h1 := ha.vals t _ hv
  have h2 := ha.vals u x hx
  rw [results_cell_tmp hr]
  have hl := run_loadN (P := P) (T := T) (s := s) (w := w) (p := ⟨b, 0, none⟩) (vs := cs.toList) hb.cellsAll (by simpa using hs)
  simp only [Instr.loadAt, Instr.sureAddr] at hl
  simp [h1, h2, asAddr] at hl ⊢
  simp [hl]
end
end Brv
/-
  Rules: copy; calls of functions that the library's tables give; numbers of 64 bits without a sign.
-/
set_option linter.unusedVariables false
namespace Brv
open Go

/-- A row, with cells laid over it. -/
def Over (cur : Array Value) (o : Nat) (cs : List Value) : Array Value := (cur.toList.take o ++ cs ++ cur.toList.drop (o + cs.length)).toArray
theorem Over.size {cur : Array Value} {o : Nat} {cs : List Value} (h : o + cs.length ≤ cur.size) : (Over cur o cs).size = cur.size := by
  simp [Over]; omega
theorem Over.take {cur : Array Value} {o : Nat} {cs : List Value} (h : o ≤ cur.size) : (Over cur o cs).toList.take (o + cs.length) = cur.toList.take o ++ cs := by
  simp only [Over]
  have hl : (cur.toList.take o ++ cs).length = o + cs.length := by simp; omega
  rw [← hl, List.take_left]
section
variable {P : Program} {n : Fm} {ρ : Env} {w : World} {ty : TypeId} {pos : String} {af : Array Edge} {gd : Option (Nat × Bool)}
theorem R.copyB {T S E bytes : Nat} {z : Value} [t : TySlice P T E 1 bytes z] {d : Option Nat} {x y : Operand} {g o dl dc sl sc : Nat} {a : Addr} {cur : Array Value} {U : TypeId} {cs : List Value}
    (hx : ev ρ x = some (.slice (some ⟨g, o, none⟩) dl dc)) (hy : ev ρ y = some (.slice (some a) sl sc)) (hb : Blk w g cur U (0, 0)) (hc : Cells w (some a) cs) (hn : cs.length = Nat.min sl dl) (hfit : o + cs.length ≤ cur.size)
    (h1 : ∀ u ∈ cs, u.oneCell' = true) :
    Does P n ρ w ⟨d, .call ⟨.builtin .copy, #[x, y], #[T, S]⟩, ty, pos, af, gd⟩ (fun v w' => v = .int .i64 (cs.length : Int) ∧ Put w g (Over cur o cs) U w') := by
  obtain ⟨i, hi, hs, _, _⟩ := t.i
  have hr := run_copy_row (P := P) w T S ty E g o dl dc a sl sc cur U cs t.h (by rw [hi]; simp [hs]) hb hn (fun j v hj => hc.load hj) hfit h1
  exact ⟨.int .i64 (cs.length : Int), w.setRow g (Over cur o cs), fun f hf => by
    simp only [execOp, resolve, invoke, builtin, Sem.run_bind, Sem.run_pure, Result.andThen_ok, List.map_toArray, List.map_cons, List.map_nil, hf.eval hx, hf.eval hy, hr]
    rfl, rfl,
    ⟨rfl, rfl, rfl, by simp, fun k _ hk => setRow_other w g k _ (fun e => hk (by simp [e]))⟩, by simp, setRow_heap w g cur _ U _ hb⟩
/-- A call that the library's tables answer. -/
theorem R.callX {d : Option Nat} {f : FuncId} {args : Array Operand} {ats : Array TypeId} {vs : List Value} {v : Value} {w' : World} (hargs : evs ρ args.toList = some vs)
    (hc : (callFunc f vs.toArray).run P w = .ok (.value v) w') : Runs P n ρ w ⟨d, .call ⟨.value (.func f), args, ats⟩, ty, pos, af, gd⟩ v w' := by
  intro a ha
  have he : args.map a.eval = vs.toArray := by
    apply Array.toList_inj.1
    simpa using ha.evals hargs
  have h2 : execOp a.eval ⟨d, .call ⟨.value (.func f), args, ats⟩, ty, pos, af, gd⟩ = (do let x ← resolve a.eval ⟨.value (.func f), args, ats⟩ ty; invoke x.target x.args) := rfl
  have h3 : resolve a.eval ⟨.value (.func f), args, ats⟩ ty = pure ⟨.fn (.func f) #[], #[] ++ vs.toArray⟩ := by
    simp only [resolve, he]
    rfl
  rw [h2, h3]
  simp only [Sem.run_bind, Sem.run_pure, Result.andThen_ok]
  show (callFunc f ((#[] ++ vs.toArray) ++ #[])).run P w = _
  rw [show (#[] ++ vs.toArray) ++ #[] = vs.toArray by simp]
  exact hc
end

theorem Mine.grow {s : Nat} {w w' : World} {E size m n : Nat} {M : List Nat} {xs ys : List Value} {v : Value} (h : Appended w E size M m xs v w') (hM : ∀ g ∈ M, s ≤ g) (hs : s ≤ w.heap.size) (hm : m = n) (hx : xs = ys) :
    Mine s E size n ys v w' ∧ Above s w w' := by
  subst hm; subst hx
  obtain ⟨a, c, M', rfl, e, hM', o⟩ := h
  exact ⟨⟨a, c, M', rfl, o, fun g hg => (hM' g hg).elim (hM g) (Nat.le_trans hs)⟩, Above.of e hM⟩
section
variable {P : Program} {n : Fm} {ρ : Env} {w : World} {ty : TypeId} {pos : String} {af : Array Edge} {gd : Option (Nat × Bool)}
end
section
variable {P : Program} {n : Fm} {ρ : Env} {w : World} {d : Nat} {ty : TypeId} {pos : String} {af : Array Edge} {gd : Option (Nat × Bool)}
/-- &xs[i] of an array. -/
theorem R.idxA {T m E size : Nat} [t : TyArr P T m E size] {x y : Operand} {k : IntKind} {b o : Nat} {i : Int} (hx : ev ρ x = some (.pointer (some ⟨b, o, none⟩))) (hy : ev ρ y = some (.int k i)) (h0 : 0 ≤ i) (h1 : i < m) (j : Nat) (hj : o + i.toNat * size = j) :
    Runs P n ρ w ⟨some d, .indexAddr T x y, ty, pos, af, gd⟩ (.pointer (some ⟨b, j, none⟩)) w := by
  subst hj
  exact (fun f hf => by
    cases hq : P.info? E with
    | none => have := t.i; simp [hq] at this
    | some q =>
      have hs : q.size = size := by have := t.i; simpa [hq] using this
      subst hs
      simp [execOp, hf.eval hx, hf.eval hy, Instr.indexAt, asIntOf, Instr.sureAddr, run_underlying t.h, h0, h1, Go.sizeOf, typeInfo, hq, Go.Addr.add_lit])
/-- xs[:] of an array. -/
theorem R.slA {T m E size : Nat} [t : TyArr P T m E size] {x : Operand} {p : Addr} (hx : ev ρ x = some (.pointer (some p))) :
    Runs P n ρ w ⟨some d, .slice T x none none none, ty, pos, af, gd⟩ (.slice (some p) m m) w := (fun f hf => by
    cases hq : P.info? E with
    | none => have := t.i; simp [hq] at this
    | some q =>
      have hs : q.size = size := by have := t.i; simpa [hq] using this
      subst hs
      simp [execOp, hf.eval hx, Instr.sliceAt, Instr.sureAddr, Instr.sliceBounds, run_underlying t.h, Go.sizeOf, typeInfo, hq, Go.Addr.add_zero'])
end
end Brv
namespace Brv
open Go
/-- Cells laid over an owned row. -/
theorem Own.over {w : World} {E : Nat} {a : Option Addr} {n cap : Nat} {xs : List Value} {M : List Nat} (h : Own w E 1 a n cap xs M) {o : Nat} {cs : List Value} (ho : o + cs.length ≤ n) (hn : 0 < n) :
    ∃ g cur, a = some ⟨g, 0, none⟩ ∧ M = [g] ∧ Blk w g cur E (0, 0) ∧ o + cs.length ≤ cur.size ∧ ∀ w', Blk w' g (Over cur o cs) E (0, 0) → Own w' E 1 a n cap (xs.take o ++ cs ++ xs.drop (o + cs.length)) M := by
  rcases h.2 with ⟨_, rfl, _, _⟩ | ⟨g, cur, ha, hM, hb, hnc, hcm, hcs, ht⟩
  · omega
  · have hl := h.1
    rw [Nat.mul_one] at hl ht hcs
    refine ⟨g, cur, ha, hM, hb, by omega, fun w' hb' => ⟨by simp [hl]; omega, .inr ⟨g, _, ha, hM, hb', hnc, hcm, by rw [Over.size (by omega)]; simpa using hcs, ?_⟩⟩⟩
    rw [Nat.mul_one, ← ht]
    simp only [Over]
    rw [List.take_take, Nat.min_eq_left (by omega), List.take_append, List.take_append, List.take_of_length_le (l := List.take o cur.toList) (by rw [List.length_take]; omega), List.length_append, List.length_take, Array.length_toList, Nat.min_eq_left (show o ≤ cur.size by omega), List.take_of_length_le (l := cs) (by omega), List.drop_take]
end Brv
namespace Brv
open Go
theorem Own.mem {w : World} {E size : Nat} {a : Option Addr} {n cap : Nat} {xs : List Value} {M : List Nat} (h : Own w E size a n cap xs M) : ∀ p, a = some p → p.block ∈ M ∧ p.block < w.heap.size := by
  rcases h.2 with ⟨rfl, _⟩ | ⟨g, cur, rfl, rfl, hb, _⟩
  · intro p h; cases h
  · intro p h; cases h; exact ⟨by simp, hb.lt⟩
/-- Only what is new was written. -/
theorem Ext.news {M : List Nat} {w w' : World} (h : Ext M w w') (hM : ∀ x ∈ M, w.heap.size ≤ x) : Ext [] w w' := (Ext.refl [] w).trans h (by simp) (fun x hx => .inr (hM x hx))
end Brv
/-
  Ranges over functions: what an iterator promises (Iter), the statement (G.range), a round's walk, calls of yield.
-/
set_option linter.unusedVariables false
namespace Brv
open Go

/-! ## Worlds in which no cells were turned -/
structure Still (w w' : World) : Prop where
  os : w'.os = w.os
  tape : w'.tape = w.tape
  output : w'.output = w.output
  size : w.heap.size ≤ w'.heap.size
  keep : ∀ (k : Nat) (cs : Array Value) (T : TypeId) (fz : Nat × Nat), w.heap[k]? = some (.cells cs T fz) → w'.heap[k]? = some (.cells cs T fz)
theorem Still.of {w w' : World} (h : Ext [] w w') : Still w w' := ⟨h.os, h.tape, h.output, h.size, fun k cs T fz hk => (h.keep k (Array.getElem?_eq_some_iff.1 hk).1 (by simp)).trans hk⟩
theorem Still.trans {a b c : World} (h : Still a b) (k : Still b c) : Still a c := ⟨k.os.trans h.os, k.tape.trans h.tape, k.output.trans h.output, Nat.le_trans h.size k.size, fun i cs T fz hi => k.keep i cs T fz (h.keep i cs T fz hi)⟩
def isCells : Obj → Bool
  | .cells .. => true
  | _ => false
theorem cells_of_cell {W : World} {a : Addr} {v : Value} (h : W.cell? a = some v) : ∃ o : Obj, W.heap[a.block]? = some o ∧ isCells o = true := by
  unfold World.cell? at h
  cases ho : W.heap[a.block]? with
  | none => simp [ho] at h
  | some o => exact ⟨o, rfl, by cases o <;> simp_all [isCells]⟩
theorem Still.cell {w w' : World} (h : Still w w') {p : Addr} {v : Value} (hc : w.cell? p = some v) : w'.cell? p = some v := by
  obtain ⟨o, ho, hcs⟩ := cells_of_cell hc
  cases o with
  | cells cs T fz => exact (World.cell?_of_block ((h.keep _ cs T fz ho).trans ho.symm)).trans hc
  | _ => cases hcs
theorem Blk.still {w w' : World} {b : Nat} {cs : Array Value} {T : TypeId} {fz : Nat × Nat} (h : Blk w b cs T fz) (hc : Still w w') : Blk w' b cs T fz := hc.keep _ _ _ _ h
theorem Cells.still {w w' : World} {a : Option Addr} {vs : List Value} (h : Cells w a vs) (hc : Still w w') : Cells w' a vs := fun j v hv => let ⟨p, hp, hq⟩ := h j v hv; ⟨p, hp, hc.cell hq⟩
theorem Bs.still {w w' : World} {a : Option Addr} {n : Nat} {l : List UInt8} (h : Bs w a n l) (hc : Still w w') : Bs w' a n l := ⟨h.cells.still hc, h.len⟩
theorem Own.still {w w' : World} {E size : Nat} {a : Option Addr} {n cap : Nat} {xs : List Value} {M : List Nat} (h : Own w E size a n cap xs M) (hc : Still w w') : Own w' E size a n cap xs M := by
  refine ⟨h.1, ?_⟩
  rcases h.2 with h | ⟨g, cur, ha, hM, hb, h⟩
  · exact .inl h
  · exact .inr ⟨g, cur, ha, hM, hb.still hc, h⟩
theorem Ext.putObj (w : World) (l : Nat) (o : Obj) : Ext [l] w (w.putObj l o) := ⟨rfl, rfl, rfl, by simp, fun k _ hk => World.putObj_heap_other (fun e => hk (by simp [e]))⟩
theorem Still.putObj {w : World} {l : Nat} {o : Obj} (o' : Obj) (h : w.heap[l]? = some o) (ho : isCells o = false) : Still w (w.putObj l o') :=
  ⟨rfl, rfl, rfl, by simp, fun k cs T fz hk => by
    by_cases e : k = l
    · subst e; rw [h] at hk; cases hk; cases ho
    · exact (World.putObj_heap_other e).trans hk⟩

/-! ## Yield -/
/-- A call of the function that an iterator was handed: it gives a bool. -/
def YCall (P : Program) (y : Value) (vs : List Value) (W : World) (R : Bool → World → Prop) : Prop :=
  (∃ l, y = .func (.yield l) #[] #[] ∧ YieldAt Fence.wide 0 P l vs.toArray W (fun e w' => ∃ b, e = .returned (.bool b) ∧ R b w')) ∨
  (∃ f first cap, y = .func (.func f) first cap ∧ (∀ (vs : Array Value) w, (callFunc f vs).run P w = .ok (.enter f vs) w) ∧ Meets P f (first.toList ++ vs ++ cap.toList) W (fun v w' => ∃ b, v = .bool b ∧ R b w'))

section
variable {P : Program} {B : Exit → Act → World → Prop} {n : Fm} {ops : List Oper} {ks : List K} {ρ : Env} {w : World} {rest : List Oper}
theorem run_callY {a : Act} {d : Option Tmp} {x : Operand} {l : Nat} {args : Array Operand} {ats : Array TypeId} {ty : TypeId} {pos : String} {af : Array Edge} {gd : Option (Nat × Bool)} {vs : List Value}
    (hx : a.eval x = .func (.yield l) #[] #[]) (he : args.toList.map a.eval = vs) (w : World) {r : Next} (hr : (Instr.yield l vs.toArray).run P w = .ok r w) :
    (execOp a.eval ⟨d, .call ⟨.value x, args, ats⟩, ty, pos, af, gd⟩).run P w = .ok r w := by
  have he' : args.map a.eval = vs.toArray := by
    apply Array.toList_inj.1
    simpa using he
  have h2 : execOp a.eval ⟨d, .call ⟨.value x, args, ats⟩, ty, pos, af, gd⟩ = (do let x ← resolve a.eval ⟨.value x, args, ats⟩ ty; invoke x.target x.args) := rfl
  have h3 : resolve a.eval ⟨.value x, args, ats⟩ ty = pure ⟨.fn (.yield l) #[], #[] ++ vs.toArray⟩ := by
    simp only [resolve, he', hx]
    rfl
  rw [h2, h3]
  simp only [Sem.run_bind, Sem.run_pure, Result.andThen_ok]
  show (Instr.yield l (#[] ++ vs.toArray)).run P w = _
  rw [show #[] ++ vs.toArray = vs.toArray by simp]
  exact hr
theorem L.ycall {d : Nat} {x : Operand} {y : Value} {args : Array Operand} {ats : Array TypeId} {ty : TypeId} {pos : String} {af : Array Edge} {gd : Option (Nat × Bool)} {vs : List Value} {R : Bool → World → Prop}
    (hg : wants ops ρ gd = some true) (hd : Nat.blt d n = true) (hx : ev ρ x = some y) (hargs : evs ρ args.toList = some vs) (hY : YCall P y vs w R)
    (h : ∀ b w', R b w' → L P B n ops ks ((d, .bool b) :: ρ) w' rest) : L P B n ops ks ρ w (⟨some d, .call ⟨.value x, args, ats⟩, ty, pos, af, gd⟩ :: rest) := by
  intro a ha
  have hd' : d < n := by simpa [Nat.blt_eq] using hd
  unfold wpListIn
  rw [if_pos (wants_spec ha hg)]
  rcases hY with ⟨l, rfl, fn, tmps, assign, body, hrun, hround⟩ | ⟨f, first, cap, rfl, hc, hf⟩
  · refine wpIn_run rfl (run_callY (ha.eval hx) (ha.evals hargs) w hrun) ?_
    refine ⟨fun h => (by rw [fen_depth] at h; cases h), ?_⟩
    have hr2 : RoundIn (fen n.ro) 0 P l fn tmps assign body w (fun e w' => ∃ b, e = .returned (.bool b) ∧ R b w') := by
      cases n.ro
      · exact hround
      · exact hround
    refine RoundIn.mono hr2 ?_
    rintro e w' ⟨b, rfl, hR⟩
    exact h b w' hR _ (ha.put hd' _)
  · refine wpIn_run rfl (run_callV (ha.eval hx) (ha.evals hargs) rfl (hc _) w) ⟨fun h => (by rw [fen_depth] at h; cases h), fen_calls ?_⟩
    refine Calls.mono hf ?_
    intro e w' he
    cases e with
    | returned v => obtain ⟨b, rfl, hR⟩ := he; exact h b w' hR _ (ha.put hd' _)
    | panicked c => exact he.elim
    | outgrown => exact he.elim
end

section
variable {P : Program} {n : Fm} {ρ : Env} {w : World} {d : Nat} {ty : TypeId} {pos : String} {af : Array Edge} {gd : Option (Nat × Bool)}
theorem R.mkFunc {fn : Fn} {first cap : Array Operand} {us vs : List Value} (h1 : evs ρ first.toList = some us) (h2 : evs ρ cap.toList = some vs) :
    Runs P n ρ w ⟨some d, .makeFunc fn first cap, ty, pos, af, gd⟩ (.func fn us.toArray vs.toArray) w := (fun f hf => by
    have e1 : first.map f.eval = us.toArray := by apply Array.toList_inj.1; simpa using hf.evals h1
    have e2 : cap.map f.eval = vs.toArray := by apply Array.toList_inj.1; simpa using hf.evals h2
    simp [execOp, Instr.makeFunc, e1, e2])
theorem R.eqNilF {T T' : TypeId} {ps rs : Array TypeId} {va : Bool} {x y : Operand} {fn : Fn} {us vs : Array Value} (hu : P.underlying T = some (.func ps rs va)) (hx : ev ρ x = some (.func fn us vs)) (hy : ev ρ y = some .nilFunc) :
    Runs P n ρ w ⟨some d, .binOp .eql T x y T', ty, pos, af, gd⟩ (.bool false) w := R.bin hx hy (fun w => by
    have he := run_equal (P := P) (T := T) (x := .func fn us vs) (y := .nilFunc) (r := false) w (fun d => by simp only [Op.equalIn, Sem.run_bind, run_underlying hu, Result.andThen_ok]; rfl)
    have hg : (eqGuard .eql T x y (.func fn us vs) .nilFunc).run P w = .ok () w := rfl
    simp only [hg, binOp, Sem.run_bind, Sem.run_pure, Result.andThen_ok, he])
theorem run_loadV {T : TypeId} [t : TyOne P T] {p : Addr} {v : Value} (hc : w.cell? p = some v) : (loadVar T p).run P w = .ok v w := by
  have := run_load1 (P := P) (T := T) hc
  simpa [Instr.loadAt, Instr.sureAddr] using this
theorem res3C {fn : Func} {ρ : Env} {a : Act} {t u s : Nat} {T U V : TypeId} [TyOne P T] [TyOne P U] [TyOne P V] {p q r : Addr} {v x y : Value} (hr : fn.results = #[.cell t T, .cell u U, .cell s V])
    (hv : look ρ t = some (.pointer (some p))) (hx : look ρ u = some (.pointer (some q))) (hy : look ρ s = some (.pointer (some r))) (ha : Fr n ρ a) (h1 : w.cell? p = some v) (h2 : w.cell? q = some x) (h3 : w.cell? r = some y) :
    (results fn a.tmps).run P w = .ok (.tuple #[v, x, y]) w := by
  have e1 := ha.getD hv
  have e2 := ha.getD hx
  have e3 := ha.getD hy
  have l1 := run_loadV (P := P) (T := T) h1
  have l2 := run_loadV (P := P) (T := U) h2
  have l3 := run_loadV (P := P) (T := V) h3
  rw [Array.getD_eq_getD_getElem?] at e1 e2 e3
  simp [results, hr, e1, e2, e3, asAddr, l1, l2, l3]
end
/-! ## Iterators -/
/-- What the function gf (with what it has captured, lb) promises when it is ranged over from world w on: it yields N times, the k-th time what E k tells; it reads the blocks of F, writes those of M; behind its k-th yield S k holds of those. The consumer writes blocks of its own list, which may grow. -/
def Iter (P : Program) (gf : FuncId) (lb : List Value) (w : World) (N : Nat) (E : Nat → List Value → World → Prop) (S : Nat → World → Prop) (F M : List Nat) : Prop :=
  ∀ (y : Value) (D₀ : List Nat) (J Jx : Nat → List Nat → World → Prop) (W : World), Ext [] w W → (∀ g ∈ D₀, g < W.heap.size ∧ g ∉ F ∧ g ∉ M) →
    (∀ k D W₁ W₂ M', J k D W₁ → Ext M' W₁ W₂ → (∀ g ∈ M', g ∉ D ∧ (g ∈ M ∨ w.heap.size ≤ g)) → J k D W₂) →
    (∀ k D W₁ W₂ M', Jx k D W₁ → Ext M' W₁ W₂ → (∀ g ∈ M', g ∉ D ∧ (g ∈ M ∨ w.heap.size ≤ g)) → Jx k D W₂) →
    (∀ k D vs W₁, k < N → J k D W₁ → E k vs W₁ → (∀ g ∈ D, g < W₁.heap.size) → YCall P y vs W₁ fun b W₂ => ∃ D', Ext D W₁ W₂ ∧ (∀ g ∈ D', g < W₂.heap.size ∧ (g ∈ D ∨ W₁.heap.size ≤ g)) ∧ (b = true → J (k + 1) D' W₂) ∧ (b = false → Jx (k + 1) D' W₂)) →
    J 0 D₀ W → Meets P gf (y :: lb) W fun _ W₂ => (∃ D, J N D W₂ ∧ S N W₂) ∨ ∃ k D, k ≤ N ∧ Jx k D W₂ ∧ S k W₂

/-- How a round's body may be left. -/
def roundB (k : Nat) (D : List Nat) (W : World) (I : Nat → List Nat → World → Prop) (Ix : Code → Nat → List Nat → World → Prop) : Exit → Act → World → Prop
  | .normal, _, w' => ∃ D', Ext D W w' ∧ (∀ g ∈ D', g < w'.heap.size ∧ (g ∈ D ∨ W.heap.size ≤ g)) ∧ I (k + 1) D' w'
  | .ret, _, w' => ∃ D', Ext D W w' ∧ (∀ g ∈ D', g < w'.heap.size ∧ (g ∈ D ∨ W.heap.size ≤ g)) ∧ Ix .ret (k + 1) D' w'
  | .exit id, _, w' => ∃ D', Ext D W w' ∧ (∀ g ∈ D', g < w'.heap.size ∧ (g ∈ D ∨ W.heap.size ≤ g)) ∧ Ix (.exit id) (k + 1) D' w'
  | .goto t, _, w' => ∃ D', Ext D W w' ∧ (∀ g ∈ D', g < w'.heap.size ∧ (g ∈ D ∨ W.heap.size ≤ g)) ∧ Ix (.goto t) (k + 1) D' w'
  | _, _, _ => False
/-- Behind the assignment of the loop's variables: the body. -/
def assignB (P : Program) (l k : Nat) (D : List Nat) (W : World) (I : Nat → List Nat → World → Prop) (Ix : Code → Nat → List Nat → World → Prop) (body : Code) : Exit → Act → World → Prop
  | .normal, a, w₂ => Ext [] W w₂ ∧ ∀ wb, Ext [l] w₂ wb → Still w₂ wb → body.wpIn (fen (some l)) 0 P (roundB k D wb I Ix) a wb
  | _, _, _ => False

def bindEnv : List Tmp → List Value → Env → Env
  | p :: ps, v :: vs, ρ => bindEnv ps vs ((p, v) :: ρ)
  | _, _, ρ => ρ

theorem bind_fr {n : Fm} : ∀ (ps : List Tmp) (vs : List Value) {ρ : Env} {a : Act}, Fr n ρ a → (∀ p ∈ ps, p < n.n) → Fr n (bindEnv ps vs ρ) { a with tmps := (ps.zip vs).foldl (fun t (p, v) => t.setIfInBounds p v) a.tmps }
  | [], _, ρ, a, h, _ => by cases a; exact h
  | p :: ps, [], ρ, a, h, _ => by cases a; exact h
  | p :: ps, v :: vs, ρ, a, h, hp => by
    have h1 : Fr n ((p, v) :: ρ) (a.put (some p) v) := h.put (hp p (by simp)) v
    exact bind_fr ps vs h1 (fun q hq => hp q (by simp [hq]))

section
variable {P : Program} {B : Exit → Act → World → Prop} {n : Nat} {df : List Deferred} {ks : List K} {ρ : Env} {w : World}
theorem N.round {l k : Nat} {D : List Nat} {W : World} {I : Nat → List Nat → World → Prop} {Ix : Code → Nat → List Nat → World → Prop} {body : Code} (hE : Ext [] W w)
    (h : ∀ wb, Ext [l] w wb → Still w wb → G P (roundB k D wb I Ix) ⟨n, [], some l⟩ [] ρ wb body) : N P (assignB P l k D W I Ix body) ⟨n, [], some l⟩ [] ρ w :=
  N.done fun a ha => ⟨hE, fun wb h1 h2 => h wb h1 h2 a ha⟩

/-- for .. := range g { body } -/
theorem G.range {g : Operand} {ps : Array Tmp} {assign body : Code} {gf : FuncId} {lb : List Value} {Nn : Nat} {E : Nat → List Value → World → Prop} {S : Nat → World → Prop} {F M : List Nat}
    (hps : ps.toList.all (fun p => Nat.blt p n) = true) (hg : ev ρ g = some (.func (.func gf) #[] lb.toArray)) (eg : ∀ (vs : Array Value) w, (callFunc gf vs).run P w = .ok (.enter gf vs) w)
    (hit : Iter P gf lb w Nn E S F M) (hS : ∀ k W W', S k W → Still W W' → S k W') (D₀ : List Nat) (hD : ∀ x ∈ D₀, x < w.heap.size ∧ x ∉ F ∧ x ∉ M) (hFM : ∀ x, x ∈ F ∨ x ∈ M → x < w.heap.size)
    (I : Nat → List Nat → World → Prop) (Ix : Code → Nat → List Nat → World → Prop)
    (hI : ∀ k D W₁ W₂ M', I k D W₁ → Ext M' W₁ W₂ → (∀ g ∈ M', g ∉ D ∧ (g ∈ M ∨ w.heap.size ≤ g)) → I k D W₂)
    (hIx : ∀ c k D W₁ W₂ M', Ix c k D W₁ → Ext M' W₁ W₂ → (∀ g ∈ M', g ∉ D ∧ (g ∈ M ∨ w.heap.size ≤ g)) → Ix c k D W₂)
    (h0 : I 0 D₀ w)
    (hround : ∀ l k D vs W₁, w.heap.size ≤ l → l < W₁.heap.size → l ∉ D → (∀ g ∈ D, g < W₁.heap.size) → k < Nn → I k D W₁ → E k vs W₁ → vs.length = ps.size ∧ G P (assignB P l k D W₁ I Ix body) ⟨n, [], some l⟩ [] (bindEnv ps.toList vs ρ) W₁ assign)
    (hdone : ∀ d D W₂, w.heap.size ≤ d → d ∉ D → W₂.heap[d]? = some (.deferred (some [])) → I Nn D W₂ → S Nn W₂ → N P B ⟨n, ⟨.collected d, #[]⟩ :: df, none⟩ ks ρ W₂)
    (hstop : ∀ d D k c W₂, w.heap.size ≤ d → d ∉ D → W₂.heap[d]? = some (.deferred (some [])) → k ≤ Nn → Ix c k D W₂ → S k W₂ → G P B ⟨n, ⟨.collected d, #[]⟩ :: df, none⟩ ks ρ W₂ c) :
    G P B ⟨n, df, none⟩ ks ρ w (.rangeFunc g ps assign body) := by
  intro a ha
  refine wpIn_rangeFunc (F := Fence.wide) ?_
  intro fn hfn
  obtain ⟨rec, hrec⟩ : ∃ rec : LoopState → Option Code → Loop, rec = fun st pe => { state := st, pending := pe, fn, tmps := a.tmps, params := ps, assign, body, defers := w.heap.size } := ⟨_, rfl⟩
  obtain ⟨W1, hW1⟩ : ∃ W1, (w.alloc (.deferred (some []))).alloc (.loop (rec .ready none)) = W1 := ⟨_, rfl⟩
  have hL1 : W1.heap[w.heap.size + 1]? = some (.loop (rec .ready none)) := by
    rw [← hW1]; have := World.alloc_heap_new (w.alloc (.deferred (some []))) (.loop (rec .ready none)); rwa [World.size_alloc] at this
  have hK1 : W1.heap[w.heap.size]? = some (.deferred (some [])) := by
    rw [← hW1]; exact ((Ext.alloc (w.alloc (.deferred (some []))) _).keep _ (by simp) (by simp)).trans (World.alloc_heap_new w _)
  have hE1 : Ext [] w W1 := by rw [← hW1]; exact (Ext.alloc w _).trans0 (Ext.alloc _ _)
  have hs1 : W1.heap.size = w.heap.size + 2 := by rw [← hW1]; simp
  refine ⟨w.heap.size + 1, [{ target := .collected w.heap.size, args := #[] }], W1, { target := .fn (.func gf) lb.toArray, args := #[.func (.yield (w.heap.size + 1)) #[] #[]] }, W1, gf,
    #[.func (.yield (w.heap.size + 1)) #[] #[]] ++ lb.toArray, W1, ?_, ?_, fun _ _ => trivial, ?_, fun h => (by cases h), ?_⟩
  · rw [← hW1, hrec]; exact run_enterLoop_outer _ _ _ _ _
  · simp only [resolve, ha.eval hg]
    simp [go_sem]
  · simp [invoke, go_sem, eg]
  · -- the iterator
    have hrel : ∀ {D : List Nat} {W A : World} {M' : List Nat}, (∀ g ∈ M', g ∉ (w.heap.size + 1) :: D ∧ g ≠ w.heap.size ∧ (g ∈ M ∨ w.heap.size ≤ g)) → Ext M' W A → ∀ {o : Obj} {j : Nat}, W.heap[j]? = some o → (j = w.heap.size + 1 ∨ j = w.heap.size) → A.heap[j]? = some o := by
      intro D W A M' hM' he o j hj hjj
      refine (he.keep j (Array.getElem?_eq_some_iff.1 hj).1 (fun hm => ?_)).trans hj
      obtain ⟨h1, h2, _⟩ := hM' j hm
      rcases hjj with rfl | rfl
      · exact h1 (by simp)
      · exact h2 rfl
    have hm := hit (.func (.yield (w.heap.size + 1)) #[] #[]) ((w.heap.size + 1) :: w.heap.size :: D₀)
      (fun k DD W => ∃ D, DD = (w.heap.size + 1) :: w.heap.size :: D ∧ I k D W ∧ W.heap[w.heap.size + 1]? = some (.loop (rec .ready none)) ∧ W.heap[w.heap.size]? = some (.deferred (some [])) ∧ w.heap.size + 1 ∉ D ∧ w.heap.size ∉ D)
      (fun k DD W => ∃ D c, DD = (w.heap.size + 1) :: w.heap.size :: D ∧ Ix c k D W ∧ W.heap[w.heap.size + 1]? = some (.loop (rec .done (some c))) ∧ W.heap[w.heap.size]? = some (.deferred (some [])) ∧ w.heap.size + 1 ∉ D ∧ w.heap.size ∉ D)
      W1 hE1 (by
        intro x hx
        simp only [List.mem_cons] at hx
        rcases hx with rfl | rfl | hx
        · exact ⟨by omega, fun h => by have := hFM _ (.inl h); omega, fun h => by have := hFM _ (.inr h); omega⟩
        · exact ⟨by omega, fun h => by have := hFM _ (.inl h); omega, fun h => by have := hFM _ (.inr h); omega⟩
        · exact ⟨by have := (hD x hx).1; omega, (hD x hx).2⟩)
      (by
        rintro k _ A A' M' ⟨D, rfl, hi, hl, hd, h1, h2⟩ he hM'
        refine ⟨D, rfl, hI k D A A' M' hi he (fun x hx => ⟨fun h => (hM' x hx).1 (by simp [h]), (hM' x hx).2⟩), ?_, ?_, h1, h2⟩
        · exact (he.keep _ (Array.getElem?_eq_some_iff.1 hl).1 (fun h => (hM' _ h).1 (by simp))).trans hl
        · exact (he.keep _ (Array.getElem?_eq_some_iff.1 hd).1 (fun h => (hM' _ h).1 (by simp))).trans hd)
      (by
        rintro k _ A A' M' ⟨D, c, rfl, hi, hl, hd, h1, h2⟩ he hM'
        refine ⟨D, c, rfl, hIx c k D A A' M' hi he (fun x hx => ⟨fun h => (hM' x hx).1 (by simp [h]), (hM' x hx).2⟩), ?_, ?_, h1, h2⟩
        · exact (he.keep _ (Array.getElem?_eq_some_iff.1 hl).1 (fun h => (hM' _ h).1 (by simp))).trans hl
        · exact (he.keep _ (Array.getElem?_eq_some_iff.1 hd).1 (fun h => (hM' _ h).1 (by simp))).trans hd)
      (by
        rintro k _ vs A hk ⟨D, rfl, hi, hl, hd, h1, h2⟩ hEv hDl
        refine .inl ⟨_, rfl, ?_⟩
        have hlt : w.heap.size + 1 < A.heap.size := (Array.getElem?_eq_some_iff.1 hl).1
        obtain ⟨hlen, hG⟩ := hround (w.heap.size + 1) k D vs A (by omega) hlt h1 (fun x hx => hDl x (by simp [hx])) hk hi hEv
        have hy := run_yield (P := P) (args := vs.toArray) hl (by rw [hrec]; simpa using hlen)
        rw [hrec] at hy
        refine ⟨fn, _, assign, body, hy, roundIn_of_wpIn hfn ?_⟩
        have hfr : Fr ⟨n, [], some (w.heap.size + 1)⟩ (bindEnv ps.toList vs ρ) { tmps := (ps.toList.zip vs).foldl (fun t (p, v) => t.setIfInBounds p v) a.tmps, defers := [] } :=
          bind_fr (n := ⟨n, [], some (w.heap.size + 1)⟩) ps.toList vs (a := { tmps := a.tmps, defers := [] }) ⟨ha.size, rfl, ha.vals⟩ (fun p hp => by simpa [Nat.blt_eq] using List.all_eq_true.1 hps p hp)
        have hz : (ps.zip vs.toArray).foldl (fun t (p, v) => t.setIfInBounds p v) a.tmps = (ps.toList.zip vs).foldl (fun t (p, v) => t.setIfInBounds p v) a.tmps := by
          rw [← Array.foldl_toList, Array.toList_zip]
        rw [hz]
        have hw := hG _ hfr
        refine wpIn_mono (F := Fence.wide.inRound (w.heap.size + 1)) (fen_wp (r := some (w.heap.size + 1)) hw) ?_
        intro e a₁ w₂ hq
        cases e with
        | normal =>
          obtain ⟨hE2, hq⟩ := hq
          have hl2 : w₂.heap[w.heap.size + 1]? = some (.loop (rec .ready none)) := (hE2.keep _ hlt (by simp)).trans hl
          have hd2 : w₂.heap[w.heap.size]? = some (.deferred (some [])) := (hE2.keep _ (by omega) (by simp)).trans hd
          have hbr := run_beginRound (P := P) hl2 (by rw [hrec])
          refine ⟨_, hbr, ?_⟩
          have hlt2 : w.heap.size + 1 < w₂.heap.size := Nat.lt_of_lt_of_le hlt hE2.size
          have hl3 : (w₂.putObj (w.heap.size + 1) (.loop { rec .ready none with state := .busy })).heap[w.heap.size + 1]? = some (.loop { rec .ready none with state := .busy }) := World.putObj_heap_same hlt2
          have hd3 : (w₂.putObj (w.heap.size + 1) (.loop { rec .ready none with state := .busy })).heap[w.heap.size]? = some (.deferred (some [])) := (World.putObj_heap_other (by omega)).trans hd2
          have hE3 := Ext.putObj w₂ (w.heap.size + 1) (.loop { rec .ready none with state := .busy })
          refine wpIn_mono (F := Fence.wide.inRound (w.heap.size + 1)) (fen_wp (r := some (w.heap.size + 1)) (hq _ hE3 (Still.putObj _ hl2 rfl))) ?_
          have fin : ∀ (jump : Option Code) (W3 : World) (D' : List Nat), Ext D (w₂.putObj (w.heap.size + 1) (.loop { rec .ready none with state := .busy })) W3 → (∀ g ∈ D', g < W3.heap.size ∧ (g ∈ D ∨ (w₂.putObj (w.heap.size + 1) (.loop { rec .ready none with state := .busy })).heap.size ≤ g)) →
              (Instr.endRound (w.heap.size + 1) jump).run P W3 = .ok (.bool jump.isNone) (W3.putObj (w.heap.size + 1) (.loop (rec (if jump.isNone then .ready else .done) jump))) ∧
              (W3.putObj (w.heap.size + 1) (.loop (rec (if jump.isNone then .ready else .done) jump))).heap[w.heap.size + 1]? = some (.loop (rec (if jump.isNone then .ready else .done) jump)) ∧
              (W3.putObj (w.heap.size + 1) (.loop (rec (if jump.isNone then .ready else .done) jump))).heap[w.heap.size]? = some (.deferred (some [])) ∧ w.heap.size + 1 ∉ D' ∧ w.heap.size ∉ D' ∧
              Ext ((w.heap.size + 1) :: w.heap.size :: D) A (W3.putObj (w.heap.size + 1) (.loop (rec (if jump.isNone then .ready else .done) jump))) ∧
              (∀ g ∈ (w.heap.size + 1) :: w.heap.size :: D', g < (W3.putObj (w.heap.size + 1) (.loop (rec (if jump.isNone then .ready else .done) jump))).heap.size ∧ (g ∈ (w.heap.size + 1) :: w.heap.size :: D ∨ A.heap.size ≤ g)) ∧
              Ext [w.heap.size + 1] W3 (W3.putObj (w.heap.size + 1) (.loop (rec (if jump.isNone then .ready else .done) jump))) := fun jump W3 D' hx hD' => by
            have hl4 : W3.heap[w.heap.size + 1]? = some (.loop { rec .ready none with state := .busy }) := (hx.keep _ (by simpa using hlt2) h1).trans hl3
            have hd4 : W3.heap[w.heap.size]? = some (.deferred (some [])) := (hx.keep _ (by simp; omega) h2).trans hd3
            have hlt4 : w.heap.size + 1 < W3.heap.size := (Array.getElem?_eq_some_iff.1 hl4).1
            have her := run_endRound (P := P) jump hl4
            rw [hrec] at her ⊢
            have hsz : w₂.heap.size ≤ W3.heap.size := by have := hx.size; simpa using this
            have n1 : w.heap.size + 1 ∉ D' := fun h => (hD' _ h).2.elim h1 (fun h => by simp at h; omega)
            have n2 : w.heap.size ∉ D' := fun h => (hD' _ h).2.elim h2 (fun h => by simp at h; omega)
            have hx2 := Ext.putObj W3 (w.heap.size + 1) (.loop { state := if jump.isNone = true then LoopState.ready else LoopState.done, pending := jump, fn := fn, tmps := a.tmps, params := ps, assign := assign, body := body, defers := w.heap.size })
            refine ⟨her, World.putObj_heap_same hlt4, (World.putObj_heap_other (by omega)).trans hd4, n1, n2, ?_, ?_, hx2⟩
            · have e1 : Ext ((w.heap.size + 1) :: w.heap.size :: D) A _ := hE3.after hE2 |>.mono (fun x hx => .inl (by simp at hx ⊢; exact .inl hx))
              have e2 := e1.transN hx (fun x hx => .inl (by simp [hx]))
              exact e2.transN hx2 (fun x hx => .inl (by simp at hx ⊢; exact .inl hx))
            · intro x hx'
              simp only [List.mem_cons] at hx'
              rcases hx' with rfl | rfl | hx'
              · exact ⟨by simpa using hlt4, .inl (by simp)⟩
              · exact ⟨by simp; omega, .inl (by simp)⟩
              · obtain ⟨h3, h4⟩ := hD' x hx'
                refine ⟨by simpa using h3, h4.elim (fun h => .inl (by simp [h])) (fun h => .inr ?_)⟩
                simp at h
                exact Nat.le_trans hE2.size h
          have stabM : ∀ {D' : List Nat}, w.heap.size + 1 ∉ D' → ∀ g ∈ [w.heap.size + 1], g ∉ D' ∧ (g ∈ M ∨ w.heap.size ≤ g) := fun h g hg => by
            rw [List.mem_singleton.1 hg]; exact ⟨h, .inr (by omega)⟩
          rintro e a3 W3 hp
          cases e with
          | normal =>
            obtain ⟨D', hx, hD', hi'⟩ := hp
            obtain ⟨f1, f2, f3, n1, n2, f4, f5, f6⟩ := fin none W3 D' hx hD'
            exact ⟨_, _, f1, true, rfl, _, f4, f5, fun _ => ⟨D', rfl, hI _ _ _ _ _ hi' f6 (stabM n1), f2, f3, n1, n2⟩, fun h => by cases h⟩
          | ret =>
            obtain ⟨D', hx, hD', hi'⟩ := hp
            obtain ⟨f1, f2, f3, n1, n2, f4, f5, f6⟩ := fin (some .ret) W3 D' hx hD'
            exact ⟨_, _, f1, false, rfl, _, f4, f5, fun h => (by cases h), fun _ => ⟨D', _, rfl, hIx _ _ _ _ _ _ hi' f6 (stabM n1), f2, f3, n1, n2⟩⟩
          | exit id =>
            obtain ⟨D', hx, hD', hi'⟩ := hp
            obtain ⟨f1, f2, f3, n1, n2, f4, f5, f6⟩ := fin (some (.exit id)) W3 D' hx hD'
            exact ⟨_, _, f1, false, rfl, _, f4, f5, fun h => (by cases h), fun _ => ⟨D', _, rfl, hIx _ _ _ _ _ _ hi' f6 (stabM n1), f2, f3, n1, n2⟩⟩
          | goto t =>
            obtain ⟨D', hx, hD', hi'⟩ := hp
            obtain ⟨f1, f2, f3, n1, n2, f4, f5, f6⟩ := fin (some (.goto t)) W3 D' hx hD'
            exact ⟨_, _, f1, false, rfl, _, f4, f5, fun h => (by cases h), fun _ => ⟨D', _, rfl, hIx _ _ _ _ _ _ hi' f6 (stabM n1), f2, f3, n1, n2⟩⟩
          | panic ch => exact hp.elim
          | outgrown => exact hp.elim
        | _ => exact hq.elim)
      ⟨D₀, rfl, hI 0 D₀ w W1 [] h0 hE1 (by simp), hL1, hK1, fun h => by have := (hD _ h).1; omega, fun h => by have := (hD _ h).1; omega⟩
    have e : (Value.func (.yield (w.heap.size + 1)) #[] #[] :: lb).toArray = #[.func (.yield (w.heap.size + 1)) #[] #[]] ++ lb.toArray := by simp
    unfold Meets at hm
    rw [e] at hm
    refine CallsIn.mono (callsIn_wide.2 hm) ?_
    intro e W2 he
    cases e with
    | returned v =>
      have stabM : ∀ {D' : List Nat}, w.heap.size + 1 ∉ D' → ∀ g ∈ [w.heap.size + 1], g ∉ D' ∧ (g ∈ M ∨ w.heap.size ≤ g) := fun h g hg => by
        rw [List.mem_singleton.1 hg]; exact ⟨h, .inr (by omega)⟩
      rcases he with ⟨_, ⟨D, rfl, hi, hl, hd, h1, h2⟩, hs⟩ | ⟨k, _, hk, ⟨D, c, rfl, hi, hl, hd, h1, h2⟩, hs⟩
      · refine ⟨none, _, by have := run_endLoop (P := P) hl (by rw [hrec]; simp); rw [hrec] at this; exact this, ?_⟩
        exact hdone w.heap.size D _ (Nat.le_refl _) h2 ((World.putObj_heap_other (by omega)).trans hd) (hI _ _ _ _ _ hi (Ext.putObj _ _ _) (stabM h1)) (hS _ _ _ hs (Still.putObj _ hl rfl)) _ ⟨ha.size, by simp [ha.defers], ha.vals⟩
      · refine ⟨some c, _, by have := run_endLoop (P := P) hl (by rw [hrec]; simp); rw [hrec] at this; exact this, ?_⟩
        exact fen_wp (r := none) (hstop w.heap.size D k c _ (Nat.le_refl _) h2 ((World.putObj_heap_other (by omega)).trans hd) hk (hIx _ _ _ _ _ _ hi (Ext.putObj _ _ _) (stabM h1)) (hS _ _ _ hs (Still.putObj _ hl rfl)) _ ⟨ha.size, by simp [ha.defers], ha.vals⟩)
    | panicked ch => exact he.elim
    | outgrown => exact he.elim
end
end Brv
