/-
  The rules of the walk through a region that draws its order.
-/
import Derived.Test.YthpolibakkmmeaaC4
namespace Brv
open Go

abbrev RelEnv := List (Nat × (Value → World → Prop))
def lookT : RelEnv → Nat → Option (Value → World → Prop)
  | [], _ => none
  | (s, A) :: r, t => match Nat.beq s t with
    | true => some A
    | false => lookT r t
theorem lookT_cons (s : Nat) (A : Value → World → Prop) (r : RelEnv) (t : Nat) : lookT ((s, A) :: r) t = if s = t then some A else lookT r t := by
  simp only [lookT]
  by_cases h : s = t
  · have hb : Nat.beq s t = true := by subst h; exact Nat.beq_refl s
    rw [hb]; simp [h]
  · have hb : Nat.beq s t = false := by
      cases hq : Nat.beq s t with
      | false => rfl
      | true => exact absurd (Nat.eq_of_beq_eq_true hq) h
    rw [hb]; simp [h]
def mkD (ρ : Env) (τ : RelEnv) : DEnv := τ.map (fun p => (p.1, .rel p.2)) ++ ofEnv ρ
theorem lookD_mkD (ρ : Env) : ∀ (τ : RelEnv) (t : Nat), lookD (mkD ρ τ) t = match lookT τ t with | some A => some (.rel A) | none => (look ρ t).map .eq
  | [], t => by simp only [mkD, List.map_nil, List.nil_append, lookT]; exact lookD_ofEnv ρ t
  | (s, A) :: r, t => by
    have h := lookD_mkD ρ r t
    simp only [mkD, List.map_cons, List.cons_append] at h ⊢
    rw [lookD_cons, lookT_cons]
    split
    · rfl
    · exact h
/-- ρ without slot t. -/
def dropS (t : Nat) : Env → Env
  | [] => []
  | (s, v) :: r => match Nat.beq s t with
    | true => dropS t r
    | false => (s, v) :: dropS t r
theorem look_dropS (t s : Nat) : ∀ (ρ : Env), look (dropS t ρ) s = if t = s then none else look ρ s
  | [] => by simp [dropS, look]
  | (q, v) :: r => by
    simp only [dropS]
    have ih := look_dropS t s r
    by_cases h : q = t
    · have hb : Nat.beq q t = true := by subst h; exact Nat.beq_refl q
      rw [hb, look_cons]
      simp only [ih]
      split
      · rfl
      · rename_i e; rw [if_neg (by omega)]
    · have hb : Nat.beq q t = false := by
        cases hq : Nat.beq q t with
        | false => rfl
        | true => exact absurd (Nat.eq_of_beq_eq_true hq) h
      rw [hb]
      show look ((q, v) :: dropS t r) s = _
      rw [look_cons, look_cons, ih]
      split
      · rename_i e; rw [if_neg (by omega)]
      · rfl

/-- For whatever values those of the slots have of which a fact is known. -/
def RelsT (τ : RelEnv) (w : World) : List Nat → Env → (Env → Prop) → Prop
  | [], ρ, K => K ρ
  | t :: ts, ρ, K => match lookT τ t with
    | some A => ∀ v, A v w → RelsT τ w ts ((t, v) :: ρ) K
    | none => RelsT τ w ts ρ K

class Mixed (P : Program) : Prop where
  h : P.follows .mixedOrders = true

section
variable (P : Program) (n : Fm) (ops : List Oper) (Q : Exit → Act → World → Prop) (J : Nat → World → Prop) (R : Nat → World → World → Prop) (X : List (Nat × Nat)) (σ : List Nat)
def DS (ρ : Env) (τ : RelEnv) (i : Nat) (l : List Oper) : Prop := (∀ t, lookT τ t ≠ none → look ρ t = none) → D P n ops Q J R X σ (mkD ρ τ) i l
end

section
variable {P : Program} {n : Fm} {ops : List Oper} {Q : Exit → Act → World → Prop} {J : Nat → World → Prop} {R : Nat → World → World → Prop} {X : List (Nat × Nat)} {σ : List Nat}
variable {ρ : Env} {τ : RelEnv} {i : Nat} {rest : List Oper} {d : Nat} {op : Op} {ty : TypeId} {pos : String} {af : Array Edge} {gd : Option (Nat × Bool)}

theorem rels_take {w : World} {a : Act} : ∀ {ts : List Nat} {ρ₀ : Env} {K : Env → Prop}, RelsT τ w ts ρ₀ K → (∀ t ∈ ts, ∀ A, lookT τ t = some A → ∃ v, a.tmps[t]? = some v ∧ A v w) →
    ∃ ρ', K ρ' ∧ (∀ t v, look ρ' t = some v → (t ∈ ts ∧ lookT τ t ≠ none ∧ a.tmps[t]? = some v) ∨ look ρ₀ t = some v) ∧ (∀ t ∈ ts, lookT τ t ≠ none → ∃ v, look ρ' t = some v ∧ a.tmps[t]? = some v) ∧
      (∀ t v, look ρ₀ t = some v → (lookT τ t ≠ none ∧ a.tmps[t]? = look ρ' t) ∨ look ρ' t = some v)
  | [], ρ₀, K, h, _ => ⟨ρ₀, h, fun t v hv => .inr hv, (fun t ht => by cases ht), fun t v hv => .inr hv⟩
  | t :: ts, ρ₀, K, h, hf => by
    simp only [RelsT] at h
    cases hA : lookT τ t with
    | none =>
      rw [hA] at h
      obtain ⟨ρ', h1, h2, h3, h4⟩ := rels_take h (fun s hs => hf s (List.mem_cons_of_mem _ hs))
      refine ⟨ρ', h1, fun s v hv => (h2 s v hv).imp (fun ⟨x, y, z⟩ => ⟨List.mem_cons_of_mem _ x, y, z⟩) id, fun s hs hn => ?_, h4⟩
      rcases List.mem_cons.1 hs with rfl | hs
      · exact absurd hA hn
      · exact h3 s hs hn
    | some A =>
      rw [hA] at h
      obtain ⟨v, hv, hav⟩ := hf t (by simp) A hA
      obtain ⟨ρ', h1, h2, h3, h4⟩ := rels_take (h v hav) (fun s hs => hf s (List.mem_cons_of_mem _ hs))
      refine ⟨ρ', h1, fun s u hu => ?_, fun s hs hn => ?_, fun s u hu => ?_⟩
      · rcases h2 s u hu with ⟨x, y, z⟩ | h
        · exact .inl ⟨List.mem_cons_of_mem _ x, y, z⟩
        · rw [look_cons] at h
          split at h
          · rename_i e; subst e; cases h
            exact .inl ⟨by simp, by rw [hA]; simp, hv⟩
          · exact .inr h
      · rcases List.mem_cons.1 hs with rfl | hs
        · rcases h4 s v (by rw [look_cons]; simp) with ⟨_, h⟩ | h
          · refine ⟨v, ?_, hv⟩; rw [← h, hv]
          · exact ⟨v, h, hv⟩
        · exact h3 s hs hn
      · by_cases e : t = s
        · subst e
          refine .inl ⟨by rw [hA]; simp, ?_⟩
          rcases h4 t v (by rw [look_cons]; simp) with ⟨_, h⟩ | h
          · exact h
          · rw [h, hv]
        · exact h4 s u (by rw [look_cons]; simp [e, hu])

/-- The frame that an operation may as well be given: what is known of slots is so, and the slots that it looks at are as they are. -/
theorem virtual {o : Oper} {a : Act} {w : World} (hsep : ∀ t, lookT τ t ≠ none → look ρ t = none) (hn : ∀ t s, lookD (mkD ρ τ) t = some s → t < n.n) (hsz : a.tmps.size = n.n) (hf : Finds ops (mkD ρ τ) o a w)
    {K : Env → Prop} (hK : RelsT τ w (slots ops o) ρ K) : ∃ ρ' a₀, K ρ' ∧ Fr n ρ' a₀ ∧ (∀ t ∈ slots ops o, a.tmps.getD t undef = a₀.tmps.getD t undef ∧ a.tmps[t]? = a₀.tmps[t]?) ∧ (∀ t ∈ slots ops o, ∀ v, look ρ t = some v → look ρ' t = some v) := by
  have hτ : ∀ t ∈ slots ops o, ∀ A, lookT τ t = some A → ∃ v, a.tmps[t]? = some v ∧ A v w := by
    intro t ht A hA
    have := hf t ht (.rel A) (by rw [lookD_mkD, hA])
    exact this
  obtain ⟨ρ', h1, h2, h3, h4⟩ := rels_take hK hτ
  have hlt : ∀ t v, look ρ' t = some v → t < n := by
    intro t v hv
    rcases h2 t v hv with ⟨_, y, _⟩ | h
    · cases hA : lookT τ t with
      | none => exact absurd hA y
      | some A => exact hn t (.rel A) (by rw [lookD_mkD, hA])
    · have hnone : lookT τ t = none := by
        cases hA : lookT τ t with
        | none => rfl
        | some A => have := hsep t (by rw [hA]; simp); rw [h] at this; cases this
      exact hn t (.eq v) (by rw [lookD_mkD, hnone]; simp [h])
  refine ⟨ρ', { tmps := Array.ofFn (n := n.n) fun t => match look ρ' t.1 with | some v => v | none => a.tmps.getD t.1 undef, defers := n.df }, h1, ⟨by simp, rfl, ?_⟩, ?_, ?_⟩
  · intro t v hv
    have := hlt t v hv
    simp [this, hv]
  · intro t ht
    have hval : ∀ v, look ρ' t = some v → a.tmps[t]? = some v := by
      intro v hv
      rcases h2 t v hv with ⟨_, _, z⟩ | h
      · exact z
      · have hnone : lookT τ t = none := by
          cases hA : lookT τ t with
          | none => rfl
          | some A => have := hsep t (by rw [hA]; simp); rw [h] at this; cases this
        obtain ⟨u, hu, he⟩ := hf t ht (.eq v) (by rw [lookD_mkD, hnone]; simp [h])
        rw [hu]; exact congrArg some he
    have key : a.tmps[t]? = (Array.ofFn (n := n.n) fun t => match look ρ' t.1 with | some v => v | none => a.tmps.getD t.1 undef)[t]? := by
      rcases Nat.lt_or_ge t n with hlt' | hge
      · rw [Array.getElem?_ofFn]
        rw [dif_pos hlt']
        cases hv : look ρ' t with
        | some v => rw [hval v hv]
        | none =>
          simp only []
          have : t < a.tmps.size := by omega
          rw [Array.getElem?_eq_getElem this, Array.getD_eq_getD_getElem?, Array.getElem?_eq_getElem this]
          rfl
      · rw [Array.getElem?_eq_none (by omega), Array.getElem?_eq_none (by simp; omega)]
    exact ⟨by rw [Array.getD_eq_getD_getElem?, Array.getD_eq_getD_getElem?, key], key⟩
  · intro t ht v hv
    have hnone : lookT τ t = none := by
      cases hA : lookT τ t with
      | none => rfl
      | some A => have := hsep t (by rw [hA]; simp); rw [hv] at this; cases this
    rcases h4 t v hv with ⟨h, _⟩ | h
    · exact absurd hnone h
    · exact h

theorem wanted_virtual {o : Oper} {a a₀ : Act} {b : Bool} (hg : wants ops ρ o.guard = some b) {ρ' : Env} (hfr : Fr n ρ' a₀) (hag : ∀ t ∈ slots ops o, a.tmps.getD t undef = a₀.tmps.getD t undef ∧ a.tmps[t]? = a₀.tmps[t]?)
    (hsub : ∀ t ∈ slots ops o, ∀ v, look ρ t = some v → look ρ' t = some v) : Region.wanted o (yielded ops.toArray a.tmps) = b := by
  have h1 : wants ops ρ' o.guard = some b := by
    cases hgd : o.guard with
    | none => rw [hgd] at hg; exact hg
    | some g =>
      obtain ⟨j, want⟩ := g
      rw [hgd] at hg
      simp only [wants] at hg ⊢
      cases hd : (ops[j]?).bind (·.dst) with
      | none => rw [hd] at hg; exact hg
      | some d =>
        rw [hd] at hg
        dsimp only at hg ⊢
        cases hv : look ρ d with
        | none => rw [hv] at hg; cases hg
        | some v =>
          rw [hv] at hg
          rw [hsub d (by simp [slots, hgd, hd]) v hv]
          exact hg
  have h2 := wants_spec hfr h1
  rw [← h2]
  unfold Region.wanted
  cases hgd : o.guard with
  | none => rfl
  | some g =>
    obtain ⟨j, want⟩ := g
    simp only [yielded, List.getElem?_toArray]
    cases hd : (ops[j]?).bind (·.dst) with
    | none => simp
    | some d =>
      have := (hag d (by simp [slots, hgd, hd])).2
      simp only [Option.bind_some, this]

theorem eval_virtual {o : Oper} {a a₀ : Act} (hag : ∀ t ∈ slots ops o, a.tmps.getD t undef = a₀.tmps.getD t undef ∧ a.tmps[t]? = a₀.tmps[t]?) (hs : ∀ cs b, o.op ≠ .select cs b) : execOp a.eval o = execOp a₀.eval o := by
  refine execOp_congr o hs (fun x hx => ?_)
  cases x with
  | tmp t =>
    have ht : t ∈ slots ops o := by
      unfold slots
      exact List.mem_append_left _ (mem_tmpsOf (by simpa using hx))
    exact (hag t ht).1
  | const v => rfl
  | global g => rfl
  | func f => rfl

theorem nosel (h : isSelect op = false) : ∀ cs b, op ≠ .select cs b := by
  intro cs b e; subst e; cases h
theorem nodef (h : isSelect op = false) : isDefer op = false := by cases op <;> first | rfl | cases h

/-- One operation, its result by a fact (st: does it turn the state?). -/
theorem DS.rel (A : Value → World → Prop) (hA : ∀ i', (i', d) ∉ X → reachIn (masks ops ops.length) i i' = false → i' ≠ i → ∀ v w w', R i' w w' → A v w → A v w') (hg : wants ops ρ gd = some true) (hd : Nat.blt d n = true) (hns : isSelect op = false)
    (h : ∀ w k, inRng ops σ i k → J k w → RelsT τ w (slots ops ⟨some d, op, ty, pos, af, gd⟩) ρ (fun ρ' => Does P n ρ' w ⟨some d, op, ty, pos, af, gd⟩ (fun v w' => A v w' ∧ R i w w' ∧ J (k + stepsOf σ i) w')))
    (hnext : DS P n ops Q J R X σ (dropS d ρ) ((d, A) :: τ) (i + 1) rest) : DS P n ops Q J R X σ ρ τ i (⟨some d, op, ty, pos, af, gd⟩ :: rest) := by
  intro hsep
  refine ⟨.rel A, fun A' d' e e' => by cases e; cases e'; exact hA, fun d' e => by cases e; simpa [Nat.blt_eq] using hd, ?_, ?_⟩
  · intro hn a w k hsz hdf hf hr hJ
    obtain ⟨ρ', a₀, hK, hfr, hag, hsub⟩ := virtual hsep hn hsz hf (h w k hr hJ)
    unfold wpo
    rw [wanted_virtual hg hfr hag hsub]
    simp only [if_true]
    obtain ⟨v, w', hrun, h1, h2, h3⟩ := hK
    refine wpIn_run (nodef hns) ((congrArg (fun s => s.run P w) (eval_virtual hag (nosel hns))).trans (hrun a₀ hfr)) ?_
    exact ⟨v, rfl, fun _ => h1, h2, h3⟩
  · refine D.congr (fun t => ?_) (hnext (fun t ht => ?_))
    · rw [lookD_cons, lookD_mkD, lookD_mkD, lookT_cons, look_dropS]
      by_cases e : d = t
      · simp only [e, if_true]
      · simp only [e, if_false]
    · rw [lookT_cons] at ht
      rw [look_dropS]
      split
      · rfl
      · rename_i e; rw [if_neg e] at ht; exact hsep t ht
theorem DS.eq (v : Value) (hg : wants ops ρ gd = some true) (hd : Nat.blt d n = true) (hns : isSelect op = false) (hfree : (lookT τ d).isNone = true)
    (h : ∀ w k, inRng ops σ i k → J k w → RelsT τ w (slots ops ⟨some d, op, ty, pos, af, gd⟩) ρ (fun ρ' => Does P n ρ' w ⟨some d, op, ty, pos, af, gd⟩ (fun v' w' => v' = v ∧ R i w w' ∧ J (k + stepsOf σ i) w')))
    (hnext : DS P n ops Q J R X σ ((d, v) :: ρ) τ (i + 1) rest) : DS P n ops Q J R X σ ρ τ i (⟨some d, op, ty, pos, af, gd⟩ :: rest) := by
  intro hsep
  refine ⟨.eq v, fun A' d' e => (by cases e), fun d' e => by cases e; simpa [Nat.blt_eq] using hd, ?_, ?_⟩
  · intro hn a w k hsz hdf hf hr hJ
    obtain ⟨ρ', a₀, hK, hfr, hag, hsub⟩ := virtual hsep hn hsz hf (h w k hr hJ)
    unfold wpo
    rw [wanted_virtual hg hfr hag hsub]
    simp only [if_true]
    obtain ⟨v', w', hrun, h1, h2, h3⟩ := hK
    refine wpIn_run (nodef hns) ((congrArg (fun s => s.run P w) (eval_virtual hag (nosel hns))).trans (hrun a₀ hfr)) ?_
    exact ⟨v', rfl, fun _ => h1, h2, h3⟩
  · have hnone : lookT τ d = none := by simpa using hfree
    refine D.congr (fun t => ?_) (hnext (fun t ht => ?_))
    · rw [lookD_cons, lookD_mkD, lookD_mkD, look_cons]
      by_cases e : d = t
      · subst e; simp only [hnone, if_true]; rfl
      · simp only [e, if_false]
    · rw [look_cons]
      split
      · rename_i e; subst e; exact absurd hnone ht
      · exact hsep t ht
/-- .. that only reckons, or reads. -/
theorem DS.val {v : Value} (hg : wants ops ρ gd = some true) (hd : Nat.blt d n = true) (hns : isSelect op = false) (hfree : (lookT τ d).isNone = true) (hst : stepsOf σ i = 0) (hR : ∀ w, R i w w)
    (h : ∀ w k, inRng ops σ i k → J k w → RelsT τ w (slots ops ⟨some d, op, ty, pos, af, gd⟩) ρ (fun ρ' => Runs P n ρ' w ⟨some d, op, ty, pos, af, gd⟩ v w))
    (hnext : DS P n ops Q J R X σ ((d, v) :: ρ) τ (i + 1) rest) : DS P n ops Q J R X σ ρ τ i (⟨some d, op, ty, pos, af, gd⟩ :: rest) := by
  refine DS.eq v hg hd hns hfree (fun w k hr hJ => ?_) hnext
  have mono : ∀ {ts : List Nat} {ρ₀ : Env} {K K' : Env → Prop}, (∀ ρ, K ρ → K' ρ) → RelsT τ w ts ρ₀ K → RelsT τ w ts ρ₀ K' := by
    intro ts
    induction ts with
    | nil => intro ρ₀ K K' hKK hk; exact hKK _ hk
    | cons t ts ih =>
      intro ρ₀ K K' hKK hk
      simp only [RelsT] at hk ⊢
      split
      · rename_i A hA; rw [hA] at hk; intro v hv; exact ih hKK (hk v hv)
      · rename_i hA; rw [hA] at hk; exact ih hKK hk
  refine mono (fun ρ' hrun => ?_) (h w k hr hJ)
  exact Does.of hrun ⟨rfl, hR w, by rw [hst]; exact hJ⟩
theorem DS.relv (A : Value → World → Prop) (hA : ∀ i', (i', d) ∉ X → reachIn (masks ops ops.length) i i' = false → i' ≠ i → ∀ v w w', R i' w w' → A v w → A v w') (hg : wants ops ρ gd = some true) (hd : Nat.blt d n = true) (hns : isSelect op = false) (hst : stepsOf σ i = 0) (hR : ∀ w, R i w w)
    (h : ∀ w k, inRng ops σ i k → J k w → RelsT τ w (slots ops ⟨some d, op, ty, pos, af, gd⟩) ρ (fun ρ' => ∃ v, Runs P n ρ' w ⟨some d, op, ty, pos, af, gd⟩ v w ∧ A v w))
    (hnext : DS P n ops Q J R X σ (dropS d ρ) ((d, A) :: τ) (i + 1) rest) : DS P n ops Q J R X σ ρ τ i (⟨some d, op, ty, pos, af, gd⟩ :: rest) := by
  refine DS.rel A hA hg hd hns (fun w k hr hJ => ?_) hnext
  have mono : ∀ {ts : List Nat} {ρ₀ : Env} {K K' : Env → Prop}, (∀ ρ, K ρ → K' ρ) → RelsT τ w ts ρ₀ K → RelsT τ w ts ρ₀ K' := by
    intro ts
    induction ts with
    | nil => intro ρ₀ K K' hKK hk; exact hKK _ hk
    | cons t ts ih =>
      intro ρ₀ K K' hKK hk
      simp only [RelsT] at hk ⊢
      split
      · rename_i A hA; rw [hA] at hk; intro v hv; exact ih hKK (hk v hv)
      · rename_i hA; rw [hA] at hk; exact ih hKK hk
  refine mono (fun ρ' ⟨v, hrun, hv⟩ => ?_) (h w k hr hJ)
  exact Does.of hrun ⟨hv, hR w, by rw [hst]; exact hJ⟩
/-- A store. -/
theorem DS.set (hg : wants ops ρ gd = some true) (hns : isSelect op = false)
    (h : ∀ w k, inRng ops σ i k → J k w → RelsT τ w (slots ops ⟨none, op, ty, pos, af, gd⟩) ρ (fun ρ' => Sets P n ρ' w ⟨none, op, ty, pos, af, gd⟩ (fun w' => R i w w' ∧ J (k + stepsOf σ i) w')))
    (hnext : DS P n ops Q J R X σ ρ τ (i + 1) rest) : DS P n ops Q J R X σ ρ τ i (⟨none, op, ty, pos, af, gd⟩ :: rest) := by
  intro hsep
  refine ⟨.eq undef, fun A' d' e => (by cases e), fun d' e => (by cases e), ?_, hnext hsep⟩
  intro hn a w k hsz hdf hf hr hJ
  obtain ⟨ρ', a₀, hK, hfr, hag, hsub⟩ := virtual hsep hn hsz hf (h w k hr hJ)
  unfold wpo
  rw [wanted_virtual hg hfr hag hsub]
  simp only [if_true]
  obtain ⟨w', hrun, h2, h3⟩ := hK
  refine wpIn_run (nodef hns) ((congrArg (fun s => s.run P w) (eval_virtual hag (nosel hns))).trans (hrun a₀ hfr)) ?_
  exact ⟨undef, rfl, fun e => absurd rfl e, h2, h3⟩
/-- An operation that is passed over. -/
theorem DS.pass (hg : wants ops ρ gd = some false) (hd : Nat.blt d n = true) (hfree : (lookT τ d).isNone = true) (hst : stepsOf σ i = 0) (hR : ∀ w, R i w w)
    (hnext : DS P n ops Q J R X σ ((d, undef) :: ρ) τ (i + 1) rest) : DS P n ops Q J R X σ ρ τ i (⟨some d, op, ty, pos, af, gd⟩ :: rest) := by
  intro hsep
  refine ⟨.eq undef, fun A' d' e => (by cases e), fun d' e => by cases e; simpa [Nat.blt_eq] using hd, ?_, ?_⟩
  · intro hn a w k hsz hdf hf hr hJ
    obtain ⟨ρ', a₀, hK, hfr, hag, hsub⟩ := virtual (o := ⟨some d, op, ty, pos, af, gd⟩) hsep hn hsz hf (K := fun _ => True) (by
      have triv : ∀ (ts : List Nat) (ρ₀ : Env), RelsT τ w ts ρ₀ (fun _ => True) := by
        intro ts
        induction ts with
        | nil => intro ρ₀; trivial
        | cons t ts ih => intro ρ₀; simp only [RelsT]; split <;> (try intro v hv) <;> exact ih _
      exact triv _ _)
    unfold wpo
    rw [wanted_virtual (o := ⟨some d, op, ty, pos, af, gd⟩) hg hfr hag hsub]
    simp only [Bool.false_eq_true, if_false]
    exact ⟨undef, rfl, fun _ => rfl, hR w, by rw [hst]; exact hJ⟩
  · have hnone : lookT τ d = none := by simpa using hfree
    refine D.congr (fun t => ?_) (hnext (fun t ht => ?_))
    · rw [lookD_cons, lookD_mkD, lookD_mkD, look_cons]
      by_cases e : d = t
      · subst e; simp only [hnone, if_true]; rfl
      · simp only [e, if_false]
    · rw [look_cons]
      split
      · rename_i e; subst e; exact absurd hnone ht
      · exact hsep t ht
theorem DS.be {v v' : Value} (d : Nat) (hv : look ρ d = some v) (e : v = v') (h : DS P n ops Q J R X σ ((d, v') :: ρ) τ i rest) : DS P n ops Q J R X σ ρ τ i rest := by
  subst e
  intro hsep
  refine D.congr (fun t => ?_) (h (fun t ht => ?_))
  · rw [lookD_mkD, lookD_mkD, look_cons]
    by_cases e : d = t
    · subst e; simp only [hv, if_true]
    · simp only [e, if_false]
  · rw [look_cons]
    split
    · rename_i e; subst e; have := hsep d ht; rw [hv] at this; cases this
    · exact hsep t ht
theorem DS.caseB {b : Bool} (d : Nat) (hv : look ρ d = some (.bool b)) (ht : b = true → DS P n ops Q J R X σ ((d, .bool true) :: ρ) τ i rest) (hf : b = false → DS P n ops Q J R X σ ((d, .bool false) :: ρ) τ i rest) : DS P n ops Q J R X σ ρ τ i rest := by
  cases b
  · exact DS.be d hv rfl (hf rfl)
  · exact DS.be d hv rfl (ht rfl)
theorem DS.isT {b : Bool} (d : Nat) (hv : look ρ d = some (.bool b)) (e : b = true) (h : DS P n ops Q J R X σ ((d, .bool true) :: ρ) τ i rest) : DS P n ops Q J R X σ ρ τ i rest := DS.be d hv (congrArg Value.bool e) h
theorem DS.isF {b : Bool} (d : Nat) (hv : look ρ d = some (.bool b)) (e : b = false) (h : DS P n ops Q J R X σ ((d, .bool false) :: ρ) τ i rest) : DS P n ops Q J R X σ ρ τ i rest := DS.be d hv (congrArg Value.bool e) h
theorem DS.caseP {p : Prop} {dp : Decidable p} (d : Nat) (hv : look ρ d = some (.bool (@decide p dp))) (ht : p → DS P n ops Q J R X σ ((d, .bool true) :: ρ) τ i rest) (hf : ¬ p → DS P n ops Q J R X σ ((d, .bool false) :: ρ) τ i rest) : DS P n ops Q J R X σ ρ τ i rest :=
  DS.caseB d hv (fun h => ht (of_decide_eq_true h)) (fun h => hf (of_decide_eq_false h))
/-- A call, by its contract; the result by a fact. -/
theorem DS.callRel (A : Value → World → Prop) (hA : ∀ i', (i', d) ∉ X → reachIn (masks ops ops.length) i i' = false → i' ≠ i → ∀ v w w', R i' w w' → A v w → A v w') {x : Operand} {f : FuncId} {first cap : Array Value} {args : Array Operand} {ats : Array TypeId} (hg : wants ops ρ gd = some true) (hd : Nat.blt d n = true)
    (hc : ∀ (vs : Array Value) w, (callFunc f vs).run P w = .ok (.enter f vs) w)
    (h : ∀ w k, inRng ops σ i k → J k w → RelsT τ w (slots ops ⟨some d, .call ⟨.value x, args, ats⟩, ty, pos, af, gd⟩) ρ (fun ρ' => ∃ as, ev ρ' x = some (.func (.func f) first cap) ∧ evs ρ' args.toList = some as ∧
      Meets P f (first.toList ++ as ++ cap.toList) w (fun v w' => A v w' ∧ R i w w' ∧ J (k + stepsOf σ i) w')))
    (hnext : DS P n ops Q J R X σ (dropS d ρ) ((d, A) :: τ) (i + 1) rest) : DS P n ops Q J R X σ ρ τ i (⟨some d, .call ⟨.value x, args, ats⟩, ty, pos, af, gd⟩ :: rest) := by
  intro hsep
  refine ⟨.rel A, fun A' d' e e' => by cases e; cases e'; exact hA, fun d' e => by cases e; simpa [Nat.blt_eq] using hd, ?_, ?_⟩
  · intro hn a w k hsz hdf hf hr hJ
    obtain ⟨ρ', a₀, ⟨as, hx, has, hM⟩, hfr, hag, hsub⟩ := virtual hsep hn hsz hf (h w k hr hJ)
    unfold wpo
    rw [wanted_virtual (o := ⟨some d, .call ⟨.value x, args, ats⟩, ty, pos, af, gd⟩) hg hfr hag hsub]
    simp only [if_true]
    refine wpIn_run rfl ((congrArg (fun s => s.run P w) (eval_virtual hag (nosel rfl))).trans (run_callV (hfr.eval hx) (hfr.evals has) rfl (hc _) w)) ?_
    refine ⟨fun h => (by rw [fen_depth] at h; cases h), fen_calls ?_⟩
    refine Calls.mono hM ?_
    intro e w' he
    cases e with
    | returned v => exact ⟨v, rfl, fun _ => he.1, he.2.1, he.2.2⟩
    | panicked c => exact he.elim
    | outgrown => exact he.elim
  · refine D.congr (fun t => ?_) (hnext (fun t ht => ?_))
    · rw [lookD_cons, lookD_mkD, lookD_mkD, lookT_cons, look_dropS]
      by_cases e : d = t
      · simp only [e, if_true]
      · simp only [e, if_false]
    · rw [lookT_cons] at ht
      rw [look_dropS]
      split
      · rfl
      · rename_i e; rw [if_neg e] at ht; exact hsep t ht
theorem DS.callEq (v : Value) {x : Operand} {f : FuncId} {first cap : Array Value} {args : Array Operand} {ats : Array TypeId} (hg : wants ops ρ gd = some true) (hd : Nat.blt d n = true) (hfree : (lookT τ d).isNone = true)
    (hc : ∀ (vs : Array Value) w, (callFunc f vs).run P w = .ok (.enter f vs) w)
    (h : ∀ w k, inRng ops σ i k → J k w → RelsT τ w (slots ops ⟨some d, .call ⟨.value x, args, ats⟩, ty, pos, af, gd⟩) ρ (fun ρ' => ∃ as, ev ρ' x = some (.func (.func f) first cap) ∧ evs ρ' args.toList = some as ∧
      Meets P f (first.toList ++ as ++ cap.toList) w (fun v' w' => v' = v ∧ R i w w' ∧ J (k + stepsOf σ i) w')))
    (hnext : DS P n ops Q J R X σ ((d, v) :: ρ) τ (i + 1) rest) : DS P n ops Q J R X σ ρ τ i (⟨some d, .call ⟨.value x, args, ats⟩, ty, pos, af, gd⟩ :: rest) := by
  intro hsep
  refine ⟨.eq v, fun A' d' e => (by cases e), fun d' e => by cases e; simpa [Nat.blt_eq] using hd, ?_, ?_⟩
  · intro hn a w k hsz hdf hf hr hJ
    obtain ⟨ρ', a₀, ⟨as, hx, has, hM⟩, hfr, hag, hsub⟩ := virtual hsep hn hsz hf (h w k hr hJ)
    unfold wpo
    rw [wanted_virtual (o := ⟨some d, .call ⟨.value x, args, ats⟩, ty, pos, af, gd⟩) hg hfr hag hsub]
    simp only [if_true]
    refine wpIn_run rfl ((congrArg (fun s => s.run P w) (eval_virtual hag (nosel rfl))).trans (run_callV (hfr.eval hx) (hfr.evals has) rfl (hc _) w)) ?_
    refine ⟨fun h => (by rw [fen_depth] at h; cases h), fen_calls ?_⟩
    refine Calls.mono hM ?_
    intro e w' he
    cases e with
    | returned v' => exact ⟨v', rfl, fun _ => he.1, he.2.1, he.2.2⟩
    | panicked c => exact he.elim
    | outgrown => exact he.elim
  · have hnone : lookT τ d = none := by simpa using hfree
    refine D.congr (fun t => ?_) (hnext (fun t ht => ?_))
    · rw [lookD_cons, lookD_mkD, lookD_mkD, look_cons]
      by_cases e : d = t
      · subst e; simp only [hnone, if_true]; rfl
      · simp only [e, if_false]
    · rw [look_cons]
      split
      · rename_i e; subst e; exact absurd hnone ht
      · exact hsep t ht
end

section
variable {P : Program} {B : Exit → Act → World → Prop} {n : Fm} {ops : List Oper} {ks : List K} {J : Nat → World → Prop} {R : Nat → World → World → Prop} {X : List (Nat × Nat)} {σ : List Nat} {ρ : Env} {τ : RelEnv} {i : Nat} {w : World}
/-- The end: whatever the order was, the rest goes on in a world of the last stage. -/
theorem DS.nil (hρ : X.all (fun p => (look ρ p.2).isNone) = true) (h : ∀ w, J σ.length w → RelsT τ w ((τ.map Prod.fst).filter fun t => !killed X t) ρ (fun ρ' => N P B n ks ρ' w)) : DS P n ops (sem P n.ro B ks) J R X σ ρ τ i [] := by
  intro hsep a w hsz hdf hv hJ
  have hτ : ∀ t ∈ (τ.map Prod.fst).filter fun t => !killed X t, ∀ A, lookT τ t = some A → ∃ v, a.tmps[t]? = some v ∧ A v w := by
    intro t ht A hA
    have := (List.mem_filter.1 ht).2
    exact hv t (.rel A) (by rw [lookD_mkD, hA]) (by simpa using this)
  obtain ⟨ρ', h1, h2, _, _⟩ := rels_take (h w hJ) hτ
  refine h1 a ⟨hsz, hdf, fun t v hv' => ?_⟩
  rcases h2 t v hv' with ⟨_, _, z⟩ | hh
  · exact z
  · have hnone : lookT τ t = none := by
      cases hA : lookT τ t with
      | none => rfl
      | some A => have := hsep t (by rw [hA]; simp); rw [hh] at this; cases this
    obtain ⟨u, hu, he⟩ := hv t (.eq v) (by rw [lookD_mkD, hnone]; simp [hh]) (by
      cases hk : killed X t with
      | false => rfl
      | true =>
        obtain ⟨p, hp, hpt⟩ := List.any_eq_true.1 hk
        have := List.all_eq_true.1 hρ p hp
        rw [(beq_iff p.2 t).1 hpt, hh] at this; cases this)
    rw [hu]; exact congrArg some he
theorem G.draw [hm : Mixed P] {id : Nat} (σ : List Nat) (J : Nat → World → Prop) (R : Nat → World → World → Prop) (X : List (Nat × Nat)) (hchk : chk ops σ = true) (hkill : chkKill ops X = true) (hσ : σ.all (fun s => Nat.blt s ops.length) = true) (hlt : ρ.all (fun p => Nat.blt p.1 n) = true)
    (hJ : J 0 { w with drawn := w.drawn + 1 }) (h : DS P n ops (sem P n.ro B ks) J R X σ ρ [] 0 ops) : G P B n ks ρ w (.region id ops.toArray true) := by
  intro a ha
  have hlk : ∀ t s, lookD (mkD ρ []) t = some s → ∃ v, look ρ t = some v ∧ s = .eq v := by
    intro t s hs
    rw [lookD_mkD] at hs
    simp only [lookT] at hs
    cases hv : look ρ t with
    | none => rw [hv] at hs; cases hs
    | some v => rw [hv] at hs; cases hs; exact ⟨v, rfl, rfl⟩
  have hmem : ∀ (r : Env) t v, look r t = some v → (t, v) ∈ r := by
    intro r
    induction r with
    | nil => intro t v h; cases h
    | cons p r ih =>
      obtain ⟨s, u⟩ := p
      intro t v h
      rw [look_cons] at h
      split at h
      · rename_i e; subst e; cases h; simp
      · exact List.mem_cons_of_mem _ (ih t v h)
  refine wpIn_region_any hm.h ?_
  have := D.sound (P := P) (Q := sem P n.ro B ks) (R := R) (X := X) hchk hkill (fun s hs => by simpa [Nat.blt_eq] using List.all_eq_true.1 hσ s hs) (fun A t hA => by obtain ⟨v, _, e⟩ := hlk t _ hA; cases e)
    (fun t s hs => by
      obtain ⟨v, hv, _⟩ := hlk t s hs
      have := List.all_eq_true.1 hlt (t, v) (hmem ρ t v hv)
      simpa [Nat.blt_eq] using this) (h (fun t ht => absurd rfl ht)) (a := a) (w := { w with drawn := w.drawn + 1 }) ha.size ha.defers (fun t s hs => by
      obtain ⟨v, hv, rfl⟩ := hlk t s hs
      exact ⟨v, ha.vals t v hv, rfl⟩) hJ
  simpa using this
end

/-! ## Quiet regions: nothing that was there is turned, no stages -/
section
variable (P : Program) (n : Fm) (ops : List Oper) (Q : Exit → Act → World → Prop) (w₀ : World)
def DQ (ρ : Env) (τ : RelEnv) (i : Nat) (l : List Oper) : Prop := DS P n ops Q (fun _ w' => Ext [] w₀ w') (fun _ => Ext []) [] [] ρ τ i l
end
section
variable {P : Program} {n : Fm} {ops : List Oper} {Q : Exit → Act → World → Prop} {w₀ : World}
variable {ρ : Env} {τ : RelEnv} {i : Nat} {rest : List Oper} {d : Nat} {op : Op} {ty : TypeId} {pos : String} {af : Array Edge} {gd : Option (Nat × Bool)}
theorem RelsT.mono {w : World} : ∀ {ts : List Nat} {ρ₀ : Env} {K K' : Env → Prop}, (∀ ρ, K ρ → K' ρ) → RelsT τ w ts ρ₀ K → RelsT τ w ts ρ₀ K' := by
  intro ts
  induction ts with
  | nil => intro ρ₀ K K' hKK hk; exact hKK _ hk
  | cons t ts ih =>
    intro ρ₀ K K' hKK hk
    simp only [RelsT] at hk ⊢
    split
    · rename_i A hA; rw [hA] at hk; intro v hv; exact ih hKK (hk v hv)
    · rename_i hA; rw [hA] at hk; exact ih hKK hk
theorem Q.val {v : Value} (hg : wants ops ρ gd = some true) (hd : Nat.blt d n = true) (hfree : (lookT τ d).isNone = true) (hns : isSelect op = false)
    (h : ∀ w, Ext [] w₀ w → RelsT τ w (slots ops ⟨some d, op, ty, pos, af, gd⟩) ρ (fun ρ' => Runs P n ρ' w ⟨some d, op, ty, pos, af, gd⟩ v w))
    (hnext : DQ P n ops Q w₀ ((d, v) :: ρ) τ (i + 1) rest) : DQ P n ops Q w₀ ρ τ i (⟨some d, op, ty, pos, af, gd⟩ :: rest) :=
  DS.val hg hd hns hfree rfl (Ext.refl _) (fun w _ _ hJ => h w hJ) hnext
theorem Q.new {A : Value → World → Prop} (hA : ∀ v w w', Ext [] w w' → A v w → A v w') (hg : wants ops ρ gd = some true) (hd : Nat.blt d n = true) (hns : isSelect op = false)
    (h : ∀ w, Ext [] w₀ w → RelsT τ w (slots ops ⟨some d, op, ty, pos, af, gd⟩) ρ (fun ρ' => Does P n ρ' w ⟨some d, op, ty, pos, af, gd⟩ (fun v w' => A v w' ∧ Ext [] w w')))
    (hnext : DQ P n ops Q w₀ (dropS d ρ) ((d, A) :: τ) (i + 1) rest) : DQ P n ops Q w₀ ρ τ i (⟨some d, op, ty, pos, af, gd⟩ :: rest) :=
  DS.rel A (fun _ _ _ _ => hA) hg hd hns (fun w _ _ hJ => RelsT.mono (fun _ hk => hk.mono fun _ _ h => ⟨h.1, h.2, hJ.trans0 h.2⟩) (h w hJ)) hnext
theorem Q.valR {A : Value → World → Prop} (hA : ∀ v w w', Ext [] w w' → A v w → A v w') (hg : wants ops ρ gd = some true) (hd : Nat.blt d n = true) (hns : isSelect op = false)
    (h : ∀ w, Ext [] w₀ w → RelsT τ w (slots ops ⟨some d, op, ty, pos, af, gd⟩) ρ (fun ρ' => ∃ v, Runs P n ρ' w ⟨some d, op, ty, pos, af, gd⟩ v w ∧ A v w))
    (hnext : DQ P n ops Q w₀ (dropS d ρ) ((d, A) :: τ) (i + 1) rest) : DQ P n ops Q w₀ ρ τ i (⟨some d, op, ty, pos, af, gd⟩ :: rest) :=
  DS.relv A (fun _ _ _ _ => hA) hg hd hns rfl (Ext.refl _) (fun w _ _ hJ => h w hJ) hnext
theorem Q.pass (hg : wants ops ρ gd = some false) (hd : Nat.blt d n = true) (hfree : (lookT τ d).isNone = true)
    (hnext : DQ P n ops Q w₀ ((d, undef) :: ρ) τ (i + 1) rest) : DQ P n ops Q w₀ ρ τ i (⟨some d, op, ty, pos, af, gd⟩ :: rest) :=
  DS.pass hg hd hfree rfl (Ext.refl _) hnext
theorem Q.call (v : Value) {f : FuncId} {args : Array Operand} {ats : Array TypeId} (hg : wants ops ρ gd = some true) (hd : Nat.blt d n = true) (hfree : (lookT τ d).isNone = true)
    (hc : ∀ (vs : Array Value) w, (callFunc f vs).run P w = .ok (.enter f vs) w)
    (h : ∀ w, Ext [] w₀ w → RelsT τ w (slots ops ⟨some d, .call ⟨.value (.func f), args, ats⟩, ty, pos, af, gd⟩) ρ (fun ρ' => ∃ as, evs ρ' args.toList = some as ∧ Meets P f as w (fun v' w' => v' = v ∧ Ext [] w w')))
    (hnext : DQ P n ops Q w₀ ((d, v) :: ρ) τ (i + 1) rest) : DQ P n ops Q w₀ ρ τ i (⟨some d, .call ⟨.value (.func f), args, ats⟩, ty, pos, af, gd⟩ :: rest) :=
  DS.callEq v (x := .func f) (first := #[]) (cap := #[]) hg hd hfree hc (fun w _ _ hJ => RelsT.mono (fun _ ⟨as, h1, h2⟩ => ⟨as, rfl, h1, by simpa using h2.mono fun _ _ h => ⟨h.1, h.2, hJ.trans0 h.2⟩⟩) (h w hJ)) hnext
theorem Q.callR {A : Value → World → Prop} (hA : ∀ v w w', Ext [] w w' → A v w → A v w') {f : FuncId} {args : Array Operand} {ats : Array TypeId} (hg : wants ops ρ gd = some true) (hd : Nat.blt d n = true)
    (hc : ∀ (vs : Array Value) w, (callFunc f vs).run P w = .ok (.enter f vs) w)
    (h : ∀ w, Ext [] w₀ w → RelsT τ w (slots ops ⟨some d, .call ⟨.value (.func f), args, ats⟩, ty, pos, af, gd⟩) ρ (fun ρ' => ∃ as, evs ρ' args.toList = some as ∧ Meets P f as w (fun v' w' => A v' w' ∧ Ext [] w w')))
    (hnext : DQ P n ops Q w₀ (dropS d ρ) ((d, A) :: τ) (i + 1) rest) : DQ P n ops Q w₀ ρ τ i (⟨some d, .call ⟨.value (.func f), args, ats⟩, ty, pos, af, gd⟩ :: rest) :=
  DS.callRel A (fun _ _ _ _ => hA) (x := .func f) (first := #[]) (cap := #[]) hg hd hc (fun w _ _ hJ => RelsT.mono (fun _ ⟨as, h1, h2⟩ => ⟨as, rfl, h1, by simpa using h2.mono fun _ _ h => ⟨h.1, h.2, hJ.trans0 h.2⟩⟩) (h w hJ)) hnext
theorem Q.be {v v' : Value} (d : Nat) (hv : look ρ d = some v) (e : v = v') (h : DQ P n ops Q w₀ ((d, v') :: ρ) τ i rest) : DQ P n ops Q w₀ ρ τ i rest := DS.be d hv e h
theorem Q.isT {b : Bool} (d : Nat) (hv : look ρ d = some (.bool b)) (e : b = true) (h : DQ P n ops Q w₀ ((d, .bool true) :: ρ) τ i rest) : DQ P n ops Q w₀ ρ τ i rest := DS.isT d hv e h
theorem Q.isF {b : Bool} (d : Nat) (hv : look ρ d = some (.bool b)) (e : b = false) (h : DQ P n ops Q w₀ ((d, .bool false) :: ρ) τ i rest) : DQ P n ops Q w₀ ρ τ i rest := DS.isF d hv e h
theorem Q.caseB {b : Bool} (d : Nat) (hv : look ρ d = some (.bool b)) (ht : b = true → DQ P n ops Q w₀ ((d, .bool true) :: ρ) τ i rest) (hf : b = false → DQ P n ops Q w₀ ((d, .bool false) :: ρ) τ i rest) : DQ P n ops Q w₀ ρ τ i rest := DS.caseB d hv ht hf
theorem Q.caseP {p : Prop} {dp : Decidable p} (d : Nat) (hv : look ρ d = some (.bool (@decide p dp))) (ht : p → DQ P n ops Q w₀ ((d, .bool true) :: ρ) τ i rest) (hf : ¬ p → DQ P n ops Q w₀ ((d, .bool false) :: ρ) τ i rest) : DQ P n ops Q w₀ ρ τ i rest := DS.caseP d hv ht hf
end
section
variable {P : Program} {B : Exit → Act → World → Prop} {n : Fm} {ops : List Oper} {ks : List K} {ρ : Env} {τ : RelEnv} {i : Nat} {w : World}
theorem Q.nil (h : ∀ w', Ext [] w w' → RelsT τ w' (τ.map Prod.fst) ρ (fun ρ' => N P B n ks ρ' w')) : DQ P n ops (sem P n.ro B ks) w ρ τ i [] :=
  DS.nil rfl (fun w' hJ => by
    have e : (τ.map Prod.fst).filter (fun t => !killed [] t) = τ.map Prod.fst := List.filter_eq_self.2 (fun _ _ => rfl)
    rw [e]; exact h w' hJ)
theorem G.quiet [Mixed P] {id : Nat} (hchk : chk ops [] = true) (hlt : ρ.all (fun p => Nat.blt p.1 n) = true) (h : DQ P n ops (sem P n.ro B ks) w ρ [] 0 ops) : G P B n ks ρ w (.region id ops.toArray true) :=
  G.draw [] _ _ [] hchk rfl rfl hlt (Ext.drawn w) h
end

/-! ## Regions in which some operations (ws) write in blocks that are younger than the region -/
/-- What an operation may do. -/
def RW (w₀ : World) (ws : List Nat) (i : Nat) (w w' : World) : Prop := RowKit.Below w₀.heap.size w w' ∧ (ws.any (Nat.beq i) = false → Ext [] w w')
theorem RW.refl (w₀ : World) (ws : List Nat) (i : Nat) (w : World) : RW w₀ ws i w w := ⟨RowKit.Below.refl _ _, fun _ => Ext.refl _ _⟩
theorem RW.of {w₀ w w' : World} {ws : List Nat} {i : Nat} (hJ : Ext [] w₀ w) (h : Ext [] w w') : RW w₀ ws i w w' :=
  ⟨⟨h.os, h.tape, h.output, h.size, fun k hk => h.keep k (Nat.lt_of_lt_of_le hk hJ.size) (by simp)⟩, fun _ => h⟩
theorem Ext.then_below {w₀ w w' : World} (hJ : Ext [] w₀ w) (h : RowKit.Below w₀.heap.size w w') : Ext [] w₀ w' := Ext.of_below ((Ext.below hJ).trans h)
theorem Ext.below_of {M : List Nat} {w₀ w w' : World} (hJ : Ext [] w₀ w) (h : Ext M w w') (hM : ∀ b ∈ M, w₀.heap.size ≤ b) : RowKit.Below w₀.heap.size w w' :=
  ⟨h.os, h.tape, h.output, h.size, fun k hk => h.keep k (Nat.lt_of_lt_of_le hk hJ.size) (fun hm => by have := hM k hm; omega)⟩
/-- The writers that a fact on slot d does not outlive must be on the list of kills, or come first. -/
def chkW (ops : List Oper) (X : List (Nat × Nat)) (ws : List Nat) (d i : Nat) : Bool :=
  ws.all fun j => X.any (fun p => Nat.beq p.1 j && Nat.beq p.2 d) || reachIn (masks ops ops.length) i j || Nat.beq j i
theorem chkW_spec {ops : List Oper} {X : List (Nat × Nat)} {ws : List Nat} {d i : Nat} (h : chkW ops X ws d i = true) {w₀ : World} {A : Value → World → Prop} (hA : ∀ v w w', Ext [] w w' → A v w → A v w') :
    ∀ i', (i', d) ∉ X → reachIn (masks ops ops.length) i i' = false → i' ≠ i → ∀ v w w', RW w₀ ws i' w w' → A v w → A v w' := by
  intro i' hx hr hne v w w' hR
  refine hA v w w' (hR.2 ?_)
  cases hq : ws.any (Nat.beq i') with
  | false => rfl
  | true =>
    obtain ⟨j, hj, e⟩ := List.any_eq_true.1 hq
    obtain rfl := (beq_iff i' j).1 e
    have := List.all_eq_true.1 h i' hj
    simp only [Bool.or_eq_true, List.any_eq_true, Bool.and_eq_true, beq_iff] at this
    rcases this with (⟨p, hp, e1, e2⟩ | h1) | h1
    · obtain ⟨x, y⟩ := p
      simp only at e1 e2
      subst e1; subst e2
      exact absurd hp hx
    · rw [h1] at hr; cases hr
    · exact absurd h1 hne
section
variable (P : Program) (n : Fm) (ops : List Oper) (Q : Exit → Act → World → Prop) (w₀ : World) (ws : List Nat) (X : List (Nat × Nat))
def DW (ρ : Env) (τ : RelEnv) (i : Nat) (l : List Oper) : Prop := DS P n ops Q (fun _ w' => Ext [] w₀ w') (RW w₀ ws) X [] ρ τ i l
end
section
variable {P : Program} {n : Fm} {ops : List Oper} {Q : Exit → Act → World → Prop} {w₀ : World} {ws : List Nat} {X : List (Nat × Nat)}
variable {ρ : Env} {τ : RelEnv} {i : Nat} {rest : List Oper} {d : Nat} {op : Op} {ty : TypeId} {pos : String} {af : Array Edge} {gd : Option (Nat × Bool)}
theorem W.val {v : Value} (hg : wants ops ρ gd = some true) (hd : Nat.blt d n = true) (hfree : (lookT τ d).isNone = true) (hns : isSelect op = false)
    (h : ∀ w, Ext [] w₀ w → RelsT τ w (slots ops ⟨some d, op, ty, pos, af, gd⟩) ρ (fun ρ' => Runs P n ρ' w ⟨some d, op, ty, pos, af, gd⟩ v w))
    (hnext : DW P n ops Q w₀ ws X ((d, v) :: ρ) τ (i + 1) rest) : DW P n ops Q w₀ ws X ρ τ i (⟨some d, op, ty, pos, af, gd⟩ :: rest) :=
  DS.val hg hd hns hfree rfl (RW.refl _ _ _) (fun w _ _ hJ => h w hJ) hnext
theorem W.new {A : Value → World → Prop} (hA : ∀ v w w', Ext [] w w' → A v w → A v w') (hw : chkW ops X ws d i = true) (hg : wants ops ρ gd = some true) (hd : Nat.blt d n = true) (hns : isSelect op = false)
    (h : ∀ w, Ext [] w₀ w → RelsT τ w (slots ops ⟨some d, op, ty, pos, af, gd⟩) ρ (fun ρ' => Does P n ρ' w ⟨some d, op, ty, pos, af, gd⟩ (fun v w' => A v w' ∧ Ext [] w w')))
    (hnext : DW P n ops Q w₀ ws X (dropS d ρ) ((d, A) :: τ) (i + 1) rest) : DW P n ops Q w₀ ws X ρ τ i (⟨some d, op, ty, pos, af, gd⟩ :: rest) :=
  DS.rel A (chkW_spec hw hA) hg hd hns (fun w _ _ hJ => RelsT.mono (fun _ hk => hk.mono fun _ _ h => ⟨h.1, RW.of hJ h.2, hJ.trans0 h.2⟩) (h w hJ)) hnext
/-- An operation that writes. -/
theorem W.put {A : Value → World → Prop} (hA : ∀ v w w', Ext [] w w' → A v w → A v w') (hw : chkW ops X ws d i = true) (hi : ws.any (Nat.beq i) = true) (hg : wants ops ρ gd = some true) (hd : Nat.blt d n = true) (hns : isSelect op = false)
    (h : ∀ w, Ext [] w₀ w → RelsT τ w (slots ops ⟨some d, op, ty, pos, af, gd⟩) ρ (fun ρ' => Does P n ρ' w ⟨some d, op, ty, pos, af, gd⟩ (fun v w' => A v w' ∧ RowKit.Below w₀.heap.size w w')))
    (hnext : DW P n ops Q w₀ ws X (dropS d ρ) ((d, A) :: τ) (i + 1) rest) : DW P n ops Q w₀ ws X ρ τ i (⟨some d, op, ty, pos, af, gd⟩ :: rest) :=
  DS.rel A (chkW_spec hw hA) hg hd hns (fun w _ _ hJ => RelsT.mono (fun _ hk => hk.mono fun _ _ h => ⟨h.1, ⟨h.2, fun e => by rw [hi] at e; cases e⟩, hJ.then_below h.2⟩) (h w hJ)) hnext
theorem W.valR {A : Value → World → Prop} (hA : ∀ v w w', Ext [] w w' → A v w → A v w') (hw : chkW ops X ws d i = true) (hg : wants ops ρ gd = some true) (hd : Nat.blt d n = true) (hns : isSelect op = false)
    (h : ∀ w, Ext [] w₀ w → RelsT τ w (slots ops ⟨some d, op, ty, pos, af, gd⟩) ρ (fun ρ' => ∃ v, Runs P n ρ' w ⟨some d, op, ty, pos, af, gd⟩ v w ∧ A v w))
    (hnext : DW P n ops Q w₀ ws X (dropS d ρ) ((d, A) :: τ) (i + 1) rest) : DW P n ops Q w₀ ws X ρ τ i (⟨some d, op, ty, pos, af, gd⟩ :: rest) :=
  DS.relv A (chkW_spec hw hA) hg hd hns rfl (RW.refl _ _ _) (fun w _ _ hJ => h w hJ) hnext
theorem W.pass (hg : wants ops ρ gd = some false) (hd : Nat.blt d n = true) (hfree : (lookT τ d).isNone = true)
    (hnext : DW P n ops Q w₀ ws X ((d, undef) :: ρ) τ (i + 1) rest) : DW P n ops Q w₀ ws X ρ τ i (⟨some d, op, ty, pos, af, gd⟩ :: rest) :=
  DS.pass hg hd hfree rfl (RW.refl _ _ _) hnext
theorem W.call (v : Value) {f : FuncId} {args : Array Operand} {ats : Array TypeId} (hg : wants ops ρ gd = some true) (hd : Nat.blt d n = true) (hfree : (lookT τ d).isNone = true)
    (hc : ∀ (vs : Array Value) w, (callFunc f vs).run P w = .ok (.enter f vs) w)
    (h : ∀ w, Ext [] w₀ w → RelsT τ w (slots ops ⟨some d, .call ⟨.value (.func f), args, ats⟩, ty, pos, af, gd⟩) ρ (fun ρ' => ∃ as, evs ρ' args.toList = some as ∧ Meets P f as w (fun v' w' => v' = v ∧ Ext [] w w')))
    (hnext : DW P n ops Q w₀ ws X ((d, v) :: ρ) τ (i + 1) rest) : DW P n ops Q w₀ ws X ρ τ i (⟨some d, .call ⟨.value (.func f), args, ats⟩, ty, pos, af, gd⟩ :: rest) :=
  DS.callEq v (x := .func f) (first := #[]) (cap := #[]) hg hd hfree hc (fun w _ _ hJ => RelsT.mono (fun _ ⟨as, h1, h2⟩ => ⟨as, rfl, h1, by simpa using h2.mono fun _ _ h => ⟨h.1, RW.of hJ h.2, hJ.trans0 h.2⟩⟩) (h w hJ)) hnext
theorem W.callR {A : Value → World → Prop} (hA : ∀ v w w', Ext [] w w' → A v w → A v w') (hw : chkW ops X ws d i = true) {f : FuncId} {args : Array Operand} {ats : Array TypeId} (hg : wants ops ρ gd = some true) (hd : Nat.blt d n = true)
    (hc : ∀ (vs : Array Value) w, (callFunc f vs).run P w = .ok (.enter f vs) w)
    (h : ∀ w, Ext [] w₀ w → RelsT τ w (slots ops ⟨some d, .call ⟨.value (.func f), args, ats⟩, ty, pos, af, gd⟩) ρ (fun ρ' => ∃ as, evs ρ' args.toList = some as ∧ Meets P f as w (fun v' w' => A v' w' ∧ Ext [] w w')))
    (hnext : DW P n ops Q w₀ ws X (dropS d ρ) ((d, A) :: τ) (i + 1) rest) : DW P n ops Q w₀ ws X ρ τ i (⟨some d, .call ⟨.value (.func f), args, ats⟩, ty, pos, af, gd⟩ :: rest) :=
  DS.callRel A (chkW_spec hw hA) (x := .func f) (first := #[]) (cap := #[]) hg hd hc (fun w _ _ hJ => RelsT.mono (fun _ ⟨as, h1, h2⟩ => ⟨as, rfl, h1, by simpa using h2.mono fun _ _ h => ⟨h.1, RW.of hJ h.2, hJ.trans0 h.2⟩⟩) (h w hJ)) hnext
theorem W.be {v v' : Value} (d : Nat) (hv : look ρ d = some v) (e : v = v') (h : DW P n ops Q w₀ ws X ((d, v') :: ρ) τ i rest) : DW P n ops Q w₀ ws X ρ τ i rest := DS.be d hv e h
theorem W.isT {b : Bool} (d : Nat) (hv : look ρ d = some (.bool b)) (e : b = true) (h : DW P n ops Q w₀ ws X ((d, .bool true) :: ρ) τ i rest) : DW P n ops Q w₀ ws X ρ τ i rest := DS.isT d hv e h
theorem W.isF {b : Bool} (d : Nat) (hv : look ρ d = some (.bool b)) (e : b = false) (h : DW P n ops Q w₀ ws X ((d, .bool false) :: ρ) τ i rest) : DW P n ops Q w₀ ws X ρ τ i rest := DS.isF d hv e h
theorem W.caseB {b : Bool} (d : Nat) (hv : look ρ d = some (.bool b)) (ht : b = true → DW P n ops Q w₀ ws X ((d, .bool true) :: ρ) τ i rest) (hf : b = false → DW P n ops Q w₀ ws X ((d, .bool false) :: ρ) τ i rest) : DW P n ops Q w₀ ws X ρ τ i rest := DS.caseB d hv ht hf
theorem W.caseP {p : Prop} {dp : Decidable p} (d : Nat) (hv : look ρ d = some (.bool (@decide p dp))) (ht : p → DW P n ops Q w₀ ws X ((d, .bool true) :: ρ) τ i rest) (hf : ¬ p → DW P n ops Q w₀ ws X ((d, .bool false) :: ρ) τ i rest) : DW P n ops Q w₀ ws X ρ τ i rest := DS.caseP d hv ht hf
end
section
variable {P : Program} {B : Exit → Act → World → Prop} {n : Fm} {ops : List Oper} {ks : List K} {ρ : Env} {τ : RelEnv} {i : Nat} {w : World} {ws : List Nat} {X : List (Nat × Nat)}
theorem W.nil (hρ : X.all (fun p => (look ρ p.2).isNone) = true) (h : ∀ w', Ext [] w w' → RelsT τ w' ((τ.map Prod.fst).filter fun t => !killed X t) ρ (fun ρ' => N P B n ks ρ' w')) : DW P n ops (sem P n.ro B ks) w ws X ρ τ i [] :=
  DS.nil hρ h
theorem G.writes [Mixed P] {id : Nat} (ws : List Nat) (X : List (Nat × Nat)) (hchk : chk ops [] = true) (hkill : chkKill ops X = true) (hlt : ρ.all (fun p => Nat.blt p.1 n) = true) (h : DW P n ops (sem P n.ro B ks) w ws X ρ [] 0 ops) : G P B n ks ρ w (.region id ops.toArray true) :=
  G.draw [] _ _ X hchk hkill rfl hlt (Ext.drawn w) h
end

/-! ## Regions in stages: the operations σ, one behind the other, turn what was there; Ms: the blocks that each may turn -/
def stage (Js : List (World → Prop)) (k : Nat) (w : World) : Prop := ∃ Ψ, Js[k]? = some Ψ ∧ Ψ w
/-- What a step may turn: these blocks; or whatever lies above s. -/
inductive Foot where
  | blocks (M : List Nat)
  | above (s : Nat)
structure Above (s : Nat) (w w' : World) : Prop where
  os : w'.os = w.os
  tape : w'.tape = w.tape
  output : w'.output = w.output
  size : w.heap.size ≤ w'.heap.size
  keep : ∀ k, k < w.heap.size → k < s → w'.heap[k]? = w.heap[k]?
theorem Above.refl (s : Nat) (w : World) : Above s w w := ⟨rfl, rfl, rfl, Nat.le_refl _, fun _ _ _ => rfl⟩
theorem Above.of {s : Nat} {M : List Nat} {w w' : World} (h : Ext M w w') (hM : ∀ g ∈ M, s ≤ g) : Above s w w' :=
  ⟨h.os, h.tape, h.output, h.size, fun k hk hs => h.keep k hk (fun hm => absurd (hM k hm) (by omega))⟩
theorem Above.trans {s : Nat} {a b c : World} (h : Above s a b) (k : Above s b c) : Above s a c :=
  ⟨k.os.trans h.os, k.tape.trans h.tape, k.output.trans h.output, Nat.le_trans h.size k.size, fun i hi hs => (k.keep i (Nat.lt_of_lt_of_le hi h.size) hs).trans (h.keep i hi hs)⟩
theorem Above.ext {s : Nat} {w₀ w w' : World} (h : Ext [] w₀ w) (hs : s = w₀.heap.size) (k : Above s w w') : Ext [] w₀ w' :=
  ⟨k.os.trans h.os, k.tape.trans h.tape, k.output.trans h.output, Nat.le_trans h.size k.size, fun i hi _ => (k.keep i (Nat.lt_of_lt_of_le hi h.size) (by omega)).trans (h.keep i hi (by simp))⟩
def Foot.ok : Foot → World → World → Prop
  | .blocks M, w, w' => Ext M w w'
  | .above s, w, w' => Above s w w'
def footOf : List Nat → List Foot → Nat → Foot
  | s :: σ, M :: Ms, i => match Nat.beq s i with
    | true => M
    | false => footOf σ Ms i
  | _, _, _ => .blocks []
theorem footOf_none : ∀ {σ : List Nat} {Ms : List Foot} {i : Nat}, σ.any (Nat.beq i) = false → footOf σ Ms i = .blocks []
  | [], _, _, _ => rfl
  | _ :: _, [], _, _ => rfl
  | s :: σ, M :: Ms, i, h => by
    simp only [List.any_cons, Bool.or_eq_false_iff] at h
    have h1 : Nat.beq s i = false := by
      cases hq : Nat.beq s i with
      | false => rfl
      | true => rw [(beq_iff s i).1 hq, (beq_iff i i).2 rfl] at h; cases h.1
    unfold footOf
    rw [h1]
    exact footOf_none h.2
theorem footOf_mem : ∀ (σ : List Nat) (Ms : List Foot) (i : Nat), footOf σ Ms i ∈ Foot.blocks [] :: Ms
  | [], _, _ => by simp [footOf]
  | _ :: _, [], _ => by simp [footOf]
  | s :: σ, M :: Ms, i => by
    unfold footOf
    split
    · simp
    · have := footOf_mem σ Ms i
      simp only [List.mem_cons] at this ⊢
      exact this.imp id .inr
def RS (σ : List Nat) (Ms : List Foot) (i : Nat) (w w' : World) : Prop := (footOf σ Ms i).ok w w'
theorem RS.of {σ : List Nat} {Ms : List Foot} {i : Nat} {M : Foot} {w w' : World} (hM : footOf σ Ms i = M) (h : M.ok w w') : RS σ Ms i w w' := by unfold RS; rw [hM]; exact h
theorem RS.of0 {σ : List Nat} {Ms : List Foot} {i : Nat} {w w' : World} (h : Ext [] w w') : RS σ Ms i w w' := by
  unfold RS
  cases footOf σ Ms i with
  | blocks M => exact h.mono (by simp)
  | above s => exact Above.of h (by simp)
/-- A fact on slot d that operation i finds lasts: .. -/
def Lasts (ops : List Oper) (X : List (Nat × Nat)) (σ : List Nat) (Ms : List Foot) (d i : Nat) (A : Value → World → Prop) : Prop :=
  ∀ i', (i', d) ∉ X → reachIn (masks ops ops.length) i i' = false → i' ≠ i → ∀ v w w', RS σ Ms i' w w' → A v w → A v w'
/-- .. the steps that it does not outlive give it up, or come first; -/
theorem Lasts.kill {ops : List Oper} {X : List (Nat × Nat)} {σ : List Nat} {Ms : List Foot} {d i : Nat} {A : Value → World → Prop} (hA : ∀ v w w', Ext [] w w' → A v w → A v w') (h : chkW ops X σ d i = true) : Lasts ops X σ Ms d i A := by
  intro i' hx hr hne v w w' hR
  cases hq : σ.any (Nat.beq i') with
  | false => exact hA v w w' (by unfold RS at hR; rwa [footOf_none hq] at hR)
  | true =>
    exfalso
    obtain ⟨j, hj, e⟩ := List.any_eq_true.1 hq
    obtain rfl := (beq_iff i' j).1 e
    have := List.all_eq_true.1 h i' hj
    simp only [Bool.or_eq_true, List.any_eq_true, Bool.and_eq_true, beq_iff] at this
    rcases this with (⟨p, hp, e1, e2⟩ | h1) | h1
    · obtain ⟨x, y⟩ := p
      simp only at e1 e2
      subst e1; subst e2
      exact absurd hp hx
    · rw [h1] at hr; cases hr
    · exact absurd h1 hne
/-- .. or no step touches it. -/
theorem Lasts.apart {ops : List Oper} {X : List (Nat × Nat)} {σ : List Nat} {Ms : List Foot} {d i : Nat} {A : Value → World → Prop} (hA : ∀ M ∈ Foot.blocks [] :: Ms, ∀ v w w', M.ok w w' → A v w → A v w') : Lasts ops X σ Ms d i A :=
  fun i' _ _ _ v w w' hR => hA _ (footOf_mem σ Ms i') v w w' hR
/-- Operation i runs at stage k0, and at no other. -/
def atStage (ops : List Oper) (σ : List Nat) (i k0 : Nat) : Bool := Nat.beq (loF (masks ops ops.length) i σ 0 0) k0 && Nat.beq (hiF (masks ops ops.length) i σ 0) k0
theorem atStage_eq {ops : List Oper} {σ : List Nat} {i k0 k : Nat} (h : atStage ops σ i k0 = true) (hr : inRng ops σ i k) : k = k0 := by
  unfold atStage at h
  rw [Bool.and_eq_true, beq_iff, beq_iff] at h
  unfold inRng at hr
  omega
theorem stage_at {Js : List (World → Prop)} {k : Nat} {Ψ : World → Prop} {w : World} (hΨ : Js[k]? = some Ψ) (h : stage Js k w) : Ψ w := by
  obtain ⟨Ψ', h1, h2⟩ := h
  rw [hΨ] at h1; cases h1; exact h2
theorem stage_all {Js : List (World → Prop)} {k : Nat} {w : World} {I : World → Prop} (h : ∀ Ψ ∈ Js, ∀ w, Ψ w → I w) (hs : stage Js k w) : I w := by
  obtain ⟨Ψ, h1, h2⟩ := hs
  exact h Ψ (List.mem_of_getElem? h1) w h2
section
variable (P : Program) (n : Fm) (ops : List Oper) (Q : Exit → Act → World → Prop) (Js : List (World → Prop)) (σ : List Nat) (Ms : List Foot) (X : List (Nat × Nat))
def DZ (ρ : Env) (τ : RelEnv) (i : Nat) (l : List Oper) : Prop := DS P n ops Q (stage Js) (RS σ Ms) X σ ρ τ i l
end
section
variable {P : Program} {n : Fm} {ops : List Oper} {Q : Exit → Act → World → Prop} {Js : List (World → Prop)} {σ : List Nat} {Ms : List Foot} {X : List (Nat × Nat)}
variable {ρ : Env} {τ : RelEnv} {i : Nat} {rest : List Oper} {d : Nat} {op : Op} {ty : TypeId} {pos : String} {af : Array Edge} {gd : Option (Nat × Bool)}
/-- An operation that only reckons. -/
theorem Z.val {v : Value} (hst : stepsOf σ i = 0) (hg : wants ops ρ gd = some true) (hd : Nat.blt d n = true) (hfree : (lookT τ d).isNone = true) (hns : isSelect op = false)
    (h : ∀ w, RelsT τ w (slots ops ⟨some d, op, ty, pos, af, gd⟩) ρ (fun ρ' => Runs P n ρ' w ⟨some d, op, ty, pos, af, gd⟩ v w))
    (hnext : DZ P n ops Q Js σ Ms X ((d, v) :: ρ) τ (i + 1) rest) : DZ P n ops Q Js σ Ms X ρ τ i (⟨some d, op, ty, pos, af, gd⟩ :: rest) :=
  DS.val hg hd hns hfree hst (fun w => RS.of0 (Ext.refl _ w)) (fun w _ _ _ => h w) hnext
/-- One that reads, at a known stage. -/
theorem Z.read {v : Value} (k0 : Nat) (hk : atStage ops σ i k0 = true) {Ψ : World → Prop} (hΨ : Js[k0]? = some Ψ) (hst : stepsOf σ i = 0) (hg : wants ops ρ gd = some true) (hd : Nat.blt d n = true) (hfree : (lookT τ d).isNone = true) (hns : isSelect op = false)
    (h : ∀ w, Ψ w → RelsT τ w (slots ops ⟨some d, op, ty, pos, af, gd⟩) ρ (fun ρ' => Runs P n ρ' w ⟨some d, op, ty, pos, af, gd⟩ v w))
    (hnext : DZ P n ops Q Js σ Ms X ((d, v) :: ρ) τ (i + 1) rest) : DZ P n ops Q Js σ Ms X ρ τ i (⟨some d, op, ty, pos, af, gd⟩ :: rest) :=
  DS.val hg hd hns hfree hst (fun w => RS.of0 (Ext.refl _ w)) (fun w k hr hJ => by obtain rfl := atStage_eq hk hr; exact h w (stage_at hΨ hJ)) hnext
/-- One that reads what holds at all stages. -/
theorem Z.readI {v : Value} {I : World → Prop} (hI : ∀ k w, stage Js k w → I w) (hst : stepsOf σ i = 0) (hg : wants ops ρ gd = some true) (hd : Nat.blt d n = true) (hfree : (lookT τ d).isNone = true) (hns : isSelect op = false)
    (h : ∀ w, I w → RelsT τ w (slots ops ⟨some d, op, ty, pos, af, gd⟩) ρ (fun ρ' => Runs P n ρ' w ⟨some d, op, ty, pos, af, gd⟩ v w))
    (hnext : DZ P n ops Q Js σ Ms X ((d, v) :: ρ) τ (i + 1) rest) : DZ P n ops Q Js σ Ms X ρ τ i (⟨some d, op, ty, pos, af, gd⟩ :: rest) :=
  DS.val hg hd hns hfree hst (fun w => RS.of0 (Ext.refl _ w)) (fun w k _ hJ => h w (hI k w hJ)) hnext
/-- One whose result is known by a fact. -/
theorem Z.valR {A : Value → World → Prop} (hA : Lasts ops X σ Ms d i A) (hst : stepsOf σ i = 0) (hg : wants ops ρ gd = some true) (hd : Nat.blt d n = true) (hns : isSelect op = false)
    (h : ∀ w, RelsT τ w (slots ops ⟨some d, op, ty, pos, af, gd⟩) ρ (fun ρ' => ∃ v, Runs P n ρ' w ⟨some d, op, ty, pos, af, gd⟩ v w ∧ A v w))
    (hnext : DZ P n ops Q Js σ Ms X (dropS d ρ) ((d, A) :: τ) (i + 1) rest) : DZ P n ops Q Js σ Ms X ρ τ i (⟨some d, op, ty, pos, af, gd⟩ :: rest) :=
  DS.relv A hA hg hd hns hst (fun w => RS.of0 (Ext.refl _ w)) (fun w _ _ _ => h w) hnext
/-- One that makes something new, at a known stage. -/
theorem Z.new {A : Value → World → Prop} (hA : Lasts ops X σ Ms d i A) (k0 : Nat) (hk : atStage ops σ i k0 = true) {Ψ : World → Prop} (hΨ : Js[k0]? = some Ψ) (hst : stepsOf σ i = 0)
    (hg : wants ops ρ gd = some true) (hd : Nat.blt d n = true) (hns : isSelect op = false)
    (h : ∀ w, Ψ w → RelsT τ w (slots ops ⟨some d, op, ty, pos, af, gd⟩) ρ (fun ρ' => Does P n ρ' w ⟨some d, op, ty, pos, af, gd⟩ (fun v w' => A v w' ∧ Ext [] w w' ∧ Ψ w')))
    (hnext : DZ P n ops Q Js σ Ms X (dropS d ρ) ((d, A) :: τ) (i + 1) rest) : DZ P n ops Q Js σ Ms X ρ τ i (⟨some d, op, ty, pos, af, gd⟩ :: rest) :=
  DS.rel A hA hg hd hns (fun w k hr hJ => by
    obtain rfl := atStage_eq hk hr
    refine RelsT.mono (fun _ hx => hx.mono fun _ _ h => ⟨h.1, RS.of0 h.2.1, ?_⟩) (h w (stage_at hΨ hJ))
    rw [hst]; exact ⟨_, hΨ, h.2.2⟩) hnext
/-- A step, with a result. -/
theorem Z.put {A : Value → World → Prop} (hA : Lasts ops X σ Ms d i A) (k0 : Nat) (hk : atStage ops σ i k0 = true) {Ψ Ψ' : World → Prop} {M : Foot} (hΨ : Js[k0]? = some Ψ) (hΨ' : Js[k0 + 1]? = some Ψ') (hi : σ.any (Nat.beq i) = true) (hM : footOf σ Ms i = M)
    (hg : wants ops ρ gd = some true) (hd : Nat.blt d n = true) (hns : isSelect op = false)
    (h : ∀ w, Ψ w → RelsT τ w (slots ops ⟨some d, op, ty, pos, af, gd⟩) ρ (fun ρ' => Does P n ρ' w ⟨some d, op, ty, pos, af, gd⟩ (fun v w' => A v w' ∧ M.ok w w' ∧ Ψ' w')))
    (hnext : DZ P n ops Q Js σ Ms X (dropS d ρ) ((d, A) :: τ) (i + 1) rest) : DZ P n ops Q Js σ Ms X ρ τ i (⟨some d, op, ty, pos, af, gd⟩ :: rest) :=
  DS.rel A hA hg hd hns (fun w k hr hJ => by
    obtain rfl := atStage_eq hk hr
    refine RelsT.mono (fun _ hx => hx.mono fun _ _ h => ⟨h.1, RS.of hM h.2.1, ?_⟩) (h w (stage_at hΨ hJ))
    unfold stepsOf; rw [hi]; exact ⟨_, hΨ', h.2.2⟩) hnext
/-- A step: a store. -/
theorem Z.set (k0 : Nat) (hk : atStage ops σ i k0 = true) {Ψ Ψ' : World → Prop} {M : Foot} (hΨ : Js[k0]? = some Ψ) (hΨ' : Js[k0 + 1]? = some Ψ') (hi : σ.any (Nat.beq i) = true) (hM : footOf σ Ms i = M) (hg : wants ops ρ gd = some true) (hns : isSelect op = false)
    (h : ∀ w, Ψ w → RelsT τ w (slots ops ⟨none, op, ty, pos, af, gd⟩) ρ (fun ρ' => Sets P n ρ' w ⟨none, op, ty, pos, af, gd⟩ (fun w' => M.ok w w' ∧ Ψ' w')))
    (hnext : DZ P n ops Q Js σ Ms X ρ τ (i + 1) rest) : DZ P n ops Q Js σ Ms X ρ τ i (⟨none, op, ty, pos, af, gd⟩ :: rest) :=
  DS.set hg hns (fun w k hr hJ => by
    obtain rfl := atStage_eq hk hr
    refine RelsT.mono (fun _ ⟨w', hx, hp⟩ => ⟨w', hx, RS.of hM hp.1, ?_⟩) (h w (stage_at hΨ hJ))
    unfold stepsOf; rw [hi]; exact ⟨_, hΨ', hp.2⟩) hnext
theorem Z.pass (hst : stepsOf σ i = 0) (hg : wants ops ρ gd = some false) (hd : Nat.blt d n = true) (hfree : (lookT τ d).isNone = true)
    (hnext : DZ P n ops Q Js σ Ms X ((d, undef) :: ρ) τ (i + 1) rest) : DZ P n ops Q Js σ Ms X ρ τ i (⟨some d, op, ty, pos, af, gd⟩ :: rest) :=
  DS.pass hg hd hfree hst (fun w => RS.of0 (Ext.refl _ w)) hnext
theorem Z.call (v : Value) (k0 : Nat) {f : FuncId} {args : Array Operand} {ats : Array TypeId} (hk : atStage ops σ i k0 = true) {Ψ : World → Prop} (hΨ : Js[k0]? = some Ψ) (hst : stepsOf σ i = 0) (hg : wants ops ρ gd = some true) (hd : Nat.blt d n = true) (hfree : (lookT τ d).isNone = true)
    (hc : ∀ (vs : Array Value) w, (callFunc f vs).run P w = .ok (.enter f vs) w)
    (h : ∀ w, Ψ w → RelsT τ w (slots ops ⟨some d, .call ⟨.value (.func f), args, ats⟩, ty, pos, af, gd⟩) ρ (fun ρ' => ∃ as, evs ρ' args.toList = some as ∧ Meets P f as w (fun v' w' => v' = v ∧ Ext [] w w' ∧ Ψ w')))
    (hnext : DZ P n ops Q Js σ Ms X ((d, v) :: ρ) τ (i + 1) rest) : DZ P n ops Q Js σ Ms X ρ τ i (⟨some d, .call ⟨.value (.func f), args, ats⟩, ty, pos, af, gd⟩ :: rest) :=
  DS.callEq v (x := .func f) (first := #[]) (cap := #[]) hg hd hfree hc (fun w k hr hJ => by
    obtain rfl := atStage_eq hk hr
    refine RelsT.mono (fun _ ⟨as, h1, h2⟩ => ⟨as, rfl, h1, by simpa using h2.mono fun _ _ h => ⟨h.1, RS.of0 h.2.1, by rw [hst]; exact ⟨_, hΨ, h.2.2⟩⟩⟩) (h w (stage_at hΨ hJ))) hnext
/-- A call that makes something new. -/
theorem Z.callR {A : Value → World → Prop} (hA : Lasts ops X σ Ms d i A) (k0 : Nat) {f : FuncId} {args : Array Operand} {ats : Array TypeId} (hk : atStage ops σ i k0 = true) {Ψ : World → Prop} (hΨ : Js[k0]? = some Ψ) (hst : stepsOf σ i = 0) (hg : wants ops ρ gd = some true) (hd : Nat.blt d n = true)
    (hc : ∀ (vs : Array Value) w, (callFunc f vs).run P w = .ok (.enter f vs) w)
    (h : ∀ w, Ψ w → RelsT τ w (slots ops ⟨some d, .call ⟨.value (.func f), args, ats⟩, ty, pos, af, gd⟩) ρ (fun ρ' => ∃ as, evs ρ' args.toList = some as ∧ Meets P f as w (fun v' w' => A v' w' ∧ Ext [] w w' ∧ Ψ w')))
    (hnext : DZ P n ops Q Js σ Ms X (dropS d ρ) ((d, A) :: τ) (i + 1) rest) : DZ P n ops Q Js σ Ms X ρ τ i (⟨some d, .call ⟨.value (.func f), args, ats⟩, ty, pos, af, gd⟩ :: rest) :=
  DS.callRel A hA (x := .func f) (first := #[]) (cap := #[]) hg hd hc (fun w k hr hJ => by
    obtain rfl := atStage_eq hk hr
    refine RelsT.mono (fun _ ⟨as, h1, h2⟩ => ⟨as, rfl, h1, by simpa using h2.mono fun _ _ h => ⟨h.1, RS.of0 h.2.1, by rw [hst]; exact ⟨_, hΨ, h.2.2⟩⟩⟩) (h w (stage_at hΨ hJ))) hnext
/-- A step: a call. -/
theorem Z.callPut {A : Value → World → Prop} (hA : Lasts ops X σ Ms d i A) (k0 : Nat) {f : FuncId} {args : Array Operand} {ats : Array TypeId} (hk : atStage ops σ i k0 = true) {Ψ Ψ' : World → Prop} {M : Foot} (hΨ : Js[k0]? = some Ψ) (hΨ' : Js[k0 + 1]? = some Ψ') (hi : σ.any (Nat.beq i) = true) (hM : footOf σ Ms i = M)
    (hg : wants ops ρ gd = some true) (hd : Nat.blt d n = true)
    (hc : ∀ (vs : Array Value) w, (callFunc f vs).run P w = .ok (.enter f vs) w)
    (h : ∀ w, Ψ w → RelsT τ w (slots ops ⟨some d, .call ⟨.value (.func f), args, ats⟩, ty, pos, af, gd⟩) ρ (fun ρ' => ∃ as, evs ρ' args.toList = some as ∧ Meets P f as w (fun v' w' => A v' w' ∧ M.ok w w' ∧ Ψ' w')))
    (hnext : DZ P n ops Q Js σ Ms X (dropS d ρ) ((d, A) :: τ) (i + 1) rest) : DZ P n ops Q Js σ Ms X ρ τ i (⟨some d, .call ⟨.value (.func f), args, ats⟩, ty, pos, af, gd⟩ :: rest) :=
  DS.callRel A hA (x := .func f) (first := #[]) (cap := #[]) hg hd hc (fun w k hr hJ => by
    obtain rfl := atStage_eq hk hr
    refine RelsT.mono (fun _ ⟨as, h1, h2⟩ => ⟨as, rfl, h1, by simpa using h2.mono fun _ _ h => ⟨h.1, RS.of hM h.2.1, by unfold stepsOf; rw [hi]; exact ⟨_, hΨ', h.2.2⟩⟩⟩) (h w (stage_at hΨ hJ))) hnext
theorem Z.callEqPut (v : Value) (k0 : Nat) {f : FuncId} {args : Array Operand} {ats : Array TypeId} (hk : atStage ops σ i k0 = true) {Ψ Ψ' : World → Prop} {M : Foot} (hΨ : Js[k0]? = some Ψ) (hΨ' : Js[k0 + 1]? = some Ψ') (hi : σ.any (Nat.beq i) = true) (hM : footOf σ Ms i = M)
    (hg : wants ops ρ gd = some true) (hd : Nat.blt d n = true) (hfree : (lookT τ d).isNone = true)
    (hc : ∀ (vs : Array Value) w, (callFunc f vs).run P w = .ok (.enter f vs) w)
    (h : ∀ w, Ψ w → RelsT τ w (slots ops ⟨some d, .call ⟨.value (.func f), args, ats⟩, ty, pos, af, gd⟩) ρ (fun ρ' => ∃ as, evs ρ' args.toList = some as ∧ Meets P f as w (fun v' w' => v' = v ∧ M.ok w w' ∧ Ψ' w')))
    (hnext : DZ P n ops Q Js σ Ms X ((d, v) :: ρ) τ (i + 1) rest) : DZ P n ops Q Js σ Ms X ρ τ i (⟨some d, .call ⟨.value (.func f), args, ats⟩, ty, pos, af, gd⟩ :: rest) :=
  DS.callEq v (x := .func f) (first := #[]) (cap := #[]) hg hd hfree hc (fun w k hr hJ => by
    obtain rfl := atStage_eq hk hr
    refine RelsT.mono (fun _ ⟨as, h1, h2⟩ => ⟨as, rfl, h1, by simpa using h2.mono fun _ _ h => ⟨h.1, RS.of hM h.2.1, by unfold stepsOf; rw [hi]; exact ⟨_, hΨ', h.2.2⟩⟩⟩) (h w (stage_at hΨ hJ))) hnext
theorem Z.be {v v' : Value} (d : Nat) (hv : look ρ d = some v) (e : v = v') (h : DZ P n ops Q Js σ Ms X ((d, v') :: ρ) τ i rest) : DZ P n ops Q Js σ Ms X ρ τ i rest := DS.be d hv e h
theorem Z.isT {b : Bool} (d : Nat) (hv : look ρ d = some (.bool b)) (e : b = true) (h : DZ P n ops Q Js σ Ms X ((d, .bool true) :: ρ) τ i rest) : DZ P n ops Q Js σ Ms X ρ τ i rest := DS.isT d hv e h
theorem Z.isF {b : Bool} (d : Nat) (hv : look ρ d = some (.bool b)) (e : b = false) (h : DZ P n ops Q Js σ Ms X ((d, .bool false) :: ρ) τ i rest) : DZ P n ops Q Js σ Ms X ρ τ i rest := DS.isF d hv e h
theorem Z.caseB {b : Bool} (d : Nat) (hv : look ρ d = some (.bool b)) (ht : b = true → DZ P n ops Q Js σ Ms X ((d, .bool true) :: ρ) τ i rest) (hf : b = false → DZ P n ops Q Js σ Ms X ((d, .bool false) :: ρ) τ i rest) : DZ P n ops Q Js σ Ms X ρ τ i rest := DS.caseB d hv ht hf
theorem Z.caseP {p : Prop} {dp : Decidable p} (d : Nat) (hv : look ρ d = some (.bool (@decide p dp))) (ht : p → DZ P n ops Q Js σ Ms X ((d, .bool true) :: ρ) τ i rest) (hf : ¬ p → DZ P n ops Q Js σ Ms X ((d, .bool false) :: ρ) τ i rest) : DZ P n ops Q Js σ Ms X ρ τ i rest := DS.caseP d hv ht hf
end
section
variable {P : Program} {B : Exit → Act → World → Prop} {n : Fm} {ops : List Oper} {ks : List K} {ρ : Env} {τ : RelEnv} {i : Nat} {w : World} {Js : List (World → Prop)} {σ : List Nat} {Ms : List Foot} {X : List (Nat × Nat)}
theorem Z.nil {Ψ : World → Prop} (hΨ : Js[σ.length]? = some Ψ) (hρ : X.all (fun p => (look ρ p.2).isNone) = true) (h : ∀ w', Ψ w' → RelsT τ w' ((τ.map Prod.fst).filter fun t => !killed X t) ρ (fun ρ' => N P B n ks ρ' w')) : DZ P n ops (sem P n.ro B ks) Js σ Ms X ρ τ i [] :=
  DS.nil hρ (fun w hJ => h w (stage_at hΨ hJ))
theorem G.staged [Mixed P] {id : Nat} (σ : List Nat) (Ms : List Foot) (Js : List (World → Prop)) (X : List (Nat × Nat)) (hchk : chk ops σ = true) (hkill : chkKill ops X = true) (hσ : σ.all (fun s => Nat.blt s ops.length) = true) (hlt : ρ.all (fun p => Nat.blt p.1 n) = true)
    {Ψ : World → Prop} (hΨ : Js[0]? = some Ψ) (hJ : ∀ w', Ext [] w w' → Ψ w') (h : DZ P n ops (sem P n.ro B ks) Js σ Ms X ρ [] 0 ops) : G P B n ks ρ w (.region id ops.toArray true) :=
  G.draw σ _ _ X hchk hkill hσ hlt ⟨_, hΨ, hJ _ (Ext.drawn w)⟩ h
end
end Brv
