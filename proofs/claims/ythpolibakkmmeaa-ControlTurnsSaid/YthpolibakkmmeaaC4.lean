/-
  Regions that draw their order: one walk in the text's order serves every order, where each operation's result is told by a value, or by a fact that stays true while the others run.
-/
import Derived.Test.YthpolibakkmmeaaC3
namespace Brv
open Go

/-- What is known of a slot: its value, or a fact on it. -/
inductive Sp where
  | eq (v : Value)
  | rel (A : Value → World → Prop)
def Sp.ok : Sp → Value → World → Prop
  | .eq u, v, _ => v = u
  | .rel A, v, w => A v w
abbrev DEnv := List (Nat × Sp)
def lookD : DEnv → Nat → Option Sp
  | [], _ => none
  | (s, x) :: r, t => match Nat.beq s t with
    | true => some x
    | false => lookD r t
theorem lookD_cons (s : Nat) (x : Sp) (r : DEnv) (t : Nat) : lookD ((s, x) :: r) t = if s = t then some x else lookD r t := by
  simp only [lookD]
  by_cases h : s = t
  · have hb : Nat.beq s t = true := by subst h; exact Nat.beq_refl s
    rw [hb]; simp [h]
  · have hb : Nat.beq s t = false := by
      cases hq : Nat.beq s t with
      | false => rfl
      | true => exact absurd (Nat.eq_of_beq_eq_true hq) h
    rw [hb]; simp [h]
def ofEnv (ρ : Env) : DEnv := ρ.map fun p => (p.1, .eq p.2)
theorem lookD_ofEnv : ∀ (ρ : Env) (t : Nat), lookD (ofEnv ρ) t = (look ρ t).map Sp.eq
  | [], t => rfl
  | (s, v) :: r, t => by
    simp only [ofEnv, List.map_cons]
    rw [lookD_cons, look_cons]
    split
    · rfl
    · exact lookD_ofEnv r t

/-- The slots that an operation looks at. -/
def tmpsOf : List Operand → List Nat
  | [] => []
  | .tmp t :: r => t :: tmpsOf r
  | _ :: r => tmpsOf r
def slots (ops : List Oper) (o : Oper) : List Nat :=
  tmpsOf o.op.operands.toList ++ (match o.guard with
    | some (j, _) => match (ops[j]?).bind (·.dst) with
      | some d => [d]
      | none => []
    | none => [])
theorem mem_tmpsOf {t : Nat} : ∀ {xs : List Operand}, Operand.tmp t ∈ xs → t ∈ tmpsOf xs
  | x :: r, h => by
    simp only [List.mem_cons] at h
    rcases h with h | h
    · subst h; simp [tmpsOf]
    · have := mem_tmpsOf h
      cases x <;> simp [tmpsOf, this]

/-- Does the edge bind in every order? -/
def bindsAny (e : Edge) : Bool := Region.binds .any e
def afters (ops : List Oper) (i : Nat) : List Nat :=
  match ops[i]? with
  | some o => (o.after.toList.filter bindsAny).map (·.on)
  | none => []
/-- Of each of the first k operations, a mask of all that it comes behind. -/
def masks (ops : List Oper) : Nat → List Nat
  | 0 => []
  | k + 1 => (fun l => l ++ [(afters ops k).foldl (fun m e => m ||| (2 ^ e ||| l.getD e 0)) 0]) (masks ops k)
/-- i comes behind j. -/
def reachIn (ms : List Nat) (i j : Nat) : Bool := (ms.getD i 0).testBit j
/-- Is the operation's order told, as far as slots are shared? (σ: the operations that turn the state, one behind the other) -/
def isSelect : Op → Bool
  | .defer _ => true
  | .select .. => true
  | _ => false
def chkAt (ops : List Oper) (i : Nat) (o : Oper) : Bool :=
  !isSelect o.op &&
  (afters ops i).all (fun k => Nat.blt k i) &&
  (slots ops o).all (fun t => ops.zipIdx.all fun p => match p.1.dst with
    | some d => !Nat.beq d t || Nat.beq p.2 i || (afters ops i).any (Nat.beq p.2) || (afters ops p.2).any (Nat.beq i)
    | none => true) &&
  (match o.dst with
    | some d => !(slots ops o).any (Nat.beq d) && ops.zipIdx.all (fun p => Nat.beq p.2 i || (match p.1.dst with | some d' => !Nat.beq d d' | none => true))
    | none => true)
def chain (ms : List Nat) : List Nat → Bool
  | [] => true
  | [_] => true
  | s :: t :: r => reachIn ms t s && chain ms (t :: r)
def chk (ops : List Oper) (σ : List Nat) : Bool :=
  (ops.zipIdx.all fun p => chkAt ops p.2 p.1) && chain (masks ops ops.length) σ

/-- The stages in which operation i may run: how many of σ are done. -/
def loF (ms : List Nat) (i : Nat) : List Nat → Nat → Nat → Nat
  | [], _, acc => acc
  | s :: r, m, acc => loF ms i r (m + 1) (if reachIn ms i s then m + 1 else acc)
def hiF (ms : List Nat) (i : Nat) : List Nat → Nat → Nat
  | [], m => m
  | s :: r, m => if Nat.beq s i || reachIn ms s i then m else hiF ms i r (m + 1)
def inRng (ops : List Oper) (σ : List Nat) (i k : Nat) : Prop := loF (masks ops ops.length) i σ 0 0 ≤ k ∧ k ≤ hiF (masks ops ops.length) i σ 0
def stepsOf (σ : List Nat) (i : Nat) : Nat := if σ.any (Nat.beq i) then 1 else 0

/-- Is a slot's fact given up by some operation? -/
def killed (X : List (Nat × Nat)) (t : Nat) : Bool := X.any fun p => Nat.beq p.2 t
/-- An operation that gives up a slot's fact comes behind all others that look at the slot. -/
def chkKill (ops : List Oper) (X : List (Nat × Nat)) : Bool :=
  X.all fun p => ops.zipIdx.all fun q => !(slots ops q.1).any (Nat.beq p.2) || Nat.beq q.2 p.1 || reachIn (masks ops ops.length) p.1 q.2

section
variable (P : Program) (n : Fm) (ops : List Oper) (Q : Exit → Act → World → Prop) (J : Nat → World → Prop) (R : Nat → World → World → Prop) (X : List (Nat × Nat)) (σ : List Nat)

/-- What an operation finds in the slots that it looks at. -/
def Finds (δ : DEnv) (o : Oper) (a : Act) (w : World) : Prop := ∀ t ∈ slots ops o, ∀ s, lookD δ t = some s → ∃ v, a.tmps[t]? = some v ∧ s.ok v w

/-- The operation, or what it leaves where it is passed over. -/
def wpo (o : Oper) (K' : Act → World → Prop) (a : Act) (w : World) : Prop :=
  if Region.wanted o (yielded ops.toArray a.tmps) then o.wpIn (fen n.ro) 0 P a w K' Q else K' (a.put o.dst undef) w

def ValidOp (δ : DEnv) (i : Nat) (o : Oper) (sp : Sp) : Prop :=
  (∀ t s, lookD δ t = some s → t < n.n) → ∀ a w k, a.tmps.size = n.n → a.defers = n.df → Finds ops δ o a w → inRng ops σ i k → J k w →
    wpo P n ops Q o (fun a' w' => ∃ v, a' = a.put o.dst v ∧ (o.dst ≠ none → sp.ok v w') ∧ R i w w' ∧ J (k + stepsOf σ i) w') a w

/-- The walk of the operations from the i-th on. -/
def D : DEnv → Nat → List Oper → Prop
  | δ, _, [] => ∀ a w, a.tmps.size = n.n → a.defers = n.df → (∀ t s, lookD δ t = some s → killed X t = false → ∃ v, a.tmps[t]? = some v ∧ s.ok v w) → J σ.length w → Q .normal a w
  | δ, i, o :: rest => ∃ sp, (∀ A d, sp = .rel A → o.dst = some d → ∀ i', (i', d) ∉ X → reachIn (masks ops ops.length) i i' = false → i' ≠ i → ∀ v w w', R i' w w' → A v w → A v w') ∧ (∀ d, o.dst = some d → d < n.n) ∧ ValidOp P n ops Q J R σ δ i o sp ∧
      D (match o.dst with | some d => (d, sp) :: δ | none => δ) (i + 1) rest
end

section
variable {P : Program} {n : Fm} {ops : List Oper} {Q : Exit → Act → World → Prop} {J : Nat → World → Prop} {R : Nat → World → World → Prop} {X : List (Nat × Nat)} {σ : List Nat}

theorem Finds.congr {δ δ' : DEnv} {o : Oper} {a : Act} {w : World} (h : ∀ t, lookD δ t = lookD δ' t) (hf : Finds ops δ o a w) : Finds ops δ' o a w :=
  fun t ht s hs => hf t ht s (by rw [h]; exact hs)
theorem D.congr : ∀ {l : List Oper} {δ δ' : DEnv} {i : Nat}, (∀ t, lookD δ t = lookD δ' t) → D P n ops Q J R X σ δ i l → D P n ops Q J R X σ δ' i l
  | [], δ, δ', i, h, hd => fun a w h1 h2 h3 h4 => hd a w h1 h2 (fun t s hs => h3 t s (by rw [← h]; exact hs)) h4
  | o :: rest, δ, δ', i, h, ⟨sp, h1, h2, h3, h4⟩ => by
    refine ⟨sp, h1, h2, ?_, ?_⟩
    · intro hn a w k hs hd hf
      exact h3 (fun t s ht => hn t s (by rw [← h]; exact ht)) a w k hs hd (hf.congr (fun t => (h t).symm))
    · cases hdst : o.dst with
      | none => rw [hdst] at h4; exact D.congr h h4
      | some d =>
        rw [hdst] at h4
        refine D.congr (fun t => ?_) h4
        rw [lookD_cons, lookD_cons, h]

/-! ### soundness -/
theorem beq_iff (a b : Nat) : Nat.beq a b = true ↔ a = b := ⟨Nat.eq_of_beq_eq_true, fun h => by subst h; exact Nat.beq_refl a⟩

/-- The environment that the text has ahead of the i-th operation. -/
def envAt (ops : List Oper) (sps : Nat → Sp) (δ₀ : DEnv) : Nat → DEnv
  | 0 => δ₀
  | i + 1 => match (ops[i]?).bind (·.dst) with
    | some d => (d, sps i) :: envAt ops sps δ₀ i
    | none => envAt ops sps δ₀ i

/-- All the obligations at once. -/
theorem D.all : ∀ {l pre : List Oper} {δ : DEnv} {i : Nat} (δ₀ : DEnv) (sps₀ : Nat → Sp), ops = pre ++ l → i = pre.length → δ = envAt ops sps₀ δ₀ i → D P n ops Q J R X σ δ i l →
    ∃ sps : Nat → Sp, (∀ j, j < i → sps j = sps₀ j) ∧
      (∀ j o, i ≤ j → ops[j]? = some o → (∀ A d, sps j = .rel A → o.dst = some d → ∀ i', (i', d) ∉ X → reachIn (masks ops ops.length) j i' = false → i' ≠ j → ∀ v w w', R i' w w' → A v w → A v w') ∧ (∀ d, o.dst = some d → d < n.n) ∧ ValidOp P n ops Q J R σ (envAt ops sps δ₀ j) j o (sps j)) ∧
      (∀ a w, a.tmps.size = n.n → a.defers = n.df → (∀ t s, lookD (envAt ops sps δ₀ ops.length) t = some s → killed X t = false → ∃ v, a.tmps[t]? = some v ∧ s.ok v w) → J σ.length w → Q .normal a w)
  | [], pre, δ, i, δ₀, sps₀, ho, hi, hδ, hd => by
    refine ⟨sps₀, fun _ _ => rfl, fun j o hj hoj => ?_, ?_⟩
    · have : j < ops.length := (List.getElem?_eq_some_iff.1 hoj).1
      rw [ho] at this; simp at this; omega
    · have : ops.length = i := by rw [ho, hi]; simp
      rw [this, ← hδ]
      exact hd
  | o :: rest, pre, δ, i, δ₀, sps₀, ho, hi, hδ, ⟨sp, h1, h2, h3, h4⟩ => by
    have hoi : ops[i]? = some o := by rw [ho, hi]; simp
    have agree : ∀ m, m ≤ i → envAt ops (fun j => if j = i then sp else sps₀ j) δ₀ m = envAt ops sps₀ δ₀ m := by
      intro m
      induction m with
      | zero => intro _; rfl
      | succ m ih =>
        intro hm
        simp only [envAt]
        rw [ih (by omega), if_neg (by omega : ¬ m = i)]
    obtain ⟨sps, g1, g2, g3⟩ := D.all (l := rest) (pre := pre ++ [o]) (i := i + 1) δ₀ (fun j => if j = i then sp else sps₀ j) (by rw [ho]; simp) (by simp [hi]) (by
      simp only [envAt, hoi, Option.bind_some]
      rw [agree i (Nat.le_refl _), ← hδ]
      simp) h4
    refine ⟨sps, fun j hj => by rw [g1 j (by omega)]; simp [show ¬ j = i by omega], fun j o' hj ho' => ?_, g3⟩
    by_cases hji : j = i
    · subst hji
      rw [hoi] at ho'; cases ho'
      have hsp : sps j = sp := by rw [g1 j (by omega)]; simp
      have henv : envAt ops sps δ₀ j = δ := by
        rw [hδ, ← agree j (Nat.le_refl _)]
        have : ∀ m, m ≤ j → envAt ops sps δ₀ m = envAt ops (fun q => if q = j then sp else sps₀ q) δ₀ m := by
          intro m
          induction m with
          | zero => intro _; rfl
          | succ m ih => intro hm; simp only [envAt]; rw [ih (by omega), g1 m (by omega)]
        exact this j (Nat.le_refl _)
      rw [hsp, henv]
      exact ⟨h1, h2, h3⟩
    · exact g2 j o' (by omega) ho'

/-- Where the text's environment at i has a slot from. -/
theorem lookD_envAt {sps : Nat → Sp} {δ₀ : DEnv} {t : Nat} {s : Sp} : ∀ {i : Nat}, lookD (envAt ops sps δ₀ i) t = some s →
    (∃ j o, j < i ∧ ops[j]? = some o ∧ o.dst = some t ∧ s = sps j) ∨ (lookD δ₀ t = some s ∧ ∀ j o, j < i → ops[j]? = some o → o.dst ≠ some t)
  | 0, h => .inr ⟨h, fun j o hj => by omega⟩
  | i + 1, h => by
    simp only [envAt] at h
    cases ho : ops[i]? with
    | none =>
      simp only [ho, Option.bind_none] at h
      rcases lookD_envAt h with ⟨j, o, hj, hoj, hd, hs⟩ | ⟨h1, h2⟩
      · exact .inl ⟨j, o, by omega, hoj, hd, hs⟩
      · refine .inr ⟨h1, fun j o hj hoj => ?_⟩
        by_cases e : j = i
        · subst e; rw [ho] at hoj; cases hoj
        · exact h2 j o (by omega) hoj
    | some o =>
      simp only [ho, Option.bind_some] at h
      cases hd : o.dst with
      | none =>
        simp only [hd] at h
        rcases lookD_envAt h with ⟨j, o', hj, hoj, hd', hs⟩ | ⟨h1, h2⟩
        · exact .inl ⟨j, o', by omega, hoj, hd', hs⟩
        · refine .inr ⟨h1, fun j o' hj hoj => ?_⟩
          by_cases e : j = i
          · subst e; rw [ho] at hoj; cases hoj; rw [hd]; simp
          · exact h2 j o' (by omega) hoj
      | some d =>
        simp only [hd] at h
        rw [lookD_cons] at h
        split at h
        · rename_i e; subst e; cases h
          exact .inl ⟨i, o, by omega, ho, hd, rfl⟩
        · rename_i e
          rcases lookD_envAt h with ⟨j, o', hj, hoj, hd', hs⟩ | ⟨h1, h2⟩
          · exact .inl ⟨j, o', by omega, hoj, hd', hs⟩
          · refine .inr ⟨h1, fun j o' hj hoj => ?_⟩
            by_cases e' : j = i
            · subst e'; rw [ho] at hoj; cases hoj; rw [hd]; simpa using e
            · exact h2 j o' (by omega) hoj

/-- The operations that are done are closed under what they come behind. -/
def Closed (ops : List Oper) (q : Nat → Prop) : Prop := ∀ i, q i → ∀ k ∈ afters ops i, q k
/-- i comes behind j: where all that i comes behind directly is done, j is. -/
def Behind (ops : List Oper) (i j : Nat) : Prop := ∀ q, Closed ops q → (∀ x ∈ afters ops i, q x) → q j
structure Chk (ops : List Oper) (σ : List Nat) : Prop where
  sel : ∀ (i : Nat) (o : Oper), ops[i]? = some o → ∀ cs b, o.op ≠ .select cs b
  back : ∀ (i : Nat) (o : Oper), ops[i]? = some o → ∀ k ∈ afters ops i, k < i
  share : ∀ (i : Nat) (o : Oper), ops[i]? = some o → ∀ t ∈ slots ops o, ∀ (j : Nat) (o' : Oper), ops[j]? = some o' → o'.dst = some t → j = i ∨ j ∈ afters ops i ∨ i ∈ afters ops j
  own : ∀ (i : Nat) (o : Oper) (d : Nat), ops[i]? = some o → o.dst = some d → d ∉ slots ops o
  apart : ∀ (i : Nat) (o : Oper) (d : Nat), ops[i]? = some o → o.dst = some d → ∀ (j : Nat) (o' : Oper), ops[j]? = some o' → o'.dst = some d → j = i
  chain : ∀ m s t, σ[m]? = some s → σ[m + 1]? = some t → Behind ops t s

theorem or_split {a b : Bool} (h : (a || b) = true) : a = true ∨ b = true := by cases a <;> simp_all
theorem any_beq {l : List Nat} {x : Nat} : l.any (Nat.beq x) = true ↔ x ∈ l := by
  rw [List.any_eq_true]
  constructor
  · rintro ⟨y, hy, he⟩; rw [(beq_iff x y).1 he]; exact hy
  · intro h; exact ⟨x, h, Nat.beq_refl x⟩
theorem foldl_mask (l : List Nat) (j : Nat) : ∀ (es : List Nat) (m : Nat), (es.foldl (fun m e => m ||| (2 ^ e ||| l.getD e 0)) m).testBit j = true → m.testBit j = true ∨ ∃ e ∈ es, j = e ∨ (l.getD e 0).testBit j = true
  | [], m, h => .inl h
  | e :: es, m, h => by
    rcases foldl_mask l j es _ h with h | ⟨e', he', h⟩
    · rw [Nat.testBit_or, Nat.testBit_or] at h
      rcases or_split h with h | h
      · exact .inl h
      · rcases or_split h with h | h
        · rw [Nat.testBit_two_pow] at h
          exact .inr ⟨e, by simp, .inl (by simpa using (of_decide_eq_true h).symm)⟩
        · exact .inr ⟨e, by simp, .inr h⟩
    · exact .inr ⟨e', by simp [he'], h⟩
theorem masks_length (ops : List Oper) : ∀ k, (masks ops k).length = k
  | 0 => rfl
  | k + 1 => by simp [masks, masks_length ops k]
theorem masks_spec : ∀ (k i j : Nat), reachIn (masks ops k) i j = true → Behind ops i j
  | 0, i, j, h => by simp [reachIn, masks] at h
  | k + 1, i, j, h => by
    simp only [reachIn, masks] at h
    rcases Nat.lt_trichotomy i k with hlt | rfl | hgt
    · rw [List.getD_eq_getElem?_getD, List.getElem?_append_left (by rw [masks_length]; exact hlt), ← List.getD_eq_getElem?_getD] at h
      exact masks_spec k i j h
    · rw [List.getD_eq_getElem?_getD, List.getElem?_append_right (by rw [masks_length]; exact Nat.le_refl _), masks_length, Nat.sub_self] at h
      simp only [List.getElem?_cons_zero, Option.getD_some] at h
      rcases foldl_mask _ j _ _ h with h | ⟨e, he, h⟩
      · simp at h
      · intro q hq hall
        rcases h with rfl | h
        · exact hall _ he
        · exact masks_spec i e j h q hq (hq e (hall e he))
    · rw [List.getD_eq_getElem?_getD, List.getElem?_append_right (by rw [masks_length]; omega), masks_length] at h
      obtain ⟨d, hd⟩ : ∃ d, i - k = d + 1 := ⟨i - k - 1, by omega⟩
      rw [hd] at h
      simp at h
theorem chain_spec : ∀ {σ : List Nat}, chain (masks ops ops.length) σ = true → ∀ m s t, σ[m]? = some s → σ[m + 1]? = some t → Behind ops t s
  | [], _, m, s, t, h, _ => by simp at h
  | [x], _, m, s, t, _, h => by simp at h
  | x :: y :: r, hc, m, s, t, hs, ht => by
    simp only [chain, Bool.and_eq_true] at hc
    cases m with
    | zero => simp at hs ht; subst hs; subst ht; exact masks_spec _ _ _ hc.1
    | succ m => exact chain_spec hc.2 m s t (by simpa using hs) (by simpa using ht)
theorem chk_spec (h : chk ops σ = true) : Chk ops σ := by
  simp only [chk, Bool.and_eq_true] at h
  have hat : ∀ i o, ops[i]? = some o → chkAt ops i o = true := by
    intro i o hi
    have := List.all_eq_true.1 h.1 (o, i) (by rw [List.mem_zipIdx_iff_getElem?]; simpa using hi)
    exact this
  have hz : ∀ {f : Oper × Nat → Bool}, ops.zipIdx.all f = true → ∀ j o', ops[j]? = some o' → f (o', j) = true := by
    intro f hf j o' hj
    exact List.all_eq_true.1 hf (o', j) (by rw [List.mem_zipIdx_iff_getElem?]; simpa using hj)
  refine ⟨?_, ?_, ?_, ?_, ?_, chain_spec h.2⟩
  · intro i o hi cs b e
    have := hat i o hi
    simp only [chkAt, Bool.and_eq_true] at this
    rw [e] at this
    simp [isSelect] at this
  · intro i o hi k hk
    have := hat i o hi
    simp only [chkAt, Bool.and_eq_true] at this
    have h2 := List.all_eq_true.1 this.1.1.2 k hk
    simpa [Nat.blt_eq] using h2
  · intro i o hi t ht j o' hj hd
    have := hat i o hi
    simp only [chkAt, Bool.and_eq_true] at this
    have h2 := hz (List.all_eq_true.1 this.1.2 t ht) j o' hj
    simp only [hd, Bool.or_eq_true, Bool.not_eq_true'] at h2
    rcases h2 with ((h2 | h2) | h2) | h2
    · rw [Nat.beq_refl] at h2; cases h2
    · exact .inl ((beq_iff j i).1 h2)
    · exact .inr (.inl (any_beq.1 h2))
    · exact .inr (.inr (any_beq.1 h2))
  · intro i o d hi hd hm
    have := hat i o hi
    simp only [chkAt, Bool.and_eq_true, hd] at this
    have h2 := this.2.1
    simp only [Bool.not_eq_true'] at h2
    have h3 := any_beq.2 hm
    rw [h2] at h3; cases h3
  · intro i o d hi hd j o' hj hd'
    have := hat i o hi
    simp only [chkAt, Bool.and_eq_true, hd] at this
    have h2 := hz this.2.2 j o' hj
    simp only [hd', Bool.or_eq_true, Bool.not_eq_true'] at h2
    rcases h2 with h2 | h2
    · exact (beq_iff j i).1 h2
    · rw [Nat.beq_refl] at h2; cases h2

theorem loF_le {i k : Nat} {q : Nat → Prop} (hc : Closed ops q) (hi : ∀ x ∈ afters ops i, q x) : ∀ (l : List Nat) (m acc : Nat), (∀ x s, l[x]? = some s → q s → m + x < k) → acc ≤ k → loF (masks ops ops.length) i l m acc ≤ k
  | [], m, acc, _, ha => ha
  | s :: r, m, acc, hl, ha => by
    simp only [loF]
    refine loF_le hc hi r (m + 1) _ (fun x s' hx hq => by have := hl (x + 1) s' (by simpa using hx) hq; omega) ?_
    split
    · rename_i hr
      have : q s := masks_spec _ _ _ hr q hc hi
      have := hl 0 s (by simp) this
      omega
    · exact ha
theorem le_hiF {i k : Nat} {q : Nat → Prop} (hc : Closed ops q) (hi : ¬ q i) : ∀ (l : List Nat) (m : Nat), (∀ x s, l[x]? = some s → m + x < k → q s) → k ≤ m + l.length → k ≤ hiF (masks ops ops.length) i l m
  | [], m, _, hk => by simpa [hiF] using hk
  | s :: r, m, hl, hk => by
    simp only [hiF]
    split
    · rename_i hr
      rcases Nat.lt_or_ge m k with hlt | hge
      · exfalso
        have hq := hl 0 s (by simp) (by omega)
        rcases or_split hr with he | he
        · rw [(beq_iff s i).1 he] at hq; exact hi hq
        · exact hi (masks_spec _ _ _ he q hc (hc s hq))
      · exact hge
    · exact le_hiF hc hi r (m + 1) (fun x s' hx hlt => hl (x + 1) s' (by simpa using hx) (by omega)) (by simp at hk; omega)

def Inv (n : Fm) (ops : List Oper) (J : Nat → World → Prop) (X : List (Nat × Nat)) (σ : List Nat) (sps : Nat → Sp) (δ₀ : DEnv) (listed : Array Bool) (a : Act) (w : World) : Prop :=
  listed.size = ops.length ∧ a.tmps.size = n.n ∧ a.defers = n.df ∧
  Closed ops (fun i => listed[i]? = some true) ∧
  (∀ t s, lookD δ₀ t = some s → (∀ (j : Nat) (o : Oper), listed[j]? = some true → ops[j]? = some o → o.dst ≠ some t) → ∃ v, a.tmps[t]? = some v ∧ s.ok v w) ∧
  (∀ (j : Nat) (o : Oper) (d : Nat), listed[j]? = some true → ops[j]? = some o → o.dst = some d → (∀ i', listed[i']? = some true → (i', d) ∉ X) → ∃ v, a.tmps[d]? = some v ∧ (sps j).ok v w) ∧
  ∃ k, k ≤ σ.length ∧ (∀ m s, σ[m]? = some s → (listed[s]? = some true ↔ m < k)) ∧ J k w

theorem wpo_wpOp {i : Nat} {o : Oper} (hoi : ops[i]? = some o) {K' K₂ : Act → World → Prop} {a : Act} {w : World} (h : wpo P n ops Q o K' a w) (hK : ∀ a w, K' a w → K₂ a w) :
    wpOpIn (fen n.ro) 0 P ops.toArray Q i K₂ a w := by
  unfold wpOpIn
  simp only [List.getElem?_toArray, hoi]
  unfold wpo at h
  split
  · rename_i hw
    rw [if_pos hw] at h
    exact Oper.wpIn_mono hK h
  · rename_i hw
    rw [if_neg hw] at h
    exact ⟨fun f _ => fen_fn _ f, hK _ _ h⟩

theorem D.sound {δ₀ : DEnv} (hchk : chk ops σ = true) (hkill : chkKill ops X = true) (hσ : ∀ s ∈ σ, s < ops.length) (hJ0 : ∀ A t, lookD δ₀ t = some (.rel A) → False) (hn : ∀ t s, lookD δ₀ t = some s → t < n.n)
    (hD : D P n ops Q J R X σ δ₀ 0 ops) {a : Act} {w : World} (hsz : a.tmps.size = n.n) (hdf : a.defers = n.df) (ha : ∀ t s, lookD δ₀ t = some s → ∃ v, a.tmps[t]? = some v ∧ s.ok v w) (hJ : J 0 w) :
    wpAnyIn (fen n.ro) 0 P .any ops.toArray Q ops.length (Array.replicate ops.length false) a w := by
  have C := chk_spec hchk
  obtain ⟨sps, -, hob, hfin⟩ := D.all (pre := []) δ₀ (fun _ => .eq undef) (by simp) rfl rfl hD
  have hob' : ∀ j o, ops[j]? = some o → (∀ A d, sps j = .rel A → o.dst = some d → ∀ i', (i', d) ∉ X → reachIn (masks ops ops.length) j i' = false → i' ≠ j → ∀ v w w', R i' w w' → A v w → A v w') ∧ (∀ d, o.dst = some d → d < n.n) ∧ ValidOp P n ops Q J R σ (envAt ops sps δ₀ j) j o (sps j) := fun j o hj => hob j o (Nat.zero_le _) hj
  have hready : ∀ (listed : Array Bool) (i : Nat), i ∈ Region.ready .any ops.toArray listed → i < ops.length ∧ listed[i]? ≠ some true ∧ ∀ k ∈ afters ops i, listed[k]? = some true := by
    intro listed i hi
    simp only [Region.ready, List.mem_filter, List.mem_range, Bool.and_eq_true] at hi
    obtain ⟨h1, h2, h3⟩ := hi
    have h1' : i < ops.length := by simpa using h1
    refine ⟨h1', ?_, ?_⟩
    · intro e
      simp [Array.getD_eq_getD_getElem?, e] at h2
    · intro k hk
      rw [List.getElem?_toArray, List.getElem?_eq_getElem h1'] at h3
      simp only [Option.map_some, Option.getD_some] at h3
      simp only [afters, List.getElem?_eq_getElem h1'] at hk
      simp only [List.mem_map, List.mem_filter] at hk
      obtain ⟨e, ⟨he, hb⟩, rfl⟩ := hk
      have := (Array.all_eq_true_iff_forall_mem.1 h3) e (by simpa using he)
      simp only [bindsAny] at hb
      simp only [hb, Bool.not_true, Bool.false_or] at this
      simp only [Array.getD_eq_getD_getElem?] at this
      cases hq : listed[e.on]? with
      | none => simp [hq] at this
      | some b => simp [hq] at this; subst this; rfl
  have allReady : ∀ (listed : Array Bool), listed.size = ops.length → Closed ops (fun i => listed[i]? = some true) → (∀ m, m < ops.length → listed[m]? ≠ some true → ∃ i, i ∈ Region.ready .any ops.toArray listed) := by
    intro listed hsz hcl m
    induction m using Nat.strongRecOn with
    | _ m ih =>
      intro hm hne
      by_cases hall : ∀ k ∈ afters ops m, listed[k]? = some true
      · refine ⟨m, ?_⟩
        simp only [Region.ready, List.mem_filter, List.mem_range, Bool.and_eq_true]
        refine ⟨by simpa using hm, ?_, ?_⟩
        · have hlt : m < listed.size := by omega
          rw [Array.getD_eq_getD_getElem?, Array.getElem?_eq_getElem hlt]
          rw [Array.getElem?_eq_getElem hlt] at hne
          cases hv : listed[m] with
          | true => rw [hv] at hne; exact absurd rfl hne
          | false => rfl
        · rw [List.getElem?_toArray, List.getElem?_eq_getElem hm]
          simp only [Option.map_some, Option.getD_some]
          rw [Array.all_eq_true_iff_forall_mem]
          intro e he
          cases hb : Region.binds .any e with
          | false => rfl
          | true =>
            have := hall e.on (by
              simp only [afters, List.getElem?_eq_getElem hm, List.mem_map, List.mem_filter]
              exact ⟨e, ⟨by simpa using he, hb⟩, rfl⟩)
            simp [Array.getD_eq_getD_getElem?, this]
      · have hex : ∃ k, k ∈ afters ops m ∧ ¬ listed[k]? = some true := Classical.byContradiction fun hno => hall fun k hk => Classical.byContradiction fun hk' => hno ⟨k, hk, hk'⟩
        obtain ⟨k, hk, hk'⟩ := hex
        have hlt := C.back m _ (List.getElem?_eq_getElem hm) k hk
        exact ih k hlt (by omega) hk'
  have key : ∀ (fuel : Nat) (listed : Array Bool) (a : Act) (w : World), ((List.range ops.length).filter (fun i => listed[i]? ≠ some true)).length ≤ fuel → Inv n ops J X σ sps δ₀ listed a w →
      wpAnyIn (fen n.ro) 0 P .any ops.toArray Q fuel listed a w := by
    intro fuel
    have finish : ∀ (listed : Array Bool) (a : Act) (w : World), Inv n ops J X σ sps δ₀ listed a w → (∀ i, i < ops.length → listed[i]? = some true) → Q .normal a w := by
      intro listed a w hI hall
      obtain ⟨i1, i2, i3, i4, i5, i6, k, hk, i7, i8⟩ := hI
      have hk2 : k = σ.length := by
        rcases Nat.lt_or_ge k σ.length with h | h
        · have hs : σ[k]? = some σ[k] := List.getElem?_eq_getElem h
          have := (i7 k _ hs).1 (hall _ (hσ _ (List.getElem_mem h)))
          omega
        · omega
      subst hk2
      refine hfin a w i2 i3 (fun t s hs hk => ?_) i8
      rcases lookD_envAt hs with ⟨j, o, hj, ho, hd, rfl⟩ | ⟨h1, h2⟩
      · refine i6 j o t (hall j hj) ho hd (fun i' _ hx => ?_)
        have : killed X t = true := List.any_eq_true.2 ⟨(i', t), hx, Nat.beq_refl t⟩
        rw [hk] at this; cases this
      · exact i5 t s h1 (fun j o _ ho => h2 j o (List.getElem?_eq_some_iff.1 ho).1 ho)
    induction fuel with
    | zero =>
      intro listed a w hcnt hI
      have hall : ∀ i, i < ops.length → listed[i]? = some true := by
        intro i hi
        refine Classical.byContradiction fun hne => ?_
        have hmem : i ∈ (List.range ops.length).filter (fun i => listed[i]? ≠ some true) := by
          rw [List.mem_filter]; exact ⟨List.mem_range.2 hi, by simpa using hne⟩
        have : (List.range ops.length).filter (fun i => listed[i]? ≠ some true) = [] := List.eq_nil_of_length_eq_zero (by omega)
        rw [this] at hmem; cases hmem
      refine ⟨?_, finish listed a w hI hall⟩
      apply List.eq_nil_iff_forall_not_mem.2
      intro i hi
      have := hready listed i hi
      exact this.2.1 (hall i this.1)
    | succ fuel ih =>
      intro listed a w hcnt hI
      refine ⟨fun hnil => ?_, fun i hi => ?_⟩
      · refine finish listed a w hI (fun i hi => Classical.byContradiction fun hne => ?_)
        obtain ⟨x, hx⟩ := allReady listed hI.1 hI.2.2.2.1 i hi hne
        rw [hnil] at hx; cases hx
      · obtain ⟨hlt, hnl, haft⟩ := hready listed i hi
        obtain ⟨i1, i2, i3, i4, i5, i6, k, hk, i7, i8⟩ := hI
        have hoi : ops[i]? = some ops[i] := List.getElem?_eq_getElem hlt
        obtain ⟨hst, hdn, hval⟩ := hob' i _ hoi
        have hbd : ∀ t s, lookD (envAt ops sps δ₀ i) t = some s → t < n := by
          intro t s hs
          rcases lookD_envAt hs with ⟨j, o, hj, ho, hd, rfl⟩ | ⟨h1, h2⟩
          · exact (hob' j o ho).2.1 t hd
          · exact hn t s h1
        have hfinds : Finds ops (envAt ops sps δ₀ i) ops[i] a w := by
          intro t ht s hs
          rcases lookD_envAt hs with ⟨j, o, hj, ho, hd, rfl⟩ | ⟨h1, h2⟩
          · rcases C.share i _ hoi t ht j o ho hd with e | e | e
            · omega
            · refine i6 j o t (haft j e) ho hd (fun i' hi' hx => ?_)
              have h1 := List.all_eq_true.1 hkill (i', t) hx
              have h2 := List.all_eq_true.1 h1 (ops[i], i) (by rw [List.mem_zipIdx_iff_getElem?]; simp)
              simp only [Bool.or_eq_true, Bool.not_eq_true'] at h2
              rcases h2 with (h2 | h2) | h2
              · have := any_beq.2 ht; rw [h2] at this; cases this
              · have := (beq_iff i i').1 h2; subst this; exact hnl hi'
              · exact hnl (masks_spec _ _ _ h2 (fun x => listed[x]? = some true) i4 (i4 i' hi'))
            · have := C.back j o ho i e; omega
          · refine i5 t s h1 (fun j o hj ho hd => ?_)
            rcases C.share i _ hoi t ht j o ho hd with e | e | e
            · subst e; exact hnl hj
            · exact h2 j o (C.back i _ hoi j e) ho hd
            · exact hnl (i4 j hj i e)
        have hrng : inRng ops σ i k := by
          refine ⟨loF_le (q := fun x => listed[x]? = some true) i4 haft σ 0 0 (fun x s hx hq => by simpa using (i7 x s hx).1 hq) (Nat.zero_le _), ?_⟩
          exact le_hiF (q := fun x => listed[x]? = some true) i4 hnl σ 0 (fun x s hx hlt => (i7 x s hx).2 (by omega)) (by omega)
        refine wpo_wpOp hoi (hval hbd a w k i2 i3 hfinds hrng i8) ?_
        rintro a' w' ⟨v, rfl, hsp, hR, hJ'⟩
        refine ih _ _ _ ?_ ⟨by simp [i1], ?_, ?_, ?_, ?_, ?_, k + stepsOf σ i, ?_, ?_, hJ'⟩
        · -- one less is left
          have hsub : ((List.range ops.length).filter (fun j => (listed.setIfInBounds i true)[j]? ≠ some true)).length + 1 ≤ ((List.range ops.length).filter (fun j => listed[j]? ≠ some true)).length := by
            have gen : ∀ (l : List Nat), l.Nodup → i ∈ l → (l.filter (fun j => (listed.setIfInBounds i true)[j]? ≠ some true)).length + 1 ≤ (l.filter (fun j => listed[j]? ≠ some true)).length := by
              intro l
              induction l with
              | nil => intro _ h; cases h
              | cons x r ihl =>
                intro hnd hmem
                have hnd' := List.nodup_cons.1 hnd
                have hle : ∀ (r : List Nat), (r.filter (fun j => (listed.setIfInBounds i true)[j]? ≠ some true)).length ≤ (r.filter (fun j => listed[j]? ≠ some true)).length := by
                  intro r
                  induction r with
                  | nil => simp
                  | cons y r ihr =>
                    by_cases hyi : y = i
                    · subst hyi
                      have e1 : (listed.setIfInBounds y true)[y]? = some true := by rw [Array.getElem?_setIfInBounds]; simp [i1, hlt]
                      simp only [List.filter_cons, e1]
                      simp
                      refine Nat.le_trans (by simpa using ihr) ?_
                      split <;> simp
                    · have e1 : (listed.setIfInBounds i true)[y]? = listed[y]? := Array.getElem?_setIfInBounds_ne (fun e => hyi e.symm)
                      simp only [List.filter_cons, e1]
                      split
                      · simpa using ihr
                      · simpa using ihr
                rcases List.mem_cons.1 hmem with rfl | hr
                · have e1 : (listed.setIfInBounds i true)[i]? = some true := by rw [Array.getElem?_setIfInBounds]; simp [i1, hlt]
                  have e2 : (decide (listed[i]? ≠ some true)) = true := by simpa using hnl
                  simp only [List.filter_cons, e1, e2]
                  simp
                  simpa using hle r
                · have hxi : x ≠ i := fun e => hnd'.1 (e ▸ hr)
                  have e1 : (listed.setIfInBounds i true)[x]? = listed[x]? := Array.getElem?_setIfInBounds_ne (fun e => hxi e.symm)
                  have := ihl hnd'.2 hr
                  simp only [List.filter_cons, e1]
                  split
                  · simpa using this
                  · simpa using this
            exact gen _ List.nodup_range (List.mem_range.2 hlt)
          omega
        · cases hd : ops[i].dst <;> simp [Act.put, i2]
        · cases hd : ops[i].dst <;> simp [Act.put, i3]
        · intro x hx y hy
          simp only [Array.getElem?_setIfInBounds] at hx ⊢
          by_cases hix : i = x
          · subst hix
            have := haft y hy
            by_cases hiy : i = y
            · simp [hiy, i1]
              have := C.back i _ hoi y hy
              omega
            · simp [hiy, this]
          · simp [hix] at hx
            have := i4 x hx y hy
            by_cases hiy : i = y
            · simp [hiy, i1]; omega
            · simp [hiy, this]
        · intro t s hs hno
          have hne : ops[i].dst ≠ some t := hno i _ (by rw [Array.getElem?_setIfInBounds]; simp [i1, hlt]) hoi
          obtain ⟨v', hv', hok⟩ := i5 t s hs (fun j o hj ho => hno j o (by
            rw [Array.getElem?_setIfInBounds]
            by_cases e : i = j
            · simp [e, i1]; exact (List.getElem?_eq_some_iff.1 ho).1
            · simp [e, hj]) ho)
          refine ⟨v', ?_, ?_⟩
          · cases hd : ops[i].dst with
            | none => simpa [Act.put] using hv'
            | some d =>
              simp only [Act.put]
              rw [Array.getElem?_setIfInBounds_ne (fun e => hne (by rw [hd, e]))]
              exact hv'
          · cases s with
            | eq u => exact hok
            | rel A => exact (hJ0 A t hs).elim
        · intro j o d hj ho hd hnk
          simp only [Array.getElem?_setIfInBounds] at hj
          by_cases e : i = j
          · subst e
            rw [hoi] at ho; cases ho
            refine ⟨v, ?_, hsp (by rw [hd]; simp)⟩
            simp only [Act.put, hd]
            rw [Array.getElem?_setIfInBounds]
            simp [i2, hdn d hd]
          · simp [e] at hj
            obtain ⟨v', hv', hok⟩ := i6 j o d hj ho hd (fun i' hi' => hnk i' (by
              rw [Array.getElem?_setIfInBounds]
              by_cases e' : i = i'
              · simp [e', i1]; have := (Array.getElem?_eq_some_iff.1 hi').1; omega
              · simp [e', hi']))
            refine ⟨v', ?_, ?_⟩
            · cases hd' : ops[i].dst with
              | none => simpa [Act.put] using hv'
              | some d' =>
                simp only [Act.put]
                have hne : d' ≠ d := by
                  intro e'; subst e'
                  exact e (C.apart j o d' ho hd i _ hoi hd')
                rw [Array.getElem?_setIfInBounds_ne hne]
                exact hv'
            · cases hs : sps j with
              | eq u => rw [hs] at hok; exact hok
              | rel A =>
                rw [hs] at hok
                refine (hob' j o ho).1 A d hs hd i (hnk i (by rw [Array.getElem?_setIfInBounds]; simp [i1, hlt])) ?_ e v' w w' hR hok
                cases hr : reachIn (masks ops ops.length) j i with
                | false => rfl
                | true => exact absurd (masks_spec _ _ _ hr (fun x => listed[x]? = some true) i4 (i4 j hj)) hnl
        · -- the stages
          unfold stepsOf
          split
          · rename_i hm
            obtain ⟨m, hm', hs⟩ := List.getElem_of_mem (any_beq.1 hm)
            have hs' : σ[m]? = some i := by rw [List.getElem?_eq_getElem hm', hs]
            have hge : ¬ m < k := fun h => hnl ((i7 m i hs').2 h)
            omega
          · omega
        · intro m s hs
          unfold stepsOf
          rw [Array.getElem?_setIfInBounds]
          by_cases hmem : σ.any (Nat.beq i) = true
          · rw [if_pos hmem]
            obtain ⟨m', hm', hs'⟩ := List.getElem_of_mem (any_beq.1 hmem)
            have hs'' : σ[m']? = some i := by rw [List.getElem?_eq_getElem hm', hs']
            have hge : ¬ m' < k := fun h => hnl ((i7 m' i hs'').2 h)
            have hmk : m' = k := by
              refine Nat.le_antisymm ?_ (by omega)
              rcases Nat.lt_or_ge k m' with hlt' | hge'
              · exfalso
                obtain ⟨q, rfl⟩ : ∃ q, m' = q + 1 := ⟨m' - 1, by omega⟩
                have hq : σ[q]? = some σ[q] := List.getElem?_eq_getElem (by omega)
                have := C.chain q _ i hq hs'' (fun x => listed[x]? = some true) i4 haft
                have := (i7 q _ hq).1 this
                omega
              · exact hge'
            subst hmk
            by_cases e : i = s
            · subst e
              simp [i1, hlt]
              have : m ≤ m' := by
                rcases Nat.lt_or_ge m' m with h | h
                · exfalso
                  -- σ[m'] = σ[m] = i with m' < m: the one ahead of m is behind i
                  obtain ⟨q, rfl⟩ : ∃ q, m = q + 1 := ⟨m - 1, by omega⟩
                  have hql : q + 1 < σ.length := (List.getElem?_eq_some_iff.1 hs).1
                  have hq : σ[q]? = some (σ[q]'(by omega)) := List.getElem?_eq_getElem (by omega)
                  have h1 := C.chain q _ i hq hs (fun x => listed[x]? = some true) i4 haft
                  have := (i7 q _ hq).1 h1
                  omega
                · exact h
              omega
            · simp [e]
              rw [i7 m s hs]
              constructor
              · intro h; omega
              · intro h
                rcases Nat.lt_or_ge m m' with h' | h'
                · exact h'
                · have : m = m' := by omega
                  subst this; rw [hs''] at hs; cases hs; exact absurd rfl e
          · rw [if_neg hmem]
            have e : i ≠ s := by
              intro e; subst e
              exact hmem (any_beq.2 (List.mem_of_getElem? hs))
            simp [e]
            exact i7 m s hs
  refine key _ _ a w ?_ ⟨by simp, hsz, hdf, ?_, fun t s hs _ => ha t s hs, ?_, 0, Nat.zero_le _, ?_, hJ⟩
  · exact Nat.le_trans (List.length_filter_le _ _) (by simp)
  · intro x hx
    simp [Array.getElem?_replicate] at hx
  · intro j o d hj
    simp [Array.getElem?_replicate] at hj
  · intro m s hs
    simp [Array.getElem?_replicate]
end
end Brv
