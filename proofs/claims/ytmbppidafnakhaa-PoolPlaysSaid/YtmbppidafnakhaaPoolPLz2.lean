/-
  Texts of this claim, put together.
-/
import Derived.ChangeKeysEq
import Derived.Lib.Overlaps
import Derived.MapKept
import Derived.Test.YtmbppidafnakhaaPoolPLz1
/-
  Regions that draw their order: those operations that turn the world stand in a chain, the others read, and what they read stays while they may run. One walk serves every order.
-/
set_option linter.unusedVariables false
set_option linter.unusedSimpArgs false
namespace Brv
open Go

def extE : Option Nat → Value → Env → Env
  | some d, v, ρ => (d, v) :: ρ
  | none, _, ρ => ρ
abbrev Pend := List (Nat × (List Asn → Prop))
def piOf (ops : List Oper) : List Nat → List (Nat × Oper)
  | [] => []
  | i :: r => match ops[i]? with
    | some o => (i, o) :: piOf ops r
    | none => piOf ops r
def Obl (ops : List Oper) (i : Nat) : Pend → List Asn → Prop
  | [], _ => True
  | (j, g) :: r, H => (reachIn (masks ops ops.length) i j = true ∨ g H) ∧ Obl ops i r H
theorem Obl.all {ops : List Oper} {i : Nat} {H : List Asn} : ∀ {p : Pend}, Obl ops i p H → ∀ j g, (j, g) ∈ p → reachIn (masks ops ops.length) i j = true ∨ g H
  | [], _, j, g, h => by cases h
  | (j', g') :: r, ⟨h1, h2⟩, j, g, h => by
    rcases List.mem_cons.1 h with h | h
    · cases h; exact h1
    · exact Obl.all h2 j g h

section
variable (P : Program) (n : Fm) (ops : List Oper) (Q : Exit → Act → World → Prop) (o : Org) (σ : List Nat)
/-- An operation that only reads. -/
def Fl (ρ : Env) (w : World) (op : Oper) (v : Value) : Prop := (wants ops ρ op.guard = some true ∧ Runs P n ρ w op v w) ∨ (wants ops ρ op.guard = some false ∧ v = undef)
def SW : List (Nat × Oper) → Pend → Env → List Asn → Prop
  | [], _, ρ, H => ∀ w F S, St H F S w → From o w F S → ∀ a, Fr n ρ a → Q .normal a w
  | (i, op) :: π, pend, ρ, H => (∃ w F S, St H F S w ∧ From o w F S) → isSelect op.op = false ∧ (∀ d, op.dst = some d → d < n.n) ∧
    ((σ.any (Nat.beq i) = true ∧ ∃ Ψ : Value → List Asn → Prop, ((wants ops ρ op.guard = some true ∧ CS P n o ρ H op Ψ) ∨ (wants ops ρ op.guard = some false ∧ Ψ = fun v H' => v = undef ∧ H' = H)) ∧
        ∀ v H', Ψ v H' → Obl ops i pend H' ∧ SW π pend (extE op.dst v ρ) H') ∨
     (σ.any (Nat.beq i) = false ∧ ∃ v, op.dst ≠ none ∧ ((∀ w, Fl P n ops ρ w op v) ∧ SW π pend (extE op.dst v ρ) H ∨
        ∃ g : List Asn → Prop, g H ∧ (∀ H w F S, g H → St H F S w → From o w F S → Fl P n ops ρ w op v) ∧ SW π ((i, g) :: pend) (extE op.dst v ρ) H)))
end

/-- Is the order told one in which the others run as early as they may? -/
def chkOrd (ops : List Oper) (σ : List Nat) : List Nat → List Nat → List Nat → Bool
  | _, _, [] => true
  | done, ch, i :: r => Nat.blt i ops.length && !done.any (Nat.beq i) && (afters ops i).all (fun k => done.any (Nat.beq k)) && ch.all (fun c => reachIn (masks ops ops.length) i c) && chkOrd ops σ (i :: done) (if σ.any (Nat.beq i) then i :: ch else ch) r
def chkPi (ops : List Oper) (σ π : List Nat) : Bool := chk ops [] && (List.range ops.length).all (fun i => π.any (Nat.beq i)) && chkOrd ops σ [] [] π

section
variable {P : Program} {n : Fm} {ops : List Oper} {Q : Exit → Act → World → Prop} {o : Org} {σ : List Nat}

def envOf (ops : List Oper) (val : Nat → Value) (ρ₀ : Env) : List Nat → Env
  | [] => ρ₀
  | i :: d => extE ((ops[i]?).bind (·.dst)) (val i) (envOf ops val ρ₀ d)
/-- The environment that operation i was walked in. -/
def envB (ops : List Oper) (val : Nat → Value) (ρ₀ : Env) (i : Nat) : List Nat → Env
  | [] => ρ₀
  | j :: d => if j = i then envOf ops val ρ₀ d else envB ops val ρ₀ i d
def DoneOk (ops : List Oper) : List Nat → Prop
  | [] => True
  | i :: d => i ∉ d ∧ i < ops.length ∧ (∀ k ∈ afters ops i, k ∈ d) ∧ DoneOk ops d
theorem look_envOf {val : Nat → Value} {ρ₀ : Env} {t : Nat} {u : Value} : ∀ {d : List Nat}, look (envOf ops val ρ₀ d) t = some u → (∃ j op, j ∈ d ∧ ops[j]? = some op ∧ op.dst = some t ∧ u = val j) ∨ (look ρ₀ t = some u ∧ ∀ j op, j ∈ d → ops[j]? = some op → op.dst ≠ some t)
  | [], h => .inr ⟨h, fun j op hj => by cases hj⟩
  | i :: d, h => by
    simp only [envOf] at h
    cases ho : ops[i]? with
    | none =>
      rw [ho] at h
      rcases look_envOf h with ⟨j, op, h1, h2⟩ | ⟨h1, h2⟩
      · exact .inl ⟨j, op, by simp [h1], h2⟩
      · refine .inr ⟨h1, fun j op hj hop => ?_⟩
        rcases List.mem_cons.1 hj with rfl | hj
        · rw [ho] at hop; cases hop
        · exact h2 j op hj hop
    | some op =>
      rw [ho] at h
      simp only [Option.bind_some] at h
      cases hd : op.dst with
      | none =>
        rw [hd] at h
        rcases look_envOf h with ⟨j, op, h1, h2⟩ | ⟨h1, h2⟩
        · exact .inl ⟨j, op, by simp [h1], h2⟩
        · refine .inr ⟨h1, fun j op' hj hop => ?_⟩
          rcases List.mem_cons.1 hj with rfl | hj
          · rw [ho] at hop; cases hop; rw [hd]; simp
          · exact h2 j op' hj hop
      | some s =>
        rw [hd] at h
        simp only [extE] at h
        rw [look_cons] at h
        split at h
        · rename_i e; subst e; cases h
          exact .inl ⟨i, op, by simp, ho, hd, rfl⟩
        · rename_i e
          rcases look_envOf h with ⟨j, op, h1, h2⟩ | ⟨h1, h2⟩
          · exact .inl ⟨j, op, by simp [h1], h2⟩
          · refine .inr ⟨h1, fun j op' hj hop => ?_⟩
            rcases List.mem_cons.1 hj with rfl | hj
            · rw [ho] at hop; cases hop; rw [hd]; simpa using e
            · exact h2 j op' hj hop
theorem envB_of {val : Nat → Value} {ρ₀ : Env} {i : Nat} : ∀ {d : List Nat}, DoneOk ops d → i ∈ d → ∃ d', envB ops val ρ₀ i d = envOf ops val ρ₀ d' ∧ (∀ k ∈ afters ops i, k ∈ d') ∧ i ∉ d' ∧ DoneOk ops d' ∧ ∀ x ∈ d', x ∈ d
  | j :: d, ⟨h1, h2, h3, h4⟩, hi => by
    simp only [envB]
    split
    · rename_i e; subst e; exact ⟨d, rfl, h3, h1, h4, fun x hx => List.mem_cons_of_mem _ hx⟩
    · rename_i e
      obtain ⟨d', q1, q2, q3, q4, q5⟩ := envB_of h4 ((List.mem_cons.1 hi).resolve_left (fun q => e q.symm))
      exact ⟨d', q1, q2, q3, q4, fun x hx => List.mem_cons_of_mem _ (q5 x hx)⟩
theorem envOf_congr {val val' : Nat → Value} {ρ₀ : Env} : ∀ {d : List Nat}, (∀ j ∈ d, val j = val' j) → envOf ops val ρ₀ d = envOf ops val' ρ₀ d
  | [], _ => rfl
  | i :: d, h => by simp only [envOf]; rw [h i (by simp), envOf_congr (fun j hj => h j (by simp [hj]))]
theorem envB_congr {val val' : Nat → Value} {ρ₀ : Env} {i : Nat} : ∀ {d : List Nat}, (∀ j ∈ d, val j = val' j) → envB ops val ρ₀ i d = envB ops val' ρ₀ i d
  | [], _ => rfl
  | j :: d, h => by
    simp only [envB]
    rw [envOf_congr (fun k hk => h k (by simp [hk])), envB_congr (fun k hk => h k (by simp [hk]))]
theorem DoneOk.back : ∀ {d : List Nat} {j k : Nat}, DoneOk ops d → j ∈ d → k ∈ afters ops j → k ∈ d
  | i :: d, j, k, ⟨_, _, h3, h4⟩, hj, hk => by
    rcases List.mem_cons.1 hj with rfl | hj
    · exact List.mem_cons_of_mem _ (h3 k hk)
    · exact List.mem_cons_of_mem _ (DoneOk.back h4 hj hk)

/-- What is so while the region runs. -/
structure SInv (P : Program) (n : Fm) (ops : List Oper) (Q : Exit → Act → World → Prop) (o : Org) (σ : List Nat) (ρ₀ : Env) (listed : Array Bool) (a : Act) (w : World) (done rest ch : List Nat) (pend : Pend) (H : List Asn) (F S : List Nat) (val : Nat → Value) : Prop where
  lsz : listed.size = ops.length
  tsz : a.tmps.size = n.n
  tdf : a.defers = n.df
  closed : Closed ops (fun i => listed[i]? = some true)
  ok : DoneOk ops done
  ord : chkOrd ops σ done ch rest = true
  chs : ∀ c ∈ ch, c ∈ done
  cover : ∀ i, i < ops.length → i ∈ done ∨ i ∈ rest
  sw : SW P n ops Q o σ (piOf ops rest) pend (envOf ops val ρ₀ done) H
  st : St H F S w
  fr : From o w F S
  ldone : ∀ i, listed[i]? = some true → i ∈ done
  cdone : ∀ i ∈ done, σ.any (Nat.beq i) = true → listed[i]? = some true
  pok : ∀ (i : Nat) (op : Oper), i ∈ done → listed[i]? ≠ some true → ops[i]? = some op → isSelect op.op = false ∧ (∀ d, op.dst = some d → d < n.n) ∧ op.dst ≠ none ∧ ((∀ w, Fl P n ops (envB ops val ρ₀ i done) w op (val i)) ∨ ∃ g : List Asn → Prop, (i, g) ∈ pend ∧ g H ∧ ∀ H w F S, g H → St H F S w → From o w F S → Fl P n ops (envB ops val ρ₀ i done) w op (val i))
  d1 : ∀ (i : Nat) (op : Oper) (d : Nat), listed[i]? = some true → ops[i]? = some op → op.dst = some d → a.tmps[d]? = some (val i)
  d2 : ∀ t v, look ρ₀ t = some v → (∀ (i : Nat) (op : Oper), listed[i]? = some true → ops[i]? = some op → op.dst ≠ some t) → a.tmps[t]? = some v
  lt0 : ∀ t v, look ρ₀ t = some v → t < n.n
  ltd : ∀ (i : Nat) (op : Oper) (d : Nat), i ∈ done → ops[i]? = some op → op.dst = some d → d < n.n

/-- The slots that an operation looks at are as its environment has them. -/
theorem SInv.slots {ρ₀ : Env} {listed : Array Bool} {a : Act} {w : World} {done rest ch : List Nat} {pend : Pend} {H : List Asn} {F S : List Nat} {val : Nat → Value} (C : Chk ops []) (I : SInv P n ops Q o σ ρ₀ listed a w done rest ch pend H F S val)
    {i : Nat} {op : Oper} (hi : ops[i]? = some op) (hnl : listed[i]? ≠ some true) (haft : ∀ k ∈ afters ops i, listed[k]? = some true) {d : List Nat} (hd : DoneOk ops d) (hda : ∀ k ∈ afters ops i, k ∈ d) (hid : i ∉ d) :
    ∀ t ∈ slots ops op, ∀ u, look (envOf ops val ρ₀ d) t = some u → a.tmps[t]? = some u := by
  intro t ht u hu
  rcases look_envOf hu with ⟨j, oj, hj, hoj, hdj, rfl⟩ | ⟨h0, hno⟩
  · rcases C.share i op hi t ht j oj hoj hdj with e | e | e
    · exact absurd (e ▸ hj) hid
    · exact I.d1 j oj t (haft j e) hoj hdj
    · exact absurd (hd.back hj e) hid
  · refine I.d2 t u h0 (fun j oj hlj hoj hdj => ?_)
    rcases C.share i op hi t ht j oj hoj hdj with e | e | e
    · exact hnl (e ▸ hlj)
    · exact hno j oj (hda j e) hoj hdj
    · exact hnl (I.closed j hlj i e)
/-- A frame that has all of an environment, and the slots that an operation looks at as they are. -/
theorem frame_for {ρ : Env} {a : Act} (hsz : a.tmps.size = n.n) (hlt : ∀ t v, look ρ t = some v → t < n.n) (op : Oper) (hs : ∀ t ∈ slots ops op, ∀ u, look ρ t = some u → a.tmps[t]? = some u) :
    ∃ a₀, Fr n ρ a₀ ∧ ∀ t ∈ slots ops op, a.tmps.getD t undef = a₀.tmps.getD t undef ∧ a.tmps[t]? = a₀.tmps[t]? := by
  refine ⟨{ tmps := Array.ofFn (n := n.n) fun t => match look ρ t.1 with | some v => v | none => a.tmps.getD t.1 undef, defers := n.df }, ⟨by simp, rfl, ?_⟩, ?_⟩
  · intro t v hv
    have := hlt t v hv
    simp [this, hv]
  · intro t ht
    have key : a.tmps[t]? = (Array.ofFn (n := n.n) fun t => match look ρ t.1 with | some v => v | none => a.tmps.getD t.1 undef)[t]? := by
      rcases Nat.lt_or_ge t n.n with hlt' | hge
      · rw [Array.getElem?_ofFn, dif_pos hlt']
        cases hv : look ρ t with
        | some v => rw [hs t ht v hv]
        | none =>
          simp only []
          have : t < a.tmps.size := by omega
          rw [Array.getElem?_eq_getElem this, Array.getD_eq_getD_getElem?, Array.getElem?_eq_getElem this]
          rfl
      · rw [Array.getElem?_eq_none (by omega), Array.getElem?_eq_none (by simp; omega)]
    exact ⟨by rw [Array.getD_eq_getD_getElem?, Array.getD_eq_getD_getElem?, key], key⟩
theorem wanted_for {ρ : Env} {a a₀ : Act} {op : Oper} {b : Bool} (hg : wants ops ρ op.guard = some b) (ha : Fr n ρ a₀) (hag : ∀ t ∈ slots ops op, a.tmps.getD t undef = a₀.tmps.getD t undef ∧ a.tmps[t]? = a₀.tmps[t]?) : Region.wanted op (yielded ops.toArray a.tmps) = b :=
  wanted_virtual (ρ := ρ) hg ha hag (fun _ _ _ h => h)
theorem piOf_cons {i : Nat} {r : List Nat} {op : Oper} (h : ops[i]? = some op) : piOf ops (i :: r) = (i, op) :: piOf ops r := by simp [piOf, h]
theorem lt_env {val : Nat → Value} {ρ₀ : Env} {d : List Nat} (h0 : ∀ t v, look ρ₀ t = some v → t < n.n) (hd : ∀ i op t, i ∈ d → ops[i]? = some op → op.dst = some t → t < n.n) : ∀ t v, look (envOf ops val ρ₀ d) t = some v → t < n.n := by
  intro t v h
  rcases look_envOf h with ⟨j, op, h1, h2, h3, _⟩ | ⟨h1, _⟩
  · exact hd j op t h1 h2 h3
  · exact h0 t v h1

/-- The walk goes on over all that only read. -/
theorem SInv.adv {ρ₀ : Env} {listed : Array Bool} {a : Act} {w : World} : ∀ {rest done ch : List Nat} {pend : Pend} {H : List Asn} {F S : List Nat} {val : Nat → Value}, SInv P n ops Q o σ ρ₀ listed a w done rest ch pend H F S val →
    ∃ done' rest' ch' pend' val', SInv P n ops Q o σ ρ₀ listed a w done' rest' ch' pend' H F S val' ∧ (rest' = [] ∨ ∃ c r, rest' = c :: r ∧ σ.any (Nat.beq c) = true)
  | [], done, ch, pend, H, F, S, val, I => ⟨done, [], ch, pend, val, I, .inl rfl⟩
  | i :: r, done, ch, pend, H, F, S, val, I => by
    cases hc : σ.any (Nat.beq i) with
    | true => exact ⟨done, i :: r, ch, pend, val, I, .inr ⟨i, r, rfl, hc⟩⟩
    | false =>
      have ho := I.ord
      simp only [chkOrd, Bool.and_eq_true, hc, Bool.not_eq_true', Nat.blt_eq] at ho
      obtain ⟨⟨⟨⟨h1, h2⟩, h3⟩, h4⟩, h5⟩ := ho
      have hid : i ∉ done := fun h => by have := any_beq.2 h; rw [h2] at this; cases this
      have hia : ∀ k ∈ afters ops i, k ∈ done := fun k hk => any_beq.1 (List.all_eq_true.1 h3 k hk)
      have hop : ops[i]? = some ops[i] := List.getElem?_eq_getElem h1
      have hsw := I.sw
      rw [piOf_cons hop] at hsw
      obtain ⟨q1, q2, q⟩ := hsw ⟨w, F, S, I.st, I.fr⟩
      rcases q with ⟨q, _⟩ | ⟨_, v, q3, q⟩
      · rw [hc] at q; cases q
      have hnl : listed[i]? ≠ some true := fun h => hid (I.ldone i h)
      obtain ⟨val', hv'⟩ : ∃ val' : Nat → Value, val' = fun j => if j = i then v else val j := ⟨_, rfl⟩
      have hvi : val' i = v := by rw [hv']; simp
      have hvd : ∀ j ∈ done, val j = val' j := fun j hj => by rw [hv']; simp only [if_neg (fun e : j = i => hid (e ▸ hj))]
      have hE : envOf ops val' ρ₀ (i :: done) = extE ops[i].dst v (envOf ops val ρ₀ done) := by
        simp only [envOf, hop, Option.bind_some, hvi]
        rw [envOf_congr (fun j hj => (hvd j hj).symm)]
      have hB : envB ops val' ρ₀ i (i :: done) = envOf ops val ρ₀ done := by simp only [envB, if_true]; exact envOf_congr (fun j hj => (hvd j hj).symm)
      have hB2 : ∀ j, j ∈ done → envB ops val' ρ₀ j (i :: done) = envB ops val ρ₀ j done := fun j hj => by
        simp only [envB]
        rw [if_neg (fun e : i = j => hid (e ▸ hj))]
        exact envB_congr (fun j hj => (hvd j hj).symm)
      have hcover : ∀ j, j < ops.length → j ∈ i :: done ∨ j ∈ r := fun j hj => (I.cover j hj).elim (fun h => .inl (by simp [h])) (fun h => (List.mem_cons.1 h).elim (fun e => .inl (by simp [e])) .inr)
      have hd1 : ∀ j op d, listed[j]? = some true → ops[j]? = some op → op.dst = some d → a.tmps[d]? = some (val' j) := fun j op d h1 h2 h3 => by rw [← hvd j (I.ldone j h1)]; exact I.d1 j op d h1 h2 h3
      have hltd : ∀ j op d, j ∈ i :: done → ops[j]? = some op → op.dst = some d → d < n.n := fun j op d hj hoj hdj => by
        rcases List.mem_cons.1 hj with rfl | hj
        · rw [hop] at hoj; cases hoj; exact q2 d hdj
        · exact I.ltd j op d hj hoj hdj
      have hcd : ∀ j ∈ i :: done, σ.any (Nat.beq j) = true → listed[j]? = some true := fun j hj hs => by
        rcases List.mem_cons.1 hj with rfl | hj
        · rw [hc] at hs; cases hs
        · exact I.cdone j hj hs
      rcases q with ⟨q4, q5⟩ | ⟨g, q4, q5, q6⟩
      · exact SInv.adv (rest := r) (done := i :: done) (ch := ch) (pend := pend) (H := H) (F := F) (S := S) (val := val') ⟨I.lsz, I.tsz, I.tdf, I.closed, ⟨hid, h1, hia, I.ok⟩, by simpa [hc] using h5, fun c hc => by simp [I.chs c hc], hcover, by rw [hE]; exact q5, I.st, I.fr, fun j hj => by simp [I.ldone j hj], hcd,
          fun j op hj hnj hoj => by
            rcases List.mem_cons.1 hj with rfl | hj
            · rw [hop] at hoj; cases hoj
              exact ⟨q1, q2, q3, .inl (by rw [hB, hvi]; exact q4)⟩
            · rw [hB2 j hj, ← hvd j hj]
              exact I.pok j op hj hnj hoj, hd1, I.d2, I.lt0, hltd⟩
      · exact SInv.adv (rest := r) (done := i :: done) (ch := ch) (pend := (i, g) :: pend) (H := H) (F := F) (S := S) (val := val') ⟨I.lsz, I.tsz, I.tdf, I.closed, ⟨hid, h1, hia, I.ok⟩, by simpa [hc] using h5, fun c hc => by simp [I.chs c hc], hcover, by rw [hE]; exact q6, I.st, I.fr, fun j hj => by simp [I.ldone j hj], hcd,
          fun j op hj hnj hoj => by
            rcases List.mem_cons.1 hj with rfl | hj
            · rw [hop] at hoj; cases hoj
              exact ⟨q1, q2, q3, .inr ⟨g, by simp, q4, by rw [hB, hvi]; exact q5⟩⟩
            · rw [hB2 j hj, ← hvd j hj]
              obtain ⟨k1, k2, k3, k4⟩ := I.pok j op hj hnj hoj
              exact ⟨k1, k2, k3, k4.imp id (fun ⟨g', m1, m2⟩ => ⟨g', by simp [m1], m2⟩)⟩, hd1, I.d2, I.lt0, hltd⟩

theorem listed_set {listed : Array Bool} {i j : Nat} (hi : i < listed.size) : (listed.setIfInBounds i true)[j]? = some true ↔ j = i ∨ listed[j]? = some true := by
  rw [Array.getElem?_setIfInBounds]
  by_cases e : i = j
  · subst e; simp [hi]
  · simp only [if_neg e]
    exact ⟨.inr, fun h => h.resolve_left (fun q => e q.symm)⟩
/-- One operation is done, which was walked over. -/
theorem SInv.float {ρ₀ : Env} {listed : Array Bool} {a : Act} {w : World} {done rest ch : List Nat} {pend : Pend} {H : List Asn} {F S : List Nat} {val : Nat → Value} (C : Chk ops []) (I : SInv P n ops Q o σ ρ₀ listed a w done rest ch pend H F S val)
    {i : Nat} {op : Oper} (hi : ops[i]? = some op) (hid : i ∈ done) (hnl : listed[i]? ≠ some true) (haft : ∀ k ∈ afters ops i, listed[k]? = some true) (hcs : σ.any (Nat.beq i) = false) :
    SInv P n ops Q o σ ρ₀ (listed.setIfInBounds i true) (a.put op.dst (val i)) w done rest ch pend H F S val := by
  have hlt : i < listed.size := by rw [I.lsz]; exact (List.getElem?_eq_some_iff.1 hi).1
  obtain ⟨d, hd⟩ : ∃ d, op.dst = some d := by
    have := (I.pok i op hid hnl hi).2.2.1
    cases h : op.dst with
    | none => exact absurd h this
    | some d => exact ⟨d, rfl⟩
  have hdn : d < a.tmps.size := by rw [I.tsz]; exact (I.pok i op hid hnl hi).2.1 d hd
  refine ⟨by simpa using I.lsz, by rw [hd]; simpa [Act.put] using I.tsz, by rw [hd]; simpa [Act.put] using I.tdf, ?_, I.ok, I.ord, I.chs, I.cover, I.sw, I.st, I.fr, ?_, ?_, ?_, ?_, ?_, I.lt0, I.ltd⟩
  · intro x hx y hy
    rw [listed_set hlt] at hx ⊢
    rcases hx with rfl | hx
    · exact .inr (haft y hy)
    · exact .inr (I.closed x hx y hy)
  · intro x hx
    rcases (listed_set hlt).1 hx with rfl | hx
    · exact hid
    · exact I.ldone x hx
  · intro x hx hs
    exact (listed_set hlt).2 (.inr (I.cdone x hx hs))
  · intro x ox hx hnx hox
    exact I.pok x ox hx (fun h => hnx ((listed_set hlt).2 (.inr h))) hox
  · intro x ox dx hx hox hdx
    rw [hd]
    simp only [Act.put]
    rcases (listed_set hlt).1 hx with rfl | hx
    · rw [hi] at hox; cases hox
      rw [hd] at hdx; cases hdx
      rw [Array.getElem?_setIfInBounds]; simp [hdn]
    · have hne : d ≠ dx := by
        intro e; subst e
        have := C.apart x ox d hox hdx i op hi hd
        exact hnl (this ▸ hx)
      rw [Array.getElem?_setIfInBounds_ne hne]
      exact I.d1 x ox dx hx hox hdx
  · intro t v hv hno
    have hne : d ≠ t := fun e => hno i op ((listed_set hlt).2 (.inl rfl)) hi (by rw [hd, e])
    rw [hd]
    simp only [Act.put]
    rw [Array.getElem?_setIfInBounds_ne hne]
    exact I.d2 t v hv (fun j oj hj => hno j oj ((listed_set hlt).2 (.inr hj)))

/-- The next one of the chain is done. -/
theorem SInv.chain {ρ₀ : Env} {listed : Array Bool} {a : Act} {w : World} {done r ch : List Nat} {pend : Pend} {H : List Asn} {F S : List Nat} {val : Nat → Value} (C : Chk ops []) {i : Nat} {op : Oper} (I : SInv P n ops Q o σ ρ₀ listed a w done (i :: r) ch pend H F S val)
    (hi : ops[i]? = some op) (hnl : listed[i]? ≠ some true) (haft : ∀ k ∈ afters ops i, listed[k]? = some true) (hid : i ∉ done) (hia : ∀ k ∈ afters ops i, k ∈ done) (hcs : σ.any (Nat.beq i) = true) (hdn : ∀ d, op.dst = some d → d < n.n) (hord : chkOrd ops σ (i :: done) (i :: ch) r = true)
    {v : Value} {H' : List Asn} {F' S' : List Nat} {w' : World} (hob : Obl ops i pend H') (hsw : SW P n ops Q o σ (piOf ops r) pend (extE op.dst v (envOf ops val ρ₀ done)) H') (s' : St H' F' S' w') (f' : From o w' F' S') :
    SInv P n ops Q o σ ρ₀ (listed.setIfInBounds i true) (a.put op.dst v) w' (i :: done) r (i :: ch) pend H' F' S' (fun j => if j = i then v else val j) := by
  have hll := (List.getElem?_eq_some_iff.1 hi).1
  have hlt : i < listed.size := by rw [I.lsz]; exact hll
  obtain ⟨val', hv'⟩ : ∃ val' : Nat → Value, val' = fun j => if j = i then v else val j := ⟨_, rfl⟩
  rw [← hv']
  have hvi : val' i = v := by rw [hv']; simp
  have hvd : ∀ j ∈ done, val j = val' j := fun j hj => by rw [hv']; simp only [if_neg (fun e : j = i => hid (e ▸ hj))]
  have hE : envOf ops val' ρ₀ (i :: done) = extE op.dst v (envOf ops val ρ₀ done) := by
    simp only [envOf, hi, Option.bind_some, hvi]
    rw [envOf_congr (fun j hj => (hvd j hj).symm)]
  have hB2 : ∀ j, j ∈ done → envB ops val' ρ₀ j (i :: done) = envB ops val ρ₀ j done := fun j hj => by
    simp only [envB]
    rw [if_neg (fun e : i = j => hid (e ▸ hj))]
    exact envB_congr (fun j hj => (hvd j hj).symm)
  refine ⟨by simpa using I.lsz, ?_, ?_, ?_, ⟨hid, hll, hia, I.ok⟩, hord, ?_, ?_, by rw [hE]; exact hsw, s', f', ?_, ?_, ?_, ?_, ?_, I.lt0, ?_⟩
  · cases hd : op.dst <;> simp [Act.put, I.tsz]
  · cases hd : op.dst <;> simp [Act.put, I.tdf]
  · intro x hx y hy
    rw [listed_set hlt] at hx ⊢
    rcases hx with rfl | hx
    · exact .inr (haft y hy)
    · exact .inr (I.closed x hx y hy)
  · intro c hc
    rcases List.mem_cons.1 hc with rfl | hc
    · simp
    · simp [I.chs c hc]
  · intro j hj
    rcases I.cover j hj with h | h
    · exact .inl (by simp [h])
    · rcases List.mem_cons.1 h with rfl | h
      · exact .inl (by simp)
      · exact .inr h
  · intro x hx
    rcases (listed_set hlt).1 hx with rfl | hx
    · simp
    · simp [I.ldone x hx]
  · intro x hx hs
    rcases List.mem_cons.1 hx with rfl | hx
    · exact (listed_set hlt).2 (.inl rfl)
    · exact (listed_set hlt).2 (.inr (I.cdone x hx hs))
  · intro x ox hx hnx hox
    have hxi : x ≠ i := fun e => hnx ((listed_set hlt).2 (.inl e))
    have hxd := (List.mem_cons.1 hx).resolve_left hxi
    have hnx' : listed[x]? ≠ some true := fun h => hnx ((listed_set hlt).2 (.inr h))
    obtain ⟨k1, k2, k3, k4⟩ := I.pok x ox hxd hnx' hox
    rw [hB2 x hxd, ← hvd x hxd]
    refine ⟨k1, k2, k3, k4.imp id (fun ⟨g, m1, m2, m3⟩ => ⟨g, m1, ?_, m3⟩)⟩
    rcases hob.all x g m1 with hr | hg
    · exact absurd (masks_spec _ _ _ hr (fun y => listed[y]? = some true) I.closed haft) hnx'
    · exact hg
  · intro x ox dx hx hox hdx
    rcases (listed_set hlt).1 hx with rfl | hx
    · rw [hi] at hox; cases hox
      rw [hdx, hvi]
      simp only [Act.put]
      rw [Array.getElem?_setIfInBounds]; simp [I.tsz, hdn dx hdx]
    · rw [← hvd x (I.ldone x hx)]
      have := I.d1 x ox dx hx hox hdx
      cases hd : op.dst with
      | none => exact this
      | some d =>
        simp only [Act.put]
        have hne : d ≠ dx := by
          intro e; subst e
          have := C.apart x ox d hox hdx i op hi hd
          exact hnl (this ▸ hx)
        rw [Array.getElem?_setIfInBounds_ne hne]
        exact this
  · intro t u hu hno
    have h2 := I.d2 t u hu (fun j oj hj => hno j oj ((listed_set hlt).2 (.inr hj)))
    cases hd : op.dst with
    | none => exact h2
    | some d =>
      have hne : d ≠ t := fun e => hno i op ((listed_set hlt).2 (.inl rfl)) hi (by rw [hd, e])
      simp only [Act.put]
      rw [Array.getElem?_setIfInBounds_ne hne]
      exact h2
  · intro j oj dj hj hoj hdj
    rcases List.mem_cons.1 hj with rfl | hj
    · rw [hi] at hoj; cases hoj; exact hdn dj hdj
    · exact I.ltd j oj dj hj hoj hdj
theorem chkOrd_reach : ∀ {r done ch : List Nat}, chkOrd ops σ done ch r = true → ∀ i ∈ r, ∀ c ∈ ch, reachIn (masks ops ops.length) i c = true
  | j :: r, done, ch, h, i, hi, c, hc => by
    simp only [chkOrd, Bool.and_eq_true] at h
    obtain ⟨⟨_, h4⟩, h5⟩ := h
    rcases List.mem_cons.1 hi with rfl | hi
    · exact List.all_eq_true.1 h4 c hc
    · refine chkOrd_reach h5 i hi c ?_
      split
      · simp [hc]
      · exact hc

theorem SW.sound {ρ₀ : Env} {π : List Nat} {H : List Asn} {F S : List Nat} (hchk : chkPi ops σ π = true) (hn : ∀ t v, look ρ₀ t = some v → t < n.n) (h : SW P n ops Q o σ (piOf ops π) [] ρ₀ H)
    {a : Act} {w : World} (s : St H F S w) (fr : From o w F S) (ha : Fr n ρ₀ a) : wpAnyIn (fen n.ro) 0 P .any ops.toArray Q ops.length (Array.replicate ops.length false) a w := by
  simp only [chkPi, Bool.and_eq_true] at hchk
  obtain ⟨⟨hc1, hc2⟩, hc3⟩ := hchk
  have C := chk_spec hc1
  have hready : ∀ (listed : Array Bool) (i : Nat), i ∈ Region.ready .any ops.toArray listed → i < ops.length ∧ listed[i]? ≠ some true ∧ ∀ k ∈ afters ops i, listed[k]? = some true := by
    intro listed i hi
    simp only [Region.ready, List.mem_filter, List.mem_range, Bool.and_eq_true] at hi
    obtain ⟨h1, h2, h3⟩ := hi
    have h1' : i < ops.length := by simpa using h1
    refine ⟨h1', ?_, ?_⟩
    · intro e
      simp [Array.getD_eq_getD_getElem?, e] at h2
    · intro k hk
      rw [List.getElem?_toArray, List.getElem?_eq_getElem h1'] at h3
      simp only [Option.map_some, Option.getD_some] at h3
      simp only [afters, List.getElem?_eq_getElem h1'] at hk
      simp only [List.mem_map, List.mem_filter] at hk
      obtain ⟨e, ⟨he, hb⟩, rfl⟩ := hk
      have := (Array.all_eq_true_iff_forall_mem.1 h3) e (by simpa using he)
      simp only [bindsAny] at hb
      simp only [hb, Bool.not_true, Bool.false_or] at this
      simp only [Array.getD_eq_getD_getElem?] at this
      cases hq : listed[e.on]? with
      | none => simp [hq] at this
      | some b => simp [hq] at this; subst this; rfl
  have allReady : ∀ (listed : Array Bool), listed.size = ops.length → Closed ops (fun i => listed[i]? = some true) → (∀ m, m < ops.length → listed[m]? ≠ some true → ∃ i, i ∈ Region.ready .any ops.toArray listed) := by
    intro listed hsz hcl m
    induction m using Nat.strongRecOn with
    | _ m ih =>
      intro hm hne
      by_cases hall : ∀ k ∈ afters ops m, listed[k]? = some true
      · refine ⟨m, ?_⟩
        simp only [Region.ready, List.mem_filter, List.mem_range, Bool.and_eq_true]
        refine ⟨by simpa using hm, ?_, ?_⟩
        · have hlt : m < listed.size := by omega
          rw [Array.getD_eq_getD_getElem?, Array.getElem?_eq_getElem hlt]
          rw [Array.getElem?_eq_getElem hlt] at hne
          cases hv : listed[m] with
          | true => rw [hv] at hne; exact absurd rfl hne
          | false => rfl
        · rw [List.getElem?_toArray, List.getElem?_eq_getElem hm]
          simp only [Option.map_some, Option.getD_some]
          rw [Array.all_eq_true_iff_forall_mem]
          intro e he
          cases hb : Region.binds .any e with
          | false => rfl
          | true =>
            have := hall e.on (by
              simp only [afters, List.getElem?_eq_getElem hm, List.mem_map, List.mem_filter]
              exact ⟨e, ⟨by simpa using he, hb⟩, rfl⟩)
            simp [Array.getD_eq_getD_getElem?, this]
      · have hex : ∃ k, k ∈ afters ops m ∧ ¬ listed[k]? = some true := Classical.byContradiction fun hno => hall fun k hk => Classical.byContradiction fun hk' => hno ⟨k, hk, hk'⟩
        obtain ⟨k, hk, hk'⟩ := hex
        have hlt := C.back m _ (List.getElem?_eq_getElem hm) k hk
        exact ih k hlt (by omega) hk'
  have key : ∀ (fuel : Nat) (listed : Array Bool) (a : Act) (w : World) (done rest ch : List Nat) (pend : Pend) (H : List Asn) (F S : List Nat) (val : Nat → Value), ((List.range ops.length).filter (fun i => listed[i]? ≠ some true)).length ≤ fuel →
      SInv P n ops Q o σ ρ₀ listed a w done rest ch pend H F S val → wpAnyIn (fen n.ro) 0 P .any ops.toArray Q fuel listed a w := by
    intro fuel
    have finish : ∀ (listed : Array Bool) (a : Act) (w : World) (done rest ch : List Nat) (pend : Pend) (H : List Asn) (F S : List Nat) (val : Nat → Value), SInv P n ops Q o σ ρ₀ listed a w done rest ch pend H F S val → (∀ i, i < ops.length → listed[i]? = some true) → Q .normal a w := by
      intro listed a w done rest ch pend H F S val I hall
      obtain ⟨done, rest, ch, pend, val, I, hr⟩ := I.adv
      rcases hr with rfl | ⟨c, r, rfl, hcs⟩
      · refine I.sw w F S I.st I.fr a ⟨I.tsz, I.tdf, fun t v hv => ?_⟩
        rcases look_envOf hv with ⟨j, op, h1, h2, h3, rfl⟩ | ⟨h1, h2⟩
        · exact I.d1 j op t (hall j (List.getElem?_eq_some_iff.1 h2).1) h2 h3
        · exact I.d2 t v h1 (fun j op hj hop => h2 j op (I.ldone j hj) hop)
      · exfalso
        have ho := I.ord
        simp only [chkOrd, Bool.and_eq_true, Bool.not_eq_true', Nat.blt_eq] at ho
        have := any_beq.2 (I.ldone c (hall c ho.1.1.1.1))
        rw [ho.1.1.1.2] at this; cases this
    induction fuel with
    | zero =>
      intro listed a w done rest ch pend H F S val hcnt I
      have hall : ∀ i, i < ops.length → listed[i]? = some true := by
        intro i hi
        refine Classical.byContradiction fun hne => ?_
        have hmem : i ∈ (List.range ops.length).filter (fun i => listed[i]? ≠ some true) := by
          rw [List.mem_filter]; exact ⟨List.mem_range.2 hi, by simpa using hne⟩
        have : (List.range ops.length).filter (fun i => listed[i]? ≠ some true) = [] := List.eq_nil_of_length_eq_zero (by omega)
        rw [this] at hmem; cases hmem
      refine ⟨?_, finish listed a w done rest ch pend H F S val I hall⟩
      apply List.eq_nil_iff_forall_not_mem.2
      intro i hi
      have := hready listed i hi
      exact this.2.1 (hall i this.1)
    | succ fuel ih =>
      intro listed a w done rest ch pend H F S val hcnt I
      refine ⟨fun hnil => ?_, fun i hi => ?_⟩
      · refine finish listed a w done rest ch pend H F S val I (fun i hi => Classical.byContradiction fun hne => ?_)
        obtain ⟨x, hx⟩ := allReady listed I.lsz I.closed i hi hne
        rw [hnil] at hx; cases hx
      · obtain ⟨hlt, hnl, haft⟩ := hready listed i hi
        obtain ⟨done, rest, ch, pend, val, I, hr⟩ := I.adv
        have hoi : ops[i]? = some ops[i] := List.getElem?_eq_getElem hlt
        have hlz : i < listed.size := by rw [I.lsz]; exact hlt
        have hless : ((List.range ops.length).filter (fun j => (listed.setIfInBounds i true)[j]? ≠ some true)).length ≤ fuel := by
          have gen : ∀ (l : List Nat), l.Nodup → ((i ∈ l → (l.filter (fun j => (listed.setIfInBounds i true)[j]? ≠ some true)).length + 1 ≤ (l.filter (fun j => listed[j]? ≠ some true)).length) ∧ (l.filter (fun j => (listed.setIfInBounds i true)[j]? ≠ some true)).length ≤ (l.filter (fun j => listed[j]? ≠ some true)).length) := by
            intro l
            induction l with
            | nil => exact fun _ => ⟨fun h => (by cases h), Nat.le_refl _⟩
            | cons x r ihl =>
              intro hnd
              have hnd' := List.nodup_cons.1 hnd
              obtain ⟨k1, k2⟩ := ihl hnd'.2
              by_cases hxi : x = i
              · subst hxi
                have e1 : (decide ((listed.setIfInBounds x true)[x]? ≠ some true)) = false := by simp [listed_set hlz]
                have e2 : (decide (listed[x]? ≠ some true)) = true := by simpa using hnl
                simp only [List.filter_cons, e1, e2, if_true, List.length_cons]
                simp only [Bool.false_eq_true, if_false]
                exact ⟨fun _ => Nat.succ_le_succ k2, Nat.le_succ_of_le k2⟩
              · have e1 : (decide ((listed.setIfInBounds i true)[x]? ≠ some true)) = (decide (listed[x]? ≠ some true)) := by
                  rw [decide_eq_decide]; simp [listed_set hlz, hxi]
                simp only [List.filter_cons, e1]
                split
                · simp only [List.length_cons]
                  exact ⟨fun h => Nat.succ_le_succ (k1 ((List.mem_cons.1 h).resolve_left (fun e => hxi e.symm))), Nat.succ_le_succ k2⟩
                · exact ⟨fun h => k1 ((List.mem_cons.1 h).resolve_left (fun e => hxi e.symm)), k2⟩
          have := (gen _ List.nodup_range).1 (List.mem_range.2 hlt)
          omega
        by_cases hid : i ∈ done
        · have hcs : σ.any (Nat.beq i) = false := by
            cases h : σ.any (Nat.beq i) with
            | false => rfl
            | true => exact absurd (I.cdone i hid h) hnl
          obtain ⟨p1, p2, p3, p4⟩ := I.pok i _ hid hnl hoi
          have hfl : Fl P n ops (envB ops val ρ₀ i done) w ops[i] (val i) := p4.elim (fun h => h w) (fun ⟨g, _, h1, h2⟩ => h2 H w F S h1 I.st I.fr)
          obtain ⟨d', hd1, hd2, hd3, hd4, hd5⟩ := envB_of (val := val) (ρ₀ := ρ₀) I.ok hid
          rw [hd1] at hfl
          have hsl := I.slots C hoi hnl haft hd4 hd2 hd3
          have hltE := lt_env (ops := ops) (n := n) (val := val) I.lt0 (fun j op t hj => I.ltd j op t (hd5 j hj))
          obtain ⟨a₀, hfr, hag⟩ := frame_for I.tsz hltE ops[i] hsl
          have hwp : wpo P n ops Q ops[i] (fun a' w' => a' = a.put ops[i].dst (val i) ∧ w' = w) a w := by
            unfold wpo
            rcases hfl with ⟨hg, hrun⟩ | ⟨hg, hv⟩
            · rw [wanted_for hg hfr hag]
              simp only [if_true]
              refine wpIn_run (nodef p1) ((congrArg (fun s => s.run P w) (eval_virtual hag (nosel p1))).trans (hrun a₀ hfr)) ?_
              exact ⟨rfl, rfl⟩
            · rw [wanted_for hg hfr hag]
              simp only [Bool.false_eq_true, if_false]
              rw [hv]; exact ⟨rfl, trivial⟩
          refine wpo_wpOp hoi hwp ?_
          rintro a' w' ⟨rfl, rfl⟩
          exact ih _ _ _ done rest ch pend H F S val hless (I.float C hoi hid hnl haft hcs)
        · have hir := (I.cover i hlt).resolve_left hid
          rcases hr with rfl | ⟨c, r, rfl, hcs⟩
          · cases hir
          · have ho := I.ord
            simp only [chkOrd, Bool.and_eq_true, Bool.not_eq_true', Nat.blt_eq, hcs, if_true] at ho
            obtain ⟨⟨⟨⟨h1, h2⟩, h3⟩, h4⟩, h5⟩ := ho
            by_cases hic : i = c
            · subst hic
              have hia : ∀ k ∈ afters ops i, k ∈ done := fun k hk => any_beq.1 (List.all_eq_true.1 h3 k hk)
              have hsw := I.sw
              rw [piOf_cons hoi] at hsw
              obtain ⟨q1, q2, q⟩ := hsw ⟨w, F, S, I.st, I.fr⟩
              rcases q with ⟨_, Ψ, hΨ, hk⟩ | ⟨q, _⟩
              · have hsl := I.slots C hoi hnl haft I.ok hia hid
                have hltE := lt_env (ops := ops) (n := n) (val := val) I.lt0 (fun j op t hj => I.ltd j op t hj)
                obtain ⟨a₀, hfr, hag⟩ := frame_for I.tsz hltE ops[i] hsl
                have hwp : wpo P n ops Q ops[i] (fun a' w' => ∃ v, a' = a.put ops[i].dst v ∧ PostS o Ψ v w') a w := by
                  unfold wpo
                  rcases hΨ with ⟨hg, hrun⟩ | ⟨hg, hv⟩
                  · rw [wanted_for hg hfr hag]
                    simp only [if_true]
                    exact (hrun w F S I.st I.fr).wp (nodef q1) hfr (eval_virtual hag (nosel q1))
                  · rw [wanted_for hg hfr hag]
                    simp only [Bool.false_eq_true, if_false]
                    exact ⟨undef, rfl, H, F, S, by rw [hv]; exact ⟨rfl, rfl⟩, I.st, I.fr⟩
                refine wpo_wpOp hoi hwp ?_
                rintro a' w' ⟨v, rfl, H', F', S', hv, s', f'⟩
                obtain ⟨k1, k2⟩ := hk v H' hv
                exact ih _ _ _ (i :: done) r (i :: ch) pend H' F' S' _ hless (I.chain C hoi hnl haft hid hia hcs q2 h5 k1 k2 s' f')
              · rw [hcs] at q; cases q
            · exfalso
              have hir' := (List.mem_cons.1 hir).resolve_left hic
              have hb := masks_spec _ _ _ (chkOrd_reach h5 i hir' c (by simp)) (fun x => listed[x]? = some true) I.closed haft
              have := any_beq.2 (I.ldone c hb)
              rw [h2] at this; cases this
  refine key _ _ a w [] π [] [] H F S (fun _ => undef) (Nat.le_trans (List.length_filter_le _ _) (by simp)) ⟨by simp, ha.size, ha.defers, ?_, trivial, hc3, by simp, ?_, h, s, fr, ?_, by simp, by simp, ?_, fun t v hv _ => ha.vals t v hv, hn, by simp⟩
  · intro x hx
    simp [Array.getElem?_replicate] at hx
  · intro i hi
    exact .inr (any_beq.1 (List.all_eq_true.1 hc2 i (List.mem_range.2 hi)))
  · intro i hi
    simp [Array.getElem?_replicate] at hi
  · intro j o d hj
    simp [Array.getElem?_replicate] at hj

/-! ### the rules -/
def Rd1 (P : Program) (n : Fm) (o : Org) (ρ : Env) (op : Oper) (v : Value) (H : List Asn) : Prop := ∀ w F S, St H F S w → Runs P n ρ w op v w
theorem SG.draw [hm : Mixed P] {B : Exit → Act → World → Prop} {ks : List K} {ρ : Env} {H : List Asn} {id : Nat} (σ π : List Nat) (hchk : chkPi ops σ π = true) (hlt : ρ.all (fun p => Nat.blt p.1 n) = true) (h : SW P n ops (sem P n.ro B ks) o σ (piOf ops π) [] ρ H) :
    SG P B n o ks ρ H (.region id ops.toArray true) := by
  intro w F S s f a ha
  refine wpIn_region_any hm.h ?_
  have hd := Ext.drawn w
  have := SW.sound (P := P) (n := n) (a := a) (w := { w with drawn := w.drawn + 1 }) hchk (fun t v hv => by
      have hmem : ∀ (r : Env) t v, look r t = some v → (t, v) ∈ r := by
        intro r
        induction r with
        | nil => intro t v h; cases h
        | cons p r ih =>
          obtain ⟨s, u⟩ := p
          intro t v h
          rw [look_cons] at h
          split at h
          · rename_i e; subst e; cases h; simp
          · exact List.mem_cons_of_mem _ (ih t v h)
      have := List.all_eq_true.1 hlt (t, v) (hmem ρ t v hv)
      simpa [Nat.blt_eq] using this) h ⟨s.sep.ext hd (Apart.nilR _) (Apart.nilR _), fun b hb => Nat.lt_of_lt_of_le (s.ltF b hb) hd.size, fun b hb => Nat.lt_of_lt_of_le (s.ltS b hb) hd.size⟩ ⟨f.ext.trans0 hd, f.fF, f.fS⟩ ha
  simpa using this
section
variable {π : List (Nat × Oper)} {pend : Pend} {ρ : Env} {H : List Asn} {i d : Nat} {op : Op} {ty : TypeId} {pos : String} {af : Array Edge} {gd : Option (Nat × Bool)}
theorem SW.pure {v : Value} (hc : σ.any (Nat.beq i) = false) (hg : wants ops ρ gd = some true) (hd : Nat.blt d n = true) (hs : isSelect op = false) (hrun : ∀ w, Runs P n ρ w ⟨some d, op, ty, pos, af, gd⟩ v w) (h : SW P n ops Q o σ π pend ((d, v) :: ρ) H) :
    SW P n ops Q o σ ((i, ⟨some d, op, ty, pos, af, gd⟩) :: π) pend ρ H :=
  fun _ => ⟨hs, fun d' e => by cases e; simpa [Nat.blt_eq] using hd, .inr ⟨hc, v, by simp, .inl ⟨fun w => .inl ⟨hg, hrun w⟩, h⟩⟩⟩
theorem SW.pass {hd : Nat.blt d n = true} (hc : σ.any (Nat.beq i) = false) (hg : wants ops ρ gd = some false) (hs : isSelect op = false) (h : SW P n ops Q o σ π pend ((d, undef) :: ρ) H) :
    SW P n ops Q o σ ((i, ⟨some d, op, ty, pos, af, gd⟩) :: π) pend ρ H :=
  fun _ => ⟨hs, fun d' e => by cases e; simpa [Nat.blt_eq] using hd, .inr ⟨hc, undef, by simp, .inl ⟨fun w => .inr ⟨hg, rfl⟩, h⟩⟩⟩
theorem SW.read {v : Value} (hc : σ.any (Nat.beq i) = false) (hg : wants ops ρ gd = some true) (hd : Nat.blt d n = true) (hs : isSelect op = false) (hrun : Rd1 P n o ρ ⟨some d, op, ty, pos, af, gd⟩ v H) (h : SW P n ops Q o σ π ((i, Rd1 P n o ρ ⟨some d, op, ty, pos, af, gd⟩ v) :: pend) ((d, v) :: ρ) H) :
    SW P n ops Q o σ ((i, ⟨some d, op, ty, pos, af, gd⟩) :: π) pend ρ H :=
  fun _ => ⟨hs, fun d' e => by cases e; simpa [Nat.blt_eq] using hd, .inr ⟨hc, v, by simp, .inr ⟨_, hrun, fun H w F S h s f => .inl ⟨hg, h w F S s⟩, h⟩⟩⟩
theorem SW.step {Ψ : Value → List Asn → Prop} (hc : σ.any (Nat.beq i) = true) (hg : wants ops ρ gd = some true) (hd : Nat.blt d n = true) (hs : isSelect op = false) (h : CS P n o ρ H ⟨some d, op, ty, pos, af, gd⟩ Ψ)
    (k : ∀ v H', Ψ v H' → Obl ops i pend H' ∧ SW P n ops Q o σ π pend ((d, v) :: ρ) H') : SW P n ops Q o σ ((i, ⟨some d, op, ty, pos, af, gd⟩) :: π) pend ρ H :=
  fun _ => ⟨hs, fun d' e => by cases e; simpa [Nat.blt_eq] using hd, .inl ⟨hc, Ψ, .inl ⟨hg, h⟩, k⟩⟩
theorem SW.step0 {Ψ : Value → List Asn → Prop} (hc : σ.any (Nat.beq i) = true) (hg : wants ops ρ gd = some true) (hs : isSelect op = false) (h : CS P n o ρ H ⟨none, op, ty, pos, af, gd⟩ Ψ)
    (k : ∀ v H', Ψ v H' → Obl ops i pend H' ∧ SW P n ops Q o σ π pend ρ H') : SW P n ops Q o σ ((i, ⟨none, op, ty, pos, af, gd⟩) :: π) pend ρ H :=
  fun _ => ⟨hs, fun d' e => (by cases e), .inl ⟨hc, Ψ, .inl ⟨hg, h⟩, k⟩⟩
theorem SW.passS (hc : σ.any (Nat.beq i) = true) (hg : wants ops ρ gd = some false) (hd : Nat.blt d n = true) (hs : isSelect op = false) (k : Obl ops i pend H ∧ SW P n ops Q o σ π pend ((d, undef) :: ρ) H) :
    SW P n ops Q o σ ((i, ⟨some d, op, ty, pos, af, gd⟩) :: π) pend ρ H :=
  fun _ => ⟨hs, fun d' e => by cases e; simpa [Nat.blt_eq] using hd, .inl ⟨hc, _, .inr ⟨hg, rfl⟩, by rintro v H' ⟨rfl, rfl⟩; exact k⟩⟩
theorem SW.fact {φ : Prop} (hφ : ∀ w F S, St H F S w → φ) (h : φ → SW P n ops Q o σ π pend ρ H) : SW P n ops Q o σ π pend ρ H := by
  cases π with
  | nil => exact fun w F S s f => h (hφ w F S s) w F S s f
  | cons p π => exact fun ⟨w, F, S, s, f⟩ => h (hφ w F S s) ⟨w, F, S, s, f⟩
theorem wants_congr {ρ ρ' : Env} (hl : ∀ t, look ρ t = look ρ' t) (g : Option (Nat × Bool)) : wants ops ρ g = wants ops ρ' g := by
  unfold wants
  split
  · rfl
  · split
    · rw [hl]
    · rfl
theorem Fr.congr {ρ ρ' : Env} {a : Act} (hl : ∀ t, look ρ t = look ρ' t) (h : Fr n ρ' a) : Fr n ρ a := ⟨h.size, h.defers, fun t v hv => h.vals t v (by rw [← hl]; exact hv)⟩
theorem Acts.congr {ρ ρ' : Env} {w : World} {op : Oper} {Φ : Value → World → Prop} (hl : ∀ t, look ρ t = look ρ' t) (h : Acts P n ρ w op Φ) : Acts P n ρ' w op Φ := by
  rcases h with ⟨v, w', h, k⟩ | ⟨hd, w', h, k⟩ | ⟨f, vs, h, k⟩ | ⟨l, fn, tmps, asv, body, h, k⟩
  · exact .inl ⟨v, w', fun a ha => h a (ha.congr hl), k⟩
  · exact .inr (.inl ⟨hd, w', fun a ha => h a (ha.congr hl), k⟩)
  · exact .inr (.inr (.inl ⟨f, vs, fun a ha => h a (ha.congr hl), k⟩))
  · exact .inr (.inr (.inr ⟨l, fn, tmps, asv, body, fun a ha => h a (ha.congr hl), k⟩))
theorem Fl.congr {ρ ρ' : Env} {w : World} {op : Oper} {v : Value} (hl : ∀ t, look ρ t = look ρ' t) (h : Fl P n ops ρ w op v) : Fl P n ops ρ' w op v := by
  unfold Fl at h ⊢
  rw [← wants_congr hl]
  exact h.imp (fun ⟨a, b⟩ => ⟨a, fun x hx => b x (hx.congr hl)⟩) id
theorem extE_congr {ρ ρ' : Env} (hl : ∀ t, look ρ t = look ρ' t) (d : Option Nat) (v : Value) (t : Nat) : look (extE d v ρ) t = look (extE d v ρ') t := by
  cases d with
  | none => exact hl t
  | some d => simp only [extE]; rw [look_cons, look_cons, hl]
theorem SW.congr : ∀ {π : List (Nat × Oper)} {pend : Pend} {ρ ρ' : Env} {H : List Asn}, (∀ t, look ρ t = look ρ' t) → SW P n ops Q o σ π pend ρ H → SW P n ops Q o σ π pend ρ' H
  | [], _, _, _, _, hl, h => fun w F S s f a ha => h w F S s f a (ha.congr hl)
  | (i, op) :: π, pend, ρ, ρ', H, hl, h => fun he => by
    obtain ⟨q1, q2, q⟩ := h he
    refine ⟨q1, q2, ?_⟩
    rcases q with ⟨c, Ψ, hΨ, hk⟩ | ⟨c, v, hn, q⟩
    · refine .inl ⟨c, Ψ, ?_, fun v H' hv => ⟨(hk v H' hv).1, SW.congr (extE_congr hl _ _) (hk v H' hv).2⟩⟩
      rw [← wants_congr hl]
      exact hΨ.imp (fun ⟨a, b⟩ => ⟨a, fun w F S s f => (b w F S s f).congr hl⟩) id
    · refine .inr ⟨c, v, hn, ?_⟩
      rcases q with ⟨h1, h2⟩ | ⟨g, h1, h2, h3⟩
      · exact .inl ⟨fun w => (h1 w).congr hl, SW.congr (extE_congr hl _ _) h2⟩
      · exact .inr ⟨g, h1, fun H w F S a b c => (h2 H w F S a b c).congr hl, SW.congr (extE_congr hl _ _) h3⟩
theorem SW.be {v v' : Value} (d : Nat) (hv : look ρ d = some v) (e : v = v') (h : SW P n ops Q o σ π pend ((d, v') :: ρ) H) : SW P n ops Q o σ π pend ρ H := by
  subst e
  refine h.congr (fun t => ?_)
  rw [look_cons]
  split
  · rename_i e; subst e; exact hv.symm
  · rfl
theorem SW.caseB {b : Bool} (d : Nat) (hv : look ρ d = some (.bool b)) (ht : b = true → SW P n ops Q o σ π pend ((d, .bool true) :: ρ) H) (hf : b = false → SW P n ops Q o σ π pend ((d, .bool false) :: ρ) H) : SW P n ops Q o σ π pend ρ H := by
  cases b
  · exact SW.be d hv rfl (hf rfl)
  · exact SW.be d hv rfl (ht rfl)
theorem SW.caseP {p : Prop} {dp : Decidable p} (d : Nat) (hv : look ρ d = some (.bool (@decide p dp))) (ht : p → SW P n ops Q o σ π pend ((d, .bool true) :: ρ) H) (hf : ¬ p → SW P n ops Q o σ π pend ((d, .bool false) :: ρ) H) : SW P n ops Q o σ π pend ρ H :=
  SW.caseB d hv (fun h => ht (of_decide_eq_true h)) (fun h => hf (of_decide_eq_false h))
theorem SW.isT {b : Bool} (d : Nat) (hv : look ρ d = some (.bool b)) (e : b = true) (h : SW P n ops Q o σ π pend ((d, .bool true) :: ρ) H) : SW P n ops Q o σ π pend ρ H := SW.be d hv (congrArg Value.bool e) h
theorem SW.isF {b : Bool} (d : Nat) (hv : look ρ d = some (.bool b)) (e : b = false) (h : SW P n ops Q o σ π pend ((d, .bool false) :: ρ) H) : SW P n ops Q o σ π pend ρ H := SW.be d hv (congrArg Value.bool e) h
theorem SW.nil {B : Exit → Act → World → Prop} {ks : List K} (h : SN P B n o ks ρ H) : SW P n ops (sem P n.ro B ks) o σ [] pend ρ H := fun w F S s f a ha => h w F S s f a ha
end
end
end Brv
/-
  Operations on rows that are owned.
-/
set_option linter.unusedVariables false
set_option linter.unusedSimpArgs false
namespace Brv
open Go
/-- Bytes that stay. -/
def bs (a : Option Addr) (n : Nat) (l : List UInt8) : Asn := sh (fun w => Bs w a n l)
instance (a : Option Addr) (n : Nat) (l : List UInt8) : Pers (bs a n l) := ⟨fun _ _ _ h => h⟩
theorem St.bs {H H' : List Asn} {a : Option Addr} {n : Nat} {l : List UInt8} {F S : List Nat} {w : World} (s : St H F S w) (h : Sel H (Brv.bs a n l) H') : Bs w a n l := s.sh h
theorem Imp.add {H : List Asn} {A : Asn} (h : ∀ w, A.P [] [] w) : Imp H (A :: H) := fun F S w s =>
  ⟨F, S, ⟨⟨[], [], F, S, ⟨by simp, subR _, by simp, subR _⟩, ⟨Apart.nilL _, Apart.nilL _, Apart.nilL _⟩, h w, s.sep⟩, s.ltF, s.ltS⟩, From.refl _ _ _⟩
theorem Imp.ownNil {H : List Asn} (E size : Nat) : Imp H (own E size none 0 0 [] :: H) := Imp.add fun w => Own.nil w E size
theorem Imp.ownBlk {H H' : List Asn} {E size b k : Nat} {cs : List Value} (h : Sel H (blk b cs E) H') (hk : cs.length = k * size) (hm : k ≤ maxLen) : Imp H (own E size (some ⟨b, 0, none⟩) k k cs :: H') :=
  Imp.same h fun F S w hA => by
    obtain ⟨rfl, hB⟩ := hA
    have := Own.blk (size := size) hB (by simpa using hk) hm
    rw [List.toList_toArray] at this
    exact this
theorem Imp.ownBs {H H' : List Asn} {E k c : Nat} {a : Option Addr} {l : List UInt8} (h : Sel H (own E 1 a k c (vbs l)) H') : Imp H (bs a k l :: H') :=
  Imp.freeze h fun F S w hA => by
    have hA : Own w E 1 a k c (vbs l) F := hA
    have hl := hA.len
    rw [vbs_length] at hl
    obtain rfl : k = l.length := by omega
    exact Bs.of_own hA
theorem Imp.ownSh {H H' : List Asn} {E size k c : Nat} {a : Option Addr} {xs : List Value} {p : World → Prop} (h : Sel H (own E size a k c xs) H') (hp : ∀ w, Cells w a xs → p w) : Imp H (sh p :: H') := Imp.freeze h fun F S w hA => hp w hA.cells
theorem Imp.blkSh {H H' : List Asn} {b : Nat} {cs : List Value} {T : TypeId} {p : World → Prop} (h : Sel H (blk b cs T) H') (hp : ∀ w, Blk w b cs.toArray T (0, 0) → p w) : Imp H (sh p :: H') := Imp.freeze h fun F S w hA => hp w hA.2
/-- Two facts that stay are one. -/
theorem Imp.both {H H' H'' : List Asn} {p q : World → Prop} (h : Sel H (sh p) H') (k : Sel H' (sh q) H'') : Imp H (sh (fun w => p w ∧ q w) :: H'') := fun F S w s => by
  obtain ⟨F1, S1, F2, S2, ⟨a, b, c, d⟩, ⟨e, f, g⟩, hA, hH⟩ := h.sep s.sep
  obtain ⟨F3, S3, F4, S4, ⟨a', b', c', d'⟩, ⟨e', f', g'⟩, hB, hH'⟩ := k.sep hH
  exact ⟨F, S, ⟨⟨[], S1 ++ S3, F4, S4, ⟨by simp, subT b' b, subL c (subT c' d), subT d' d⟩, ⟨Apart.nilL _, Apart.nilL _, Apart.appL (g.mono (subR _) b') g'⟩,
    fun M w' he hM => ⟨hA M w' he (hM.mono (inL _ _) (subR _)), hB M w' he (hM.mono (inR _ _) (subR _))⟩, hH'⟩, s.ltF, s.ltS⟩, From.refl _ _ _⟩
theorem Imp.pure {H : List Asn} {p : World → Prop} (h : ∀ w, p w) : Imp H (sh p :: H) := Imp.add fun w M w' _ _ => h w'
theorem Imp.under {H H' : List Asn} {A : Asn} (h : Imp H H') : Imp (A :: H) (A :: H') := fun F S w s => by
  obtain ⟨F1, S1, F2, S2, ⟨a, b, c, d⟩, ⟨e, f, g⟩, hA, hH⟩ := s.sep
  obtain ⟨F', S', s', f'⟩ := h F2 S2 w ⟨hH, fun x hx => s.ltF x (b hx), fun x hx => s.ltS x (d hx)⟩
  have hF : ∀ x ∈ F', x ∈ F2 := fun x hx => (f'.fF x hx).elim id (fun h => absurd (s'.ltF x hx) (by simp only at h; omega))
  have hS : ∀ x ∈ S', x ∈ S2 ∨ x ∈ F2 := fun x hx => (f'.fS x hx).elim .inl (fun h => h.elim .inr (fun h => absurd (s'.ltS x hx) (by simp only at h; omega)))
  refine ⟨F1 ++ F', S1 ++ S', ⟨⟨F1, S1, F', S', ⟨inL _ _, inR _ _, inL _ _, inR _ _⟩, ⟨fun x hx hy => e x hx (hF x hy), fun x hx hy => (hS x hy).elim (f x hx) (e x hx), fun x hx hy => g x hx (hF x hy)⟩, hA, s'.sep⟩, ?_, ?_⟩, ⟨Ext.refl _ _, ?_, ?_⟩⟩
  · intro x hx; exact (List.mem_append.1 hx).elim (fun h => s.ltF x (a h)) (fun h => s'.ltF x h)
  · intro x hx; exact (List.mem_append.1 hx).elim (fun h => s.ltS x (c h)) (fun h => s'.ltS x h)
  · intro x hx; exact (List.mem_append.1 hx).elim (fun h => .inl (a h)) (fun h => .inl (b (hF x h)))
  · intro x hx; exact (List.mem_append.1 hx).elim (fun h => .inl (c h)) (fun h => (hS x h).elim (fun h => .inl (d h)) (fun h => .inr (.inl (b h))))
/-- A list in a new order, some left out. -/
theorem Imp.pick {H H0 H1 : List Asn} (h : Sels H H0 H1) : Imp H H0 := Imp.sels h
theorem St.ownG {H H' : List Asn} {E size : Nat} {a : Option Addr} {n c : Nat} {xs : List Value} {F S : List Nat} {w : World} (s : St H F S w) (h : Sel H (Brv.own E size a n c xs) H') (hn : 0 < n) : ∃ g, a = some ⟨g, 0, none⟩ := by
  obtain ⟨M, hM⟩ := s.own h
  rcases hM.2 with ⟨_, rfl, _⟩ | ⟨g, cur, rfl, _⟩
  · omega
  · exact ⟨g, rfl⟩
theorem St.ownL {H H' : List Asn} {E size : Nat} {a : Option Addr} {n c : Nat} {xs : List Value} {F S : List Nat} {w : World} (s : St H F S w) (h : Sel H (Brv.own E size a n c xs) H') : xs.length = n * size ∧ n ≤ c := by
  obtain ⟨M, hM⟩ := s.own h
  exact ⟨hM.len, hM.le⟩
section
variable {P : Program} {n : Fm} {o : Org} {ρ : Env} {H H0 H1 : List Asn} {d : Option Nat} {ty : TypeId} {pos : String} {af : Array Edge} {gd : Option (Nat × Bool)}
theorem CS.app {T E size bytes : Nat} {z : Value} [t : TySlice P T E size bytes z] {d : Nat} {s x : Operand} {a : Option Addr} {m0 cap : Nat} {xs : List Value} {b : Option Addr} {m c : Nat} {news : List Value}
    (hs : ev ρ s = some (.slice a m0 cap)) (hx : ev ρ x = some (.slice b m c)) (sel : Sel H (own E size a m0 cap xs) H1) (hnews : ∀ w F S, St H F S w → Cells w b news) (hl : news.length = m * size) (h1 : ∀ u ∈ news, u.oneCell' = true) (h63 : m0 + m ≤ maxLen) (hby : (m0 + m) * bytes ≤ 140737488355328) :
    CS P n o ρ H ⟨some d, .call ⟨.builtin .append, #[s, x], #[T, T]⟩, ty, pos, af, gd⟩ (fun v H' => ∃ a' c', v = .slice a' (m0 + m) c' ∧ H' = own E size a' (m0 + m) c' (xs ++ news) :: H1) := by
  refine CS.mono (CS.upd sel (φ := fun v A' => ∃ a' c', v = .slice a' (m0 + m) c' ∧ A' = own E size a' (m0 + m) c' (xs ++ news)) fun w F S F1 S1 st hA hlt => ?_) (by rintro v H' ⟨_, ⟨a', c', rfl, rfl⟩, rfl⟩; exact ⟨a', c', rfl, rfl⟩)
  obtain ⟨v, w', hr, a', c', M', rfl, he, hM, ho⟩ := R.app (P := P) (n := n) (d := d) (ty := ty) (pos := pos) (af := af) (gd := gd) (T := T) hs hx hA (hnews w F S st) hl h1 h63 hby
  exact .inl ⟨_, w', hr, _, M', [], ⟨a', c', rfl, rfl⟩, ho, ho.lt, by simp, ⟨he, hM, by simp⟩⟩
theorem CS.strBytes {S T E : TypeId} [s : TyStr P S] [t : TyBytes P T E] {d : Nat} {x : Operand} {l : List UInt8} (hx : ev ρ x = some (.string (str l))) :
    CS P n o ρ H ⟨some d, .convert S T x, ty, pos, af, gd⟩ (fun v H' => ∃ a c, v = .slice a l.length c ∧ l.length ≤ c ∧ H' = bs a l.length l :: H) := fun w F Sh st fr => by
  obtain ⟨v, w', hr, b, cap, rfl, hb, hlt, hc, he, hcl⟩ := R.strBytes (P := P) (n := n) (d := d) (ty := ty) (pos := pos) (af := af) (gd := gd) (S := S) (T := T) (E := E) (w := w) hx
  obtain ⟨F', S', s', f'⟩ := st.grow fr he (A := bs (some ⟨b, 0, none⟩) l.length l) (F' := []) (S' := [b]) (by simp) (fun x hx => by rw [List.mem_singleton.1 hx]; exact ⟨hlt, .inl (by omega)⟩)
    (fun M w'' he' hM => ⟨hcl.ext he' (fun p hp => by cases hp; exact hM b (by simp)), rfl⟩) (fun x hx hy => by rw [List.mem_singleton.1 hx] at hy; have := st.ltF b hy; omega)
  exact .inl ⟨_, w', hr, _, F', S', ⟨_, cap, rfl, hc, rfl⟩, s', f'⟩
theorem CS.make {T E size bytes : Nat} {z : Value} [t : TySlice P T E size bytes z] {d : Nat} {x y : Operand} {k k' : IntKind} {l c : Int} (hx : ev ρ x = some (.int k l)) (hy : ev ρ y = some (.int k' c)) (h0 : 0 ≤ l) (h1 : l ≤ c) (h2 : (bytes : Int) * c ≤ 281474976710656) (h3 : c ≤ 9223372036854775807) (cs : List Value) (hcs : (madeCells z.cells (c.toNat * size)).toList = cs) :
    CS P n o ρ H ⟨some d, .makeSlice T x y, ty, pos, af, gd⟩ (fun v H' => ∃ b, v = .slice (some ⟨b, 0, none⟩) l.toNat c.toNat ∧ H' = blk b cs E :: H) :=
  CS.mk (fun w => R.make hx hy h0 h1 h2 h3) hcs
theorem CS.buildS {T E size bytes : Nat} {z : Value} [t : TySlice P T E size bytes z] {d len : Nat} {parts : Array (Nat × Operand)} {vs : List (Nat × Value)} {A : Array Value} (hp : evps ρ parts.toList = some vs) (hl : len * size ≤ 16777216)
    (hf : Instr.fill (fun i => some (i * size, size)) ((Array.range (len * size)).map (fun i => z.cells[i % z.cells.size]!)) vs = some A) (cs : List Value) (hcs : A.toList = cs) :
    CS P n o ρ H ⟨some d, .buildSlice T len parts, ty, pos, af, gd⟩ (fun v H' => ∃ b, v = .slice (some ⟨b, 0, none⟩) len len ∧ H' = blk b cs E :: H) :=
  CS.mk (fun w => R.buildS hp hl hf) hcs
/-- A struct is stored over a part of a block. -/
theorem CS.stN {T : TypeId} {s : Nat} [t : TyAgg P T s] {x y : Operand} {b k : Nat} {cs cs' vs : List Value} {U : TypeId} (hx : ev ρ x = some (.pointer (some ⟨b, k, none⟩))) (hy : ev ρ y = some (.agg vs.toArray)) (sel : Sel H (blk b cs U) H1) (hs : vs.length = s) (ho : k + vs.length ≤ cs.length) (h1 : ∀ u ∈ vs, u.oneCell' = true) (hcs : cs.take k ++ vs ++ cs.drop (k + vs.length) = cs') :
    CS P n o ρ H ⟨none, .store T x y, ty, pos, af, gd⟩ (fun _ H' => H' = blk b cs' U :: H1) := by
  refine CS.mono (CS.upd sel (φ := fun _ A' => A' = blk b cs' U) fun w F S F1 S1 st hA hlt => ?_) (by rintro v H' ⟨_, rfl, rfl⟩; rfl)
  obtain ⟨rfl, hB⟩ := hA
  obtain ⟨w', hr, he, hsz, hB'⟩ := R.stN (P := P) (n := n) (T := T) (ty := ty) (pos := pos) (af := af) (gd := gd) hx hy hB (by simpa using hs) (by simpa using ho) (by simpa using h1)
  refine .inr (.inl ⟨rfl, w', hr, _, [b], [], rfl, ⟨rfl, by rw [← hcs]; simpa using hB'⟩, fun x hx => by have := hlt x hx; omega, by simp, ⟨he, fun x hx => .inl hx, by simp⟩⟩)
/-- A struct is stored over a whole block. -/
theorem CS.stA {T : TypeId} {s : Nat} [t : TyAgg P T s] {x y : Operand} {b : Nat} {cs vs : List Value} {U : TypeId} (hx : ev ρ x = some (.pointer (some ⟨b, 0, none⟩))) (hy : ev ρ y = some (.agg vs.toArray)) (sel : Sel H (blk b cs U) H1) (hs : vs.length = s) (ho : cs.length = s) (h1 : ∀ u ∈ vs, u.oneCell' = true) :
    CS P n o ρ H ⟨none, .store T x y, ty, pos, af, gd⟩ (fun _ H' => H' = blk b vs U :: H1) :=
  CS.stN hx hy sel hs (by omega) h1 (by rw [List.take_zero, List.nil_append, Nat.zero_add, List.drop_eq_nil_of_le (by omega), List.append_nil])
/-- A cell of a row that is owned is written. -/
theorem CS.stO {T : TypeId} [t : TyOne P T] {x y : Operand} {E size g j k c : Nat} {xs : List Value} {v : Value} (hx : ev ρ x = some (.pointer (some ⟨g, j, none⟩))) (hy : ev ρ y = some v) (sel : Sel H (own E size (some ⟨g, 0, none⟩) k c xs) H1) (hj : j < k * size) (h1 : v.oneCell' = true) :
    CS P n o ρ H ⟨none, .store T x y, ty, pos, af, gd⟩ (fun _ H' => H' = own E size (some ⟨g, 0, none⟩) k c (xs.set j v) :: H1) := by
  refine CS.mono (CS.upd sel (φ := fun _ A' => A' = own E size (some ⟨g, 0, none⟩) k c (xs.set j v)) fun w F S F1 S1 st hA hlt => ?_) (by rintro v H' ⟨_, rfl, rfl⟩; rfl)
  rcases hA with ⟨hlen, ⟨h, _⟩ | ⟨g', cur, hg, hF, hB, hkc, hcm, hcs, ht⟩⟩
  · cases h
  · cases hg
    subst hF
    have hsz : j < cur.size := by have := Nat.mul_le_mul_right size hkc; omega
    obtain ⟨w', hr, he, hsz', hB'⟩ := R.st (P := P) (n := n) (T := T) (ty := ty) (pos := pos) (af := af) (gd := gd) hx hy hB hsz h1
    refine .inr (.inl ⟨rfl, w', hr, _, [g], [], rfl, ⟨by simpa using hlen, .inr ⟨g, _, rfl, rfl, hB', hkc, hcm, by simpa using hcs, ?_⟩⟩, fun x hx => by have := hlt x hx; omega, by simp, ⟨he, fun x hx => .inl hx, by simp⟩⟩)
    rw [Array.toList_setIfInBounds, List.take_set, ht]
end
section
variable {P : Program} {n : Nat} {o : Org} {ks : List K} {ρ : Env} {H H' : List Asn} {fn : Func} {Φ : Value → List Asn → Prop}
theorem SG.retC {t : Nat} {T : TypeId} {s b : Nat} [ta : TyAgg P T s] {cs : List Value} {U : TypeId} {H1 : List Asn} (hr : fn.results = #[.cell t T]) (hv : look ρ t = some (.pointer (some ⟨b, 0, none⟩))) (hb : Sel H (blk b cs U) H1) (hl : cs.length = s) (i : Imp H H') (h : Φ (.agg cs.toArray) H') :
    SG P (Func.base P fn (PostS o Φ)) ⟨n, [], none⟩ o ks ρ H .ret := fun w F S st f => G.retC hr hv (st.blk hb) (by simpa using hl) (post_of i h st f)
theorem SG.retCT {t u : Nat} {T : TypeId} {s b : Nat} [ta : TyAgg P T s] {cs : List Value} {U : TypeId} {H1 : List Asn} {x : Value} (hr : fn.results = #[.cell t T, .tmp u]) (hv : look ρ t = some (.pointer (some ⟨b, 0, none⟩))) (hx : look ρ u = some x) (hb : Sel H (blk b cs U) H1) (hl : cs.length = s) (i : Imp H H') (h : Φ (.tuple #[.agg cs.toArray, x]) H') :
    SG P (Func.base P fn (PostS o Φ)) ⟨n, [], none⟩ o ks ρ H .ret := fun w F S st f => G.retCT hr hv hx (st.blk hb) (by simpa using hl) (post_of i h st f)
end
end Brv
/-
  Iterators, and loops over them, by assertions.
-/
set_option linter.unusedVariables false
set_option linter.unusedSimpArgs false
namespace Brv
open Go
theorem Sels.appL : ∀ (H0 H1 : List Asn), Sels (H0 ++ H1) H0 H1
  | [], _ => .nil
  | _ :: H0, H1 => .cons .here (Sels.appL H0 H1)
theorem Sep.split {H0 H1 : List Asn} {F S : List Nat} {w : World} (h : Sep (H0 ++ H1) F S w) : Sep2 H0 H1 F S w := (Sels.appL H0 H1).split h
/-- What a function (with what it has captured, lb) promises when it is ranged over: it yields N times, the k-th time what E k tells. -/
def IterS (P : Program) (gf : FuncId) (lb : List Value) (HI : List Asn) (N : Nat) (E : Nat → List Value → (World → Prop) → Prop) : Prop :=
  ∀ (y : Value) (J Jx : Nat → Asn), (∀ k vs p, k < N → E k vs p → YSpec P y vs [sh p, J k] (fun b H' => H' = [if b then J (k + 1) else Jx (k + 1)])) →
    SpecS P gf (y :: lb) (J 0 :: HI) (fun _ H' => H' = J N :: HI ∨ ∃ k, k ≤ N ∧ H' = Jx k :: HI)

/-- The list of a frame's marks, that is to be taken at its end. -/
def dfr (d : Nat) : Asn where
  P := fun F _ w => F = [d] ∧ w.heap[d]? = some (.deferred (some []))
  ext := fun F S M w w' h he hF _ => ⟨h.1, (he.keep d (Array.getElem?_eq_some_iff.1 h.2).1 (hF d (by rw [h.1]; simp))).trans h.2⟩
inductive Dfrs : List Deferred → List Asn → List Asn → Prop
  | nil {H : List Asn} : Dfrs [] H H
  | cons {d : Nat} {ds : List Deferred} {H H' H'' : List Asn} : Sel H (dfr d) H' → Dfrs ds H' H'' → Dfrs (⟨.collected d, #[]⟩ :: ds) H H''
theorem Dfrs.leave {P : Program} {ds : List Deferred} {H H' : List Asn} (h : Dfrs ds H H') : ∀ {o : Org} {F S : List Nat} {w : World}, St H F S w → From o w F S → ∃ w' F' S', Leave P ds w w' ∧ St H' F' S' w' ∧ From o w' F' S' := by
  induction h with
  | nil => exact fun {o F S w} s f => ⟨w, F, S, rfl, s, f⟩
  | cons hs _ ih =>
    rename_i d ds H H' H'' _
    intro o F S w s f
    obtain ⟨F1, S1, F2, S2, ⟨a, b, c, e⟩, ⟨p, q, r⟩, ⟨hF, hd⟩, hH⟩ := hs.sep s.sep
    subst hF
    have he := Ext.putObj w d (.deferred none)
    obtain ⟨w', F', S', hl, s', f'⟩ := ih (o := o) (F := F2) (S := S2) (w := w.putObj d (.deferred none)) ⟨hH.ext he p.symm q.symm, fun x hx => Nat.lt_of_lt_of_le (s.ltF x (b hx)) he.size, fun x hx => Nat.lt_of_lt_of_le (s.ltS x (e hx)) he.size⟩
      ⟨f.ext.transN he (fun x hx => f.fF x (a hx)), fun x hx => f.fF x (b hx), fun x hx => f.fS x (e hx)⟩
    exact ⟨w', F', S', ⟨d, _, rfl, run_takeDeferred hd, hl⟩, s', f'⟩

def roundS {X Y : Type} (HJ : Nat → X → List Asn) (I : Nat → X → Prop) (HX : Code → Nat → Y → List Asn) (IX : Code → Nat → Y → Prop) (k : Nat) (o : Org) : Exit → Act → World → Prop
  | .normal, _, w' => ∃ x F S, I (k + 1) x ∧ St (HJ (k + 1) x) F S w' ∧ From o w' F S
  | .ret, _, w' => ∃ y F S, IX .ret (k + 1) y ∧ St (HX .ret (k + 1) y) F S w' ∧ From o w' F S
  | .exit id, _, w' => ∃ y F S, IX (.exit id) (k + 1) y ∧ St (HX (.exit id) (k + 1) y) F S w' ∧ From o w' F S
  | .goto t, _, w' => ∃ y F S, IX (.goto t) (k + 1) y ∧ St (HX (.goto t) (k + 1) y) F S w' ∧ From o w' F S
  | _, _, _ => False
def assignS (P : Program) (l : Nat) (RB : Org → Exit → Act → World → Prop) (body : Code) (o : Org) : Exit → Act → World → Prop
  | .normal, a, w₂ => ∃ Hb F₂ S₂, St Hb F₂ S₂ w₂ ∧ From o w₂ F₂ S₂ ∧ ∀ wb F S, St Hb F S wb → body.wpIn (fen (some l)) 0 P (RB ⟨wb, F, S⟩) a wb
  | _, _, _ => False

section
variable {P : Program} {B : Exit → Act → World → Prop} {n : Nat} {df : List Deferred} {ks : List K} {ρ : Env} {o : Org} {H : List Asn}
theorem SN.roundA {l : Nat} {RB : Org → Exit → Act → World → Prop} {body : Code} (h : ∀ o', SG P (RB o') ⟨n, [], some l⟩ o' [] ρ H body) : SN P (assignS P l RB body o) ⟨n, [], some l⟩ o [] ρ H :=
  fun _ _ _ s f => N.done fun a ha => ⟨H, _, _, s, f, fun wb F S s => h ⟨wb, F, S⟩ wb F S s (From.refl _ _ _) a ha⟩
section
variable {X Y : Type} {HJ : Nat → X → List Asn} {I : Nat → X → Prop} {HX : Code → Nat → Y → List Asn} {IX : Code → Nat → Y → Prop} {k l : Nat}
theorem SN.next (x : X) (i : Imp H (HJ (k + 1) x)) (h : I (k + 1) x) : SN P (roundS HJ I HX IX k o) ⟨n, [], some l⟩ o [] ρ H := fun _ _ _ s f => N.done fun _ _ => let ⟨F', S', s', f'⟩ := i.at s f; ⟨x, F', S', h, s', f'⟩
end

/-- for .. := range g { body } -/
theorem SG.range {g : Operand} {ps : Array Tmp} {assign body : Code} {gf : FuncId} {lb : List Value} {Nn : Nat} {E : Nat → List Value → (World → Prop) → Prop} {HI : List Asn}
    (hps : ps.toList.all (fun p => Nat.blt p n) = true) (hg : ev ρ g = some (.func (.func gf) #[] lb.toArray)) (eg : ∀ (vs : Array Value) w, (callFunc gf vs).run P w = .ok (.enter gf vs) w)
    (hit : IterS P gf lb HI Nn E) {X Y : Type} (HJ : Nat → X → List Asn) (I : Nat → X → Prop) (HX : Code → Nat → Y → List Asn) (IX : Code → Nat → Y → Prop) (x₀ : X) (i : Imp H (HJ 0 x₀ ++ HI)) (h0 : I 0 x₀)
    (hround : ∀ l k x vs p, k < Nn → I k x → E k vs p → vs.length = ps.size ∧ ∀ o', SG P (assignS P l (roundS HJ I HX IX k) body o') ⟨n, [], some l⟩ o' [] (bindEnv ps.toList vs ρ) (sh p :: HJ k x) assign)
    (hdone : ∀ d x, I Nn x → SN P B ⟨n, ⟨.collected d, #[]⟩ :: df, none⟩ o ks ρ (dfr d :: HJ Nn x ++ HI))
    (hstop : ∀ d k c y, k ≤ Nn → IX c k y → SG P B ⟨n, ⟨.collected d, #[]⟩ :: df, none⟩ o ks ρ (dfr d :: HX c k y ++ HI) c) :
    SG P B ⟨n, df, none⟩ o ks ρ H (.rangeFunc g ps assign body) := by
  intro w F₀ S₀ s₀ f₀ a ha
  obtain ⟨Fw, Sw, s, f⟩ := i.at s₀ f₀
  obtain ⟨Fj, Sj, Fi, Si, ⟨a1, a2, a3, a4⟩, ⟨b1, b2, b3⟩, hsj, hsi⟩ := s.sep.split
  refine wpIn_rangeFunc (F := Fence.wide) ?_
  intro fn hfn
  obtain ⟨rec, hrec⟩ : ∃ rec : LoopState → Option Code → Loop, rec = fun st pe => { state := st, pending := pe, fn, tmps := a.tmps, params := ps, assign, body, defers := w.heap.size } := ⟨_, rfl⟩
  obtain ⟨W1, hW1⟩ : ∃ W1, (w.alloc (.deferred (some []))).alloc (.loop (rec .ready none)) = W1 := ⟨_, rfl⟩
  have hL1 : W1.heap[w.heap.size + 1]? = some (.loop (rec .ready none)) := by
    rw [← hW1]; have := World.alloc_heap_new (w.alloc (.deferred (some []))) (.loop (rec .ready none)); rwa [World.size_alloc] at this
  have hK1 : W1.heap[w.heap.size]? = some (.deferred (some [])) := by
    rw [← hW1]; exact ((Ext.alloc (w.alloc (.deferred (some []))) _).keep _ (by simp) (by simp)).trans (World.alloc_heap_new w _)
  have hE1 : Ext [] w W1 := by rw [← hW1]; exact (Ext.alloc w _).trans0 (Ext.alloc _ _)
  have hs1 : W1.heap.size = w.heap.size + 2 := by rw [← hW1]; simp
  obtain ⟨d, hd⟩ : ∃ d, d = w.heap.size := ⟨_, rfl⟩
  obtain ⟨l, hl⟩ : ∃ l, l = w.heap.size + 1 := ⟨_, rfl⟩
  rw [← hl] at hL1
  rw [← hd] at hK1
  -- the consumer's assertions
  let J : Nat → Asn := fun k => ⟨fun F S W => ∃ x F' S', I k x ∧ Sep (HJ k x) F' S' W ∧ (F = l :: d :: F' ∧ S = S') ∧ (l ∉ F' ∧ l ∉ S') ∧ (d ∉ F' ∧ d ∉ S') ∧ W.heap[l]? = some (.loop (rec .ready none)) ∧ W.heap[d]? = some (.deferred (some [])),
    by
      rintro F S M W W' ⟨x, F', S', h1, h2, ⟨rfl, rfl⟩, h3, h4, h5, h6⟩ he hF hS
      refine ⟨x, F', S, h1, h2.ext he (hF.mono (fun z hz => by simp [hz]) (subR _)) hS, ⟨rfl, rfl⟩, h3, h4, ?_, ?_⟩
      · exact (he.keep l (Array.getElem?_eq_some_iff.1 h5).1 (hF l (by simp))).trans h5
      · exact (he.keep d (Array.getElem?_eq_some_iff.1 h6).1 (hF d (by simp))).trans h6⟩
  let Jx : Nat → Asn := fun k => ⟨fun F S W => ∃ c y F' S', IX c k y ∧ Sep (HX c k y) F' S' W ∧ (F = l :: d :: F' ∧ S = S') ∧ (l ∉ F' ∧ l ∉ S') ∧ (d ∉ F' ∧ d ∉ S') ∧ W.heap[l]? = some (.loop (rec .done (some c))) ∧ W.heap[d]? = some (.deferred (some [])),
    by
      rintro F S M W W' ⟨c, y, F', S', h1, h2, ⟨rfl, rfl⟩, h3, h4, h5, h6⟩ he hF hS
      refine ⟨c, y, F', S, h1, h2.ext he (hF.mono (fun z hz => by simp [hz]) (subR _)) hS, ⟨rfl, rfl⟩, h3, h4, ?_, ?_⟩
      · exact (he.keep l (Array.getElem?_eq_some_iff.1 h5).1 (hF l (by simp))).trans h5
      · exact (he.keep d (Array.getElem?_eq_some_iff.1 h6).1 (hF d (by simp))).trans h6⟩
  refine ⟨w.heap.size + 1, [{ target := .collected w.heap.size, args := #[] }], W1, { target := .fn (.func gf) lb.toArray, args := #[.func (.yield (w.heap.size + 1)) #[] #[]] }, W1, gf,
    #[.func (.yield (w.heap.size + 1)) #[] #[]] ++ lb.toArray, W1, ?_, ?_, fun _ _ => trivial, ?_, fun h => (by cases h), ?_⟩
  · rw [← hW1, hrec]; exact run_enterLoop_outer _ _ _ _ _
  · simp only [resolve, ha.eval hg]
    simp [go_sem]
  · simp [invoke, go_sem, eg]
  · have hdl : d ≠ l := by omega
    have newF : ∀ {T : List Nat}, (∀ b ∈ T, b < w.heap.size) → l ∉ T ∧ d ∉ T := fun h => ⟨fun q => by have := h _ q; omega, fun q => by have := h _ q; omega⟩
    have ltj : ∀ b ∈ Fj, b < w.heap.size := fun b hb => s.ltF b (a1 hb)
    have ltsj : ∀ b ∈ Sj, b < w.heap.size := fun b hb => s.ltS b (a3 hb)
    have lti : ∀ b ∈ Fi, b < w.heap.size := fun b hb => s.ltF b (a2 hb)
    have ltsi : ∀ b ∈ Si, b < w.heap.size := fun b hb => s.ltS b (a4 hb)
    have hJ0 : (J 0).P (l :: d :: Fj) Sj W1 := ⟨x₀, Fj, Sj, h0, hsj.ext hE1 (Apart.nilR _) (Apart.nilR _), ⟨rfl, rfl⟩, ⟨(newF ltj).1, (newF ltsj).1⟩, ⟨(newF ltj).2, (newF ltsj).2⟩, hL1, hK1⟩
    have hst : St (J 0 :: HI) (l :: d :: Fj ++ Fi) (Sj ++ Si) W1 := by
      refine ⟨⟨l :: d :: Fj, Sj, Fi, Si, ⟨inL _ _, inR _ _, inL _ _, inR _ _⟩, ⟨?_, ?_, b3⟩, hJ0, hsi.ext hE1 (Apart.nilR _) (Apart.nilR _)⟩, ?_, ?_⟩
      · intro x hx hy
        simp only [List.mem_cons] at hx
        rcases hx with rfl | rfl | hx
        · exact (newF lti).1 hy
        · exact (newF lti).2 hy
        · exact b1 x hx hy
      · intro x hx hy
        simp only [List.mem_cons] at hx
        rcases hx with rfl | rfl | hx
        · exact (newF ltsi).1 hy
        · exact (newF ltsi).2 hy
        · exact b2 x hx hy
      · intro x hx
        simp only [List.cons_append, List.mem_cons, List.mem_append] at hx
        rcases hx with rfl | rfl | hx | hx
        · omega
        · omega
        · have := ltj x hx; omega
        · have := lti x hx; omega
      · intro x hx
        rcases List.mem_append.1 hx with hx | hx
        · have := ltsj x hx; omega
        · have := ltsi x hx; omega
    have hfr : From o W1 (l :: d :: Fj ++ Fi) (Sj ++ Si) := by
      refine ⟨f.ext.trans0 hE1, ?_, ?_⟩
      · intro x hx
        have hz := f.ext.size
        simp only [List.cons_append, List.mem_cons, List.mem_append] at hx
        rcases hx with rfl | rfl | hx | hx
        · exact .inr (by omega)
        · exact .inr (by omega)
        · exact f.fF x (a1 hx)
        · exact f.fF x (a2 hx)
      · intro x hx
        exact (List.mem_append.1 hx).elim (fun h => f.fS x (a3 h)) (fun h => f.fS x (a4 h))
    have hy : ∀ k vs p, k < Nn → E k vs p → YSpec P (.func (.yield l) #[] #[]) vs [Brv.sh p, J k] (fun b H' => H' = [if b then J (k + 1) else Jx (k + 1)]) := by
      intro k vs p hk hE A F S s
      obtain ⟨F1, S1, F2, S2, ⟨c1, c2, c3, c4⟩, ⟨e1, e2, e3⟩, hp, F3, S3, F4, S4, ⟨c1', c2', c3', c4'⟩, _, hJ, _⟩ := s.sep
      obtain ⟨x, F', S', hi, hsep, ⟨rfl, rfl⟩, ⟨l1, l2⟩, ⟨d1, d2⟩, hl', hd'⟩ := hJ
      refine .inl ⟨_, rfl, ?_⟩
      have hlt : l < A.heap.size := (Array.getElem?_eq_some_iff.1 hl').1
      have hltd : d < A.heap.size := (Array.getElem?_eq_some_iff.1 hd').1
      obtain ⟨hlen, hG⟩ := hround l k x vs p hk hi hE
      have hy := run_yield (P := P) (args := vs.toArray) hl' (by rw [hrec]; simpa using hlen)
      rw [hrec] at hy
      refine ⟨fn, _, assign, body, hy, roundIn_of_wpIn hfn ?_⟩
      have hfr : Fr ⟨n, [], some l⟩ (bindEnv ps.toList vs ρ) { tmps := (ps.toList.zip vs).foldl (fun t (p, v) => t.setIfInBounds p v) a.tmps, defers := [] } :=
        bind_fr (n := ⟨n, [], some l⟩) ps.toList vs (a := { tmps := a.tmps, defers := [] }) ⟨ha.size, rfl, ha.vals⟩ (fun p hp => by simpa [Nat.blt_eq] using List.all_eq_true.1 hps p hp)
      have hz : (ps.zip vs.toArray).foldl (fun t (p, v) => t.setIfInBounds p v) a.tmps = (ps.toList.zip vs).foldl (fun t (p, v) => t.setIfInBounds p v) a.tmps := by
        rw [← Array.foldl_toList, Array.toList_zip]
      rw [hz]
      have hsA : St (Brv.sh p :: HJ k x) F' (S1 ++ S3) A := by
        refine ⟨⟨[], S1, F', S3, ⟨by simp, subR _, inL _ _, inR _ _⟩, ⟨Apart.nilL _, Apart.nilL _, e3.mono (subR _) (fun z hz => c1' (by simp [hz]))⟩, (instPersSh p).h _ _ _ hp, hsep⟩, fun z hz => s.ltF z (c2 (c1' (by simp [hz]))), ?_⟩
        intro z hz
        exact (List.mem_append.1 hz).elim (fun hz => s.ltS z (c3 hz)) (fun hz => s.ltS z (c4 (c3' hz)))
      have hw := hG ⟨A, F', S1 ++ S3⟩ A F' (S1 ++ S3) hsA (From.refl _ _ _) _ hfr
      refine wpIn_mono (F := Fence.wide.inRound l) (fen_wp (r := some l) hw) ?_
      intro e a₁ w₂ hq
      cases e with
      | normal =>
        obtain ⟨Hb, F2, S2, s2, f2, hq⟩ := hq
        have hd1 : d ∉ S1 := fun h => e3 d h (c1' (by simp))
        have hl1 : l ∉ S1 := fun h => e3 l h (c1' (by simp))
        have hFl : l ∈ F := c2 (c1' (by simp))
        have hFd : d ∈ F := c2 (c1' (by simp))
        have hFF : ∀ z ∈ F', z ∈ F := fun z hz => c2 (c1' (by simp [hz]))
        have hszA2 : A.heap.size ≤ w₂.heap.size := f2.ext.size
        have nF2 : l ∉ F2 ∧ d ∉ F2 := ⟨fun h => (f2.fF _ h).elim l1 (fun h => by simp only at h; omega), fun h => (f2.fF _ h).elim d1 (fun h => by simp only at h; omega)⟩
        have nS2 : l ∉ S2 ∧ d ∉ S2 := ⟨fun h => (f2.fS _ h).elim (fun h => (List.mem_append.1 h).elim hl1 l2) (fun h => h.elim l1 (fun h => by simp only at h; omega)), fun h => (f2.fS _ h).elim (fun h => (List.mem_append.1 h).elim hd1 d2) (fun h => h.elim d1 (fun h => by simp only at h; omega))⟩
        replace hl' : w₂.heap[l]? = some (.loop (rec .ready none)) := (f2.ext.keep l hlt l1).trans hl'
        replace hd' : w₂.heap[d]? = some (.deferred (some [])) := (f2.ext.keep d hltd d1).trans hd'
        have hlt9 : l < w₂.heap.size := (Array.getElem?_eq_some_iff.1 hl').1
        have hltd9 : d < w₂.heap.size := (Array.getElem?_eq_some_iff.1 hd').1
        have hbr := run_beginRound (P := P) hl' (by rw [hrec])
        refine ⟨_, hbr, ?_⟩
        have hl3 : (w₂.putObj l (.loop { rec .ready none with state := .busy })).heap[l]? = some (.loop { rec .ready none with state := .busy }) := World.putObj_heap_same hlt9
        have hd3 : (w₂.putObj l (.loop { rec .ready none with state := .busy })).heap[d]? = some (.deferred (some [])) := (World.putObj_heap_other hdl).trans hd'
        have hE3 := Ext.putObj w₂ l (.loop { rec .ready none with state := .busy })
        have apl : ∀ {T : List Nat}, l ∉ T → Apart T [l] := fun h z hz hz2 => h (by rw [← List.mem_singleton.1 hz2]; exact hz)
        have hsb : St Hb F2 S2 (w₂.putObj l (.loop { rec .ready none with state := .busy })) :=
          ⟨s2.sep.ext hE3 (apl nF2.1) (apl nS2.1), fun z hz => by simpa using s2.ltF z hz, fun z hz => by simpa using s2.ltS z hz⟩
        refine wpIn_mono (F := Fence.wide.inRound l) (fen_wp (r := some l) (hq _ F2 S2 hsb)) ?_
        have fin : ∀ (jump : Option Code) (W3 : World) (F5 S5 : List Nat), From ⟨w₂.putObj l (.loop { rec .ready none with state := .busy }), F2, S2⟩ W3 F5 S5 → (∀ b ∈ F5, b < W3.heap.size) → (∀ b ∈ S5, b < W3.heap.size) →
            (Instr.endRound l jump).run P W3 = .ok (.bool jump.isNone) (W3.putObj l (.loop (rec (if jump.isNone then .ready else .done) jump))) ∧
            (W3.putObj l (.loop (rec (if jump.isNone then .ready else .done) jump))).heap[l]? = some (.loop (rec (if jump.isNone then .ready else .done) jump)) ∧
            (W3.putObj l (.loop (rec (if jump.isNone then .ready else .done) jump))).heap[d]? = some (.deferred (some [])) ∧ (l ∉ F5 ∧ l ∉ S5) ∧ (d ∉ F5 ∧ d ∉ S5) ∧ Ext [l] W3 (W3.putObj l (.loop (rec (if jump.isNone then .ready else .done) jump))) ∧
            From ⟨A, F, S⟩ (W3.putObj l (.loop (rec (if jump.isNone then .ready else .done) jump))) (l :: d :: F5) S5 ∧ (∀ b ∈ l :: d :: F5, b < (W3.putObj l (.loop (rec (if jump.isNone then .ready else .done) jump))).heap.size) ∧ (∀ b ∈ S5, b < (W3.putObj l (.loop (rec (if jump.isNone then .ready else .done) jump))).heap.size) := by
          intro jump W3 F5 S5 fr h5 h6
          have hlt2 : l < (w₂.putObj l (.loop { rec .ready none with state := .busy })).heap.size := by simpa using hlt9
          have hltd2 : d < (w₂.putObj l (.loop { rec .ready none with state := .busy })).heap.size := by simpa using hltd9
          have hl4 : W3.heap[l]? = some (.loop { rec .ready none with state := .busy }) := (fr.ext.keep _ hlt2 nF2.1).trans hl3
          have hd4 : W3.heap[d]? = some (.deferred (some [])) := (fr.ext.keep _ hltd2 nF2.2).trans hd3
          have hlt4 : l < W3.heap.size := (Array.getElem?_eq_some_iff.1 hl4).1
          have hltd4 : d < W3.heap.size := (Array.getElem?_eq_some_iff.1 hd4).1
          have her := run_endRound (P := P) jump hl4
          rw [hrec] at her ⊢
          have hszA : w₂.heap.size ≤ W3.heap.size := by have := fr.ext.size; simpa using this
          have nF : l ∉ F5 ∧ d ∉ F5 := ⟨fun h => (fr.fF _ h).elim nF2.1 (fun h => by simp only [World.putObj, Array.size_setIfInBounds] at h; omega), fun h => (fr.fF _ h).elim nF2.2 (fun h => by simp only [World.putObj, Array.size_setIfInBounds] at h; omega)⟩
          have nS : l ∉ S5 ∧ d ∉ S5 := ⟨fun h => (fr.fS _ h).elim nS2.1 (fun h => h.elim nF2.1 (fun h => by simp only [World.putObj, Array.size_setIfInBounds] at h; omega)), fun h => (fr.fS _ h).elim nS2.2 (fun h => h.elim nF2.2 (fun h => by simp only [World.putObj, Array.size_setIfInBounds] at h; omega))⟩
          have hx2 := Ext.putObj W3 l (.loop { state := if jump.isNone = true then LoopState.ready else LoopState.done, pending := jump, fn := fn, tmps := a.tmps, params := ps, assign := assign, body := body, defers := w.heap.size })
          have hF2 : ∀ z ∈ F2, z ∈ F ∨ A.heap.size ≤ z := fun z hz => (f2.fF z hz).imp (hFF z) id
          have hE4 : Ext F A W3 := ((f2.ext.mono (M' := F) (fun z hz => .inl (hFF z hz))).transN hE3 (fun z hz => .inl (by rw [List.mem_singleton.1 hz]; exact hFl))).transN fr.ext (fun z hz => hF2 z hz)
          refine ⟨her, World.putObj_heap_same hlt4, (World.putObj_heap_other hdl).trans hd4, ⟨nF.1, nS.1⟩, ⟨nF.2, nS.2⟩, hx2, ⟨hE4.transN hx2 (fun z hz => .inl (by rw [List.mem_singleton.1 hz]; exact hFl)), ?_, ?_⟩, ?_, ?_⟩
          · intro z hz
            simp only [List.mem_cons] at hz
            rcases hz with rfl | rfl | hz
            · exact .inl hFl
            · exact .inl hFd
            · exact (fr.fF z hz).elim (hF2 z) (fun h => .inr (Nat.le_trans hszA2 (by simpa [World.putObj, Array.size_setIfInBounds] using h)))
          · intro z hz
            exact (fr.fS z hz).elim (fun h => (f2.fS z h).elim (fun h => .inl ((List.mem_append.1 h).elim (fun h => c3 h) (fun h => c4 (c3' h)))) (fun h => .inr (h.imp (hFF z) id))) (fun h => .inr (h.elim (hF2 z) (fun h => .inr (Nat.le_trans hszA2 (by simpa [World.putObj, Array.size_setIfInBounds] using h)))))
          · intro z hz
            simp only [List.mem_cons] at hz
            rcases hz with rfl | rfl | hz
            · simpa using hlt4
            · simpa using hltd4
            · simpa using h5 z hz
          · intro z hz; simpa using h6 z hz
        rintro e a3 W3 hp3
        cases e with
        | normal =>
          obtain ⟨x', F5, S5, hi', s5, fr⟩ := hp3
          obtain ⟨f1, f2, f3, n1, n2, f4, f5, f6, f7⟩ := fin none W3 F5 S5 fr s5.ltF s5.ltS
          refine ⟨_, _, f1, true, rfl, [J (k + 1)], l :: d :: F5, S5, by simp, ⟨⟨l :: d :: F5, S5, [], [], ⟨subR _, by simp, subR _, by simp⟩, ⟨Apart.nilR _, Apart.nilR _, Apart.nilR _⟩, ⟨x', F5, S5, hi', s5.sep.ext f4 (apl n1.1) (apl n1.2), ⟨rfl, rfl⟩, n1, n2, f2, f3⟩, trivial⟩, f6, f7⟩, f5⟩
        | ret =>
          obtain ⟨y', F5, S5, hi', s5, fr⟩ := hp3
          obtain ⟨f1, f2, f3, n1, n2, f4, f5, f6, f7⟩ := fin (some .ret) W3 F5 S5 fr s5.ltF s5.ltS
          refine ⟨_, _, f1, false, rfl, [Jx (k + 1)], l :: d :: F5, S5, by simp, ⟨⟨l :: d :: F5, S5, [], [], ⟨subR _, by simp, subR _, by simp⟩, ⟨Apart.nilR _, Apart.nilR _, Apart.nilR _⟩, ⟨_, y', F5, S5, hi', s5.sep.ext f4 (apl n1.1) (apl n1.2), ⟨rfl, rfl⟩, n1, n2, f2, f3⟩, trivial⟩, f6, f7⟩, f5⟩
        | exit id =>
          obtain ⟨y', F5, S5, hi', s5, fr⟩ := hp3
          obtain ⟨f1, f2, f3, n1, n2, f4, f5, f6, f7⟩ := fin (some (.exit id)) W3 F5 S5 fr s5.ltF s5.ltS
          refine ⟨_, _, f1, false, rfl, [Jx (k + 1)], l :: d :: F5, S5, by simp, ⟨⟨l :: d :: F5, S5, [], [], ⟨subR _, by simp, subR _, by simp⟩, ⟨Apart.nilR _, Apart.nilR _, Apart.nilR _⟩, ⟨_, y', F5, S5, hi', s5.sep.ext f4 (apl n1.1) (apl n1.2), ⟨rfl, rfl⟩, n1, n2, f2, f3⟩, trivial⟩, f6, f7⟩, f5⟩
        | goto t =>
          obtain ⟨y', F5, S5, hi', s5, fr⟩ := hp3
          obtain ⟨f1, f2, f3, n1, n2, f4, f5, f6, f7⟩ := fin (some (.goto t)) W3 F5 S5 fr s5.ltF s5.ltS
          refine ⟨_, _, f1, false, rfl, [Jx (k + 1)], l :: d :: F5, S5, by simp, ⟨⟨l :: d :: F5, S5, [], [], ⟨subR _, by simp, subR _, by simp⟩, ⟨Apart.nilR _, Apart.nilR _, Apart.nilR _⟩, ⟨_, y', F5, S5, hi', s5.sep.ext f4 (apl n1.1) (apl n1.2), ⟨rfl, rfl⟩, n1, n2, f2, f3⟩, trivial⟩, f6, f7⟩, f5⟩
        | panic ch => exact hp3.elim
        | outgrown => exact hp3.elim
      | _ => exact hq.elim
    have hm := hit (.func (.yield l) #[] #[]) J Jx hy W1 _ _ hst
    have e : (Value.func (.yield l) #[] #[] :: lb).toArray = #[.func (.yield l) #[] #[]] ++ lb.toArray := by simp
    unfold Meets at hm
    rw [e] at hm
    rw [← hl]
    refine CallsIn.mono (callsIn_wide.2 hm) ?_
    intro e W2 he
    cases e with
    | returned v =>
      obtain ⟨H', F5, S5, hH, s5, fr⟩ := he
      have fr' := hfr.trans fr
      have apl : ∀ {T : List Nat}, l ∉ T → Apart T [l] := fun h z hz hz2 => h (by rw [← List.mem_singleton.1 hz2]; exact hz)
      have leave : ∀ {HL : List Asn} {F' S' F2 S2 : List Nat} (ob : Obj), (l :: d :: F' ⊆ F5 ∧ F2 ⊆ F5 ∧ S' ⊆ S5 ∧ S2 ⊆ S5) → (Apart (l :: d :: F') F2 ∧ Apart (l :: d :: F') S2 ∧ Apart S' F2) → Sep HL F' S' W2 → Sep HI F2 S2 W2 → (l ∉ F' ∧ l ∉ S') → (d ∉ F' ∧ d ∉ S') → W2.heap[d]? = some (.deferred (some [])) →
          ∃ F6 S6, St (dfr d :: HL ++ HI) F6 S6 (W2.putObj l ob) ∧ From o (W2.putObj l ob) F6 S6 := by
        intro HL F' S' F2 S2 ob ⟨g1, g2, g3, g4⟩ ⟨k1, k2, k3⟩ hh hhi n1 n2 hdd
        have hx := Ext.putObj W2 l ob
        refine ⟨d :: F' ++ F2, S' ++ S2, ⟨⟨[d], [], F' ++ F2, S' ++ S2, ⟨by simp, fun z hz => by simp at hz ⊢; exact .inr hz, by simp, subR _⟩, ⟨?_, ?_, Apart.nilL _⟩, ⟨rfl, (World.putObj_heap_other hdl).trans hdd⟩, ?_⟩, ?_, ?_⟩, ⟨fr'.ext.transN hx (fun z hz => by rw [List.mem_singleton.1 hz]; exact fr'.fF l (g1 (by simp))), ?_, ?_⟩⟩
        · intro z hz hz2
          rw [List.mem_singleton.1 hz] at hz2
          exact (List.mem_append.1 hz2).elim n2.1 (fun h => k1 d (by simp) h)
        · intro z hz hz2
          rw [List.mem_singleton.1 hz] at hz2
          exact (List.mem_append.1 hz2).elim n2.2 (fun h => k2 d (by simp) h)
        · refine Sep.join ⟨F', S', F2, S2, ⟨inL _ _, inR _ _, inL _ _, inR _ _⟩, ⟨k1.mono (fun z hz => by simp [hz]) (subR _), k2.mono (fun z hz => by simp [hz]) (subR _), k3⟩, hh.ext hx (apl n1.1) (apl n1.2), hhi.ext hx (apl (fun h => k1 l (by simp) h)) (apl (fun h => k2 l (by simp) h))⟩
        · intro z hz
          simp only [List.cons_append, List.mem_cons, List.mem_append] at hz
          have : z ∈ F5 := by
            rcases hz with rfl | hz | hz
            · exact g1 (by simp)
            · exact g1 (by simp [hz])
            · exact g2 hz
          simpa using s5.ltF z this
        · intro z hz
          have : z ∈ S5 := (List.mem_append.1 hz).elim (fun h => g3 h) (fun h => g4 h)
          simpa using s5.ltS z this
        · intro z hz
          simp only [List.cons_append, List.mem_cons, List.mem_append] at hz
          refine fr'.fF z ?_
          rcases hz with rfl | hz | hz
          · exact g1 (by simp)
          · exact g1 (by simp [hz])
          · exact g2 hz
        · intro z hz
          exact fr'.fS z ((List.mem_append.1 hz).elim (fun h => g3 h) (fun h => g4 h))
      rcases hH with rfl | ⟨k, hk, rfl⟩
      · obtain ⟨F1, S1, F2, S2, hsub, hap, ⟨x, F', S', hi, hsep, ⟨rfl, rfl⟩, n1, n2, hl', hd'⟩, hHI⟩ := s5.sep
        refine ⟨none, _, by have := run_endLoop (P := P) hl' (by rw [hrec]; simp); rw [hrec] at this; exact this, ?_⟩
        obtain ⟨F6, S6, s6, fr6⟩ := leave _ hsub hap hsep hHI n1 n2 hd'
        exact hdone d x hi _ F6 S6 s6 fr6 _ ⟨ha.size, by simp [ha.defers, hd], ha.vals⟩
      · obtain ⟨F1, S1, F2, S2, hsub, hap, ⟨c, y, F', S', hi, hsep, ⟨rfl, rfl⟩, n1, n2, hl', hd'⟩, hHI⟩ := s5.sep
        refine ⟨some c, _, by have := run_endLoop (P := P) hl' (by rw [hrec]; simp); rw [hrec] at this; exact this, ?_⟩
        obtain ⟨F6, S6, s6, fr6⟩ := leave _ hsub hap hsep hHI n1 n2 hd'
        exact fen_wp (r := none) (hstop d k c y hk hi _ F6 S6 s6 fr6 _ ⟨ha.size, by simp [ha.defers, hd], ha.vals⟩)
    | panicked ch => exact he.elim
    | outgrown => exact he.elim
end
section
variable {P : Program} {n : Fm} {o : Org} {ks : List K} {ρ : Env} {H H1 H' : List Asn} {fn : Func} {Φ : Value → List Asn → Prop}
theorem SG.retM {v : Value} (hl : Dfrs n.df H H1) (hv : ∀ a, Fr n ρ a → ∀ w, (results fn a.tmps).run P w = .ok v w) (i : Imp H1 H') (h : Φ v H') : SG P (Func.base P fn (PostS o Φ)) n o ks ρ H .ret := fun w F S s f => by
  obtain ⟨w', F1, S1, hlv, s1, f1⟩ := hl.leave s f
  exact G.retM hlv (fun a ha => hv a ha w') (post_of i h s1 f1)
theorem SN.endM {v : Value} (hl : Dfrs n.df H H1) (hv : ∀ a, Fr n ρ a → ∀ w, (results fn a.tmps).run P w = .ok v w) (i : Imp H1 H') (h : Φ v H') : SN P (Func.base P fn (PostS o Φ)) n o [] ρ H := fun w F S s f => by
  obtain ⟨w', F1, S1, hlv, s1, f1⟩ := hl.leave s f
  exact N.endM hlv (fun a ha => hv a ha w') (post_of i h s1 f1)
theorem SG.ret1M {t : Nat} {v : Value} (hr : fn.results = #[.tmp t]) (hv : look ρ t = some v) (hl : Dfrs n.df H H1) (i : Imp H1 H') (h : Φ v H') : SG P (Func.base P fn (PostS o Φ)) n o ks ρ H .ret := SG.retM hl (fun _ ha _ => res1 hr hv ha) i h
theorem SG.ret2M {t u : Nat} {v x : Value} (hr : fn.results = #[.tmp t, .tmp u]) (hv : look ρ t = some v) (hx : look ρ u = some x) (hl : Dfrs n.df H H1) (i : Imp H1 H') (h : Φ (.tuple #[v, x]) H') : SG P (Func.base P fn (PostS o Φ)) n o ks ρ H .ret := SG.retM hl (fun _ ha _ => res2 hr hv hx ha) i h
theorem SG.ret3M {t u r : Nat} {v x y : Value} (hr : fn.results = #[.tmp t, .tmp u, .tmp r]) (hv : look ρ t = some v) (hx : look ρ u = some x) (hy : look ρ r = some y) (hl : Dfrs n.df H H1) (i : Imp H1 H') (h : Φ (.tuple #[v, x, y]) H') : SG P (Func.base P fn (PostS o Φ)) n o ks ρ H .ret := SG.retM hl (fun _ ha _ => res3 hr hv hx hy ha) i h
theorem SG.ret0M (hr : fn.results = #[]) (hl : Dfrs n.df H H1) (i : Imp H1 H') (h : Φ (.tuple #[]) H') : SG P (Func.base P fn (PostS o Φ)) n o ks ρ H .ret := SG.retM hl (fun _ _ _ => by rw [results_none hr]) i h
theorem SN.end0M (hr : fn.results = #[]) (hl : Dfrs n.df H H1) (i : Imp H1 H') (h : Φ (.tuple #[]) H') : SN P (Func.base P fn (PostS o Φ)) n o [] ρ H := SN.endM hl (fun _ _ _ => by rw [results_none hr]) i h
end
end Brv
/-
  More on walks over assertions: lists in plain form; iterators that only read.
-/
set_option linter.unusedVariables false
set_option linter.unusedSimpArgs false
namespace Brv
open Go
section
variable {P : Program} {B : Exit → Act → World → Prop} {n : Fm} {o : Org} {ops : List Oper} {ks : List K} {ρ : Env} {H : List Asn} {l : List Oper} {Q : Exit → Act → World → Prop} {σ : List Nat} {π : List (Nat × Oper)} {pend : Pend} {c : Code}
theorem SL.n0 (h : SL P B n o ops ks ρ (H) l) : SL P B n o ops ks ρ ([] ++ H) l := h
theorem SW.n0 (h : SW P n ops Q o σ π pend ρ (H)) : SW P n ops Q o σ π pend ρ ([] ++ H) := h
theorem SN.n0 (h : SN P B n o ks ρ (H)) : SN P B n o ks ρ ([] ++ H) := h
theorem SG.n0 (h : SG P B n o ks ρ (H) c) : SG P B n o ks ρ ([] ++ H) c := h
theorem SL.n1 {A1 : Asn} (h : SL P B n o ops ks ρ (A1 :: H) l) : SL P B n o ops ks ρ ([A1] ++ H) l := h
theorem SW.n1 {A1 : Asn} (h : SW P n ops Q o σ π pend ρ (A1 :: H)) : SW P n ops Q o σ π pend ρ ([A1] ++ H) := h
theorem SN.n1 {A1 : Asn} (h : SN P B n o ks ρ (A1 :: H)) : SN P B n o ks ρ ([A1] ++ H) := h
theorem SG.n1 {A1 : Asn} (h : SG P B n o ks ρ (A1 :: H) c) : SG P B n o ks ρ ([A1] ++ H) c := h
theorem SL.n2 {A1 A2 : Asn} (h : SL P B n o ops ks ρ (A1 :: A2 :: H) l) : SL P B n o ops ks ρ ([A1, A2] ++ H) l := h
theorem SW.n2 {A1 A2 : Asn} (h : SW P n ops Q o σ π pend ρ (A1 :: A2 :: H)) : SW P n ops Q o σ π pend ρ ([A1, A2] ++ H) := h
theorem SN.n2 {A1 A2 : Asn} (h : SN P B n o ks ρ (A1 :: A2 :: H)) : SN P B n o ks ρ ([A1, A2] ++ H) := h
theorem SG.n2 {A1 A2 : Asn} (h : SG P B n o ks ρ (A1 :: A2 :: H) c) : SG P B n o ks ρ ([A1, A2] ++ H) c := h
theorem SL.n3 {A1 A2 A3 : Asn} (h : SL P B n o ops ks ρ (A1 :: A2 :: A3 :: H) l) : SL P B n o ops ks ρ ([A1, A2, A3] ++ H) l := h
theorem SW.n3 {A1 A2 A3 : Asn} (h : SW P n ops Q o σ π pend ρ (A1 :: A2 :: A3 :: H)) : SW P n ops Q o σ π pend ρ ([A1, A2, A3] ++ H) := h
theorem SN.n3 {A1 A2 A3 : Asn} (h : SN P B n o ks ρ (A1 :: A2 :: A3 :: H)) : SN P B n o ks ρ ([A1, A2, A3] ++ H) := h
theorem SG.n3 {A1 A2 A3 : Asn} (h : SG P B n o ks ρ (A1 :: A2 :: A3 :: H) c) : SG P B n o ks ρ ([A1, A2, A3] ++ H) c := h
theorem SL.n4 {A1 A2 A3 A4 : Asn} (h : SL P B n o ops ks ρ (A1 :: A2 :: A3 :: A4 :: H) l) : SL P B n o ops ks ρ ([A1, A2, A3, A4] ++ H) l := h
theorem SW.n4 {A1 A2 A3 A4 : Asn} (h : SW P n ops Q o σ π pend ρ (A1 :: A2 :: A3 :: A4 :: H)) : SW P n ops Q o σ π pend ρ ([A1, A2, A3, A4] ++ H) := h
theorem SN.n4 {A1 A2 A3 A4 : Asn} (h : SN P B n o ks ρ (A1 :: A2 :: A3 :: A4 :: H)) : SN P B n o ks ρ ([A1, A2, A3, A4] ++ H) := h
theorem SG.n4 {A1 A2 A3 A4 : Asn} (h : SG P B n o ks ρ (A1 :: A2 :: A3 :: A4 :: H) c) : SG P B n o ks ρ ([A1, A2, A3, A4] ++ H) c := h
theorem SL.n5 {A1 A2 A3 A4 A5 : Asn} (h : SL P B n o ops ks ρ (A1 :: A2 :: A3 :: A4 :: A5 :: H) l) : SL P B n o ops ks ρ ([A1, A2, A3, A4, A5] ++ H) l := h
theorem SW.n5 {A1 A2 A3 A4 A5 : Asn} (h : SW P n ops Q o σ π pend ρ (A1 :: A2 :: A3 :: A4 :: A5 :: H)) : SW P n ops Q o σ π pend ρ ([A1, A2, A3, A4, A5] ++ H) := h
theorem SN.n5 {A1 A2 A3 A4 A5 : Asn} (h : SN P B n o ks ρ (A1 :: A2 :: A3 :: A4 :: A5 :: H)) : SN P B n o ks ρ ([A1, A2, A3, A4, A5] ++ H) := h
theorem SG.n5 {A1 A2 A3 A4 A5 : Asn} (h : SG P B n o ks ρ (A1 :: A2 :: A3 :: A4 :: A5 :: H) c) : SG P B n o ks ρ ([A1, A2, A3, A4, A5] ++ H) c := h
theorem SN.be {v v' : Value} (d : Nat) (hv : look ρ d = some v) (e : v = v') (h : SN P B n o ks ((d, v') :: ρ) H) : SN P B n o ks ρ H := by
  subst e
  exact fun w F S s f a ha => h w F S s f a (ha.sub (Sub.cons hv (Sub.refl _)))
end
/-- An iterator that reads what is there and stays. -/
def itA (P : Program) (gf : FuncId) (lb : List Value) (N : Nat) (E : Nat → List Value → World → Prop) : Asn where
  P := fun _ S w => ∀ M W, Ext M w W → Apart S M → ∃ Sx, Iter P gf lb W N E Sx S []
  ext := fun F S M w w' h he _ hS M' W he' hS' => h (M ++ M') W ((he.mono (fun x hx => .inl (List.mem_append_left _ hx))).transN he' (fun x hx => .inl (List.mem_append_right _ hx))) (Apart.appR hS hS')
instance (P : Program) (gf : FuncId) (lb : List Value) (N : Nat) (E : Nat → List Value → World → Prop) : Pers (itA P gf lb N E) := ⟨fun _ _ _ h => h⟩
theorem IterS.read {P : Program} {gf : FuncId} {lb : List Value} {N : Nat} {E : Nat → List Value → World → Prop} {E' : Nat → List Value → Prop} (hE : ∀ k vs W, E k vs W → E' k vs) :
    IterS P gf lb [itA P gf lb N E] N (fun k vs p => E' k vs ∧ p = fun _ => True) := by
  intro y J Jx hy w F S s
  obtain ⟨Fj, Sj, Fi, Si, ⟨a1, a2, a3, a4⟩, ⟨b1, b2, b3⟩, hJ, Fi', Si', F3, S3, ⟨c1, c2, c3, c4⟩, _, hit, _⟩ := s.sep
  obtain ⟨Sx, hit'⟩ := hit [] w (Ext.refl _ _) (Apart.nilR _)
  have ltj : ∀ b ∈ Fj, b < w.heap.size := fun b hb => s.ltF b (a1 hb)
  have ltsj : ∀ b ∈ Sj, b < w.heap.size := fun b hb => s.ltS b (a3 hb)
  have ltsi : ∀ b ∈ Si', b < w.heap.size := fun b hb => s.ltS b (a4 (c3 hb))
  have hap : ∀ b ∈ Fj, b ∉ Si' := fun b hb h => b2 b hb (c3 h)
  -- what the consumer keeps
  let KJ : (Nat → Asn) → Nat → List Nat → World → Prop := fun A k D W => ∃ F' S', (A k).P F' S' W ∧ (∀ b ∈ F', b ∈ D) ∧ (∀ b ∈ S', b < W.heap.size ∧ (b ∈ D ∨ b ∈ Sj)) ∧ (∀ b ∈ D, b < W.heap.size ∧ (b ∈ Fj ∨ w.heap.size ≤ b)) ∧ Ext Fj w W
  have hst : ∀ (A : Nat → Asn) k D W₁ W₂ M', KJ A k D W₁ → Ext M' W₁ W₂ → (∀ g ∈ M', g ∉ D ∧ (g ∈ ([] : List Nat) ∨ w.heap.size ≤ g)) → KJ A k D W₂ := by
    rintro A k D W₁ W₂ M' ⟨F', S', h1, h2, h3, h4, h5⟩ he hM
    refine ⟨F', S', (A k).ext _ _ _ _ _ h1 he (fun b hb h => (hM b h).1 (h2 b hb)) (fun b hb h => (h3 b hb).2.elim (hM b h).1 (fun q => by have := (hM b h).2; simp at this; have := ltsj b q; omega)), h2, fun b hb => ⟨Nat.lt_of_lt_of_le (h3 b hb).1 he.size, (h3 b hb).2⟩, fun b hb => ⟨Nat.lt_of_lt_of_le (h4 b hb).1 he.size, (h4 b hb).2⟩, h5.transN he (fun x hx => .inr (by have := (hM x hx).2; simpa using this))⟩
  have hm := hit' y Fj (KJ J) (KJ Jx) w (Ext.refl _ _) (fun g hg => ⟨ltj g hg, hap g hg, by simp⟩) (fun k D W₁ W₂ M' => hst J k D W₁ W₂ M') (fun k D W₁ W₂ M' => hst Jx k D W₁ W₂ M') (by
      rintro k D vs W₁ hk ⟨F', S', h1, h2, h3, h4, h5⟩ hEk hD
      have hys := hy k vs _ hk ⟨hE k vs W₁ hEk, rfl⟩ W₁ F' S' ⟨⟨[], [], F', S', ⟨by simp, subR _, by simp, subR _⟩, ⟨Apart.nilL _, Apart.nilL _, Apart.nilL _⟩, fun _ _ _ _ => trivial, F', S', [], [], ⟨subR _, by simp, subR _, by simp⟩, ⟨Apart.nilR _, Apart.nilR _, Apart.nilR _⟩, h1, trivial⟩, fun b hb => (h4 b (h2 b hb)).1, fun b hb => (h3 b hb).1⟩
      have fin : ∀ b W₂, PostS ⟨W₁, F', S'⟩ (fun _ H' => H' = [if b then J (k + 1) else Jx (k + 1)]) undef W₂ → ∃ D', Ext D W₁ W₂ ∧ (∀ g ∈ D', g < W₂.heap.size ∧ (g ∈ D ∨ W₁.heap.size ≤ g)) ∧ (b = true → KJ J (k + 1) D' W₂) ∧ (b = false → KJ Jx (k + 1) D' W₂) := by
        rintro b W₂ ⟨H', F5, S5, rfl, s5, f5⟩
        have hsz := f5.ext.size
        have hsw := h5.size
        simp only at hsz
        obtain ⟨Fa, Sa, Fb, Sb, ⟨q1, _, q3, _⟩, _, hA, _⟩ := s5.sep
        have hD2 : ∀ g ∈ D ++ (F5 ++ S5).filter (fun g => decide (W₁.heap.size ≤ g)), g < W₂.heap.size ∧ (g ∈ D ∨ W₁.heap.size ≤ g) := by
          intro g hg
          rcases List.mem_append.1 hg with h | h
          · exact ⟨Nat.lt_of_lt_of_le (h4 g h).1 hsz, .inl h⟩
          · obtain ⟨h, hd⟩ := List.mem_filter.1 h
            exact ⟨(List.mem_append.1 h).elim (s5.ltF g) (s5.ltS g), .inr (of_decide_eq_true hd)⟩
        have hE2 : Ext D W₁ W₂ := f5.ext.mono (fun x hx => .inl (h2 x hx))
        have base : ∀ A : Nat → Asn, (A (k + 1)).P Fa Sa W₂ → KJ A (k + 1) (D ++ (F5 ++ S5).filter (fun g => decide (W₁.heap.size ≤ g))) W₂ := fun A hA => by
          refine ⟨Fa, Sa, hA, fun g hg => ?_, fun g hg => ⟨s5.ltS g (q3 hg), ?_⟩, fun g hg => ⟨(hD2 g hg).1, (hD2 g hg).2.elim (fun h => (h4 g h).2) (fun h => .inr (Nat.le_trans hsw h))⟩, h5.transN hE2 (fun x hx => (h4 x hx).2)⟩
          · exact (f5.fF g (q1 hg)).elim (fun h => List.mem_append_left _ (h2 g h)) (fun h => List.mem_append_right _ (List.mem_filter.2 ⟨List.mem_append_left _ (q1 hg), decide_eq_true h⟩))
          · rcases f5.fS g (q3 hg) with h | h | h
            · exact (h3 g h).2.imp (fun h => List.mem_append_left _ h) id
            · exact .inl (List.mem_append_left _ (h2 g h))
            · exact .inl (List.mem_append_right _ (List.mem_filter.2 ⟨List.mem_append_right _ (q3 hg), decide_eq_true h⟩))
        refine ⟨_, hE2, hD2, fun hb => ?_, fun hb => ?_⟩
        · subst hb; exact base J hA
        · subst hb; exact base Jx hA
      rcases hys with ⟨l, rfl, fn, tmps, asv, body, hr, hrd⟩ | ⟨f, first, cap, rfl, hc, hf⟩
      · refine .inl ⟨l, rfl, fn, tmps, asv, body, hr, RoundIn.mono hrd ?_⟩
        rintro e w' ⟨b, rfl, h⟩
        exact ⟨b, rfl, fin b w' h⟩
      · refine .inr ⟨f, first, cap, rfl, hc, hf.mono ?_⟩
        rintro v w' ⟨b, rfl, h⟩
        exact ⟨b, rfl, fin b w' h⟩) ⟨Fj, Sj, hJ, fun b hb => hb, fun b hb => ⟨ltsj b hb, .inr hb⟩, fun b hb => ⟨ltj b hb, .inl hb⟩, Ext.refl _ _⟩
  refine hm.mono ?_
  have out : ∀ (A : Nat → Asn) k D W, KJ A k D W → ∃ F' S', St (A k :: [itA P gf lb N E]) F' S' W ∧ From ⟨w, F, S⟩ W F' S' := by
    rintro A k D W ⟨F', S', h1, h2, h3, h4, h5⟩
    have hsw := h5.size
    refine ⟨F', S' ++ Si', ⟨⟨F', S', [], Si', ⟨subR _, by simp, inL _ _, inR _ _⟩, ⟨Apart.nilR _, fun b hb h => ?_, Apart.nilR _⟩, h1, [], Si', [], [], ⟨by simp, by simp, subR _, by simp⟩, ⟨Apart.nilL _, Apart.nilL _, Apart.nilR _⟩, (itA P gf lb N E).ext _ _ _ _ _ hit h5 (fun b hb h => ?_) (fun b hb h => hap b h hb), trivial⟩, fun b hb => (h4 b (h2 b hb)).1, ?_⟩, ⟨h5.mono (fun x hx => .inl (a1 hx)), fun b hb => (h4 b (h2 b hb)).2.imp (fun h => a1 h) id, ?_⟩⟩
    · exact (h4 b (h2 b hb)).2.elim (fun q => hap b q h) (fun q => by have := ltsi b h; omega)
    · cases hb
    · intro b hb
      exact (List.mem_append.1 hb).elim (fun h => (h3 b h).1) (fun h => Nat.lt_of_lt_of_le (ltsi b h) hsw)
    · intro b hb
      rcases List.mem_append.1 hb with h | h
      · exact (h3 b h).2.elim (fun q => (h4 b q).2.elim (fun q => .inr (.inl (a1 q))) (fun q => .inr (.inr q))) (fun q => .inl (a3 q))
      · exact .inl (a4 (c3 h))
  rintro v W₂ (⟨D, hJN, _⟩ | ⟨k, D, hk, hJx, _⟩)
  · obtain ⟨F', S', s', f'⟩ := out J N D W₂ hJN
    exact ⟨_, F', S', .inl rfl, s', f'⟩
  · obtain ⟨F', S', s', f'⟩ := out Jx k D W₂ hJx
    exact ⟨_, F', S', .inr ⟨k, hk, rfl⟩, s', f'⟩
end Brv
/-
  Structs of plain fields, compared.
-/
set_option linter.unusedVariables false
namespace Brv
open Go
inductive Kd where
  | i (k : IntKind)
  | s
  | b
  | no
  | other
def Kd.eq : Kd → Kd → Bool
  | .i x, .i y => decide (x = y)
  | .s, .s => true
  | .b, .b => true
  | _, _ => false
def kindD : Option TypeDesc → Kd
  | some (.int k) => .i k
  | some .string => .s
  | some .bool => .b
  | _ => .other
def kindT (P : Program) (T : TypeId) : Kd := kindD (P.underlying T)
/-- The fields lie one behind the other, each a cell, of these kinds. -/
def okFs (P : Program) : List Field → Nat → List Kd → Bool
  | [], _, [] => true
  | f :: fs, i, k :: ks => decide (f.name ≠ "_") && P.plainKey f.type && Nat.beq f.offset i && Kd.eq (kindT P f.type) k && okFs P fs (i + 1) ks
  | _, _, _ => false
class TyEqS (P : Program) (T : TypeId) (ks : outParam (List Kd)) : Prop where
  h : P.underlying T = some (.struct (P.fieldsOf T))
  s : P.stoodInHeld T = false
  g : P.eqGuardType P.depth T = false
  f : okFs P (P.fieldsOf T).toList 0 ks = true
section
variable {P : Program} {n : Fm} {ρ : Env} {w : World} {d : Nat} {ty : TypeId} {pos : String} {af : Array Edge} {gd : Option (Nat × Bool)}
end
end Brv
/-
  Regions that draw their order, but end with one operation that comes behind all others: that one is walked last. Operations that make something new, at whatever stage.
-/
set_option linter.unusedVariables false
namespace Brv
open Go
section
variable {P : Program} {F : Fence} {m : Nat}
end
section
variable {P : Program} {B : Exit → Act → World → Prop} {n : Fm} {ks : List K} {ρ : Env} {w : World} {σ : List Nat} {Ms : List Foot} {Js : List (World → Prop)} {X : List (Nat × Nat)}
/-- What is left to do behind all but the last operation of a region. -/
def lastK (P : Program) (n : Fm) (B : Exit → Act → World → Prop) (ks : List K) (full : List Oper) (o : Oper) : K := .hand fun a w => wpListIn (fen n.ro) 0 P full.toArray (sem P n.ro B ks) [o] a w
theorem N.last {full : List Oper} {o : Oper} (h : L P B n full ks ρ w [o]) : N P B n (lastK P n B ks full o :: ks) ρ w := N.hand fun a ha => h a ha
end
section
variable {P : Program} {n : Fm} {ops : List Oper} {Q : Exit → Act → World → Prop} {Js : List (World → Prop)} {σ : List Nat} {Ms : List Foot} {X : List (Nat × Nat)}
variable {ρ : Env} {τ : RelEnv} {i : Nat} {rest : List Oper} {d : Nat} {op : Op} {ty : TypeId} {pos : String} {af : Array Edge} {gd : Option (Nat × Bool)}
end
end Brv
namespace Brv
open Go
section
variable {P : Program} {n : Fm} {ρ : Env} {w : World} {d : Nat} {ty : TypeId} {pos : String} {af : Array Edge} {gd : Option (Nat × Bool)}
end
end Brv
namespace Brv
open Go
section
variable {P : Program} {n : Fm} {ρ : Env} {w : World} {d : Nat} {ty : TypeId} {pos : String} {af : Array Edge} {gd : Option (Nat × Bool)}
end
end Brv
/-
  Rows of structs: appends that tell whether they grow, copies, clears, the entry slices.overlaps.
-/
set_option linter.unusedVariables false
namespace Brv
open Go
section
variable {P : Program} {w : World}
theorem run_appZ2 {T E I size bytes : Nat} {z : Value} [t : TySlice P T E size bytes z] [ti : TyInt P I .i64] {a : Option Addr} {n cap : Nat} {xs : List Value} {M : List Nat} (hown : Own w E size a n cap xs M)
    {m : Nat} (h1 : ∀ u ∈ z.cells.toList, u.oneCell' = true) (h63 : n + m ≤ maxLen) (hby : (n + m) * bytes ≤ 140737488355328) (hpos : 0 < size) (hbp : 0 < bytes) (ty : Nat) :
    ∃ a' cap' M' w', (Builtin.append_ #[T, I] ty #[.slice a n cap, .int .i64 m]).run P w = .ok (.slice a' (n + m) cap') w' ∧ Own w' E size a' (n + m) cap' (xs ++ (Builtin.zeroCells z.cells m).toList) M' ∧ Ext M w w' ∧ (∀ g ∈ M', g ∈ M ∨ w.heap.size ≤ g) ∧ (cap < n + m → Ext [] w w' ∧ ∀ g ∈ M', w.heap.size ≤ g) ∧ (n + m ≤ cap → a' = a ∧ cap' = cap ∧ M' = M) := by
  obtain ⟨j, hj, hs, hb, hz⟩ := t.i
  have hzs := t.zs
  subst hs hb
  have hI := ti.h
  have hl : (Builtin.zeroCells z.cells m).toList.length = m * j.size := by rw [Array.length_toList, size_zeroCells, hzs]
  have hmm : m ≤ m * j.bytes := Nat.le_mul_of_pos_right _ hbp
  have hmb : m * j.bytes ≤ (n + m) * j.bytes := Nat.mul_le_mul_right _ (by omega)
  have hsmall : n + m ≤ 9223372036854775807 := by simp only [maxLen] at h63; omega
  have hwr : IntKind.i64.wrap ((m : Nat) : Int) = m := wrap_i64 (by omega)
  have hbig : ¬ (281474976710656 : Int) < (m : Int) * (j.bytes : Int) := by
    have : ((m * j.bytes : Nat) : Int) = (m : Int) * (j.bytes : Int) := by simp
    omega
  have hneg : ¬ ((m : Nat) : Int) < 0 := by omega
  have hai : (asInt (.int .i64 (m : Int))).run P w = .ok (m : Int) w := by simp [asInt, asIntOf]
  have hlen : (xs ++ (Builtin.zeroCells z.cells m).toList).length = (n + m) * j.size := by rw [List.length_append, hown.1, hl, Nat.add_mul]
  have h1' : ∀ u ∈ (Builtin.zeroCells z.cells m).toList, u.oneCell' = true := by
    intro u hu
    simp only [Builtin.zeroCells, Array.toList_map, List.mem_map, Array.mem_toList_iff, Array.mem_range] at hu
    obtain ⟨i, hi, rfl⟩ := hu
    have : i % z.cells.size < z.cells.size := Nat.mod_lt _ (by rw [hzs]; exact hpos)
    rw [getElem!_pos z.cells _ this]
    exact h1 _ (by simp)
  have hzl : m * j.size = 0 → (Builtin.zeroCells z.cells m) = #[] := by
    intro h0
    exact Array.eq_empty_of_size_eq_zero (by rw [size_zeroCells, hzs]; exact h0)
  by_cases hroom : n + m ≤ cap
  · rcases hown.2 with ⟨rfl, rfl, rfl, rfl⟩ | ⟨g, cur, rfl, rfl, hg, hnc, hcm, hcs, ht⟩
    · have hm0 : m = 0 := by omega
      subst hm0
      refine ⟨none, 0, [], w, ?_, ⟨hlen, .inl ⟨rfl, rfl, rfl, rfl⟩⟩, Ext.refl _ _, by simp, fun h => absurd h (by omega), fun _ => ⟨rfl, rfl, rfl⟩⟩
      have hai0 : (asInt (.int .i64 0)).run P w = .ok 0 w := hai
      have hwr0 : IntKind.i64.wrap 0 = 0 := hwr
      simp [Builtin.append_, run_underlying t.h, run_underlying hI, Go.sizeOf, typeInfo, hj, hai0, hwr0]
    · have hfit : n * j.size + (Builtin.zeroCells z.cells m).toList.length ≤ cur.size := by rw [hl, ← Nat.add_mul]; exact Nat.le_trans (Nat.mul_le_mul_right _ hroom) hcs
      have hst := run_storeCells_at P g (n * j.size) E (Builtin.zeroCells z.cells m).toList 0 cur w hg (by simpa using hfit) h1'
      simp only [Nat.add_zero] at hst
      refine ⟨some ⟨g, 0, none⟩, cap, [g], w.setRow g (cur.toList.take (n * j.size) ++ (Builtin.zeroCells z.cells m).toList ++ cur.toList.drop (n * j.size + (Builtin.zeroCells z.cells m).toList.length)).toArray, ?_, ⟨hlen, .inr ⟨g, _, rfl, rfl, setRow_heap w g cur _ E _ hg, hroom, hcm, ?_, ?_⟩⟩, ⟨rfl, rfl, rfl, by simp, fun k _ hk => setRow_other w g k _ (fun e => hk (by simp [e]))⟩, fun x hx => .inl hx, fun h => absurd h (by omega), fun _ => ⟨rfl, rfl, rfl⟩⟩
      · by_cases h0 : m * j.size = 0
        · rw [hzl h0] at hst ⊢
          simp [Builtin.append_, run_underlying t.h, run_underlying hI, Go.sizeOf, typeInfo, hj, hroom, h0, hwr, hneg, hbig, hai, Go.Addr.add_lit] at hst ⊢
          simp [hst]
        · simp [Builtin.append_, run_underlying t.h, run_underlying hI, Go.sizeOf, typeInfo, zeroValue, hz, hj, hroom, h0, hwr, hneg, hbig, hai, Go.Addr.add_lit, hst]
      · simp only [List.size_toArray, List.length_append, List.length_take, List.length_drop, Array.length_toList]
        refine Nat.le_trans hcs ?_
        omega
      · rw [ht, ← hlen]
        exact List.take_left
  · have hfo := run_first (P := P) (size := j.size) (c := cap) (w := w.drew) (b := a) (cs := xs) (m := n) (fun i v hv => by
      obtain ⟨p, hp, hc⟩ := hown.cells i v hv; exact ⟨p, hp, by simpa using hc⟩) hown.1
    have h63' : ¬ (9223372036854775807 < ((n : Int) + (m : Int))) := by omega
    have hfit := growslice_fits (need := n + m) (old := cap) (bytes := j.bytes) (by omega) hby
    have h48' : ¬ (281474976710656 < Builtin.nextslicecap (n + m) cap * j.bytes) := by omega
    have hge := grownCap_ge w (n + m) cap E
    have hcm := grownCap_le_maxLen w (n + m) cap E h63
    refine ⟨some ⟨w.heap.size, 0, none⟩, grownCap w (n + m) cap E, [w.heap.size], w.drew.alloc (.cells (xs.toArray ++ (Builtin.zeroCells z.cells m) ++ Builtin.zeroCells z.cells (grownCap w (n + m) cap E - (n + m))) E), ?_, ⟨hlen, .inr ⟨w.heap.size, _, rfl, rfl, Blk.new w.drew _ _ _, hge, hcm, ?_, ?_⟩⟩, ?_, fun x hx => .inr (by simp at hx; omega), fun _ => ⟨(Ext.drew w).trans0 (Ext.alloc w.drew _), fun x hx => by simp at hx; omega⟩, fun h => absurd h hroom⟩
    · by_cases h0 : m * j.size = 0
      · rw [hzl h0]
        simp [Builtin.append_, run_underlying t.h, run_underlying hI, Go.sizeOf, typeInfo, zeroValue, hj, hz, h0, hwr, hneg, hbig, hai, show ¬ n + m ≤ cap by omega, h63', h48', Question.forced, hfo, newRow, grownCap]
      · simp [Builtin.append_, run_underlying t.h, run_underlying hI, Go.sizeOf, typeInfo, zeroValue, hj, hz, h0, hwr, hneg, hbig, hai, show ¬ n + m ≤ cap by omega, h63', h48', Question.forced, hfo, newRow, grownCap]
    · simp only [Array.size_append, List.size_toArray, size_zeroCells, hzs, hown.1, ← Nat.add_mul]
      refine Nat.le_of_eq ?_
      congr 1
      omega
    · simp only [Array.toList_append, List.append_assoc]
      rw [← List.append_assoc, ← hlen]
      exact List.take_left
    · have h1 := (Ext.drew w).trans0 (Ext.alloc w.drew (.cells (xs.toArray ++ (Builtin.zeroCells z.cells m) ++ Builtin.zeroCells z.cells (grownCap w (n + m) cap E - (n + m))) E))
      exact h1.mono (by simp)
end
/-- The first elements of an owned row. -/
theorem Own.pre {w : World} {E size : Nat} {a : Option Addr} {n cap : Nat} {xs : List Value} {M : List Nat} (h : Own w E size a n cap xs M) {i : Nat} (hi : i ≤ n) : Own w E size a i cap (xs.take (i * size)) M := by
  have hl := h.1
  have hm : i * size ≤ n * size := Nat.mul_le_mul_right _ hi
  refine ⟨by rw [List.length_take, hl]; omega, ?_⟩
  rcases h.2 with ⟨h1, h2, h3, h4⟩ | ⟨g, cur, h1, h2, h3, h4, h5, h6, h7⟩
  · exact .inl ⟨h1, by omega, h3, h4⟩
  · exact .inr ⟨g, cur, h1, h2, h3, by omega, h5, h6, by rw [← h7, List.take_take, Nat.min_eq_left hm]⟩
/-- An element put in between, in place: the cells. -/
theorem over_insert {cur : Array Value} {xs v : List Value} {A L s : Nat} (hx : cur.toList.take L = xs) (hxl : xs.length = L) (hA : A ≤ L) (hv : v.length = s) (hr : L + s ≤ cur.size) :
    (Over (Over cur (A + s) (xs.drop A)) A v).toList.take (L + s) = xs.take A ++ v ++ xs.drop A ∧ (Over cur (A + s) (xs.drop A)).size = cur.size ∧ (Over (Over cur (A + s) (xs.drop A)) A v).size = cur.size := by
  have hdl : (xs.drop A).length = L - A := by rw [List.length_drop, hxl]
  have s1 : (Over cur (A + s) (xs.drop A)).size = cur.size := Over.size (by rw [hdl]; omega)
  have s2 : (Over (Over cur (A + s) (xs.drop A)) A v).size = cur.size := by rw [Over.size (by rw [s1, hv]; omega), s1]
  refine ⟨?_, s1, s2⟩
  have hcl : cur.toList.length = cur.size := Array.length_toList
  have e1 : (Over cur (A + s) (xs.drop A)).toList = cur.toList.take (A + s) ++ xs.drop A ++ cur.toList.drop (A + s + (xs.drop A).length) := rfl
  have e2 : (Over (Over cur (A + s) (xs.drop A)) A v).toList = (Over cur (A + s) (xs.drop A)).toList.take A ++ v ++ (Over cur (A + s) (xs.drop A)).toList.drop (A + v.length) := rfl
  have t1 : (cur.toList.take (A + s)).length = A + s := by rw [List.length_take]; omega
  have a1 : (Over cur (A + s) (xs.drop A)).toList.take A = xs.take A := by
    rw [e1, List.append_assoc, List.take_append, show A - (cur.toList.take (A + s)).length = 0 by omega, List.take_zero, List.append_nil, List.take_take, Nat.min_eq_left (by omega), ← hx, List.take_take, Nat.min_eq_left hA]
  have a2 : (Over cur (A + s) (xs.drop A)).toList.drop (A + v.length) = xs.drop A ++ cur.toList.drop (A + s + (xs.drop A).length) := by
    rw [e1, List.append_assoc, hv, List.drop_append, List.drop_of_length_le (by omega), List.nil_append, t1, Nat.sub_self, List.drop_zero]
  rw [e2, a1, a2]
  have l3 : (xs.take A ++ v ++ xs.drop A).length = L + s := by simp only [List.length_append, List.length_take, List.length_drop]; omega
  rw [← List.append_assoc, ← l3, List.take_left]
section
variable {P : Program} {n : Fm} {ρ : Env} {w : World} {ty : TypeId} {pos : String} {af : Array Edge} {gd : Option (Nat × Bool)}
/-- append(xs, make(_, m)...), where it grows. -/
theorem R.appZN {T E I size bytes : Nat} {z : Value} [t : TySlice P T E size bytes z] [ti : TyInt P I .i64] {d : Nat} {s x : Operand} {a : Option Addr} {m0 cap m : Nat} {xs : List Value} {M : List Nat}
    (hs : ev ρ s = some (.slice a m0 cap)) (hx : ev ρ x = some (.int .i64 m)) (hown : Own w E size a m0 cap xs M)
    (h1 : ∀ u ∈ z.cells.toList, u.oneCell' = true) (h63 : m0 + m ≤ maxLen) (hby : (m0 + m) * bytes ≤ 140737488355328) (hpos : 0 < size) (hbp : 0 < bytes) (hg : cap < m0 + m) :
    Does P n ρ w ⟨some d, .call ⟨.builtin .append, #[s, x], #[T, I]⟩, ty, pos, af, gd⟩ (Cloned w E size (m0 + m) (xs ++ (Builtin.zeroCells z.cells m).toList)) := by
  obtain ⟨a', cap', M', w', hr, ho, he, hm, hnew, _⟩ := run_appZ2 (P := P) (T := T) (I := I) hown (m := m) h1 h63 hby hpos hbp ty
  exact ⟨_, _, fun f hf => by
    simp only [execOp, resolve, invoke, builtin, Sem.run_bind, Sem.run_pure, Result.andThen_ok, List.map_toArray, List.map_cons, List.map_nil, hf.eval hs, hf.eval hx, hr], a', cap', M', rfl, (hnew hg).1, ho, (hnew hg).2⟩
/-- copy, of elements of any size: m elements go over. -/
theorem R.copyN {T S E size bytes : Nat} {z : Value} [t : TySlice P T E size bytes z] {d : Option Nat} {x y : Operand} {g o dl dc sl sc m : Nat} {b : Option Addr} {cur : Array Value} {U : TypeId} {cs : List Value}
    (hx : ev ρ x = some (.slice (some ⟨g, o, none⟩) dl dc)) (hy : ev ρ y = some (.slice b sl sc)) (hb : Blk w g cur U (0, 0)) (hc : Cells w b cs) (hm : Nat.min sl dl = m) (hn : cs.length = m * size) (hfit : o + cs.length ≤ cur.size)
    (h1 : ∀ u ∈ cs, u.oneCell' = true) :
    Does P n ρ w ⟨d, .call ⟨.builtin .copy, #[x, y], #[T, S]⟩, ty, pos, af, gd⟩ (fun v w' => v = .int .i64 (m : Int) ∧ Put w g (Over cur o cs) U w') := by
  obtain ⟨i, hi, hs, _, _⟩ := t.i
  have hf := run_first (P := P) (size := size) (c := sc) hc hn
  have hst := run_storeCells_at P g o U cs 0 cur w hb (by simpa using hfit) h1
  simp only [Nat.add_zero] at hst
  have hf2 : (Builtin.firstCells size m (.slice b sl sc)).run P w = .ok cs.toArray w := by
    cases b with
    | none => have := cells_none hc; subst this; simp [Builtin.firstCells] at hf ⊢
    | some p => simpa [Builtin.firstCells] using hf
  refine ⟨.int .i64 (m : Int), w.setRow g (Over cur o cs), fun f hff => ?_, rfl, ⟨rfl, rfl, rfl, by simp, fun k _ hk => setRow_other w g k _ (fun e => hk (by simp [e]))⟩, by simp, setRow_heap w g cur _ U _ hb⟩
  simp only [execOp, resolve, invoke, builtin, Sem.run_bind, Sem.run_pure, Result.andThen_ok, List.map_toArray, List.map_cons, List.map_nil, hff.eval hx, hff.eval hy]
  simp [Builtin.copy_, run_underlying t.h, Builtin.lenOf, Go.sizeOf, typeInfo, hi, hs, hm, hf2, hst, Over, goInt]
theorem R.capS {T E size bytes : Nat} {z : Value} [t : TySlice P T E size bytes z] {x : Operand} {d : Nat} {a : Option Addr} {m c : Nat} (hx : ev ρ x = some (.slice a m c)) :
    Runs P n ρ w ⟨some d, .call ⟨.builtin .cap, #[x], #[T]⟩, ty, pos, af, gd⟩ (.int .i64 (c : Int)) w := (fun f hf => by
    simp only [execOp, resolve, invoke, builtin, Sem.run_bind, Sem.run_pure, Result.andThen_ok, List.map_toArray, List.map_cons, List.map_nil, hf.eval hx]
    simp [Builtin.cap_, goInt, run_underlying t.h])
/-- slices.overlaps, of two blocks. -/
theorem R.overlaps {tS tR E size bytes : Nat} {z : Value} [t : TySlice P tS E size bytes z] {d : Nat} {f : FuncId} {fn : Func} {x y : Operand} {ats : Array TypeId} {a b : Addr} {la ca lb cb : Nat} {A B : Array Value} {tA tB : Nat}
    (hf : P.funcs[f]? = some fn) (hname : (fn.name == "runtime.NumGoroutine") = false) (hbd : fn.body.isNone = true) (hn : Extern.findNext fn = none) (he : Extern.find fn = some (Extern.SlicesOverlaps.overlaps #[tS, tS] #[tR]))
    (hx : ev ρ x = some (.slice (some a) la ca)) (hy : ev ρ y = some (.slice (some b) lb cb)) (hA : Blk w a.block A tA (0, 0)) (hB : Blk w b.block B tB (0, 0)) (hne : a.block ≠ b.block) (hB0 : 0 < B.size) :
    Runs P n ρ w ⟨some d, .call ⟨.value (.func f), #[x, y], ats⟩, ty, pos, af, gd⟩ (.bool false) w := by
  obtain ⟨i, hi, hs, _, _⟩ := t.i
  refine R.callX (vs := [.slice (some a) la ca, .slice (some b) lb cb]) (by simp [evs, hx, hy]) ?_
  have hz : ∀ w, (Go.sizeOf E).run P w = .ok size w := fun w => by simp [Go.sizeOf, typeInfo, hi, hs]
  have hfr : ∀ o, w.frozen? { block := a.block, off := o } = false := by
    intro o
    simp only [World.frozen?]
    rw [show w.heap[a.block]? = some (.cells A tA (0, 0)) from hA]
    simp
  have hfa : w.frozen? a = false := by
    simp only [World.frozen?]
    rw [show w.heap[a.block]? = some (.cells A tA (0, 0)) from hA]
    simp
  rw [run_callFunc_extern hf hname hbd hn he]
  have := Lib.run_overlaps_apart (P := P) w tS tR E t.h size hz a b la ca lb cb hne tA tB A.size B.size (by unfold World.shape?; rw [show w.heap[a.block]? = some (.cells A tA (0, 0)) from hA]) (by unfold World.shape?; rw [show w.heap[b.block]? = some (.cells B tB (0, 0)) from hB]) (by omega) hfa (hfr _)
  exact (congrArg (fun r => r.andThen fun v w' => Result.ok (Next.value v) w') this)
end
end Brv
/-
  Orders: keys, rows of pairs, what is found, put and deleted.
-/
set_option linter.unusedVariables false
namespace Brv
open Go
/-- What keys are: values that are compared. -/
class Key (κ : Type) where
  val : κ → Value
  lt : κ → κ → Bool
  one : ∀ k, (val k).oneCell' = true
  cell : ∀ k, (val k).cells = #[val k]
  irr : ∀ k, lt k k = false
  trans : ∀ a b c, lt a b = true → lt b c = true → lt a c = true
  tri : ∀ a b, lt a b = false → lt b a = false → a = b
theorem bl_irr : ∀ a : List UInt8, Op.bytesLess a a = false
  | [] => rfl
  | x :: r => by simp [Op.bytesLess, bl_irr r]
theorem bl_trans : ∀ a b c : List UInt8, Op.bytesLess a b = true → Op.bytesLess b c = true → Op.bytesLess a c = true
  | _, _, [], _, h => by simp [Op.bytesLess] at h
  | _, [], _ :: _, h, _ => by simp [Op.bytesLess] at h
  | [], _ :: _, _ :: _, _, _ => rfl
  | x :: a, y :: b, z :: c, h, k => by
    simp only [Op.bytesLess, Bool.or_eq_true, decide_eq_true_eq, Bool.and_eq_true, beq_iff_eq] at h k ⊢
    rcases h with h | ⟨rfl, h⟩
    · rcases k with k | ⟨rfl, k⟩
      · exact .inl (UInt8.lt_trans h k)
      · exact .inl h
    · rcases k with k | ⟨rfl, k⟩
      · exact .inl k
      · exact .inr ⟨rfl, bl_trans a b c h k⟩
theorem bl_tri : ∀ a b : List UInt8, Op.bytesLess a b = false → Op.bytesLess b a = false → a = b
  | [], [], _, _ => rfl
  | [], y :: b, h, _ => by simp [Op.bytesLess] at h
  | x :: a, [], _, h => by simp [Op.bytesLess] at h
  | x :: a, y :: b, h, k => by
    simp only [Op.bytesLess, Bool.or_eq_false_iff, decide_eq_false_iff_not] at h k
    have e : x = y := by
      have h1 := h.1; have k1 := k.1
      rw [UInt8.not_lt] at h1 k1
      exact UInt8.le_antisymm k1 h1
    subst e
    have h2 := h.2; have k2 := k.2
    simp at h2 k2
    rw [bl_tri a b h2 k2]
instance : Key Int := ⟨.int .i64, fun a b => decide (a < b), fun _ => rfl, fun _ => rfl, fun k => by simp, fun a b c h k => by simp at h k ⊢; omega, fun a b h k => by simp at h k; omega⟩
instance : Key (List UInt8) := ⟨fun k => .string (str k), Op.bytesLess, fun _ => rfl, fun _ => rfl, bl_irr, bl_trans, bl_tri⟩
section
variable {κ : Type} [Key κ]
/-- A key and a value's cells. -/
abbrev Pr (κ : Type) := κ × List Value
def pcell (p : Pr κ) : List Value := Key.val p.1 :: p.2
def pcells (ps : List (Pr κ)) : List Value := (ps.map pcell).flatten
def Sorted (ps : List (Pr κ)) : Prop := ps.Pairwise fun a b => Key.lt a.1 b.1 = true
/-- How many keys are below k. -/
def low (ps : List (Pr κ)) (k : κ) : Nat := (ps.takeWhile fun p => Key.lt p.1 k).length
def hasK (ps : List (Pr κ)) (k : κ) : Bool := match ps[low ps k]? with
  | some p => !Key.lt k p.1
  | none => false
theorem low_le (ps : List (Pr κ)) (k : κ) : low ps k ≤ ps.length := by
  unfold low
  exact (List.takeWhile_sublist _).length_le
theorem low_lt {ps : List (Pr κ)} {k : κ} {i : Nat} {p : Pr κ} (hi : i < low ps k) (hp : ps[i]? = some p) : Key.lt p.1 k = true := by
  unfold low at hi
  induction ps generalizing i with
  | nil => simp at hi
  | cons q r ih =>
    rw [List.takeWhile_cons] at hi
    split at hi
    · rename_i hq
      cases i with
      | zero => simp at hp; subst hp; exact hq
      | succ i => exact ih (by simpa using hi) (by simpa using hp)
    · simp at hi
theorem low_ge {ps : List (Pr κ)} (hs : Sorted ps) {k : κ} {i : Nat} {p : Pr κ} (hi : low ps k ≤ i) (hp : ps[i]? = some p) : Key.lt p.1 k = false := by
  unfold low at hi
  induction ps generalizing i with
  | nil => simp at hp
  | cons q r ih =>
    have hs' := List.pairwise_cons.1 hs
    rw [List.takeWhile_cons] at hi
    split at hi
    · rename_i hq
      cases i with
      | zero => simp at hi
      | succ i => exact ih hs'.2 (by simpa using hi) (by simpa using hp)
    · rename_i hq
      have hq' : Key.lt q.1 k = false := by simpa using hq
      cases i with
      | zero => simp at hp; subst hp; exact hq'
      | succ i =>
        have hm : p ∈ r := List.mem_of_getElem? (by simpa using hp)
        have h1 := hs'.1 p hm
        cases hc : Key.lt p.1 k with
        | false => rfl
        | true => rw [Key.trans _ _ _ h1 hc] at hq'; cases hq'
theorem hasK_iff {ps : List (Pr κ)} (hs : Sorted ps) {k : κ} : hasK ps k = true ↔ ∃ v, ps[low ps k]? = some (k, v) := by
  unfold hasK
  cases h : ps[low ps k]? with
  | none => simp
  | some p =>
    have hg := low_ge hs (Nat.le_refl _) h
    constructor
    · intro h1
      have h1 : Key.lt k p.1 = false := by simpa using h1
      have := Key.tri _ _ hg h1
      exact ⟨p.2, by rw [← this]⟩
    · rintro ⟨v, h1⟩
      cases h1
      have := Key.irr k
      simp [this]
def getK (ps : List (Pr κ)) (k : κ) : Option (List Value) := if hasK ps k then (ps[low ps k]?).map Prod.snd else none
def putK (ps : List (Pr κ)) (k : κ) (v : List Value) : List (Pr κ) := if hasK ps k then ps.set (low ps k) (k, v) else ps.take (low ps k) ++ (k, v) :: ps.drop (low ps k)
theorem sorted_put {ps : List (Pr κ)} (hs : Sorted ps) (k : κ) (v : List Value) : Sorted (putK ps k v) := by
  have key : ∀ i p, ps[i]? = some p → i < low ps k → Key.lt p.1 k = true := fun i p hp hi => low_lt hi hp
  unfold putK
  split
  · rename_i hk
    obtain ⟨u, hu⟩ := (hasK_iff hs).1 hk
    unfold Sorted at hs ⊢
    rw [List.pairwise_iff_getElem] at hs ⊢
    intro i j hi hj hij
    rw [List.length_set] at hi hj
    have e : ∀ m (hm : m < ps.length), ((ps.set (low ps k) (k, v))[m]'(by rw [List.length_set]; exact hm)).1 = ps[m].1 := by
      intro m hm
      rw [List.getElem_set]
      split
      · rename_i e
        subst e
        rw [List.getElem?_eq_getElem hm] at hu
        cases hu' : ps[low ps k] with
        | mk a b => rw [hu'] at hu; cases hu; rfl
      · rfl
    rw [e i hi, e j hj]
    exact hs i j hi hj hij
  · rename_i hk
    unfold Sorted at hs ⊢
    rw [List.pairwise_append]
    refine ⟨hs.sublist (List.take_sublist _ _), List.pairwise_cons.2 ⟨fun p hp => ?_, hs.sublist (List.drop_sublist _ _)⟩, fun a ha b hb => ?_⟩
    · obtain ⟨j, hj, e⟩ := List.mem_iff_getElem.1 hp
      have hj' : low ps k + j < ps.length := by simp at hj; omega
      have hpp : ps[low ps k + j]? = some p := by rw [List.getElem?_eq_getElem hj', ← e, List.getElem_drop]
      have hg := low_ge hs (Nat.le_add_right _ _) hpp
      cases hc : Key.lt k p.1 with
      | true => rfl
      | false =>
        exfalso
        have e2 := Key.tri _ _ hg hc
        rcases Nat.eq_zero_or_pos j with rfl | hj0
        · refine hk ?_
          unfold hasK
          rw [show low ps k = low ps k + 0 from rfl, hpp]
          simp [hc]
        · have hl : low ps k < ps.length := by omega
          rw [List.pairwise_iff_getElem] at hs
          have h1 := hs (low ps k) (low ps k + j) hl hj' (by omega)
          have h2 := low_ge (k := k) (by rw [Sorted, List.pairwise_iff_getElem]; exact hs) (Nat.le_refl _) (List.getElem?_eq_getElem hl)
          rw [List.getElem?_eq_getElem hj'] at hpp
          have h3 : ps[low ps k + j] = p := by simpa using hpp
          rw [h3, e2] at h1
          rw [h1] at h2; cases h2
    · obtain ⟨i, hi, e⟩ := List.mem_iff_getElem.1 ha
      have hi' : i < low ps k := by simp at hi; omega
      have hil : i < ps.length := by simp at hi; omega
      have hak : Key.lt a.1 k = true := low_lt hi' (by rw [List.getElem?_eq_getElem hil, ← e, List.getElem_take])
      rcases List.mem_cons.1 hb with rfl | hb
      · exact hak
      · obtain ⟨j, hj, e'⟩ := List.mem_iff_getElem.1 hb
        have hj' : low ps k + j < ps.length := by simp at hj; omega
        rw [List.pairwise_iff_getElem] at hs
        have := hs i (low ps k + j) hil hj' (by omega)
        rw [← e, ← e', List.getElem_take, List.getElem_drop]
        exact this
theorem put_len {ps : List (Pr κ)} (k : κ) (v : List Value) : (putK ps k v).length = if hasK ps k then ps.length else ps.length + 1 := by
  have := low_le ps k
  unfold putK
  split
  · rw [List.length_set]
  · rw [List.length_append, List.length_cons, List.length_take, List.length_drop]; omega
theorem pcells_len {sv : Nat} {ps : List (Pr κ)} (h : ∀ p ∈ ps, p.2.length = sv) : (pcells ps).length = ps.length * (1 + sv) := by
  unfold pcells
  induction ps with
  | nil => simp
  | cons p r ih =>
    simp only [List.map_cons, List.flatten_cons, List.length_append, List.length_cons, pcell]
    rw [ih (fun q hq => h q (by simp [hq])), h p (by simp), Nat.add_mul]
    omega
theorem pcells_append (a b : List (Pr κ)) : pcells (a ++ b) = pcells a ++ pcells b := by simp [pcells]
theorem pcells_take {sv : Nat} {ps : List (Pr κ)} (h : ∀ p ∈ ps, p.2.length = sv) (i : Nat) (hi : i ≤ ps.length) : (pcells ps).take (i * (1 + sv)) = pcells (ps.take i) ∧ (pcells ps).drop (i * (1 + sv)) = pcells (ps.drop i) := by
  have e : pcells ps = pcells (ps.take i) ++ pcells (ps.drop i) := by rw [← pcells_append, List.take_append_drop]
  have hl : (pcells (ps.take i)).length = i * (1 + sv) := by
    rw [pcells_len (sv := sv) (fun p hp => h p (List.mem_of_mem_take hp)), List.length_take, Nat.min_eq_left hi]
  rw [e, ← hl, List.take_left, List.drop_left]
  exact ⟨rfl, rfl⟩
/-- Values of so many cells, each a cell. -/
def OkP (sv : Nat) (ps : List (Pr κ)) : Prop := ∀ p ∈ ps, p.2.length = sv ∧ ∀ u ∈ p.2, u.oneCell' = true
omit [Key κ] in
theorem OkP.len {sv : Nat} {ps : List (Pr κ)} (h : OkP sv ps) : ∀ p ∈ ps, p.2.length = sv := fun p hp => (h p hp).1
theorem pcell_one {sv : Nat} {ps : List (Pr κ)} (h : OkP sv ps) : ∀ u ∈ pcells ps, u.oneCell' = true := by
  intro u hu
  obtain ⟨c, hc, hu⟩ := List.mem_flatten.1 hu
  obtain ⟨p, hp, rfl⟩ := List.mem_map.1 hc
  rcases List.mem_cons.1 hu with rfl | hu
  · exact Key.one _
  · exact (h p hp).2 u hu
theorem OkP.put {sv : Nat} {ps : List (Pr κ)} (h : OkP sv ps) {k : κ} {v : List Value} (hv : v.length = sv ∧ ∀ u ∈ v, u.oneCell' = true) : OkP sv (putK ps k v) := by
  unfold putK
  split
  · intro p hp
    rcases List.mem_or_eq_of_mem_set hp with hp | rfl
    · exact h p hp
    · exact hv
  · intro p hp
    rcases List.mem_append.1 hp with hp | hp
    · exact h p (List.mem_of_mem_take hp)
    · rcases List.mem_cons.1 hp with rfl | hp
      · exact hv
      · exact h p (List.mem_of_mem_drop hp)
/-- An order at m (TM: the type of orders, TP: of pairs). S: its blocks. -/
def MapAt (TM TP sv : Nat) (w : World) (m : Nat) (ps : List (Pr κ)) (S : List Nat) : Prop :=
  ∃ a c M, S = m :: M ∧ m ∉ M ∧ Blk w m #[.slice a ps.length c] TM (0, 0) ∧ Own w TP (1 + sv) a ps.length c (pcells ps) M ∧ OkP sv ps ∧ Sorted ps
theorem MapAt.ext {TM TP sv : Nat} {w w' : World} {m : Nat} {ps : List (Pr κ)} {S M' : List Nat} (h : MapAt TM TP sv w m ps S) (he : Ext M' w w') (hm : ∀ y ∈ S, y ∉ M') : MapAt TM TP sv w' m ps S := by
  obtain ⟨a, c, M, rfl, h0, h1, h2, h3, h4⟩ := h
  exact ⟨a, c, M, rfl, h0, h1.ext he (hm m (by simp)), h2.ext he (fun g hg => hm g (by simp [hg])), h3, h4⟩
theorem MapAt.ext0 {TM TP sv : Nat} {w w' : World} {m : Nat} {ps : List (Pr κ)} {S : List Nat} (h : MapAt TM TP sv w m ps S) (he : Ext [] w w') : MapAt TM TP sv w' m ps S := h.ext he (by simp)
theorem MapAt.lt {TM TP sv : Nat} {w : World} {m : Nat} {ps : List (Pr κ)} {S : List Nat} (h : MapAt TM TP sv w m ps S) : ∀ y ∈ S, y < w.heap.size := by
  obtain ⟨a, c, M, rfl, h0, h1, h2, h3, h4⟩ := h
  intro y hy
  rcases List.mem_cons.1 hy with rfl | hy
  · exact h1.lt
  · exact h2.lt y hy
theorem MapAt.still {TM TP sv : Nat} {w w' : World} {m : Nat} {ps : List (Pr κ)} {S : List Nat} (h : MapAt TM TP sv w m ps S) (hs : Still w w') : MapAt TM TP sv w' m ps S := by
  obtain ⟨a, c, M, rfl, h0, h1, h2, h3, h4⟩ := h
  exact ⟨a, c, M, rfl, h0, h1.still hs, h2.still hs, h3, h4⟩
theorem MapAt.ok {TM TP sv : Nat} {w : World} {m : Nat} {ps : List (Pr κ)} {S : List Nat} (h : MapAt TM TP sv w m ps S) : OkP sv ps := by
  obtain ⟨a, c, M, rfl, g0, g1, g2, g3, g4⟩ := h
  exact g3
end
section
variable {P : Program} {n : Fm} {ρ : Env} {w : World} {d : Nat} {ty : TypeId} {pos : String} {af : Array Edge} {gd : Option (Nat × Bool)}
end
theorem shr1 (a : Int) : a.fdiv (2 ^ (Min.min (1 : Int).toNat IntKind.u64.bits)) = a / 2 := Int.fdiv_eq_ediv_of_nonneg a (by decide)
section
variable {κ : Type} [Key κ]
def cmpF (x y : κ) : Int := if Key.lt x y then -1 else if Key.lt y x then 1 else 0
theorem cmpF_lt {x y : κ} (h : Key.lt x y = true) : cmpF x y = -1 := if_pos h
theorem cmpF_gt {x y : κ} (h : Key.lt x y = false) (h2 : Key.lt y x = true) : cmpF x y = 1 := by unfold cmpF; rw [if_neg (by simp [h]), if_pos h2]
theorem cmpF_eq {x y : κ} (h : Key.lt x y = false) (h2 : Key.lt y x = false) : cmpF x y = 0 := by unfold cmpF; rw [if_neg (by simp [h]), if_neg (by simp [h2])]
theorem cmpF_neg {x y : κ} : cmpF x y < 0 ↔ Key.lt x y = true := by
  unfold cmpF
  cases h : Key.lt x y
  · cases h2 : Key.lt y x <;> simp
  · simp
theorem cmpF_zero {x y : κ} (h : Key.lt x y = false) : cmpF x y = 0 ↔ Key.lt y x = false := by
  unfold cmpF
  rw [if_neg (by simp [h])]
  cases h2 : Key.lt y x <;> simp
theorem lt_low {ps : List (Pr κ)} (hs : Sorted ps) {k : κ} {i : Nat} {p : Pr κ} (hp : ps[i]? = some p) : (cmpF p.1 k < 0) ↔ i < low ps k := by
  rw [cmpF_neg]
  constructor
  · intro h
    rcases Nat.lt_or_ge i (low ps k) with h2 | h2
    · exact h2
    · rw [low_ge hs h2 hp] at h; cases h
  · exact fun h => low_lt h hp
theorem hasK_at {ps : List (Pr κ)} (hs : Sorted ps) {k : κ} {p : Pr κ} (hp : ps[low ps k]? = some p) : hasK ps k = decide (cmpF p.1 k = 0) := by
  unfold hasK
  rw [hp]
  have := cmpF_zero (low_ge hs (Nat.le_refl _) hp)
  cases h : Key.lt k p.1 <;> simp [h] at this ⊢ <;> simp [this]
theorem hasK_end {ps : List (Pr κ)} {k : κ} (h : ps.length ≤ low ps k) : hasK ps k = false := by
  unfold hasK
  rw [List.getElem?_eq_none h]
theorem Tab.pairs {w : World} {a : Option Addr} {n sv : Nat} {ps : List (Pr κ)} (h : Cells w a (pcells ps)) (hn : n = ps.length) (hok : OkP sv ps) : Tab w a n (1 + sv) (ps.map pcell) :=
  ⟨h, by rw [List.length_map]; exact hn, fun vs hv => by obtain ⟨p, hp, rfl⟩ := List.mem_map.1 hv; show p.2.length + 1 = _; rw [(hok p hp).1]; omega⟩
theorem Own.some {w : World} {E size : Nat} {a : Option Addr} {n cap : Nat} {xs : List Value} {M : List Nat} (h : Own w E size a n cap xs M) (hn : 0 < n) :
    ∃ g cur, a = Option.some ⟨g, 0, none⟩ ∧ M = [g] ∧ Blk w g cur E (0, 0) ∧ n ≤ cap ∧ cap ≤ maxLen ∧ cap * size ≤ cur.size ∧ cur.toList.take (n * size) = xs := by
  rcases h.2 with ⟨_, h2, _⟩ | h
  · omega
  · exact h
theorem over_grow {cur : Array Value} {X c1 c2 : List Value} {A s K : Nat} (hx : cur.toList.take A = X) (hA : A ≤ cur.size) (h1 : c1.length = s) (h2 : c2.length = K) (hr : A + s + K ≤ cur.size) : (Over (Over cur A c1) (A + s) c2).toList.take (A + s + K) = X ++ c1 ++ c2 ∧ (Over cur A c1).size = cur.size ∧ (Over (Over cur A c1) (A + s) c2).size = cur.size := by
  have s1 : (Over cur A c1).size = cur.size := Over.size (by omega)
  refine ⟨?_, s1, by rw [Over.size (by rw [s1]; omega), s1]⟩
  rw [← h2, Over.take (by rw [s1]; omega), ← h1, Over.take hA, hx]
theorem pcells_set {sv : Nat} {ps : List (Pr κ)} (h : OkP sv ps) {i : Nat} {k : κ} {u v : List Value} (hi : ps[i]? = some (k, u)) (hv : v.length = sv) :
    (pcells ps).take (i * (1 + sv) + 1) ++ v ++ (pcells ps).drop (i * (1 + sv) + 1 + v.length) = pcells (ps.set i (k, v)) := by
  have hlt : i < ps.length := (List.getElem?_eq_some_iff.1 hi).1
  have he : ps[i] = (k, u) := (List.getElem?_eq_some_iff.1 hi).2
  have e : ps = ps.take i ++ (k, u) :: ps.drop (i + 1) := by
    rw [← he, ← List.drop_eq_getElem_cons hlt, List.take_append_drop]
  have hu : u.length = sv := (h (k, u) (List.mem_of_getElem? hi)).1
  have hl : (pcells (ps.take i)).length = i * (1 + sv) := by rw [pcells_len (sv := sv) (fun p hp => (h p (List.mem_of_mem_take hp)).1), List.length_take, Nat.min_eq_left (by omega)]
  have e2 : pcells ps = (pcells (ps.take i) ++ [Key.val k]) ++ (u ++ pcells (ps.drop (i + 1))) := by
    conv => lhs; rw [e]
    rw [pcells_append]
    simp [pcells, pcell]
  have l2 : (pcells (ps.take i) ++ [Key.val k]).length = i * (1 + sv) + 1 := by rw [List.length_append, hl]; rfl
  have e3 : ps.set i (k, v) = ps.take i ++ (k, v) :: ps.drop (i + 1) := by rw [List.set_eq_take_append_cons_drop, if_pos hlt]
  rw [e3, pcells_append, e2, ← l2, List.take_left, List.drop_append, List.drop_of_length_le (by omega), List.nil_append, show (pcells (ps.take i) ++ [Key.val k]).length + v.length - (pcells (ps.take i) ++ [Key.val k]).length = u.length by omega, List.drop_left]
  simp [pcells, pcell]
theorem pcell1 {p : Pr κ} (h : ∀ u ∈ p.2, u.oneCell' = true) : ∀ u ∈ pcell p, u.oneCell' = true := by
  intro u hu
  rcases List.mem_cons.1 hu with rfl | hu
  · exact Key.one _
  · exact h u hu
omit [Key κ] in
theorem okIns {sv : Nat} {ps : List (Pr κ)} {i : Nat} {p : Pr κ} (h : OkP sv ps) (hp : p.2.length = sv ∧ ∀ u ∈ p.2, u.oneCell' = true) : OkP sv (ps.take i ++ p :: ps.drop i) := by
  intro q hq
  rcases List.mem_append.1 hq with hq | hq
  · exact h q (List.mem_of_mem_take hq)
  · rcases List.mem_cons.1 hq with rfl | hq
    · exact hp
    · exact h q (List.mem_of_mem_drop hq)
theorem pcells_ins {ps : List (Pr κ)} {i : Nat} {p : Pr κ} : pcells (ps.take i) ++ pcell p ++ pcells (ps.drop i) = pcells (ps.take i ++ p :: ps.drop i) := by simp [pcells]
end
theorem Over.one {cur : Array Value} {o : Nat} {v : Value} (h : o < cur.size) : cur.setIfInBounds o v = Over cur o [v] := by
  apply Array.toList_inj.1
  rw [Array.toList_setIfInBounds, List.set_eq_take_append_cons_drop, if_pos (by simpa using h)]
  simp [Over]
end Brv
/-
  Orders: what is got, put in place, deleted.
-/
set_option linter.unusedVariables false
namespace Brv
open Go
def gvA (z : Value) : Option (List Value) → Value
  | some u => .agg u.toArray
  | none => z
section
variable {κ : Type} [Key κ]
theorem getK_no {ps : List (Pr κ)} {k : κ} (h : hasK ps k = false) : getK ps k = none := by unfold getK; rw [h]; rfl
theorem getK_yes {ps : List (Pr κ)} {k : κ} {p : Pr κ} (h : hasK ps k = true) (hp : ps[low ps k]? = some p) : getK ps k = some p.2 := by unfold getK; rw [h, hp]; rfl
theorem hasK_lt {ps : List (Pr κ)} {k : κ} (h : hasK ps k = true) : low ps k < ps.length := by
  unfold hasK at h
  cases hq : ps[low ps k]? with
  | none => rw [hq] at h; cases h
  | some p => exact (List.getElem?_eq_some_iff.1 hq).1
theorem putK_yes {ps : List (Pr κ)} {k : κ} {v : List Value} (h : hasK ps k = true) : putK ps k v = ps.set (low ps k) (k, v) := if_pos h
theorem putK_no {ps : List (Pr κ)} {k : κ} {v : List Value} (h : hasK ps k = false) : putK ps k v = ps.take (low ps k) ++ (k, v) :: ps.drop (low ps k) := if_neg (by simp [h])
theorem pcells_at {sv : Nat} {ps : List (Pr κ)} (h : OkP sv ps) {i j : Nat} {p : Pr κ} {x : Value} (hi : ps[i]? = some p) (hj : (pcell p)[j]? = some x) : (pcells ps)[i * (1 + sv) + j]? = some x := by
  have hlt : i < ps.length := (List.getElem?_eq_some_iff.1 hi).1
  have he : ps[i] = p := (List.getElem?_eq_some_iff.1 hi).2
  have e : ps = ps.take i ++ p :: ps.drop (i + 1) := by
    rw [← he, ← List.drop_eq_getElem_cons hlt, List.take_append_drop]
  have hl : (pcells (ps.take i)).length = i * (1 + sv) := by rw [pcells_len (sv := sv) (fun p hp => (h p (List.mem_of_mem_take hp)).1), List.length_take, Nat.min_eq_left (by omega)]
  have e2 : pcells ps = pcells (ps.take i) ++ (pcell p ++ pcells (ps.drop (i + 1))) := by
    conv => lhs; rw [e]
    rw [pcells_append]
    simp [pcells]
  have hjl : j < (pcell p).length := (List.getElem?_eq_some_iff.1 hj).1
  rw [e2, ← hl, List.getElem?_append_right (Nat.le_add_right _ _), Nat.add_sub_cancel_left, List.getElem?_append_left hjl, hj]
theorem row_at {sv n : Nat} {cur : Array Value} {ps : List (Pr κ)} (ht : cur.toList.take (n * (1 + sv)) = pcells ps) (h : OkP sv ps) {i j : Nat} {p : Pr κ} {x : Value} (hi : ps[i]? = some p) (hj : (pcell p)[j]? = some x) : cur[i * (1 + sv) + j]? = some x := by
  have h1 := pcells_at h hi hj
  rw [← ht, List.getElem?_take] at h1
  split at h1
  · rw [← Array.getElem?_toList]; exact h1
  · cases h1
theorem MapAt.mk {TM TP sv : Nat} {w : World} {m n c : Nat} {a : Option Addr} {ps : List (Pr κ)} {M : List Nat} (hm : m ∉ M) (hb : Blk w m #[.slice a n c] TM (0, 0)) (hn : n = ps.length) (ho : Own w TP (1 + sv) a n c (pcells ps) M) (hok : OkP sv ps) (hs : Sorted ps) : MapAt TM TP sv w m ps (m :: M) := by
  subst hn; exact ⟨a, c, M, rfl, hm, hb, ho, hok, hs⟩
/-- A row in which a value was put. -/
theorem own_set {w' : World} {TP sv n c g : Nat} {cur : Array Value} {ps : List (Pr κ)} {k : κ} {v : List Value} (hn : n = ps.length) (hok : OkP sv ps) (hs : Sorted ps) (hk : hasK ps k = true) (hv : v.length = sv)
    (hnc : n ≤ c) (hcm : c ≤ maxLen) (hcs : c * (1 + sv) ≤ cur.size) (ht : cur.toList.take (n * (1 + sv)) = pcells ps)
    (hb : Blk w' g (cur.toList.take (low ps k * (1 + sv) + 1) ++ v ++ cur.toList.drop (low ps k * (1 + sv) + 1 + v.length)).toArray TP (0, 0)) : Own w' TP (1 + sv) (some ⟨g, 0, none⟩) n c (pcells (putK ps k v)) [g] := by
  have hlt := hasK_lt hk
  obtain ⟨u, hu⟩ := (hasK_iff hs).1 hk
  have hle : (low ps k + 1) * (1 + sv) ≤ n * (1 + sv) := Nat.mul_le_mul_right _ (by omega)
  rw [Nat.add_mul, Nat.one_mul] at hle
  have hnc' : n * (1 + sv) ≤ c * (1 + sv) := Nat.mul_le_mul_right _ hnc
  have hcl : cur.toList.length = cur.size := Array.length_toList
  have hset := pcells_set hok hu hv
  refine ⟨by rw [putK_yes hk, pcells_len (sv := sv) (fun q hq => by rw [← putK_yes hk] at hq; rcases (show q ∈ ps ∨ q = (k, v) by rw [putK_yes hk] at hq; exact List.mem_or_eq_of_mem_set hq) with h | rfl; exact (hok q h).1; exact hv), List.length_set, hn], .inr ⟨g, _, rfl, rfl, hb, hnc, hcm, ?_, ?_⟩⟩
  · simp only [List.size_toArray, List.length_append, List.length_take, List.length_drop, hcl]; omega
  · show List.take _ (_ ++ v ++ _) = _
    rw [putK_yes hk, ← hset, ← ht]
    have t1 : (cur.toList.take (low ps k * (1 + sv) + 1)).length = low ps k * (1 + sv) + 1 := by rw [List.length_take, hcl]; omega
    rw [List.take_take, Nat.min_eq_left (by omega), List.take_append, List.take_of_length_le (by rw [List.length_append, t1]; omega)]
    congr 1
    rw [List.length_append, t1, List.drop_take]
end
section
variable {κ : Type} [Key κ]
/-- What an iterator over pairs yields: a number (or so) and a pair. -/
def prE (q : Nat → Option (Pr κ)) (k : Nat) (vs : List Value) (_ : World) : Prop := ∃ p v, q k = some p ∧ vs = [v, .agg (pcell p).toArray]
/-- What an iterator over an order yields: a key and a value. -/
def kvE (gv : List Value → Value) (q : Nat → Option (Pr κ)) (k : Nat) (vs : List Value) (_ : World) : Prop := ∃ p, q k = some p ∧ vs = [Key.val p.1, gv p.2]
end
theorem over_all {cs vs : Array Value} (h : cs.size = vs.size) : (cs.toList.take 0 ++ vs.toList ++ cs.toList.drop (0 + vs.size)).toArray = vs := by
  apply Array.toList_inj.1
  simp [h]
/-- Behind a walk over pairs: what the consumer keeps, and the function that is called. -/
def wkI (J : Nat → List Nat → World → Prop) (b2 TY : Nat) (y : Value) (k : Nat) (DD : List Nat) (W : World) : Prop := ∃ D, DD = b2 :: D ∧ b2 ∉ D ∧ J k D W ∧ Blk W b2 y.cells TY (0, 0)
def wkX (Jx : Nat → List Nat → World → Prop) (b2 : Nat) (c : Code) (k : Nat) (DD : List Nat) (W : World) : Prop := c = .ret ∧ ∃ D, DD = b2 :: D ∧ b2 ∉ D ∧ Jx k D W
section
variable {κ : Type} [Key κ]
end
end Brv
/-
  Orders: what is known of keys that are there; strings compared; slices of strings among the arguments.
-/
set_option linter.unusedVariables false
namespace Brv
open Go
section
variable {κ : Type} [Key κ]
end
section
variable {P : Program} {n : Fm} {ρ : Env} {w : World} {d : Nat} {ty : TypeId} {pos : String} {af : Array Edge} {gd : Option (Nat × Bool)}
end
end Brv
/-
  Orders, by definition: what the document's Put, Get, Delete and Floor come to, step by step.
-/
set_option linter.unusedVariables false
namespace Brv
open Go
section
variable {κ : Type} [Key κ]
end
end Brv
/-
  Contracts over assertions, from contracts over worlds.
-/
set_option linter.unusedVariables false
set_option linter.unusedSimpArgs false
namespace Brv
open Go
theorem St.blkC {H H' : List Asn} {b : Nat} {cs : List Value} {T : TypeId} {F S : List Nat} {w : World} (s : St H F S w) (h : Sel H (Brv.blk b cs T) H') : Cells w (some ⟨b, 0, none⟩) cs :=
  Cells.of_blk (s.blk h) 0 _ (fun j v hj => by simpa using hj)
theorem R.strB {P : Program} {n : Fm} {ρ : Env} {w : World} {d : Nat} {ty : TypeId} {pos : String} {af : Array Edge} {gd : Option (Nat × Bool)} {T S E : TypeId} [t : TyBytes P T E] [s : TyStr P S] {x : Operand} {a : Option Addr} {m c : Nat} {l : List UInt8} (hx : ev ρ x = some (.slice a m c)) (hb : Bs w a m l) :
    Runs P n ρ w ⟨some d, .convert T S x, ty, pos, af, gd⟩ (.string (str l)) w := R.bytesStr hx hb.cells hb.len
/-- A list of one assertion. -/
theorem st_one {A : Asn} {F S : List Nat} {w : World} (h : A.P F S w) (hF : ∀ b ∈ F, b < w.heap.size) (hS : ∀ b ∈ S, b < w.heap.size) : St [A] F S w :=
  ⟨⟨F, S, [], [], ⟨subR _, by simp, subR _, by simp⟩, ⟨Apart.nilR _, Apart.nilR _, Apart.nilR _⟩, h, trivial⟩, hF, hS⟩
section
variable {P : Program} {f : FuncId} {vs : List Value}
/-- A call that makes new blocks and turns nothing. -/
theorem post_new {H : List Asn} {w w' : World} {F S F' S' : List Nat} {A : Asn} {Φ : Value → List Asn → Prop} {v : Value} (st : St H F S w) (he : Ext [] w w') (hA : A.P F' S' w') (hF : ∀ b ∈ F', w.heap.size ≤ b ∧ b < w'.heap.size) (hS : ∀ b ∈ S', w.heap.size ≤ b ∧ b < w'.heap.size) (hΦ : Φ v (A :: H)) : PostS ⟨w, F, S⟩ Φ v w' := by
  obtain ⟨F2, S2, s2, f2⟩ := st.grow (From.refl w F S) he hF (fun b hb => ⟨(hS b hb).2, .inl (hS b hb).1⟩) hA (fun b hb hb' => by have := (hS b hb).1; have := st.ltF b hb'; omega)
  exact ⟨_, F2, S2, hΦ, s2, f2⟩
section
variable {n : Fm} {o : Org} {ρ : Env} {H H0 H1 : List Asn} {d : Option Nat} {ty : TypeId} {pos : String} {af : Array Edge} {gd : Option (Nat × Bool)} {args : Array Operand} {ats : Array TypeId}
theorem CS.callN {φ : Value → Asn → Prop} (hargs : evs ρ args.toList = some vs) (hc : ∀ (vs : Array Value) w, (callFunc f vs).run P w = .ok (.enter f vs) w)
    (hf : ∀ w F S, St H F S w → Meets P f vs w (fun v w' => ∃ A F' S', φ v A ∧ Ext [] w w' ∧ A.P F' S' w' ∧ (∀ b ∈ F', w.heap.size ≤ b ∧ b < w'.heap.size) ∧ (∀ b ∈ S', w.heap.size ≤ b ∧ b < w'.heap.size))) : CS P n o ρ H ⟨d, .call ⟨.value (.func f), args, ats⟩, ty, pos, af, gd⟩ (fun v H' => ∃ A, φ v A ∧ H' = A :: H) :=
  fun w F S s fr => Acts.callV (x := .func f) (first := #[]) (cap := #[]) rfl hargs (by simp) hc ((hf w F S s).mono fun v w' ⟨A, F', S', h1, h2, h3, h4, h5⟩ => by
    obtain ⟨H', F2, S2, q1, q2, q3⟩ := post_new (Φ := fun v H' => ∃ A, φ v A ∧ H' = A :: H) (v := v) s h2 h3 h4 h5 ⟨A, h1, rfl⟩
    exact ⟨H', F2, S2, q1, q2, fr.trans q3⟩)
/-- .. that clones. -/
theorem CS.callC {E size k : Nat} {xs : List Value} (hargs : evs ρ args.toList = some vs) (hc : ∀ (vs : Array Value) w, (callFunc f vs).run P w = .ok (.enter f vs) w)
    (hf : ∀ w F S, St H F S w → Meets P f vs w (Cloned w E size k xs)) : CS P n o ρ H ⟨d, .call ⟨.value (.func f), args, ats⟩, ty, pos, af, gd⟩ (fun v H' => ∃ a c, v = .slice a k c ∧ H' = own E size a k c xs :: H) :=
  (CS.callN (φ := fun v A => ∃ a c, v = .slice a k c ∧ A = own E size a k c xs) hargs hc fun w F S s => (hf w F S s).mono fun v w' ⟨a, c, M, hv, he, ho, hM⟩ => ⟨_, M, [], ⟨a, c, hv, rfl⟩, he, ho, fun b hb => ⟨hM b hb, ho.lt b hb⟩, by simp⟩).mono
    (by rintro v H' ⟨_, ⟨a, c, rfl, rfl⟩, rfl⟩; exact ⟨a, c, rfl, rfl⟩)
theorem CS.buildA {T E size bytes : Nat} {z : Value} [t : TySlice P T E size bytes z] {d len : Nat} {parts : Array (Nat × Operand)} {vs : List (Nat × Value)} (hp : evps ρ parts.toList = some vs) (hl : Nat.ble (len * size) 16777216 = true) (hlen : Nat.beq vs.length len = true) (ho : inOrder 0 vs = true) (hs : vs.all (fun p => Nat.beq p.2.cells.size size) = true)
    (cs : List Value) (hcs : cellsOf vs = cs) : CS P n o ρ H ⟨some d, .buildSlice T len parts, ty, pos, af, gd⟩ (fun v H' => ∃ b, v = .slice (some ⟨b, 0, none⟩) len len ∧ H' = blk b cs E :: H) :=
  CS.mk (fun w => R.buildA hp hl hlen ho hs) (by simpa using hcs)
/-- A block is made of a struct. -/
theorem CS.boxA {T : TypeId} {x : Operand} {cs : List Value} {d : Nat} (hx : ev ρ x = some (.agg cs.toArray)) : CS P n o ρ H ⟨some d, .box T x, ty, pos, af, gd⟩ (fun v H' => ∃ b, v = .pointer (some ⟨b, 0, none⟩) ∧ H' = blk b cs T :: H) :=
  CS.box hx cs (by simp [Value.cells])
end
end
/-- A block that stays as it is. -/
def fz (b : Nat) (cs : List Value) (T : TypeId) : Asn := sh (fun w => Blk w b cs.toArray T (0, 0))
instance (b : Nat) (cs : List Value) (T : TypeId) : Pers (fz b cs T) := ⟨fun _ _ _ h => h⟩
theorem St.fz {H H' : List Asn} {b : Nat} {cs : List Value} {T : TypeId} {F S : List Nat} {w : World} (s : St H F S w) (h : Sel H (Brv.fz b cs T) H') : Blk w b cs.toArray T (0, 0) := s.sh h
theorem Imp.fz {H H' : List Asn} {b : Nat} {cs : List Value} {T : TypeId} (h : Sel H (blk b cs T) H') : Imp H (Brv.fz b cs T :: H') := Imp.blkSh h fun _ h => h
/-- A block among the assertions, owned or frozen. -/
inductive SelB : List Asn → Nat → List Value → TypeId → Prop
  | blk {b : Nat} {cs : List Value} {T : TypeId} {H : List Asn} : SelB (Brv.blk b cs T :: H) b cs T
  | fz {b : Nat} {cs : List Value} {T : TypeId} {H : List Asn} : SelB (Brv.fz b cs T :: H) b cs T
  | there {A : Asn} {b : Nat} {cs : List Value} {T : TypeId} {H : List Asn} : SelB H b cs T → SelB (A :: H) b cs T
theorem SelB.get {H : List Asn} {b : Nat} {cs : List Value} {T : TypeId} (h : SelB H b cs T) : ∀ {F S : List Nat} {w : World}, Sep H F S w → Blk w b cs.toArray T (0, 0) := by
  induction h with
  | blk => exact fun {F S w} ⟨_, _, _, _, _, _, hA, _⟩ => hA.2
  | fz => exact fun {F S w} ⟨_, _, _, _, _, _, hA, _⟩ => hA [] w (Ext.refl _ _) (Apart.nilR _)
  | there _ ih => exact fun {F S w} ⟨_, _, _, _, _, _, _, hH⟩ => ih hH
theorem St.cel {H : List Asn} {b : Nat} {cs : List Value} {T : TypeId} {F S : List Nat} {w : World} (s : St H F S w) (h : SelB H b cs T) : Blk w b cs.toArray T (0, 0) := h.get s.sep
/-- An order of keys and values (its blocks are its own). -/
def mp {κ : Type} [Key κ] (TM TP sv : Nat) (m : Nat) (ps : List (Pr κ)) : Asn where
  P := fun F _ w => MapAt TM TP sv w m ps F
  ext := fun F S M w w' h he hF _ => h.ext he hF
theorem St.mp {κ : Type} [Key κ] {TM TP sv m : Nat} {ps : List (Pr κ)} {H H' : List Asn} {F S : List Nat} {w : World} (s : St H F S w) (h : Sel H (Brv.mp TM TP sv m ps) H') : ∃ S', MapAt TM TP sv w m ps S' := (s.sel h).elim fun F1 h => h.elim fun _ h => ⟨F1, h.2⟩
/-- A call that turns an order. -/
theorem SpecS.ofMap {κ : Type} [Key κ] {P : Program} {f : FuncId} {vs : List Value} {TM TP sv m : Nat} {ps ps' : List (Pr κ)} {φ : Value → Prop} (h : ∀ w S, MapAt TM TP sv w m ps S → Meets P f vs w (fun v w' => φ v ∧ ∃ S', Grown S S' w w' ∧ MapAt TM TP sv w' m ps' S')) :
    SpecS P f vs [mp TM TP sv m ps] (fun v H' => φ v ∧ H' = [mp TM TP sv m ps']) := fun w F S st => by
  obtain ⟨F1, S1, _, _, ⟨a, _, c, _⟩, _, hm, _⟩ := st.sep
  refine (h w F1 hm).mono ?_
  rintro v w' ⟨h1, S', hg, hm'⟩
  exact ⟨_, S', [], ⟨h1, rfl⟩, st_one hm' hm'.lt (by simp), ⟨hg.1.mono (fun x hx => .inl (a hx)), fun x hx => (hg.2 x hx).imp (fun h => a h) id, by simp⟩⟩
theorem SpecS.ofNew {κ : Type} [Key κ] {P : Program} {f : FuncId} {TM TP sv : Nat} (h : ∀ w, Meets P f [] w (fun v w' => ∃ b, v = .pointer (some ⟨b, 0, none⟩) ∧ w.heap.size ≤ b ∧ Ext [] w w' ∧ MapAt (κ := κ) TM TP sv w' b [] [b])) :
    SpecS P f [] [] (fun v H' => ∃ b, v = .pointer (some ⟨b, 0, none⟩) ∧ H' = [mp (κ := κ) TM TP sv b []]) := fun w F S st => (h w).mono fun v w' ⟨b, h1, h2, h3, h4⟩ =>
  ⟨_, [b], [], ⟨b, h1, rfl⟩, st_one h4 h4.lt (by simp), ⟨h3.mono (by simp), fun x hx => .inr (by rw [List.mem_singleton.1 hx]; exact h2), by simp⟩⟩
end Brv
/-
  Laws over assertions: all that is there at the beginning is shared.
-/
set_option linter.unusedVariables false
set_option linter.unusedSimpArgs false
namespace Brv
open Go
class PersL (H : List Asn) : Prop where
  h : ∀ F S w, Sep H F S w → Sep H [] S w
instance : PersL [] := ⟨fun _ _ _ _ => trivial⟩
instance (A : Asn) (H : List Asn) [a : Pers A] [t : PersL H] : PersL (A :: H) := ⟨fun F S w ⟨F1, S1, F2, S2, ⟨p, q, r, s⟩, _, hA, hH⟩ =>
  ⟨[], S1, [], S2, ⟨by simp, by simp, r, s⟩, ⟨Apart.nilL _, Apart.nilL _, Apart.nilR _⟩, a.h _ _ _ hA, t.h _ _ _ hH⟩⟩
def lawO (w : World) : Org := ⟨w, [], List.range w.heap.size⟩
/-- What is true of the old blocks, at a law's beginning. -/
theorem law_nil (w : World) : St [] [] (List.range w.heap.size) w := ⟨trivial, by simp, fun b h => List.mem_range.1 h⟩
theorem law_cons {H : List Asn} {w : World} {p : World → Prop} (hp : ∀ w', Ext [] w w' → p w') (h : St H [] (List.range w.heap.size) w) : St (sh p :: H) [] (List.range w.heap.size) w :=
  ⟨⟨[], List.range w.heap.size, [], List.range w.heap.size, ⟨by simp, by simp, subR _, subR _⟩, ⟨Apart.nilL _, Apart.nilL _, Apart.nilR _⟩, sh_old hp [], h.sep⟩, by simp, fun b h => List.mem_range.1 h⟩
theorem Meets.law {P : Program} {f : FuncId} {fn : Func} {c : Code} {args : List Value} {w : World} {H : List Asn} {x : Value} (hf : P.funcs[f]? = some fn) (hb : fn.body = some c) (n : Nat) (hn : fn.ntmps = n) (hl : args.length ≤ n) (hs : St H [] (List.range w.heap.size) w)
    (h : SG P (Func.base P fn (PostS (lawO w) (fun v _ => v = x))) ⟨n, [], none⟩ (lawO w) [] (argEnv 0 args) H c) : Meets P f args w (fun v w' => v = x ∧ Ext [] w w') :=
  (Meets.enter hf hb n hn hl (h w [] _ hs (From.refl w [] _))).mono fun v w' ⟨_, _, _, hv, _, fr⟩ => ⟨hv, fr.ext⟩
section
variable {P : Program} {n : Fm} {w₀ : World} {ρ : Env} {H H0 H1 : List Asn} {d : Option Nat} {ty : TypeId} {pos : String} {af : Array Edge} {gd : Option (Nat × Bool)} {args : Array Operand} {ats : Array TypeId} {f : FuncId} {vs : List Value}
end
section
variable {P : Program} {n : Fm} {o : Org} {ρ : Env} {H H1 : List Asn} {ty : TypeId} {pos : String} {af : Array Edge} {gd : Option (Nat × Bool)}
end
end Brv
/-
  A return of a struct that lives in a block, and of two plain results.
-/
set_option linter.unusedVariables false
namespace Brv
open Go
section
variable {P : Program} {n : Nat} {ks : List K} {ρ : Env} {w : World} {fn : Func} {Φ : Value → World → Prop}
theorem G.retCTT {t u y : Nat} {T : TypeId} {s b : Nat} [ta : TyAgg P T s] {cs : Array Value} {U : TypeId} {fz : Nat × Nat} {x z : Value} (hr : fn.results = #[.cell t T, .tmp u, .tmp y]) (hv : look ρ t = some (.pointer (some ⟨b, 0, none⟩))) (hx : look ρ u = some x) (hy : look ρ y = some z)
    (hb : Blk w b cs U fz) (hs : cs.size = s) (h : Φ (.tuple #[.agg cs, x, z]) w) : G P (Func.base P fn Φ) ⟨n, [], none⟩ ks ρ w .ret := by
  refine G.retM (n := ⟨n, [], none⟩) rfl (fun a ha => ?_) h
  have e1 := ha.getD hv
  have e2 := ha.getD hx
  have e3 := ha.getD hy
  have hl0 := run_loadN (P := P) (T := T) (s := s) (w := w) (p := ⟨b, 0, none⟩) (vs := cs.toList) hb.cellsAll (by simpa using hs)
  have hl : (loadVar T ⟨b, 0, none⟩).run P w = .ok (.agg cs) w := by simpa [Instr.loadAt, Instr.sureAddr] using hl0
  rw [Array.getD_eq_getD_getElem?] at e1 e2 e3
  simp [results, hr, e1, e2, e3, asAddr, hl]
end
end Brv
/-
  Assertions with something hidden.
-/
set_option linter.unusedVariables false
set_option linter.unusedSimpArgs false
namespace Brv
open Go
/-- A list of assertions, whose parts aren't told. -/
def pk {ι : Type} (A : ι → List Asn) : Asn where
  P := fun F S w => ∃ i, Sep (A i) F S w
  ext := fun _ _ _ _ _ ⟨i, h⟩ he hF hS => ⟨i, h.ext he hF hS⟩
section
variable {P : Program} {f : FuncId} {vs : List Value} {ι κ : Type}
/-- A contract over worlds that makes one assertion out of fresh blocks. -/
theorem SpecS.ofFresh {H : List Asn} {φ : Value → Asn → Prop} (hf : ∀ w F S, St H F S w → Meets P f vs w (fun v w' => ∃ A F' S', φ v A ∧ Ext [] w w' ∧ A.P F' S' w' ∧ (∀ b ∈ F', w.heap.size ≤ b ∧ b < w'.heap.size) ∧ (∀ b ∈ S', w.heap.size ≤ b ∧ b < w'.heap.size))) :
    SpecS P f vs H (fun v H' => ∃ A, φ v A ∧ H' = A :: H) := fun w F S s => (hf w F S s).mono fun v w' ⟨A, F', S', h1, h2, h3, h4, h5⟩ => post_new (Φ := fun v H' => ∃ A, φ v A ∧ H' = A :: H) s h2 h3 h4 h5 ⟨A, h1, rfl⟩
end
end Brv
namespace Brv
open Go
section
variable {P : Program} {f : FuncId} {vs : List Value} {ι : Type}
theorem Sels.app : ∀ (H0 H1 : List Asn), Sels (H0 ++ H1) H0 H1
  | [], _ => .nil
  | _ :: H0, H1 => .cons .here (Sels.app H0 H1)
theorem SpecS.opened {A : ι → List Asn} {K : List Asn} {Φ : Value → List Asn → Prop} (h : ∀ i, SpecS P f vs (A i ++ K) Φ) : SpecS P f vs (pk A :: K) Φ := fun w F S st => by
  obtain ⟨F1, S1, F2, S2, hs, hd, ⟨i, hA⟩, hK⟩ := st.sep
  exact h i w F S ⟨Sep.join ⟨F1, S1, F2, S2, hs, hd, hA, hK⟩, st.ltF, st.ltS⟩
theorem Imp.close {A : ι → List Asn} (i : ι) (K : List Asn) : Imp (A i ++ K) (pk A :: K) := fun F S w s =>
  let ⟨F1, S1, F2, S2, hs, hd, h0, h1⟩ := (Sels.app (A i) K).split s.sep
  ⟨F, S, ⟨⟨F1, S1, F2, S2, hs, hd, ⟨i, h0⟩, h1⟩, s.ltF, s.ltS⟩, From.refl _ _ _⟩
theorem SpecS.closed {H : List Asn} {Φ Φ' : Value → List Asn → Prop} (h : SpecS P f vs H Φ) (hm : ∀ v H', Φ v H' → ∃ H'', Imp H' H'' ∧ Φ' v H'') : SpecS P f vs H Φ' := fun w F S st => (h w F S st).mono fun v w' ⟨H', F', S', h1, st', fr⟩ => by
  obtain ⟨H'', hi, h2⟩ := hm v H' h1
  obtain ⟨F2, S2, s2, f2⟩ := hi.at st' fr
  exact ⟨H'', F2, S2, h2, s2, f2⟩
end
section
variable {P : Program} {n : Nat} {o : Org} {ks : List K} {ρ : Env} {H H' : List Asn} {fn : Func} {Φ : Value → List Asn → Prop}
theorem SG.retCTT {t u y : Nat} {T : TypeId} {s b : Nat} [ta : TyAgg P T s] {cs : List Value} {U : TypeId} {H1 : List Asn} {x z : Value} (hr : fn.results = #[.cell t T, .tmp u, .tmp y]) (hv : look ρ t = some (.pointer (some ⟨b, 0, none⟩))) (hx : look ρ u = some x) (hy : look ρ y = some z) (hb : Sel H (blk b cs U) H1) (hl : cs.length = s) (i : Imp H H') (h : Φ (.tuple #[.agg cs.toArray, x, z]) H') :
    SG P (Func.base P fn (PostS o Φ)) ⟨n, [], none⟩ o ks ρ H .ret := fun w F S st f => G.retCTT hr hv hx hy (st.blk hb) (by simpa using hl) (post_of i h st f)
end
end Brv
/-
  Regions that draw their order, where those that turn the world stand in no chain: a walk for every order of these.
-/
set_option linter.unusedVariables false
set_option linter.unusedSimpArgs false
namespace Brv
open Go
/-- Which operation comes next: one that only reads, or any of those that turn the world. -/
inductive Tr where
  | nil
  | flo (i : Nat) (t : Tr)
  | alt (i : Nat) (t r : Tr)
  | stop
def Tr.choices : Tr → List Nat
  | .alt i _ r => i :: r.choices
  | _ => []
section
variable (P : Program) (n : Fm) (ops : List Oper) (Q : Exit → Act → World → Prop) (o : Org)
def TW : Tr → Pend → Env → List Asn → Prop
  | .nil, _, ρ, H => ∀ w F S, St H F S w → From o w F S → ∀ a, Fr n ρ a → Q .normal a w
  | .flo i t, pend, ρ, H => (∃ w F S, St H F S w ∧ From o w F S) → ∃ op, ops[i]? = some op ∧ isSelect op.op = false ∧ (∀ d, op.dst = some d → d < n.n) ∧ ∃ v, op.dst ≠ none ∧ ((∀ w, Fl P n ops ρ w op v) ∧ TW t pend (extE op.dst v ρ) H ∨
        ∃ g : List Asn → Prop, g H ∧ (∀ H w F S, g H → St H F S w → From o w F S → Fl P n ops ρ w op v) ∧ TW t ((i, g) :: pend) (extE op.dst v ρ) H)
  | .alt i t r, pend, ρ, H => ((∃ w F S, St H F S w ∧ From o w F S) → ∃ op, ops[i]? = some op ∧ isSelect op.op = false ∧ (∀ d, op.dst = some d → d < n.n) ∧ ∃ Ψ : Value → List Asn → Prop, ((wants ops ρ op.guard = some true ∧ CS P n o ρ H op Ψ) ∨ (wants ops ρ op.guard = some false ∧ Ψ = fun v H' => v = undef ∧ H' = H)) ∧
        ∀ v H', Ψ v H' → Obl ops i pend H' ∧ TW t pend (extE op.dst v ρ) H') ∧ TW r pend ρ H
  | .stop, _, _, _ => True
end
/-- Are all the others held back? -/
def chkC (ops : List Oper) (done : List Nat) : Tr → Bool
  | .nil => true
  | .flo _ _ => true
  | .stop => false
  | t => (List.range ops.length).all fun x => done.any (Nat.beq x) || t.choices.any (Nat.beq x) || t.choices.any (fun c => reachIn (masks ops ops.length) x c)
def chkT (ops : List Oper) : List Nat → Tr → Bool
  | done, .nil => (List.range ops.length).all fun i => done.any (Nat.beq i)
  | done, .flo i t => Nat.blt i ops.length && !done.any (Nat.beq i) && (afters ops i).all (fun k => done.any (Nat.beq k)) && chkC ops (i :: done) t && chkT ops (i :: done) t
  | done, .alt i t r => Nat.blt i ops.length && !done.any (Nat.beq i) && (afters ops i).all (fun k => done.any (Nat.beq k)) && chkC ops (i :: done) t && chkT ops (i :: done) t && chkT ops done r
  | _, .stop => true
section
variable {P : Program} {n : Fm} {ops : List Oper} {Q : Exit → Act → World → Prop} {o : Org}
theorem chkT_choice : ∀ {t : Tr} {done : List Nat}, chkT ops done t = true → ∀ c ∈ t.choices, c < ops.length ∧ c ∉ done ∧ ∀ k ∈ afters ops c, k ∈ done
  | .nil, _, _, c, hc => by cases hc
  | .flo _ _, _, _, c, hc => by cases hc
  | .stop, _, _, c, hc => by cases hc
  | .alt i t r, done, h, c, hc => by
    simp only [chkT, Bool.and_eq_true, Bool.not_eq_true', Nat.blt_eq] at h
    obtain ⟨⟨⟨⟨⟨h1, h2⟩, h3⟩, h4⟩, h5⟩, h6⟩ := h
    rcases List.mem_cons.1 hc with rfl | hc
    · exact ⟨h1, (fun hm => by have := any_beq.2 hm; rw [h2] at this; cases this), fun k hk => any_beq.1 (List.all_eq_true.1 h3 k hk)⟩
    · exact chkT_choice h6 c hc
theorem TW.pick : ∀ {t : Tr} {pend : Pend} {ρ : Env} {H : List Asn} {done : List Nat} {i : Nat}, TW P n ops Q o t pend ρ H → chkT ops done t = true → i ∈ t.choices → ∃ u, ((∀ k ∈ afters ops i, k ∈ done) ∧ chkC ops (i :: done) u = true ∧ chkT ops (i :: done) u = true) ∧
      ((∃ w F S, St H F S w ∧ From o w F S) → ∃ op, ops[i]? = some op ∧ isSelect op.op = false ∧ (∀ d, op.dst = some d → d < n.n) ∧ ∃ Ψ : Value → List Asn → Prop, ((wants ops ρ op.guard = some true ∧ CS P n o ρ H op Ψ) ∨ (wants ops ρ op.guard = some false ∧ Ψ = fun v H' => v = undef ∧ H' = H)) ∧
        ∀ v H', Ψ v H' → Obl ops i pend H' ∧ TW P n ops Q o u pend (extE op.dst v ρ) H')
  | .nil, _, _, _, _, _, _, _, hi => by cases hi
  | .flo _ _, _, _, _, _, _, _, _, hi => by cases hi
  | .stop, _, _, _, _, _, _, _, hi => by cases hi
  | .alt j t r, pend, ρ, H, done, i, hsw, h, hi => by
    have h0 := h
    simp only [chkT, Bool.and_eq_true, Bool.not_eq_true', Nat.blt_eq] at h
    obtain ⟨⟨⟨⟨⟨h1, h2⟩, h3⟩, h4⟩, h5⟩, h6⟩ := h
    simp only [TW] at hsw
    by_cases hij : i = j
    · subst hij
      exact ⟨t, ⟨fun k hk => any_beq.1 (List.all_eq_true.1 h3 k hk), h4, h5⟩, hsw.1⟩
    · exact TW.pick hsw.2 h6 ((List.mem_cons.1 hi).resolve_left hij)
/-- What is so while the region runs. -/
structure TInv (P : Program) (n : Fm) (ops : List Oper) (Q : Exit → Act → World → Prop) (o : Org) (ρ₀ : Env) (listed : Array Bool) (a : Act) (w : World) (done : List Nat) (t₀ : Tr) (pend : Pend) (H : List Asn) (F S : List Nat) (val : Nat → Value) : Prop where
  lsz : listed.size = ops.length
  tsz : a.tmps.size = n.n
  tdf : a.defers = n.df
  closed : Closed ops (fun i => listed[i]? = some true)
  ok : DoneOk ops done
  ordC : chkC ops done t₀ = true
  ordT : chkT ops done t₀ = true
  sw : TW P n ops Q o t₀ pend (envOf ops val ρ₀ done) H
  st : St H F S w
  fr : From o w F S
  ldone : ∀ i, listed[i]? = some true → i ∈ done
  pok : ∀ (i : Nat) (op : Oper), i ∈ done → listed[i]? ≠ some true → ops[i]? = some op → isSelect op.op = false ∧ (∀ d, op.dst = some d → d < n.n) ∧ op.dst ≠ none ∧ ((∀ w, Fl P n ops (envB ops val ρ₀ i done) w op (val i)) ∨ ∃ g : List Asn → Prop, (i, g) ∈ pend ∧ g H ∧ ∀ H w F S, g H → St H F S w → From o w F S → Fl P n ops (envB ops val ρ₀ i done) w op (val i))
  d1 : ∀ (i : Nat) (op : Oper) (d : Nat), listed[i]? = some true → ops[i]? = some op → op.dst = some d → a.tmps[d]? = some (val i)
  d2 : ∀ t v, look ρ₀ t = some v → (∀ (i : Nat) (op : Oper), listed[i]? = some true → ops[i]? = some op → op.dst ≠ some t) → a.tmps[t]? = some v
  lt0 : ∀ t v, look ρ₀ t = some v → t < n.n
  ltd : ∀ (i : Nat) (op : Oper) (d : Nat), i ∈ done → ops[i]? = some op → op.dst = some d → d < n.n

/-- The slots that an operation looks at are as its environment has them. -/
theorem TInv.slots {ρ₀ : Env} {listed : Array Bool} {a : Act} {w : World} {done : List Nat} {t₀ : Tr} {pend : Pend} {H : List Asn} {F S : List Nat} {val : Nat → Value} (C : Chk ops []) (I : TInv P n ops Q o ρ₀ listed a w done t₀ pend H F S val)
    {i : Nat} {op : Oper} (hi : ops[i]? = some op) (hnl : listed[i]? ≠ some true) (haft : ∀ k ∈ afters ops i, listed[k]? = some true) {d : List Nat} (hd : DoneOk ops d) (hda : ∀ k ∈ afters ops i, k ∈ d) (hid : i ∉ d) :
    ∀ t ∈ slots ops op, ∀ u, look (envOf ops val ρ₀ d) t = some u → a.tmps[t]? = some u := by
  intro t ht u hu
  rcases look_envOf hu with ⟨j, oj, hj, hoj, hdj, rfl⟩ | ⟨h0, hno⟩
  · rcases C.share i op hi t ht j oj hoj hdj with e | e | e
    · exact absurd (e ▸ hj) hid
    · exact I.d1 j oj t (haft j e) hoj hdj
    · exact absurd (hd.back hj e) hid
  · refine I.d2 t u h0 (fun j oj hlj hoj hdj => ?_)
    rcases C.share i op hi t ht j oj hoj hdj with e | e | e
    · exact hnl (e ▸ hlj)
    · exact hno j oj (hda j e) hoj hdj
    · exact hnl (I.closed j hlj i e)
/-- The walk goes on over all that only read. -/
theorem TInv.adv {ρ₀ : Env} {listed : Array Bool} {a : Act} {w : World} : ∀ {t₀ : Tr} {done : List Nat} {pend : Pend} {H : List Asn} {F S : List Nat} {val : Nat → Value}, TInv P n ops Q o ρ₀ listed a w done t₀ pend H F S val →
    ∃ done' t' pend' val', TInv P n ops Q o ρ₀ listed a w done' t' pend' H F S val' ∧ (t' = .nil ∨ ∃ c u r, t' = .alt c u r)
  | .nil, done, pend, H, F, S, val, I => ⟨done, .nil, pend, val, I, .inl rfl⟩
  | .alt c u r, done, pend, H, F, S, val, I => ⟨done, .alt c u r, pend, val, I, .inr ⟨c, u, r, rfl⟩⟩
  | .stop, done, pend, H, F, S, val, I => by have := I.ordC; simp [chkC] at this
  | .flo i t, done, pend, H, F, S, val, I => by
      have ho := I.ordT
      simp only [chkT, Bool.and_eq_true, Bool.not_eq_true', Nat.blt_eq] at ho
      obtain ⟨⟨⟨⟨h1, h2⟩, h3⟩, h4⟩, h5⟩ := ho
      have hid : i ∉ done := fun h => by have := any_beq.2 h; rw [h2] at this; cases this
      have hia : ∀ k ∈ afters ops i, k ∈ done := fun k hk => any_beq.1 (List.all_eq_true.1 h3 k hk)
      have hop : ops[i]? = some ops[i] := List.getElem?_eq_getElem h1
      have hsw := I.sw
      simp only [TW] at hsw
      obtain ⟨op, ho, q1, q2, v, q3, q⟩ := hsw ⟨w, F, S, I.st, I.fr⟩
      rw [hop] at ho; cases ho
      have hnl : listed[i]? ≠ some true := fun h => hid (I.ldone i h)
      obtain ⟨val', hv'⟩ : ∃ val' : Nat → Value, val' = fun j => if j = i then v else val j := ⟨_, rfl⟩
      have hvi : val' i = v := by rw [hv']; simp
      have hvd : ∀ j ∈ done, val j = val' j := fun j hj => by rw [hv']; simp only [if_neg (fun e : j = i => hid (e ▸ hj))]
      have hE : envOf ops val' ρ₀ (i :: done) = extE ops[i].dst v (envOf ops val ρ₀ done) := by
        simp only [envOf, hop, Option.bind_some, hvi]
        rw [envOf_congr (fun j hj => (hvd j hj).symm)]
      have hB : envB ops val' ρ₀ i (i :: done) = envOf ops val ρ₀ done := by simp only [envB, if_true]; exact envOf_congr (fun j hj => (hvd j hj).symm)
      have hB2 : ∀ j, j ∈ done → envB ops val' ρ₀ j (i :: done) = envB ops val ρ₀ j done := fun j hj => by
        simp only [envB]
        rw [if_neg (fun e : i = j => hid (e ▸ hj))]
        exact envB_congr (fun j hj => (hvd j hj).symm)
      have hd1 : ∀ j op d, listed[j]? = some true → ops[j]? = some op → op.dst = some d → a.tmps[d]? = some (val' j) := fun j op d h1 h2 h3 => by rw [← hvd j (I.ldone j h1)]; exact I.d1 j op d h1 h2 h3
      have hltd : ∀ j op d, j ∈ i :: done → ops[j]? = some op → op.dst = some d → d < n.n := fun j op d hj hoj hdj => by
        rcases List.mem_cons.1 hj with rfl | hj
        · rw [hop] at hoj; cases hoj; exact q2 d hdj
        · exact I.ltd j op d hj hoj hdj
      rcases q with ⟨q4, q5⟩ | ⟨g, q4, q5, q6⟩
      · exact TInv.adv (t₀ := t) (done := i :: done) (pend := pend) (H := H) (F := F) (S := S) (val := val') ⟨I.lsz, I.tsz, I.tdf, I.closed, ⟨hid, h1, hia, I.ok⟩, h4, h5, by rw [hE]; exact q5, I.st, I.fr, fun j hj => by simp [I.ldone j hj],
          fun j op hj hnj hoj => by
            rcases List.mem_cons.1 hj with rfl | hj
            · rw [hop] at hoj; cases hoj
              exact ⟨q1, q2, q3, .inl (by rw [hB, hvi]; exact q4)⟩
            · rw [hB2 j hj, ← hvd j hj]
              exact I.pok j op hj hnj hoj, hd1, I.d2, I.lt0, hltd⟩
      · exact TInv.adv (t₀ := t) (done := i :: done) (pend := (i, g) :: pend) (H := H) (F := F) (S := S) (val := val') ⟨I.lsz, I.tsz, I.tdf, I.closed, ⟨hid, h1, hia, I.ok⟩, h4, h5, by rw [hE]; exact q6, I.st, I.fr, fun j hj => by simp [I.ldone j hj],
          fun j op hj hnj hoj => by
            rcases List.mem_cons.1 hj with rfl | hj
            · rw [hop] at hoj; cases hoj
              exact ⟨q1, q2, q3, .inr ⟨g, by simp, q4, by rw [hB, hvi]; exact q5⟩⟩
            · rw [hB2 j hj, ← hvd j hj]
              obtain ⟨k1, k2, k3, k4⟩ := I.pok j op hj hnj hoj
              exact ⟨k1, k2, k3, k4.imp id (fun ⟨g', m1, m2⟩ => ⟨g', by simp [m1], m2⟩)⟩, hd1, I.d2, I.lt0, hltd⟩
/-- One operation is done, which was walked over. -/
theorem TInv.float {ρ₀ : Env} {listed : Array Bool} {a : Act} {w : World} {done : List Nat} {t₀ : Tr} {pend : Pend} {H : List Asn} {F S : List Nat} {val : Nat → Value} (C : Chk ops []) (I : TInv P n ops Q o ρ₀ listed a w done t₀ pend H F S val)
    {i : Nat} {op : Oper} (hi : ops[i]? = some op) (hid : i ∈ done) (hnl : listed[i]? ≠ some true) (haft : ∀ k ∈ afters ops i, listed[k]? = some true) :
    TInv P n ops Q o ρ₀ (listed.setIfInBounds i true) (a.put op.dst (val i)) w done t₀ pend H F S val := by
  have hlt : i < listed.size := by rw [I.lsz]; exact (List.getElem?_eq_some_iff.1 hi).1
  obtain ⟨d, hd⟩ : ∃ d, op.dst = some d := by
    have := (I.pok i op hid hnl hi).2.2.1
    cases h : op.dst with
    | none => exact absurd h this
    | some d => exact ⟨d, rfl⟩
  have hdn : d < a.tmps.size := by rw [I.tsz]; exact (I.pok i op hid hnl hi).2.1 d hd
  refine ⟨by simpa using I.lsz, by rw [hd]; simpa [Act.put] using I.tsz, by rw [hd]; simpa [Act.put] using I.tdf, ?_, I.ok, I.ordC, I.ordT, I.sw, I.st, I.fr, ?_, ?_, ?_, ?_, I.lt0, I.ltd⟩
  · intro x hx y hy
    rw [listed_set hlt] at hx ⊢
    rcases hx with rfl | hx
    · exact .inr (haft y hy)
    · exact .inr (I.closed x hx y hy)
  · intro x hx
    rcases (listed_set hlt).1 hx with rfl | hx
    · exact hid
    · exact I.ldone x hx
  · intro x ox hx hnx hox
    exact I.pok x ox hx (fun h => hnx ((listed_set hlt).2 (.inr h))) hox
  · intro x ox dx hx hox hdx
    rw [hd]
    simp only [Act.put]
    rcases (listed_set hlt).1 hx with rfl | hx
    · rw [hi] at hox; cases hox
      rw [hd] at hdx; cases hdx
      rw [Array.getElem?_setIfInBounds]; simp [hdn]
    · have hne : d ≠ dx := by
        intro e; subst e
        have := C.apart x ox d hox hdx i op hi hd
        exact hnl (this ▸ hx)
      rw [Array.getElem?_setIfInBounds_ne hne]
      exact I.d1 x ox dx hx hox hdx
  · intro t v hv hno
    have hne : d ≠ t := fun e => hno i op ((listed_set hlt).2 (.inl rfl)) hi (by rw [hd, e])
    rw [hd]
    simp only [Act.put]
    rw [Array.getElem?_setIfInBounds_ne hne]
    exact I.d2 t v hv (fun j oj hj => hno j oj ((listed_set hlt).2 (.inr hj)))

/-- The next one of the chain is done. -/
theorem TInv.chain {ρ₀ : Env} {listed : Array Bool} {a : Act} {w : World} {done : List Nat} {t₀ u : Tr} {pend : Pend} {H : List Asn} {F S : List Nat} {val : Nat → Value} (C : Chk ops []) {i : Nat} {op : Oper} (I : TInv P n ops Q o ρ₀ listed a w done t₀ pend H F S val)
    (hi : ops[i]? = some op) (hnl : listed[i]? ≠ some true) (haft : ∀ k ∈ afters ops i, listed[k]? = some true) (hid : i ∉ done) (hia : ∀ k ∈ afters ops i, k ∈ done) (hdn : ∀ d, op.dst = some d → d < n.n) (hordC : chkC ops (i :: done) u = true) (hordT : chkT ops (i :: done) u = true)
    {v : Value} {H' : List Asn} {F' S' : List Nat} {w' : World} (hob : Obl ops i pend H') (hsw : TW P n ops Q o u pend (extE op.dst v (envOf ops val ρ₀ done)) H') (s' : St H' F' S' w') (f' : From o w' F' S') :
    TInv P n ops Q o ρ₀ (listed.setIfInBounds i true) (a.put op.dst v) w' (i :: done) u pend H' F' S' (fun j => if j = i then v else val j) := by
  have hll := (List.getElem?_eq_some_iff.1 hi).1
  have hlt : i < listed.size := by rw [I.lsz]; exact hll
  obtain ⟨val', hv'⟩ : ∃ val' : Nat → Value, val' = fun j => if j = i then v else val j := ⟨_, rfl⟩
  rw [← hv']
  have hvi : val' i = v := by rw [hv']; simp
  have hvd : ∀ j ∈ done, val j = val' j := fun j hj => by rw [hv']; simp only [if_neg (fun e : j = i => hid (e ▸ hj))]
  have hE : envOf ops val' ρ₀ (i :: done) = extE op.dst v (envOf ops val ρ₀ done) := by
    simp only [envOf, hi, Option.bind_some, hvi]
    rw [envOf_congr (fun j hj => (hvd j hj).symm)]
  have hB2 : ∀ j, j ∈ done → envB ops val' ρ₀ j (i :: done) = envB ops val ρ₀ j done := fun j hj => by
    simp only [envB]
    rw [if_neg (fun e : i = j => hid (e ▸ hj))]
    exact envB_congr (fun j hj => (hvd j hj).symm)
  refine ⟨by simpa using I.lsz, ?_, ?_, ?_, ⟨hid, hll, hia, I.ok⟩, hordC, hordT, by rw [hE]; exact hsw, s', f', ?_, ?_, ?_, ?_, I.lt0, ?_⟩
  · cases hd : op.dst <;> simp [Act.put, I.tsz]
  · cases hd : op.dst <;> simp [Act.put, I.tdf]
  · intro x hx y hy
    rw [listed_set hlt] at hx ⊢
    rcases hx with rfl | hx
    · exact .inr (haft y hy)
    · exact .inr (I.closed x hx y hy)
  · intro x hx
    rcases (listed_set hlt).1 hx with rfl | hx
    · simp
    · simp [I.ldone x hx]
  · intro x ox hx hnx hox
    have hxi : x ≠ i := fun e => hnx ((listed_set hlt).2 (.inl e))
    have hxd := (List.mem_cons.1 hx).resolve_left hxi
    have hnx' : listed[x]? ≠ some true := fun h => hnx ((listed_set hlt).2 (.inr h))
    obtain ⟨k1, k2, k3, k4⟩ := I.pok x ox hxd hnx' hox
    rw [hB2 x hxd, ← hvd x hxd]
    refine ⟨k1, k2, k3, k4.imp id (fun ⟨g, m1, m2, m3⟩ => ⟨g, m1, ?_, m3⟩)⟩
    rcases hob.all x g m1 with hr | hg
    · exact absurd (masks_spec _ _ _ hr (fun y => listed[y]? = some true) I.closed haft) hnx'
    · exact hg
  · intro x ox dx hx hox hdx
    rcases (listed_set hlt).1 hx with rfl | hx
    · rw [hi] at hox; cases hox
      rw [hdx, hvi]
      simp only [Act.put]
      rw [Array.getElem?_setIfInBounds]; simp [I.tsz, hdn dx hdx]
    · rw [← hvd x (I.ldone x hx)]
      have := I.d1 x ox dx hx hox hdx
      cases hd : op.dst with
      | none => exact this
      | some d =>
        simp only [Act.put]
        have hne : d ≠ dx := by
          intro e; subst e
          have := C.apart x ox d hox hdx i op hi hd
          exact hnl (this ▸ hx)
        rw [Array.getElem?_setIfInBounds_ne hne]
        exact this
  · intro t u hu hno
    have h2 := I.d2 t u hu (fun j oj hj => hno j oj ((listed_set hlt).2 (.inr hj)))
    cases hd : op.dst with
    | none => exact h2
    | some d =>
      have hne : d ≠ t := fun e => hno i op ((listed_set hlt).2 (.inl rfl)) hi (by rw [hd, e])
      simp only [Act.put]
      rw [Array.getElem?_setIfInBounds_ne hne]
      exact h2
  · intro j oj dj hj hoj hdj
    rcases List.mem_cons.1 hj with rfl | hj
    · rw [hi] at hoj; cases hoj; exact hdn dj hdj
    · exact I.ltd j oj dj hj hoj hdj
theorem TW.sound {ρ₀ : Env} {t₀ : Tr} {H : List Asn} {F S : List Nat} (hc1 : chk ops [] = true) (hc2 : chkC ops [] t₀ = true) (hc3 : chkT ops [] t₀ = true) (hn : ∀ t v, look ρ₀ t = some v → t < n.n) (h : TW P n ops Q o t₀ [] ρ₀ H)
    {a : Act} {w : World} (s : St H F S w) (fr : From o w F S) (ha : Fr n ρ₀ a) : wpAnyIn (fen n.ro) 0 P .any ops.toArray Q ops.length (Array.replicate ops.length false) a w := by
  have C := chk_spec hc1
  have hready : ∀ (listed : Array Bool) (i : Nat), i ∈ Region.ready .any ops.toArray listed → i < ops.length ∧ listed[i]? ≠ some true ∧ ∀ k ∈ afters ops i, listed[k]? = some true := by
    intro listed i hi
    simp only [Region.ready, List.mem_filter, List.mem_range, Bool.and_eq_true] at hi
    obtain ⟨h1, h2, h3⟩ := hi
    have h1' : i < ops.length := by simpa using h1
    refine ⟨h1', ?_, ?_⟩
    · intro e
      simp [Array.getD_eq_getD_getElem?, e] at h2
    · intro k hk
      rw [List.getElem?_toArray, List.getElem?_eq_getElem h1'] at h3
      simp only [Option.map_some, Option.getD_some] at h3
      simp only [afters, List.getElem?_eq_getElem h1'] at hk
      simp only [List.mem_map, List.mem_filter] at hk
      obtain ⟨e, ⟨he, hb⟩, rfl⟩ := hk
      have := (Array.all_eq_true_iff_forall_mem.1 h3) e (by simpa using he)
      simp only [bindsAny] at hb
      simp only [hb, Bool.not_true, Bool.false_or] at this
      simp only [Array.getD_eq_getD_getElem?] at this
      cases hq : listed[e.on]? with
      | none => simp [hq] at this
      | some b => simp [hq] at this; subst this; rfl
  have allReady : ∀ (listed : Array Bool), listed.size = ops.length → Closed ops (fun i => listed[i]? = some true) → (∀ m, m < ops.length → listed[m]? ≠ some true → ∃ i, i ∈ Region.ready .any ops.toArray listed) := by
    intro listed hsz hcl m
    induction m using Nat.strongRecOn with
    | _ m ih =>
      intro hm hne
      by_cases hall : ∀ k ∈ afters ops m, listed[k]? = some true
      · refine ⟨m, ?_⟩
        simp only [Region.ready, List.mem_filter, List.mem_range, Bool.and_eq_true]
        refine ⟨by simpa using hm, ?_, ?_⟩
        · have hlt : m < listed.size := by omega
          rw [Array.getD_eq_getD_getElem?, Array.getElem?_eq_getElem hlt]
          rw [Array.getElem?_eq_getElem hlt] at hne
          cases hv : listed[m] with
          | true => rw [hv] at hne; exact absurd rfl hne
          | false => rfl
        · rw [List.getElem?_toArray, List.getElem?_eq_getElem hm]
          simp only [Option.map_some, Option.getD_some]
          rw [Array.all_eq_true_iff_forall_mem]
          intro e he
          cases hb : Region.binds .any e with
          | false => rfl
          | true =>
            have := hall e.on (by
              simp only [afters, List.getElem?_eq_getElem hm, List.mem_map, List.mem_filter]
              exact ⟨e, ⟨by simpa using he, hb⟩, rfl⟩)
            simp [Array.getD_eq_getD_getElem?, this]
      · have hex : ∃ k, k ∈ afters ops m ∧ ¬ listed[k]? = some true := Classical.byContradiction fun hno => hall fun k hk => Classical.byContradiction fun hk' => hno ⟨k, hk, hk'⟩
        obtain ⟨k, hk, hk'⟩ := hex
        have hlt := C.back m _ (List.getElem?_eq_getElem hm) k hk
        exact ih k hlt (by omega) hk'
  have key : ∀ (fuel : Nat) (listed : Array Bool) (a : Act) (w : World) (done : List Nat) (t₀ : Tr) (pend : Pend) (H : List Asn) (F S : List Nat) (val : Nat → Value), ((List.range ops.length).filter (fun i => listed[i]? ≠ some true)).length ≤ fuel →
      TInv P n ops Q o ρ₀ listed a w done t₀ pend H F S val → wpAnyIn (fen n.ro) 0 P .any ops.toArray Q fuel listed a w := by
    intro fuel
    have finish : ∀ (listed : Array Bool) (a : Act) (w : World) (done : List Nat) (t₀ : Tr) (pend : Pend) (H : List Asn) (F S : List Nat) (val : Nat → Value), TInv P n ops Q o ρ₀ listed a w done t₀ pend H F S val → (∀ i, i < ops.length → listed[i]? = some true) → Q .normal a w := by
      intro listed a w done t₀ pend H F S val I hall
      obtain ⟨done, t₀, pend, val, I, hr⟩ := I.adv
      rcases hr with rfl | ⟨c, u, r, rfl⟩
      · refine I.sw w F S I.st I.fr a ⟨I.tsz, I.tdf, fun t v hv => ?_⟩
        rcases look_envOf hv with ⟨j, op, h1, h2, h3, rfl⟩ | ⟨h1, h2⟩
        · exact I.d1 j op t (hall j (List.getElem?_eq_some_iff.1 h2).1) h2 h3
        · exact I.d2 t v h1 (fun j op hj hop => h2 j op (I.ldone j hj) hop)
      · exfalso
        obtain ⟨h1, h2, _⟩ := chkT_choice I.ordT c (by simp [Tr.choices])
        exact h2 (I.ldone c (hall c h1))
    induction fuel with
    | zero =>
      intro listed a w done t₀ pend H F S val hcnt I
      have hall : ∀ i, i < ops.length → listed[i]? = some true := by
        intro i hi
        refine Classical.byContradiction fun hne => ?_
        have hmem : i ∈ (List.range ops.length).filter (fun i => listed[i]? ≠ some true) := by
          rw [List.mem_filter]; exact ⟨List.mem_range.2 hi, by simpa using hne⟩
        have : (List.range ops.length).filter (fun i => listed[i]? ≠ some true) = [] := List.eq_nil_of_length_eq_zero (by omega)
        rw [this] at hmem; cases hmem
      refine ⟨?_, finish listed a w done t₀ pend H F S val I hall⟩
      apply List.eq_nil_iff_forall_not_mem.2
      intro i hi
      have := hready listed i hi
      exact this.2.1 (hall i this.1)
    | succ fuel ih =>
      intro listed a w done t₀ pend H F S val hcnt I
      refine ⟨fun hnil => ?_, fun i hi => ?_⟩
      · refine finish listed a w done t₀ pend H F S val I (fun i hi => Classical.byContradiction fun hne => ?_)
        obtain ⟨x, hx⟩ := allReady listed I.lsz I.closed i hi hne
        rw [hnil] at hx; cases hx
      · obtain ⟨hlt, hnl, haft⟩ := hready listed i hi
        obtain ⟨done, t₀, pend, val, I, hr⟩ := I.adv
        have hoi : ops[i]? = some ops[i] := List.getElem?_eq_getElem hlt
        have hlz : i < listed.size := by rw [I.lsz]; exact hlt
        have hless : ((List.range ops.length).filter (fun j => (listed.setIfInBounds i true)[j]? ≠ some true)).length ≤ fuel := by
          have gen : ∀ (l : List Nat), l.Nodup → ((i ∈ l → (l.filter (fun j => (listed.setIfInBounds i true)[j]? ≠ some true)).length + 1 ≤ (l.filter (fun j => listed[j]? ≠ some true)).length) ∧ (l.filter (fun j => (listed.setIfInBounds i true)[j]? ≠ some true)).length ≤ (l.filter (fun j => listed[j]? ≠ some true)).length) := by
            intro l
            induction l with
            | nil => exact fun _ => ⟨fun h => (by cases h), Nat.le_refl _⟩
            | cons x r ihl =>
              intro hnd
              have hnd' := List.nodup_cons.1 hnd
              obtain ⟨k1, k2⟩ := ihl hnd'.2
              by_cases hxi : x = i
              · subst hxi
                have e1 : (decide ((listed.setIfInBounds x true)[x]? ≠ some true)) = false := by simp [listed_set hlz]
                have e2 : (decide (listed[x]? ≠ some true)) = true := by simpa using hnl
                simp only [List.filter_cons, e1, e2, if_true, List.length_cons]
                simp only [Bool.false_eq_true, if_false]
                exact ⟨fun _ => Nat.succ_le_succ k2, Nat.le_succ_of_le k2⟩
              · have e1 : (decide ((listed.setIfInBounds i true)[x]? ≠ some true)) = (decide (listed[x]? ≠ some true)) := by
                  rw [decide_eq_decide]; simp [listed_set hlz, hxi]
                simp only [List.filter_cons, e1]
                split
                · simp only [List.length_cons]
                  exact ⟨fun h => Nat.succ_le_succ (k1 ((List.mem_cons.1 h).resolve_left (fun e => hxi e.symm))), Nat.succ_le_succ k2⟩
                · exact ⟨fun h => k1 ((List.mem_cons.1 h).resolve_left (fun e => hxi e.symm)), k2⟩
          have := (gen _ List.nodup_range).1 (List.mem_range.2 hlt)
          omega
        by_cases hid : i ∈ done
        · obtain ⟨p1, p2, p3, p4⟩ := I.pok i _ hid hnl hoi
          have hfl : Fl P n ops (envB ops val ρ₀ i done) w ops[i] (val i) := p4.elim (fun h => h w) (fun ⟨g, _, h1, h2⟩ => h2 H w F S h1 I.st I.fr)
          obtain ⟨d', hd1, hd2, hd3, hd4, hd5⟩ := envB_of (val := val) (ρ₀ := ρ₀) I.ok hid
          rw [hd1] at hfl
          have hsl := I.slots C hoi hnl haft hd4 hd2 hd3
          have hltE := lt_env (ops := ops) (n := n) (val := val) I.lt0 (fun j op t hj => I.ltd j op t (hd5 j hj))
          obtain ⟨a₀, hfr, hag⟩ := frame_for I.tsz hltE ops[i] hsl
          have hwp : wpo P n ops Q ops[i] (fun a' w' => a' = a.put ops[i].dst (val i) ∧ w' = w) a w := by
            unfold wpo
            rcases hfl with ⟨hg, hrun⟩ | ⟨hg, hv⟩
            · rw [wanted_for hg hfr hag]
              simp only [if_true]
              refine wpIn_run (nodef p1) ((congrArg (fun s => s.run P w) (eval_virtual hag (nosel p1))).trans (hrun a₀ hfr)) ?_
              exact ⟨rfl, rfl⟩
            · rw [wanted_for hg hfr hag]
              simp only [Bool.false_eq_true, if_false]
              rw [hv]; exact ⟨rfl, trivial⟩
          refine wpo_wpOp hoi hwp ?_
          rintro a' w' ⟨rfl, rfl⟩
          exact ih _ _ _ done t₀ pend H F S val hless (I.float C hoi hid hnl haft)
        · have hch : i ∈ t₀.choices := by
            rcases hr with rfl | ⟨c, u, r, rfl⟩
            · have := I.ordT
              simp only [chkT] at this
              exact absurd (any_beq.1 (List.all_eq_true.1 this i (List.mem_range.2 hlt))) hid
            · have := List.all_eq_true.1 I.ordC i (List.mem_range.2 hlt)
              simp only [Bool.or_eq_true] at this
              rcases this with (h | h) | h
              · exact absurd (any_beq.1 h) hid
              · exact any_beq.1 h
              · exfalso
                obtain ⟨c', hc', hrc⟩ := List.any_eq_true.1 h
                obtain ⟨_, h2, _⟩ := chkT_choice I.ordT c' hc'
                exact h2 (I.ldone c' (masks_spec _ _ _ hrc (fun x => listed[x]? = some true) I.closed haft))
          obtain ⟨u, ⟨hia, hC, hT⟩, hsw⟩ := TW.pick I.sw I.ordT hch
          obtain ⟨op, ho, q1, q2, Ψ, hΨ, hk⟩ := hsw ⟨w, F, S, I.st, I.fr⟩
          rw [hoi] at ho; cases ho
          have hsl := I.slots C hoi hnl haft I.ok hia hid
          have hltE := lt_env (ops := ops) (n := n) (val := val) I.lt0 (fun j op t hj => I.ltd j op t hj)
          obtain ⟨a₀, hfr, hag⟩ := frame_for I.tsz hltE ops[i] hsl
          have hwp : wpo P n ops Q ops[i] (fun a' w' => ∃ v, a' = a.put ops[i].dst v ∧ PostS o Ψ v w') a w := by
            unfold wpo
            rcases hΨ with ⟨hg, hrun⟩ | ⟨hg, hv⟩
            · rw [wanted_for hg hfr hag]
              simp only [if_true]
              exact (hrun w F S I.st I.fr).wp (nodef q1) hfr (eval_virtual hag (nosel q1))
            · rw [wanted_for hg hfr hag]
              simp only [Bool.false_eq_true, if_false]
              exact ⟨undef, rfl, H, F, S, by rw [hv]; exact ⟨rfl, rfl⟩, I.st, I.fr⟩
          refine wpo_wpOp hoi hwp ?_
          rintro a' w' ⟨v, rfl, H', F', S', hv, s', f'⟩
          obtain ⟨k1, k2⟩ := hk v H' hv
          exact ih _ _ _ (i :: done) u pend H' F' S' _ hless (I.chain C hoi hnl haft hid hia q2 hC hT k1 k2 s' f')
  refine key _ _ a w [] t₀ [] H F S (fun _ => undef) (Nat.le_trans (List.length_filter_le _ _) (by simp)) ⟨by simp, ha.size, ha.defers, ?_, trivial, hc2, hc3, h, s, fr, ?_, by simp, ?_, fun t v hv _ => ha.vals t v hv, hn, by simp⟩
  · intro x hx
    simp [Array.getElem?_replicate] at hx
  · intro i hi
    simp [Array.getElem?_replicate] at hi
  · intro j o d hj
    simp [Array.getElem?_replicate] at hj

/-! ### the rules -/
theorem SG.drawT [hm : Mixed P] {B : Exit → Act → World → Prop} {ks : List K} {ρ : Env} {H : List Asn} {id : Nat} (t₀ : Tr) (hchk : (chk ops [] && chkC ops [] t₀ && chkT ops [] t₀) = true) (hlt : ρ.all (fun p => Nat.blt p.1 n) = true) (h : TW P n ops (sem P n.ro B ks) o t₀ [] ρ H) :
    SG P B n o ks ρ H (.region id ops.toArray true) := by
  intro w F S s f a ha
  refine wpIn_region_any hm.h ?_
  have hd := Ext.drawn w
  simp only [Bool.and_eq_true] at hchk
  have := TW.sound (P := P) (n := n) (a := a) (w := { w with drawn := w.drawn + 1 }) hchk.1.1 hchk.1.2 hchk.2 (fun t v hv => by
      have hmem : ∀ (r : Env) t v, look r t = some v → (t, v) ∈ r := by
        intro r
        induction r with
        | nil => intro t v h; cases h
        | cons p r ih =>
          obtain ⟨s, u⟩ := p
          intro t v h
          rw [look_cons] at h
          split at h
          · rename_i e; subst e; cases h; simp
          · exact List.mem_cons_of_mem _ (ih t v h)
      have := List.all_eq_true.1 hlt (t, v) (hmem ρ t v hv)
      simpa [Nat.blt_eq] using this) h ⟨s.sep.ext hd (Apart.nilR _) (Apart.nilR _), fun b hb => Nat.lt_of_lt_of_le (s.ltF b hb) hd.size, fun b hb => Nat.lt_of_lt_of_le (s.ltS b hb) hd.size⟩ ⟨f.ext.trans0 hd, f.fF, f.fS⟩ ha
  simpa using this
section
variable {t : Tr} {pend : Pend} {ρ : Env} {H : List Asn} {i d : Nat} {op : Op} {ty : TypeId} {pos : String} {af : Array Edge} {gd : Option (Nat × Bool)}
theorem TW.pure {v : Value} (ho : ops[i]? = some ⟨some d, op, ty, pos, af, gd⟩) (hg : wants ops ρ gd = some true) (hd : Nat.blt d n = true) (hs : isSelect op = false) (hrun : ∀ w, Runs P n ρ w ⟨some d, op, ty, pos, af, gd⟩ v w) (h : TW P n ops Q o t pend ((d, v) :: ρ) H) :
    TW P n ops Q o (.flo i t) pend ρ H :=
  fun _ => ⟨_, ho, hs, fun d' e => by cases e; simpa [Nat.blt_eq] using hd, v, by simp, .inl ⟨fun w => .inl ⟨hg, hrun w⟩, h⟩⟩
theorem TW.pass {hd : Nat.blt d n = true} (ho : ops[i]? = some ⟨some d, op, ty, pos, af, gd⟩) (hg : wants ops ρ gd = some false) (hs : isSelect op = false) (h : TW P n ops Q o t pend ((d, undef) :: ρ) H) :
    TW P n ops Q o (.flo i t) pend ρ H :=
  fun _ => ⟨_, ho, hs, fun d' e => by cases e; simpa [Nat.blt_eq] using hd, undef, by simp, .inl ⟨fun w => .inr ⟨hg, rfl⟩, h⟩⟩
theorem TW.read {v : Value} (ho : ops[i]? = some ⟨some d, op, ty, pos, af, gd⟩) (hg : wants ops ρ gd = some true) (hd : Nat.blt d n = true) (hs : isSelect op = false) (hrun : Rd1 P n o ρ ⟨some d, op, ty, pos, af, gd⟩ v H) (h : TW P n ops Q o t ((i, Rd1 P n o ρ ⟨some d, op, ty, pos, af, gd⟩ v) :: pend) ((d, v) :: ρ) H) :
    TW P n ops Q o (.flo i t) pend ρ H :=
  fun _ => ⟨_, ho, hs, fun d' e => by cases e; simpa [Nat.blt_eq] using hd, v, by simp, .inr ⟨_, hrun, fun H w F S h s f => .inl ⟨hg, h w F S s⟩, h⟩⟩
theorem TW.step {Ψ : Value → List Asn → Prop} (ho : ops[i]? = some ⟨some d, op, ty, pos, af, gd⟩) (hg : wants ops ρ gd = some true) (hd : Nat.blt d n = true) (hs : isSelect op = false) (h : CS P n o ρ H ⟨some d, op, ty, pos, af, gd⟩ Ψ)
    (k : ∀ v H', Ψ v H' → Obl ops i pend H' ∧ TW P n ops Q o t pend ((d, v) :: ρ) H') : TW P n ops Q o (.alt i t .stop) pend ρ H :=
  ⟨fun _ => ⟨_, ho, hs, fun d' e => by cases e; simpa [Nat.blt_eq] using hd, Ψ, .inl ⟨hg, h⟩, k⟩, trivial⟩
theorem TW.step0 {Ψ : Value → List Asn → Prop} (ho : ops[i]? = some ⟨none, op, ty, pos, af, gd⟩) (hg : wants ops ρ gd = some true) (hs : isSelect op = false) (h : CS P n o ρ H ⟨none, op, ty, pos, af, gd⟩ Ψ)
    (k : ∀ v H', Ψ v H' → Obl ops i pend H' ∧ TW P n ops Q o t pend ρ H') : TW P n ops Q o (.alt i t .stop) pend ρ H :=
  ⟨fun _ => ⟨_, ho, hs, fun d' e => (by cases e), Ψ, .inl ⟨hg, h⟩, k⟩, trivial⟩
theorem TW.passS (ho : ops[i]? = some ⟨some d, op, ty, pos, af, gd⟩) (hg : wants ops ρ gd = some false) (hd : Nat.blt d n = true) (hs : isSelect op = false) (k : Obl ops i pend H ∧ TW P n ops Q o t pend ((d, undef) :: ρ) H) :
    TW P n ops Q o (.alt i t .stop) pend ρ H :=
  ⟨fun _ => ⟨_, ho, hs, fun d' e => by cases e; simpa [Nat.blt_eq] using hd, _, .inr ⟨hg, rfl⟩, by rintro v H' ⟨rfl, rfl⟩; exact k⟩, trivial⟩
theorem TW.fact {φ : Prop} (hφ : ∀ w F S, St H F S w → φ) (h : φ → TW P n ops Q o t pend ρ H) : TW P n ops Q o t pend ρ H := by
  induction t with
  | nil => exact fun w F S s f => h (hφ w F S s) w F S s f
  | flo i t _ => exact fun ⟨w, F, S, s, f⟩ => h (hφ w F S s) ⟨w, F, S, s, f⟩
  | alt i t r _ ih => exact ⟨fun ⟨w, F, S, s, f⟩ => (h (hφ w F S s)).1 ⟨w, F, S, s, f⟩, ih (fun q => (h q).2)⟩
  | stop => trivial
theorem TW.congr : ∀ {t : Tr} {pend : Pend} {ρ ρ' : Env} {H : List Asn}, (∀ t, look ρ t = look ρ' t) → TW P n ops Q o t pend ρ H → TW P n ops Q o t pend ρ' H
  | .nil, _, _, _, _, hl, h => fun w F S s f a ha => h w F S s f a (ha.congr hl)
  | .stop, _, _, _, _, hl, h => trivial
  | .flo i t, pend, ρ, ρ', H, hl, h => fun he => by
    obtain ⟨op, ho, q1, q2, v, hn, q⟩ := h he
    refine ⟨op, ho, q1, q2, v, hn, ?_⟩
    rcases q with ⟨h1, h2⟩ | ⟨g, h1, h2, h3⟩
    · exact .inl ⟨fun w => (h1 w).congr hl, TW.congr (extE_congr hl _ _) h2⟩
    · exact .inr ⟨g, h1, fun H w F S a b c => (h2 H w F S a b c).congr hl, TW.congr (extE_congr hl _ _) h3⟩
  | .alt i t r, pend, ρ, ρ', H, hl, h => ⟨fun he => by
    obtain ⟨op, ho, q1, q2, Ψ, hΨ, hk⟩ := h.1 he
    refine ⟨op, ho, q1, q2, Ψ, ?_, fun v H' hv => ⟨(hk v H' hv).1, TW.congr (extE_congr hl _ _) (hk v H' hv).2⟩⟩
    rw [← wants_congr hl]
    exact hΨ.imp (fun ⟨a, b⟩ => ⟨a, fun w F S s f => (b w F S s f).congr hl⟩) id, TW.congr hl h.2⟩
/-- One of the orders, and the others. -/
theorem TW.or {t r : Tr} (h : TW P n ops Q o (.alt i t .stop) pend ρ H) (k : TW P n ops Q o r pend ρ H) : TW P n ops Q o (.alt i t r) pend ρ H := ⟨h.1, k⟩
theorem TW.be {v v' : Value} (d : Nat) (hv : look ρ d = some v) (e : v = v') (h : TW P n ops Q o t pend ((d, v') :: ρ) H) : TW P n ops Q o t pend ρ H := by
  subst e
  refine h.congr (fun t => ?_)
  rw [look_cons]
  split
  · rename_i e; subst e; exact hv.symm
  · rfl
theorem TW.caseB {b : Bool} (d : Nat) (hv : look ρ d = some (.bool b)) (ht : b = true → TW P n ops Q o t pend ((d, .bool true) :: ρ) H) (hf : b = false → TW P n ops Q o t pend ((d, .bool false) :: ρ) H) : TW P n ops Q o t pend ρ H := by
  cases b
  · exact TW.be d hv rfl (hf rfl)
  · exact TW.be d hv rfl (ht rfl)
theorem TW.caseP {p : Prop} {dp : Decidable p} (d : Nat) (hv : look ρ d = some (.bool (@decide p dp))) (ht : p → TW P n ops Q o t pend ((d, .bool true) :: ρ) H) (hf : ¬ p → TW P n ops Q o t pend ((d, .bool false) :: ρ) H) : TW P n ops Q o t pend ρ H :=
  TW.caseB d hv (fun h => ht (of_decide_eq_true h)) (fun h => hf (of_decide_eq_false h))
theorem TW.isT {b : Bool} (d : Nat) (hv : look ρ d = some (.bool b)) (e : b = true) (h : TW P n ops Q o t pend ((d, .bool true) :: ρ) H) : TW P n ops Q o t pend ρ H := TW.be d hv (congrArg Value.bool e) h
theorem TW.isF {b : Bool} (d : Nat) (hv : look ρ d = some (.bool b)) (e : b = false) (h : TW P n ops Q o t pend ((d, .bool false) :: ρ) H) : TW P n ops Q o t pend ρ H := TW.be d hv (congrArg Value.bool e) h
theorem TW.nil {B : Exit → Act → World → Prop} {ks : List K} (h : SN P B n o ks ρ H) : TW P n ops (sem P n.ro B ks) o .nil pend ρ H := fun w F S s f a ha => h w F S s f a ha
end
end
section
variable {P : Program} {n : Fm} {ops : List Oper} {Q : Exit → Act → World → Prop} {o : Org} {t : Tr} {pend : Pend} {ρ : Env} {H : List Asn}
theorem TW.n0 (h : TW P n ops Q o t pend ρ (H)) : TW P n ops Q o t pend ρ ([] ++ H) := h
theorem TW.n1 {A1 : Asn} (h : TW P n ops Q o t pend ρ (A1 :: H)) : TW P n ops Q o t pend ρ ([A1] ++ H) := h
theorem TW.n2 {A1 A2 : Asn} (h : TW P n ops Q o t pend ρ (A1 :: A2 :: H)) : TW P n ops Q o t pend ρ ([A1, A2] ++ H) := h
theorem TW.n3 {A1 A2 A3 : Asn} (h : TW P n ops Q o t pend ρ (A1 :: A2 :: A3 :: H)) : TW P n ops Q o t pend ρ ([A1, A2, A3] ++ H) := h
theorem TW.n4 {A1 A2 A3 A4 : Asn} (h : TW P n ops Q o t pend ρ (A1 :: A2 :: A3 :: A4 :: H)) : TW P n ops Q o t pend ρ ([A1, A2, A3, A4] ++ H) := h
theorem TW.n5 {A1 A2 A3 A4 A5 : Asn} (h : TW P n ops Q o t pend ρ (A1 :: A2 :: A3 :: A4 :: A5 :: H)) : TW P n ops Q o t pend ρ ([A1, A2, A3, A4, A5] ++ H) := h
end
end Brv
/-
  The language's own maps.
-/
set_option linter.unusedVariables false
set_option linter.unusedSimpArgs false
namespace Brv
open Go
section
variable {κ : Type} [DecidableEq κ]
/-- A map's entries, in the order in which they came. -/
def mput : List (κ × Value) → κ → Value → List (κ × Value)
  | [], k, v => [(k, v)]
  | p :: r, k, v => if p.1 = k then (k, v) :: r else p :: mput r k v
def mget : List (κ × Value) → κ → Option Value
  | [], _ => none
  | p :: r, k => if p.1 = k then some p.2 else mget r k
end
section
variable {κ : Type} [Key κ]
/-- A map's type. -/
class MapT (P : Program) (T : TypeId) (κ : Type) [Key κ] (K E : outParam TypeId) (d : outParam TypeDesc) : Prop where
  h : P.underlying T = some (.map K E)
  hk : P.underlying K = some d
  key : ∀ k : κ, MapKept.IsKey d (Key.val k)
  inj : ∀ a b : κ, Key.val a = Key.val b → a = b
def ents (l : List MapEntry) (ps : List (κ × Value)) : Prop := l.map (fun e => (e.key, e.val)) = ps.map (fun p => (Key.val p.1, p.2))
def GM (w : World) (b : Nat) (ps : List (κ × Value)) : Prop := ∃ es clock, w.heap[b]? = some (.map es clock) ∧ ents es.toList ps
theorem GM.lt {w : World} {b : Nat} {ps : List (κ × Value)} (h : GM w b ps) : b < w.heap.size := let ⟨_, _, h, _⟩ := h; (Array.getElem?_eq_some_iff.1 h).1
theorem GM.ext {M : List Nat} {w w' : World} {b : Nat} {ps : List (κ × Value)} (h : GM w b ps) (he : Ext M w w') (hb : b ∉ M) : GM w' b ps :=
  let ⟨es, c, h1, h2⟩ := h; ⟨es, c, (he.keep b (Array.getElem?_eq_some_iff.1 h1).1 hb).trans h1, h2⟩
/-- A map of one's own. -/
def gm (b : Nat) (ps : List (κ × Value)) : Asn where
  P := fun F _ w => F = [b] ∧ GM w b ps
  ext := fun F S M w w' h he hF _ => ⟨h.1, h.2.ext he (hF b (by rw [h.1]; simp))⟩
theorem St.gm {b : Nat} {ps : List (κ × Value)} {H H' : List Asn} {F S : List Nat} {w : World} (s : St H F S w) (h : Sel H (Brv.gm b ps) H') : GM w b ps := (s.sel h).elim fun _ h => h.elim fun _ h => h.2.2
variable [DecidableEq κ]
theorem find_ents {d : TypeDesc} (hkey : ∀ k : κ, MapKept.IsKey d (Key.val k)) (inj : ∀ a b : κ, Key.val a = Key.val b → a = b) (k : κ) : ∀ (l : List MapEntry) (ps : List (κ × Value)) (n : Nat), ents l ps →
    (mget ps k = none ∧ Instr.findNow d (Key.val k) l n = some none ∧ ∀ v, mput ps k v = ps ++ [(k, v)]) ∨
    (∃ j e, l[j]? = some e ∧ e.key = Key.val k ∧ mget ps k = some e.val ∧ Instr.findNow d (Key.val k) l n = some (some (n + j, e.val)) ∧ ∀ v, mput ps k v = ps.set j (k, v))
  | [], [], n, _ => .inl ⟨rfl, rfl, fun _ => rfl⟩
  | [], p :: ps, n, h => by simp [ents] at h
  | e :: l, [], n, h => by simp [ents] at h
  | e :: l, p :: ps, n, h => by
    simp only [ents, List.map_cons, List.cons.injEq, Prod.mk.injEq] at h
    obtain ⟨⟨h1, h2⟩, h3⟩ := h
    obtain ⟨r, hr, hi⟩ := MapKept.sameNow_of_keys (b := e.key) (hkey k) (by rw [h1]; exact hkey p.1)
    by_cases hp : p.1 = k
    · refine .inr ⟨0, e, rfl, by rw [h1, hp], ?_, ?_, ?_⟩
      · simp only [mget]; rw [if_pos hp, h2]
      · have : r = true := hi.2 (by rw [h1, hp])
        simp only [Instr.findNow, hr, this]; rfl
      · intro v; simp only [mput]; rw [if_pos hp]; rfl
    · have hrf : r = false := by
        cases hq : r with
        | false => rfl
        | true => exact (hp (inj _ _ (by rw [← h1]; exact (hi.1 hq).symm))).elim
      rcases find_ents hkey inj k l ps (n + 1) h3 with ⟨q1, q2, q3⟩ | ⟨j, e', q1, q2, q3, q4, q5⟩
      · refine .inl ⟨?_, ?_, ?_⟩
        · simp only [mget]; rw [if_neg hp, q1]
        · simp only [Instr.findNow, hr, hrf]; exact q2
        · intro v; simp only [mput]; rw [if_neg hp, q3]; rfl
      · refine .inr ⟨j + 1, e', by simpa using q1, q2, ?_, ?_, ?_⟩
        · simp only [mget]; rw [if_neg hp, q3]
        · simp only [Instr.findNow, hr, hrf]; rw [q4, show n + 1 + j = n + (j + 1) by omega]
        · intro v; simp only [mput]; rw [if_neg hp, q5]; rfl
section
variable {P : Program} {n : Fm} {o : Org} {ρ : Env} {H H1 : List Asn} {d : Nat} {ty : TypeId} {pos : String} {af : Array Edge} {gd : Option (Nat × Bool)} {T K E : TypeId} {dd : TypeDesc} {w : World}
theorem R.look [t : MapT P T κ K E dd] {z : Value} [tz : TyZero P E z] {x y : Operand} {b : Nat} {ps : List (κ × Value)} {k : κ} (hx : ev ρ x = some (.map (some b))) (hy : ev ρ y = some (Key.val k)) (hb : GM w b ps) :
    Runs P n ρ w ⟨some d, .lookup T x y false, ty, pos, af, gd⟩ ((mget ps k).getD z) w := fun f hf => by
  obtain ⟨es, c, h1, h2⟩ := hb
  have hz : (zeroValue E).run P w = .ok z w := by
    have hz := tz.h
    cases hq : P.info? E with
    | none => simp [hq] at hz
    | some i => have hz' : i.zero = some z := by simpa [hq] using hz
                simp [zeroValue, typeInfo, hq, hz']
  rcases find_ents t.key t.inj k es.toList ps 0 h2 with ⟨q1, q2, _⟩ | ⟨j, e, q1, q2, q3, q4, _⟩
  · simp [execOp, Instr.lookup, hf.eval hx, hf.eval hy, run_underlying t.h, MapKept.run_getObj_map h1, MapKept.run_checkKey t.hk (t.key k), MapKept.run_findKey t.hk q2, hz, Result.andThen, q1]
  · simp [execOp, Instr.lookup, hf.eval hx, hf.eval hy, run_underlying t.h, MapKept.run_getObj_map h1, MapKept.run_checkKey t.hk (t.key k), MapKept.run_findKey t.hk q4, Result.andThen, q3]
end
end
end Brv
/-
  Loops in which a frame's marks grow (a range over a function inside).
-/
set_option linter.unusedVariables false
set_option linter.unusedSimpArgs false
namespace Brv
open Go
section
variable {P : Program} {B : Exit → Act → World → Prop} {n : Fm} {ks : List K} {ρ : Env} {w : World} {o : Org} {H : List Asn}
theorem G.loopN {X : Type} (nI : X → Fm) (ρI : X → Env) (I : X → World → Prop) (μ : X → Nat) (x₀ : X) {c : Code} (hro : ∀ x, (nI x).ro = n.ro) (hn : nI x₀ = n) (hs : Sub (ρI x₀) ρ) (h₀ : I x₀ w)
    (round : ∀ x w, I x w → G P B (nI x) (.hand (fun a' w' => ∃ x', μ x' < μ x ∧ Fr (nI x') (ρI x') a' ∧ I x' w') :: ks) (ρI x) w c) : G P B n ks ρ w (.loop c) := by
  intro a ha
  refine wpIn_loop_ghost (fun k a w => ∃ x, μ x = k ∧ Fr (nI x) (ρI x) a ∧ I x w) (μ x₀) ⟨x₀, rfl, hn ▸ ha.sub hs, h₀⟩ ?_
  rintro k a w ⟨x, rfl, hf, hI⟩
  have hr := round x w hI a hf
  rw [hro x] at hr
  refine wpIn_mono hr ?_
  intro e a' w' hq
  cases e with
  | normal => obtain ⟨x', hlt, hf', hI'⟩ := hq; exact ⟨μ x', hlt, x', rfl, hf', hI'⟩
  | exit id => exact hq
  | goto l => exact hq
  | ret => exact hq
  | panic ch => exact hq
  | outgrown => exact hq
theorem SG.loopN {X : Type} (nI : X → Fm) (ρI : X → Env) (HI : X → List Asn) (I : X → Prop) (μ : X → Nat) (x₀ : X) {c : Code} (hro : ∀ x, (nI x).ro = n.ro) (hn : nI x₀ = n) (hs : Sub (ρI x₀) ρ) (i : Imp H (HI x₀)) (h₀ : I x₀)
    (round : ∀ x, I x → SG P B (nI x) o (.hand (fun a' w' => ∃ x', μ x' < μ x ∧ Fr (nI x') (ρI x') a' ∧ I x' ∧ ∃ F S, St (HI x') F S w' ∧ From o w' F S) :: ks) (ρI x) (HI x) c) : SG P B n o ks ρ H (.loop c) :=
  fun w F S s f => G.loopN nI ρI (fun x w' => I x ∧ ∃ F S, St (HI x) F S w' ∧ From o w' F S) μ x₀ hro hn hs ⟨h₀, i.at s f⟩ (fun x w' ⟨hi, F', S', s', f'⟩ => round x hi w' F' S' s' f')
end
/-- The marks of a frame, that are to be taken at its end. -/
def mark (d : Nat) : Deferred := ⟨.collected d, #[]⟩
def dfrs : List Nat → List Asn → List Asn
  | [], H => H
  | d :: ds, H => dfr d :: dfrs ds H
theorem Dfrs.many {H H' : List Asn} {ds : List Nat} {df : List Deferred} (h : Dfrs df H H') : Dfrs (ds.map mark ++ df) (dfrs ds H) H' := by
  induction ds with
  | nil => exact h
  | cons d ds ih => exact .cons .here ih
end Brv
/-
  Slices of numbers among a law's arguments.
-/
set_option linter.unusedVariables false
set_option linter.unusedSimpArgs false
namespace Brv
open Go
end Brv
namespace Brv
open Go
/-- A row of bytes, where it lies. -/
structure BRow where
  a : Option Addr
  n : Nat
  c : Nat
  l : List UInt8
def BRow.val (r : BRow) : Value := .slice r.a r.n r.c
def BRow.ok (w : World) (r : BRow) : Prop := (r.n ≤ r.c ∧ r.c ≤ 140737488351232) ∧ Bs w r.a r.n r.l
theorem BRow.ok.ext0 {w w' : World} {r : BRow} (h : r.ok w) (he : Ext [] w w') : r.ok w' := ⟨h.1, h.2.ext0 he⟩
theorem brow_pt {w : World} {a : Option Addr} {i : Nat} {rs : List BRow} {r : BRow} (h : Cells w a (rs.map BRow.val)) (hr : rs[i]? = some r) : ∃ q, a = some q :=
  let ⟨q, hq, _⟩ := h i r.val (by rw [List.getElem?_map, hr]; rfl); ⟨q, hq⟩
theorem brow_ld {w : World} {a : Option Addr} {i : Nat} {rs : List BRow} {r : BRow} {q : Addr} (h : Cells w a (rs.map BRow.val)) (hq : a = some q) (hr : rs[i]? = some r) : w.cell? (q.add ((i : Int).toNat * 1)) = some (.slice r.a r.n r.c) := by
  obtain ⟨p, hp, hc⟩ := h i r.val (by rw [List.getElem?_map, hr]; rfl)
  rw [hq] at hp; cases hp
  rw [Int.toNat_natCast, Nat.mul_one]; exact hc
end Brv
/-
  Pens and scans as assertions; functions that turn nothing old, over assertions.
-/
set_option linter.unusedVariables false
set_option linter.unusedSimpArgs false
namespace Brv
open Go
/-- A pen that wrote l. -/
def pen (TP TE p : Nat) (l : List UInt8) : Asn where
  P := fun F _ w => PenAt TP TE w p l F
  ext := fun F S M w w' h he hF _ => h.ext he hF
/-- A scan, of which l is left. -/
def scn (TS s : Nat) (l : List UInt8) (e : Int) : Asn where
  P := fun F S w => F = [s] ∧ ScanAt TS w s S l e
  ext := fun F S M w w' h he hF hS => ⟨h.1, h.2.ext he (hF s (by rw [h.1]; simp)) hS⟩
theorem Imp.pen {H H' : List Asn} {TP TE p : Nat} (h : Sel H (blk p [.slice none 0 0] TP) H') : Imp H (Brv.pen TP TE p [] :: H') := Imp.same h fun F S w hA => by
  obtain ⟨rfl, hB⟩ := hA
  exact PenAt.new hB
theorem St.scn {H H' : List Asn} {TS s : Nat} {l : List UInt8} {e : Int} {F S : List Nat} {w : World} (st : St H F S w) (h : Sel H (Brv.scn TS s l e) H') : ∃ D, ScanAt TS w s D l e := (st.sel h).elim fun _ h => h.elim fun S1 h => ⟨S1, h.2.2⟩
theorem St.pen {H H' : List Asn} {TP TE p : Nat} {l : List UInt8} {F S : List Nat} {w : World} (st : St H F S w) (h : Sel H (Brv.pen TP TE p l) H') : ∃ S', PenAt TP TE w p l S' := (st.sel h).elim fun F1 h => h.elim fun _ h => ⟨F1, h.2⟩
section
variable {P : Program} {f : FuncId} {vs : List Value}
/-- A contract over worlds that makes a row of its own. -/
theorem SpecS.ofOwn {H : List Asn} {E size k : Nat} {xs : List Value} {φ : Option Addr → Nat → Value} (hf : ∀ w F S, St H F S w → Meets P f vs w (fun v w' => ∃ a c M, v = φ a c ∧ Ext [] w w' ∧ Own w' E size a k c xs M ∧ ∀ g ∈ M, w.heap.size ≤ g)) :
    SpecS P f vs H (fun v H' => ∃ a c, v = φ a c ∧ H' = own E size a k c xs :: H) :=
  (SpecS.ofFresh (φ := fun v A => ∃ a c, v = φ a c ∧ A = own E size a k c xs) fun w F S s => (hf w F S s).mono fun v w' ⟨a, c, M, h1, h2, h3, h4⟩ =>
    ⟨_, M, [], ⟨a, c, h1, rfl⟩, h2, h3, fun b hb => ⟨h4 b hb, h3.lt b hb⟩, by simp⟩).mono fun v H' ⟨A, ⟨a, c, h1, h2⟩, h3⟩ => ⟨a, c, h1, by rw [h3, h2]⟩
end
end Brv
/-
  A slice that is made to grow from nothing; what is known of bytes beside blocks that are turned.
-/
set_option linter.unusedVariables false
set_option linter.unusedSimpArgs false
namespace Brv
open Go
section
variable {P : Program} {n : Fm} {o : Org} {ρ : Env} {H H' : List Asn} {ty : TypeId} {pos : String} {af : Array Edge} {gd : Option (Nat × Bool)}
theorem CS.appZ0 {T E I size bytes : Nat} {z : Value} [t : TySlice P T E size bytes z] [ti : TyInt P I .i64] {d : Nat} {s x : Operand} {m : Nat}
    (hs : ev ρ s = some (.slice none 0 0)) (hx : ev ρ x = some (.int .i64 (m : Int))) (h1 : ∀ u ∈ z.cells.toList, u.oneCell' = true) (h63 : m ≤ maxLen) (hby : m * bytes ≤ 140737488355328) (hpos : 0 < size) (hbp : 0 < bytes) (hg : 0 < m) :
    CS P n o ρ H ⟨some d, .call ⟨.builtin .append, #[s, x], #[T, I]⟩, ty, pos, af, gd⟩ (fun v H' => ∃ a c xs, v = .slice a m c ∧ H' = own E size a m c xs :: H) := fun w F S st fr => by
  obtain ⟨v, w', hr, a, c, M, hv, he, ho, hM⟩ := R.appZN (P := P) (n := n) (ρ := ρ) (d := d) (ty := ty) (pos := pos) (af := af) (gd := gd) (T := T) (I := I) (w := w) hs hx (Own.nil w E size) h1 (by simpa using h63) (by simpa using hby) hpos hbp (by simpa using hg)
  simp only [Nat.zero_add] at hv ho
  obtain ⟨F', S', s', f'⟩ := st.grow fr he (A := own E size a m c _) (F' := M) (S' := []) (fun b hb => ⟨hM b hb, ho.lt b hb⟩) (by simp) ho (Apart.nilL _)
  exact .inl ⟨v, w', hr, _, F', S', ⟨a, c, _, hv, rfl⟩, s', f'⟩
theorem Imp.ownPre {E size k c : Nat} {a : Option Addr} {xs : List Value} (i : Nat) (h : Sel H (own E size a k c xs) H') (hi : i ≤ k) : Imp H (own E size a i c (xs.take (i * size)) :: H') :=
  Imp.same h fun F S w hA => Own.pre hA hi
end
theorem bs_apart {w : World} {S : List Nat} {a : Option Addr} {n : Nat} {l : List UInt8} (h : ∀ w1, Ext S w w1 → Bs w1 a n l) : ∀ q, effA a l = some q → q.block ∉ S ∧ q.block < w.heap.size := by
  intro q hq
  cases l with
  | nil => cases hq
  | cons x r =>
    have hq : a = some q := hq
    obtain ⟨p, hp, hc⟩ := (h w (Ext.refl _ _)).cells 0 (.int .u8 (x.toNat : Int)) rfl
    rw [hq] at hp; cases hp
    refine ⟨fun hm => ?_, ?_⟩
    · obtain ⟨p, hp, hc1⟩ := (h (w.putObj q.block (.deferred none)) ((Ext.putObj w _ _).mono (fun z hz => .inl (by rw [List.mem_singleton.1 hz]; exact hm)))).cells 0 (.int .u8 (x.toNat : Int)) rfl
      rw [hq] at hp; cases hp
      have hlt := World.block_lt_of_cell? w _ hc
      rw [Addr.add_block] at hlt
      unfold World.cell? at hc1
      rw [Addr.add_block, World.putObj_heap_same hlt] at hc1
      cases hc1
    · have hlt := World.block_lt_of_cell? w _ hc
      rwa [Addr.add_block] at hlt
/-! ## Structs that are built of parts of many cells -/
def putN : List Value → Nat → List Value → List Value
  | cs, _, [] => cs
  | cs, off, x :: l => putN (cs.set off x) (off + 1) l
theorem putN_spec (off : Nat) : ∀ (l : List Value) (k : Nat) (cells : Array Value), ((l.zipIdx k).foldl (fun cs p => cs.setIfInBounds (off + p.2) p.1) cells).toList = putN cells.toList (off + k) l := by
  intro l
  induction l with
  | nil => intro k cells; rfl
  | cons x l ih =>
    intro k cells
    rw [List.zipIdx_cons, List.foldl_cons, ih (k + 1), putN]
    simp [Nat.add_assoc]
def fillN (pl : Nat → Option (Nat × Nat)) : List Value → List (Nat × Value) → Option (List Value)
  | cs, [] => some cs
  | cs, (i, v) :: rest => match pl i with
    | some (off, sz) => match Nat.beq v.cells.toList.length sz && Nat.ble (off + sz) cs.length with
      | true => fillN pl (putN cs off v.cells.toList) rest
      | false => none
    | none => none
theorem fillN_spec {pl : Nat → Option (Nat × Nat)} : ∀ {vs : List (Nat × Value)} {cs : Array Value} {l : List Value}, fillN pl cs.toList vs = some l → Instr.fill pl cs vs = some l.toArray
  | [], cs, l, h => by
    simp only [fillN, Option.some.injEq] at h
    subst h
    simp [Instr.fill]
  | (i, v) :: rest, cs, l, h => by
    simp only [fillN] at h
    split at h
    · rename_i off sz hp
      split at h
      · rename_i hb
        rw [Bool.and_eq_true] at hb
        have hsz := Nat.eq_of_beq_eq_true hb.1
        have hlt := Nat.le_of_ble_eq_true hb.2
        have e := putN_spec off v.cells.toList 0 cs
        rw [Nat.add_zero] at e
        have e2 : (v.cells.zipIdx.foldl (fun cs (p : Value × Nat) => cs.setIfInBounds (off + p.2) p.1) cs).toList = putN cs.toList off v.cells.toList := by
          rw [← e, ← Array.foldl_toList, Array.toList_zipIdx]
        rw [← e2] at h
        have ih := fillN_spec h
        simp only [Instr.fill, hp]
        rw [if_neg (by simp at hsz hlt ⊢; omega)]
        exact ih
      · cases h
    · cases h
section
variable {P : Program} {n : Fm} {ρ : Env} {w : World} {d : Nat} {ty : TypeId} {pos : String} {af : Array Edge} {gd : Option (Nat × Bool)}
theorem R.buildN {T : TypeId} {pl : Nat → Option (Nat × Nat)} {z : Value} [t : TyBuilt P T pl z] {parts : Array (Nat × Operand)} {vs : List (Nat × Value)} {l : List Value} (hp : evps ρ parts.toList = some vs) (hb : fillN pl z.cells.toList vs = some l) :
    Runs P n ρ w ⟨some d, .build T parts, ty, pos, af, gd⟩ (.agg l.toArray) w := R.build hp (fillN_spec hb)
end
end Brv
/-
  A device that is limited.
-/
set_option linter.unusedVariables false
namespace Brv.Dev
open Brv Brv.Image
theorem dn_64 {b : List UInt8} (h : b.length = 64) : dn b = 1 := by unfold dn; rw [h]
theorem write_ok {v : DevV} {N p : Nat} {b : List UInt8} (ho : v.off = false) (hb : b.length = 64) (hp : p < N) (hl : v.left ≠ 0) : writeV v N (p : Int) b = ({ v with left := if 0 < v.left then v.left - 1 else v.left, calls := v.calls + 1, wt := v.wt ++ [(p, b)] }, 0) := by
  unfold writeV
  rw [if_neg (by simp [ho]), if_neg (by omega), if_neg (by rw [dn_64 hb]; unfold thereP; omega)]
  have hc : callV v = ({ v with left := if 0 < v.left then v.left - 1 else v.left, calls := v.calls + 1 }, true) := if_neg hl
  rw [hc, if_pos rfl, dn_64 hb]
  simp [secsF, blk_self hb]
theorem flush_ok {v : DevV} (ho : v.off = false) (hl : v.left ≠ 0) : flushV v = (⟨laidAll v.stay v.wt, [], v.calls + 1, if 0 < v.left then v.left - 1 else v.left, false⟩, 0) := by
  unfold flushV
  have hc : callV v = ({ v with left := if 0 < v.left then v.left - 1 else v.left, calls := v.calls + 1 }, true) := if_neg hl
  rw [if_neg (by simp [ho]), hc, if_pos rfl]
  simp [ho]
def kS (la : List UInt8) : List UInt8 := laid (List.replicate (64 * 4) 0) 1 la
def k1 (la : List UInt8) : DevV := ⟨List.replicate (64 * 4) 0, [(1, la)], 1, -1, false⟩
def k2 (la : List UInt8) : DevV := ⟨kS la, [], 2, -1, false⟩
def k3 (la lb : List UInt8) : DevV := ⟨kS la, [(1, lb)], 3, -1, false⟩
def k4 (la lb : List UInt8) : DevV := ⟨kS la, [(1, lb), (2, lb)], 4, -1, false⟩
theorem callV_bd (v : DevV) : v.calls ≤ (callV v).1.calls ∧ (callV v).1.calls ≤ v.calls + 1 := by unfold callV; split <;> (constructor <;> dsimp only <;> omega)
/-- A step of a play: how calls and what waits grow. -/
def Stp (v v' : DevV) (k : Nat) : Prop := v.calls ≤ v'.calls ∧ v'.calls ≤ v.calls + 1 ∧ v'.wt.length ≤ v.wt.length + k
theorem Stp.refl (v : DevV) (k : Nat) : Stp v v k := ⟨Int.le_refl _, by omega, by omega⟩
theorem Stp.c {v v' : DevV} {k i : Nat} (h : Stp v v' k) (hc : 0 ≤ v.calls ∧ v.calls ≤ (i : Int)) : 0 ≤ v'.calls ∧ v'.calls ≤ ((i + 1 : Nat) : Int) := by obtain ⟨h1, h2, _⟩ := h; omega
theorem Stp.w {v v' : DevV} {k i : Nat} (h : Stp v v' k) (hw : v.wt.length ≤ 40 * i) (hk : k ≤ 40) : v'.wt.length ≤ 40 * (i + 1) := by obtain ⟨_, _, h3⟩ := h; omega
theorem writeV_bd (v : DevV) (N : Nat) (p : Int) (b : List UInt8) : Stp v (writeV v N p b).1 (dn b) := by
  have h1 := callV_bd v
  have h2 := callV_same v
  unfold writeV
  split
  · exact Stp.refl _ _
  split
  · exact Stp.refl _ _
  split
  · exact Stp.refl _ _
  split
  · exact ⟨h1.1, h1.2, by dsimp only; rw [List.length_append, secsF_length, h2.2]; exact Nat.le_refl _⟩
  · exact ⟨h1.1, h1.2, by dsimp only; rw [h2.2]; omega⟩
theorem flushV_bd (v : DevV) : Stp v (flushV v).1 0 := by
  have h1 := callV_bd v
  have h2 := callV_same v
  unfold flushV
  split
  · exact Stp.refl _ _
  split
  · exact ⟨h1.1, h1.2, by dsimp only; simp⟩
  · exact ⟨h1.1, h1.2, by dsimp only; rw [h2.2]; omega⟩
theorem crashV_bd (v : DevV) (ks : List Bool) : Stp v (crashV v ks) 0 := ⟨Int.le_refl _, by simp only [crashV]; omega, by simp [crashV]⟩
end Brv.Dev
/-
  The walks of package pool.
-/
set_option linter.unusedVariables false
set_option linter.unusedSimpArgs false
set_option maxRecDepth 4000
namespace Go.Proofs.Ytmbppidafnakhaa
open Go Brv Brv.Image Brv.Dev
theorem cells_apart {w : World} {S : List Nat} {a : Option Addr} {l : List Bool} (h : ∀ w1, Ext S w w1 → Cells w1 a (l.map Value.bool)) : ∀ q, effA a l = some q → q.block ∉ S := by
  intro q hq
  cases l with
  | nil => cases hq
  | cons x r =>
    have hq : a = some q := hq
    obtain ⟨p, hp, hc⟩ := h w (Ext.refl _ _) 0 (.bool x) rfl
    rw [hq] at hp; cases hp
    intro hm
    obtain ⟨p, hp, hc1⟩ := h (w.putObj q.block (.deferred none)) ((Ext.putObj w _ _).mono (fun z hz => .inl (by rw [List.mem_singleton.1 hz]; exact hm))) 0 (.bool x) rfl
    rw [hq] at hp; cases hp
    have hlt := World.block_lt_of_cell? w _ hc
    rw [Addr.add_block] at hlt
    unfold World.cell? at hc1
    rw [Addr.add_block, World.putObj_heap_same hlt] at hc1
    cases hc1

/-- A device, as an assertion. -/
def dvA (d : Nat) (vv : DevV) (sz : Nat) : Asn where
  P := fun F _ w => DevAt w d vv sz F
  ext := fun F S M w w' h he hF _ => h.ext he hF
theorem _root_.Brv.St.dv {H H' : List Asn} {d : Nat} {vv : DevV} {sz : Nat} {F S : List Nat} {w : World} (s : St H F S w) (h : Sel H (dvA d vv sz) H') : ∃ S', DevAt w d vv sz S' := (s.sel h).elim fun F1 h => h.elim fun _ h => ⟨F1, h.2⟩
theorem SpecS.ofDev {f : FuncId} {vs : List Value} {d : Nat} {v1 v2 : DevV} {sz : Nat} {φ : Value → Prop} (h : ∀ w S, DevAt w d v1 sz S → Meets Try.prog f vs w (fun r w' => φ r ∧ ∃ S', Grown S S' w w' ∧ DevAt w' d v2 sz S')) :
    SpecS Try.prog f vs [dvA d v1 sz] (fun r H' => φ r ∧ H' = [dvA d v2 sz]) := fun w F S st => by
  obtain ⟨F1, S1, _, _, ⟨a, _, c, _⟩, _, hm, _⟩ := st.sep
  refine (h w F1 hm).mono ?_
  rintro r w' ⟨h1, S', hg, hm'⟩
  exact ⟨_, S', [], ⟨h1, rfl⟩, st_one (A := dvA d v2 sz) hm' hm'.lt (by simp), ⟨hg.1.mono (fun x hx => .inl (a hx)), fun x hx => (hg.2 x hx).imp (fun h => a h) id, by simp⟩⟩
/-- .. by bytes, or by another thing that stays. -/
theorem SpecS.ofDevB {f : FuncId} {vs : List Value} {d : Nat} {v1 v2 : DevV} {sz : Nat} {φ : Value → Prop} {q : World → Prop} (h : ∀ w S, DevAt w d v1 sz S → (∀ w1, Ext S w w1 → q w1) → Meets Try.prog f vs w (fun r w' => φ r ∧ ∃ S', Grown S S' w w' ∧ DevAt w' d v2 sz S')) :
    SpecS Try.prog f vs [dvA d v1 sz, sh q] (fun r H' => φ r ∧ H' = [dvA d v2 sz]) := fun w F S st => by
  obtain ⟨F1, S1, F2, S2, ⟨a1, _, c, _⟩, ⟨_, q, _⟩, hm, F3, S3, _, _, ⟨_, _, c3, _⟩, _, hb, _⟩ := st.sep
  refine (h w F1 hm (fun w1 he => hb F1 w1 he (q.symm.mono c3 (subR _)))).mono ?_
  rintro r w' ⟨h1, S', hg, hm'⟩
  exact ⟨_, S', [], ⟨h1, rfl⟩, st_one (A := dvA d v2 sz) hm' hm'.lt (by simp), ⟨hg.1.mono (fun x hx => .inl (a1 hx)), fun x hx => (hg.2 x hx).imp (fun h => a1 h) id, by simp⟩⟩
theorem dflushS (d : Nat) (vv : DevV) (sz : Nat) (hcb : 0 ≤ vv.calls ∧ vv.calls ≤ 1000000000) (hwb : vv.wt.length ≤ 1000000) : SpecS Try.prog 34 [.pointer (some ⟨d, 0, none⟩)] [dvA d vv sz] (fun r H' => r = .int .i64 (flushV vv).2 ∧ H' = [dvA d (flushV vv).1 sz]) :=
  SpecS.ofDev fun w S h => dflush_ok d vv sz S w h hcb hwb
theorem dwriteS (d : Nat) (vv : DevV) (sz : Nat) (p : Int) (ba : Option Addr) (bn bc : Nat) (l : List UInt8) (hcb : 0 ≤ vv.calls ∧ vv.calls ≤ 1000000000) (hwb : vv.wt.length ≤ 1000000) (hbc : bn ≤ bc) (hbn : bn ≤ 1000000) : SpecS Try.prog 33 [.pointer (some ⟨d, 0, none⟩), .int .i64 p, .slice ba bn bc] [dvA d vv sz, bs ba bn l] (fun r H' => r = .int .i64 (writeV vv sz p l).2 ∧ H' = [dvA d (writeV vv sz p l).1 sz]) :=
  SpecS.ofDevB fun w S h hq => dwrite_ok d vv sz S p ba bn bc l w h hcb hwb (hq w (Ext.refl _ _)) hbc hbn (bs_apart hq)
theorem dreadS (d : Nat) (vv : DevV) (sz : Nat) (p n : Int) (hwb : vv.wt.length ≤ 1000000) : SpecS Try.prog 41 [.pointer (some ⟨d, 0, none⟩), .int .i64 p, .int .i64 n] [dvA d vv sz] (fun r H' => ∃ a c, r = .tuple #[.slice a (readV vv sz p n).1.length c, .int .i64 (readV vv sz p n).2] ∧ H' = [own 5 1 a (readV vv sz p n).1.length c (vbs (readV vv sz p n).1), dvA d vv sz]) :=
  SpecS.ofOwn (φ := fun a c => .tuple #[.slice a (readV vv sz p n).1.length c, .int .i64 (readV vv sz p n).2]) fun w F S s => by
    obtain ⟨S', h⟩ := s.dv .here
    exact dread_ok d vv sz S' p n w h hwb
theorem dnewS (n : Nat) (h1 : 1 ≤ n) (h2 : n ≤ 4096) : SpecS Try.prog 7 [.int .i64 (n : Int)] [] (fun r H' => ∃ d, r = .tuple #[.pointer (some ⟨d, 0, none⟩), .int .i64 0] ∧ H' = [dvA d (newV n) n]) := fun w F S s =>
  (dnew_ok n w h1 h2).mono fun r w' ⟨d, S', h1, h2, h3, h4⟩ => ⟨_, S', [], ⟨d, h1, rfl⟩, st_one (A := dvA d (newV n) n) h3 h3.lt (by simp), ⟨h2.mono (by simp), fun x hx => .inr (h4 x hx), by simp⟩⟩
theorem dimageS (d : Nat) (vv : DevV) (sz : Nat) : SpecS Try.prog 14 [.pointer (some ⟨d, 0, none⟩)] [dvA d vv sz] (fun r H' => ∃ a c, r = .slice a vv.stay.length c ∧ vv.stay.length ≤ c ∧ H' = [own 5 1 a vv.stay.length c (vbs vv.stay), dvA d vv sz]) :=
  (SpecS.ofFresh (φ := fun r A => ∃ a c, r = .slice a vv.stay.length c ∧ vv.stay.length ≤ c ∧ A = own 5 1 a vv.stay.length c (vbs vv.stay)) fun w F S s => by
    obtain ⟨S', h⟩ := s.dv (show Sel _ (dvA d vv sz) _ from .here)
    exact (dimage_ok d vv sz S' w h).mono fun r w' ⟨a, c, M, h1, h2, h3, h4⟩ => ⟨_, M, [], ⟨a, c, h1, h3.le, rfl⟩, h2, h3, fun b hb => ⟨h4 b hb, h3.lt b hb⟩, by simp⟩).mono fun r H' ⟨A, ⟨a, c, h1, h2, h3⟩, h4⟩ => ⟨a, c, h1, h2, by rw [h4, h3]⟩
theorem dsizeS (d : Nat) (vv : DevV) (sz : Nat) (w : World) (h : ∃ S', DevAt w d vv sz S') : Meets Try.prog 27 [.pointer (some ⟨d, 0, none⟩)] w (fun r w' => r = .int .i64 (sz : Int) ∧ Ext [] w w') := by
  obtain ⟨S', h⟩ := h
  exact (dsize_ok d vv sz S' w h).mono fun r w' ⟨h1, h2⟩ => ⟨h1, h2 ▸ Ext.refl _ _⟩
theorem dcrashS (d : Nat) (vv : DevV) (sz : Nat) (ka : Option Addr) (kc : Nat) (ks : List Bool) (hwb : vv.wt.length ≤ 1000000) : SpecS Try.prog 15 [.pointer (some ⟨d, 0, none⟩), .slice ka ks.length kc] [dvA d vv sz, sh (fun w => Cells w ka (ks.map Value.bool))] (fun r H' => True ∧ H' = [dvA d (crashV vv ks) sz]) :=
  SpecS.ofDevB fun w S h hq => (dcrash_ok d vv sz S ka kc ks w h hwb (hq w (Ext.refl _ _)) (cells_apart hq)).mono fun r w' h => ⟨trivial, h⟩

theorem dlimitS (d : Nat) (vv : DevV) (sz : Nat) (n : Int) (hn : n ≤ 9223372036854775807) : SpecS Try.prog 26 [.pointer (some ⟨d, 0, none⟩), .int .i64 n] [dvA d vv sz] (fun r H' => True ∧ H' = [dvA d (limitV vv n) sz]) :=
  SpecS.ofDev fun w S h => (dlimit_ok d vv sz S n w h hn).mono fun r w' ⟨h1, h2⟩ => ⟨trivial, S, ⟨h1, fun x hx => .inl hx⟩, h2⟩

end Go.Proofs.Ytmbppidafnakhaa
/-
  Plain laws on package record: writes that are merged.
-/
set_option linter.unusedVariables false
namespace Brv
open Go
abbrev Wr := Int × List UInt8
end Brv
/-
  Tables by rising keys.
-/
set_option linter.unusedVariables false
set_option linter.unusedSimpArgs false
namespace Brv
open Go
section
variable {α β : Type}
def lowT (l : List (Int × α)) (k : Int) : Nat := (l.takeWhile fun p => decide (p.1 < k)).length
def hasT (l : List (Int × α)) (k : Int) : Bool := match l[lowT l k]? with
  | some p => !decide (k < p.1)
  | none => false
def putT (l : List (Int × α)) (k : Int) (v : α) : List (Int × α) := if hasT l k then l.set (lowT l k) (k, v) else l.take (lowT l k) ++ (k, v) :: l.drop (lowT l k)
def getT (l : List (Int × α)) (k : Int) : Option α := if hasT l k then (l[lowT l k]?).map Prod.snd else none
def mapT (g : α → β) (l : List (Int × α)) : List (Int × β) := l.map fun p => (p.1, g p.2)
theorem lowT_map (g : α → β) (l : List (Int × α)) (k : Int) : lowT (mapT g l) k = lowT l k := by
  unfold lowT mapT
  induction l with
  | nil => rfl
  | cons p l ih => simp only [List.map_cons, List.takeWhile_cons]; split <;> simp_all
theorem hasT_map (g : α → β) (l : List (Int × α)) (k : Int) : hasT (mapT g l) k = hasT l k := by
  unfold hasT
  rw [lowT_map, mapT, List.getElem?_map]
  cases l[lowT l k]? <;> rfl
theorem putT_map (g : α → β) (l : List (Int × α)) (k : Int) (v : α) : mapT g (putT l k v) = putT (mapT g l) k (g v) := by
  unfold putT
  rw [hasT_map, lowT_map]
  split <;> simp [mapT, List.map_set, List.map_take, List.map_drop]
theorem getT_map (g : α → β) (l : List (Int × α)) (k : Int) : getT (mapT g l) k = (getT l k).map g := by
  unfold getT
  rw [hasT_map, lowT_map]
  split
  · simp only [mapT, List.getElem?_map, Option.map_map]; rfl
  · rfl
theorem lowT_eq (ps : List (Pr Int)) (k : Int) : lowT ps k = low ps k := rfl
theorem hasT_eq (ps : List (Pr Int)) (k : Int) : hasT ps k = hasK ps k := by
  unfold hasT hasK
  rw [lowT_eq]
  cases ps[low ps k]? <;> rfl
theorem putT_eq (ps : List (Pr Int)) (k : Int) (v : List Value) : putT ps k v = putK ps k v := by
  unfold putT putK
  rw [hasT_eq, lowT_eq]
theorem getT_eq (ps : List (Pr Int)) (k : Int) : getT ps k = getK ps k := by
  unfold getT getK
  rw [hasT_eq, lowT_eq]
def Srt (l : List (Int × α)) : Prop := l.Pairwise fun a b => a.1 < b.1
theorem lowT_at {l : List (Int × α)} (hs : Srt l) {i : Nat} {p : Int × α} (hp : l[i]? = some p) : lowT l p.1 = i := by
  unfold Srt at hs
  induction l generalizing i with
  | nil => simp at hp
  | cons q l ih =>
    rw [List.pairwise_cons] at hs
    unfold lowT
    cases i with
    | zero =>
      simp only [List.getElem?_cons_zero, Option.some.injEq] at hp
      subst hp
      rw [List.takeWhile_cons, if_neg (by simp)]; rfl
    | succ i =>
      simp only [List.getElem?_cons_succ] at hp
      have hlt := hs.1 p (List.mem_of_getElem? hp)
      have := ih hs.2 hp
      unfold lowT at this
      rw [List.takeWhile_cons, if_pos (by simpa using hlt), List.length_cons, this]
theorem hasT_at {l : List (Int × α)} (hs : Srt l) {i : Nat} {p : Int × α} (hp : l[i]? = some p) : hasT l p.1 = true := by
  unfold hasT; rw [lowT_at hs hp, hp]; simp
theorem getT_at {l : List (Int × α)} (hs : Srt l) {i : Nat} {p : Int × α} (hp : l[i]? = some p) : getT l p.1 = some p.2 := by
  unfold getT; rw [hasT_at hs hp, lowT_at hs hp, hp]; rfl
theorem hasT_mem {l : List (Int × α)} {k : Int} (h : hasT l k = true) : ∃ p, l[lowT l k]? = some p ∧ p.1 = k := by
  unfold hasT at h
  cases hl : l[lowT l k]? with
  | none => rw [hl] at h; cases h
  | some p =>
    rw [hl] at h
    refine ⟨p, rfl, ?_⟩
    have h1 : ¬ k < p.1 := by simpa using h
    have h2 : ¬ p.1 < k := by
      unfold lowT at hl
      clear h h1
      induction l with
      | nil => simp at hl
      | cons q l ih =>
        rw [List.takeWhile_cons] at hl
        split at hl
        · exact ih (by simpa using hl)
        · rename_i hq
          simp only [List.length_nil, List.getElem?_cons_zero, Option.some.injEq] at hl
          subst hl; simpa using hq
    omega
theorem getT_some {l : List (Int × α)} {k : Int} {v : α} (h : getT l k = some v) : (k, v) ∈ l := by
  unfold getT at h
  split at h
  · rename_i hh
    obtain ⟨p, hp, e⟩ := hasT_mem hh
    rw [hp] at h
    obtain ⟨a, b⟩ := p
    simp only [Option.map_some, Option.some.injEq] at h
    cases h; cases e
    exact List.mem_of_getElem? hp
  · cases h
theorem mem_putT {l : List (Int × α)} {k : Int} {v : α} {p : Int × α} (h : p ∈ putT l k v) : p = (k, v) ∨ p ∈ l := by
  unfold putT at h
  split at h
  · exact (List.mem_or_eq_of_mem_set h).symm
  · rcases List.mem_append.1 h with h | h
    · exact .inr (List.mem_of_mem_take h)
    · rcases List.mem_cons.1 h with h | h
      · exact .inl h
      · exact .inr (List.mem_of_mem_drop h)
end
end Brv
/-
  A pool of blocks, as plain values.
-/
set_option linter.unusedVariables false
set_option linter.unusedSimpArgs false
namespace Brv
open Go Brv.Image Brv.Dev
/-- What is in hand: the bytes, and whether they are dirty. -/
abbrev Hd := List (Int × (List UInt8 × Bool))
def inP (B : Nat) (k : Int) : Bool := decide (0 ≤ k ∧ k < (B : Int))
def pwE (B : Nat) (w : Wr) : Int := if inP B w.1 then (if w.2.length = 64 then 0 else 42) else 41
def pwsE (B : Nat) : List Wr → Int
  | [] => 0
  | w :: l => if pwE B w = 0 then pwsE B l else pwE B w
theorem pwsE_all {B : Nat} {l : List Wr} (h : ∀ (j : Nat) (w : Wr), l[j]? = some w → pwE B w = 0) : pwsE B l = 0 := by
  induction l with
  | nil => rfl
  | cons w l ih => rw [pwsE, if_pos (h 0 w rfl)]; exact ih fun j u hu => h (j + 1) u (by simpa using hu)
theorem pwsE_at {B : Nat} {l : List Wr} {i : Nat} {w : Wr} (h : ∀ (j : Nat) (u : Wr), j < i → l[j]? = some u → pwE B u = 0) (hw : l[i]? = some w) (he : pwE B w ≠ 0) : pwsE B l = pwE B w := by
  induction l generalizing i with
  | nil => simp at hw
  | cons x l ih =>
    cases i with
    | zero => simp only [List.getElem?_cons_zero, Option.some.injEq] at hw; subst hw; rw [pwsE, if_neg he]
    | succ i =>
      rw [pwsE, if_pos (h 0 x (by omega) rfl)]
      exact ih (i := i) (fun j u hj hu => h (j + 1) u (by omega) (by simpa using hu)) (by simpa using hw)
theorem pwE_in {B : Nat} {w : Wr} (h : pwE B w = 0) : (0 ≤ w.1 ∧ w.1 < (B : Int)) ∧ w.2.length = 64 := by
  unfold pwE inP at h
  split at h
  · rename_i h1
    split at h
    · rename_i h2; exact ⟨of_decide_eq_true h1, h2⟩
    · cases h
  · cases h
theorem pwE_lo {B : Nat} {w : Wr} (h : w.1 < 0) : pwE B w = 41 := if_neg (by unfold inP; simp; omega)
theorem pwE_hi {B : Nat} {w : Wr} (h : (B : Int) ≤ w.1) : pwE B w = 41 := if_neg (by unfold inP; simp; omega)
theorem inP_in {B : Nat} {k : Int} (h : ¬ k < 0) (h2 : ¬ (B : Int) ≤ k) : inP B k = true := decide_eq_true (by omega)
theorem inP_lo {B : Nat} {k : Int} (h : k < 0) : inP B k = false := decide_eq_false (by omega)
theorem inP_hi {B : Nat} {k : Int} (h : (B : Int) ≤ k) : inP B k = false := decide_eq_false (by omega)
theorem pwE_sz {B : Nat} {w : Wr} (h : ¬ w.1 < 0) (h2 : ¬ (B : Int) ≤ w.1) (h3 : w.2.length ≠ 64) : pwE B w = 42 := by unfold pwE; rw [inP_in h h2, if_pos rfl, if_neg h3]
theorem pwE_ok {B : Nat} {w : Wr} (h : ¬ w.1 < 0) (h2 : ¬ (B : Int) ≤ w.1) (h3 : w.2.length = 64) : pwE B w = 0 := by unfold pwE; rw [inP_in h h2, if_pos rfl, if_pos h3]
theorem pwsE_in {B : Nat} {l : List Wr} (h : pwsE B l = 0) : ∀ w ∈ l, pwE B w = 0 := by
  induction l with
  | nil => intro w hw; cases hw
  | cons x l ih =>
    rw [pwsE] at h
    split at h
    · rename_i h1
      intro w hw
      rcases List.mem_cons.1 hw with rfl | hw
      · exact h1
      · exact ih h w hw
    · rename_i h1; exact (h1 h).elim
def putL (M : Hd) (l : List Wr) : Hd := l.foldl (fun M w => putT M w.1 (w.2, true)) M
theorem putL_succ {M : Hd} {l : List Wr} {i : Nat} {w : Wr} (h : l[i]? = some w) : putL M (l.take (i + 1)) = putT (putL M (l.take i)) w.1 (w.2, true) := by
  unfold putL
  rw [List.take_add_one, h, List.foldl_append]; rfl
def pputV (M : Hd) (B : Nat) (l : List Wr) : Hd := if pwsE B l = 0 then putL M l else M
def pgetV (M : Hd) (v : DevV) (sz fr B : Nat) (n : Int) : List UInt8 × Int := if inP B n then (match getT M n with | some x => (x.1, 0) | none => readV v sz ((fr : Int) + n) 1) else ([], 41)
theorem pget_out {M : Hd} {v : DevV} {sz fr B : Nat} {n : Int} (h : inP B n = false) : pgetV M v sz fr B n = ([], 41) := by unfold pgetV; rw [h]; rfl
theorem pget_hand {M : Hd} {v : DevV} {sz fr B : Nat} {n : Int} {x : List UInt8 × Bool} (h : inP B n = true) (hg : getT M n = some x) : pgetV M v sz fr B n = (x.1, 0) := by unfold pgetV; rw [h, if_pos rfl, hg]
theorem pget_dev {M : Hd} {v : DevV} {sz fr B : Nat} {n : Int} (h : inP B n = true) (hg : getT M n = none) : pgetV M v sz fr B n = readV v sz ((fr : Int) + n) 1 := by unfold pgetV; rw [h, if_pos rfl, hg]
theorem pget_64 {M : Hd} {v : DevV} {sz fr B : Nat} {n : Int} (hw : v.Wf sz) (hM : ∀ t ∈ M, t.2.1.length = 64) (h : (pgetV M v sz fr B n).2 = 0) : (pgetV M v sz fr B n).1.length = 64 := by
  unfold pgetV at h ⊢
  split at h
  · rename_i h1
    rw [if_pos h1]
    cases hg : getT M n with
    | some x => exact hM _ (getT_some hg)
    | none =>
      rw [hg] at h
      dsimp only at h ⊢
      by_cases h2 : v.off = true
      · rw [show readV v sz ((fr : Int) + n) 1 = ([], 10) from if_pos h2] at h; cases h
      · by_cases h3 : thereP sz ((fr : Int) + n) 1
        · rw [show readV v sz ((fr : Int) + n) 1 = (win (laidAll v.stay v.wt) ((fr : Int) + n).toNat (Int.toNat 1), 0) by unfold readV; rw [if_neg h2, if_pos h3]]
          unfold thereP at h3
          exact win_length (s := laidAll v.stay v.wt) (N := sz) (a := ((fr : Int) + n).toNat) (n := 1) (laidAll_length (s := v.stay) hw.len hw.wt) (by omega)
        · rw [show readV v sz ((fr : Int) + n) 1 = ([], 11) by unfold readV; rw [if_neg h2, if_neg h3]] at h; cases h
  · cases h
def dirtyL (M : Hd) : List Int := (M.filter (fun t => t.2.2)).map Prod.fst
theorem dirtyL_succ {M : Hd} {i : Nat} {t : Int × (List UInt8 × Bool)} (h : M[i]? = some t) : dirtyL (M.take (i + 1)) = dirtyL (M.take i) ++ if t.2.2 then [t.1] else [] := by
  unfold dirtyL
  rw [List.take_add_one, h, List.filter_append, List.map_append]
  simp only [Option.toList_some, List.filter_cons, List.filter_nil]
  split <;> rfl
theorem dirtyL_le (M : Hd) : (dirtyL M).length ≤ M.length := by unfold dirtyL; rw [List.length_map]; exact List.length_filter_le _ _
def valH (M : Hd) (k : Int) : List UInt8 := ((getT M k).getD ([], false)).1
def svS (M : Hd) (sz fr : Nat) (r : DevV × Int) (k : Int) : DevV × Int := if r.2 = 0 then writeV r.1 sz ((fr : Int) + k) (valH M k) else r
def svL (M : Hd) (v : DevV) (sz fr : Nat) (ks : List Int) : DevV × Int := ks.foldl (svS M sz fr) (v, 0)
theorem svL_succ {M : Hd} {v v1 : DevV} {sz fr : Nat} {ks : List Int} {i : Nat} {k : Int} (h : ks[i]? = some k) (h0 : svL M v sz fr (ks.take i) = (v1, 0)) : svL M v sz fr (ks.take (i + 1)) = writeV v1 sz ((fr : Int) + k) (valH M k) := by
  unfold svL at h0 ⊢
  rw [List.take_add_one, h, List.foldl_append, h0]; rfl
theorem svL_stuck {M : Hd} {v : DevV} {sz fr : Nat} {ks : List Int} {i : Nat} (h : (svL M v sz fr (ks.take i)).2 ≠ 0) : svL M v sz fr ks = svL M v sz fr (ks.take i) := by
  have key : ∀ (l : List Int) (r : DevV × Int), r.2 ≠ 0 → l.foldl (svS M sz fr) r = r := by
    intro l
    induction l with
    | nil => intro r _; rfl
    | cons k l ih => intro r hr; rw [List.foldl_cons, show svS M sz fr r k = r from if_neg hr]; exact ih r hr
  conv => lhs; rw [← List.take_append_drop i ks]
  unfold svL at h ⊢
  rw [List.foldl_append]
  exact key _ _ h
def clean (M : Hd) (ks : List Int) : Hd := ks.foldl (fun M k => putT M k (valH M k, false)) M
theorem clean_succ {M : Hd} {ks : List Int} {i : Nat} {k : Int} (h : ks[i]? = some k) : clean M (ks.take (i + 1)) = putT (clean M (ks.take i)) k (valH (clean M (ks.take i)) k, false) := by
  unfold clean
  rw [List.take_add_one, h, List.foldl_append]; rfl
theorem putT_len {α : Type} (l : List (Int × α)) (k : Int) (v : α) : (putT l k v).length ≤ l.length + 1 := by
  unfold putT
  split
  · rw [List.length_set]; omega
  · simp only [List.length_append, List.length_take, List.length_cons, List.length_drop]; omega
/-- What saving leaves: what is in hand, the device, the error. -/
def psaveV (M : Hd) (v : DevV) (sz fr : Nat) : (Hd × DevV) × Int :=
  if (svL M v sz fr (dirtyL M)).2 ≠ 0 then ((M, (svL M v sz fr (dirtyL M)).1), (svL M v sz fr (dirtyL M)).2)
  else if (flushV (svL M v sz fr (dirtyL M)).1).2 ≠ 0 then ((M, (flushV (svL M v sz fr (dirtyL M)).1).1), (flushV (svL M v sz fr (dirtyL M)).1).2)
  else ((clean M (dirtyL M), (flushV (svL M v sz fr (dirtyL M)).1).1), 0)
theorem psave_err {M : Hd} {v v1 : DevV} {sz fr : Nat} {e : Int} (h : svL M v sz fr (dirtyL M) = (v1, e)) (he : e ≠ 0) : psaveV M v sz fr = ((M, v1), e) := by
  unfold psaveV; rw [h, if_pos he]
theorem psave_fl {M : Hd} {v v1 : DevV} {sz fr : Nat} (h : svL M v sz fr (dirtyL M) = (v1, 0)) (he : (flushV v1).2 ≠ 0) : psaveV M v sz fr = ((M, (flushV v1).1), (flushV v1).2) := by
  unfold psaveV; rw [h, if_neg (by simp), if_pos he]
theorem psave_ok {M : Hd} {v v1 : DevV} {sz fr : Nat} (h : svL M v sz fr (dirtyL M) = (v1, 0)) (he : (flushV v1).2 = 0) : psaveV M v sz fr = ((clean M (dirtyL M), (flushV v1).1), 0) := by
  unfold psaveV; rw [h, if_neg (by simp), if_neg (by simpa using he)]
def pimS (M : Hd) (v : DevV) (sz fr B : Nat) (r : List UInt8 × Int) (k : Nat) : List UInt8 × Int := if r.2 = 0 then (if (pgetV M v sz fr B (k : Int)).2 = 0 then (r.1 ++ (pgetV M v sz fr B (k : Int)).1, 0) else ([], (pgetV M v sz fr B (k : Int)).2)) else r
def pimL (M : Hd) (v : DevV) (sz fr B : Nat) (j : Nat) : List UInt8 × Int := (List.range j).foldl (pimS M v sz fr B) ([], 0)
def pimV (M : Hd) (v : DevV) (sz fr B : Nat) : List UInt8 × Int := pimL M v sz fr B B
theorem pimL_succ (M : Hd) (v : DevV) (sz fr B j : Nat) : pimL M v sz fr B (j + 1) = pimS M v sz fr B (pimL M v sz fr B j) j := by
  unfold pimL; rw [List.range_succ, List.foldl_append]; rfl
theorem pimL_stuck {M : Hd} {v : DevV} {sz fr B i : Nat} (h : (pimL M v sz fr B i).2 ≠ 0) : ∀ j, i ≤ j → pimL M v sz fr B j = pimL M v sz fr B i := by
  intro j hj
  induction j with
  | zero => obtain rfl : i = 0 := by omega
            rfl
  | succ j ih =>
    by_cases e : i = j + 1
    · rw [e]
    · rw [pimL_succ, ih (by omega)]
      exact if_neg h
theorem pim_err {M : Hd} {v : DevV} {sz fr B i : Nat} {l : List UInt8} (h : pimL M v sz fr B i = (l, 0)) (hi : i < B) (he : (pgetV M v sz fr B (i : Int)).2 ≠ 0) : pimV M v sz fr B = ([], (pgetV M v sz fr B (i : Int)).2) := by
  have h1 : pimL M v sz fr B (i + 1) = ([], (pgetV M v sz fr B (i : Int)).2) := by
    rw [pimL_succ, h]; unfold pimS; rw [if_pos rfl, if_neg he]
  unfold pimV
  rw [pimL_stuck (i := i + 1) (by rw [h1]; exact he) B (by omega), h1]
theorem pim_next {M : Hd} {v : DevV} {sz fr B i : Nat} {l : List UInt8} (h : pimL M v sz fr B i = (l, 0)) (he : (pgetV M v sz fr B (i : Int)).2 = 0) : pimL M v sz fr B (i + 1) = (l ++ (pgetV M v sz fr B (i : Int)).1, 0) := by
  rw [pimL_succ, h]; unfold pimS; rw [if_pos rfl, if_pos he]
end Brv
/-
  The writes among the arguments of the laws on image.
-/
set_option linter.unusedVariables false
namespace Go.Proofs.Ytmbppidafnakhaa
open Go Brv
structure WriteV where
  mk ::
  (Block' : Int)
  (B'a : Option Addr) (B'n B'c : Nat) (B' : List UInt8)
def WriteV.cells (o : WriteV) : List Value := [.int .i64 o.Block', .slice o.B'a o.B'n o.B'c]
def WriteV.ok (w : World) (o : WriteV) : Prop := (Lit.int .i64 o.Block').wf = true ∧ (o.B'n ≤ o.B'c ∧ o.B'c ≤ 140737488351232 ∧ Bs w o.B'a o.B'n o.B')
theorem WriteV.ok.ext0 {w w' : World} {o : WriteV} (h : o.ok w) (he : Ext [] w w') : o.ok w' := by
  obtain ⟨h0, h1⟩ := h
  exact ⟨h0, ⟨h1.1, h1.2.1, h1.2.2.ext0 he⟩⟩
theorem WriteV.cells.length (o : WriteV) : o.cells.length = 2 := rfl
theorem WriteV.cells.one (o : WriteV) : ∀ u ∈ o.cells.toArray.toList, u.oneCell' = true := by
  intro u hu
  simp only [WriteV.cells, List.mem_cons, List.not_mem_nil, or_false] at hu
  rcases hu with rfl | rfl <;> rfl
set_option maxRecDepth 100000 in
theorem writeV_of {w : World} {f : Nat} {cs : List Value} (h : Rd Try.prog w f 68 cs) : ∃ o : WriteV, cs = o.cells ∧ o.ok w := by
  cases f with
  | zero => exact h.elim
  | succ f =>
    unfold Rd at h
    rw [Try.underlying68] at h
    obtain ⟨hl, hf⟩ := h
    rw [show Try.prog.cellsOf 68 = 2 from by kernel_rfl] at hl
    obtain ⟨v0, v1, rfl⟩ : ∃ v0 v1, cs = [v0, v1] := by
      match cs, hl with
      | [v0, v1], _ => exact ⟨v0, v1, rfl⟩
    have r0 : Rd Try.prog w f 3 (List.take (Try.prog.cellsOf 3) (List.drop 0 [v0, v1])) := hf 0 _ rfl
    rw [show Try.prog.cellsOf 3 = 1 from by kernel_rfl] at r0
    replace r0 : Rd Try.prog w f 3 [v0] := r0
    have r1 : Rd Try.prog w f 36 (List.take (Try.prog.cellsOf 36) (List.drop 1 [v0, v1])) := hf 1 _ rfl
    rw [show Try.prog.cellsOf 36 = 1 from by kernel_rfl] at r1
    replace r1 : Rd Try.prog w f 36 [v1] := r1
    obtain ⟨x0, e0, w0⟩ := r0.int
    cases e0
    obtain ⟨a1, n1, c1, l1, e1, z1, _, y1, b1⟩ := r1.bytes (by kernel_rfl) (by kernel_rfl)
    cases e1
    exact ⟨⟨x0, a1, n1, c1, l1⟩, rfl, ⟨w0, ⟨z1, y1, b1⟩⟩⟩
set_option maxRecDepth 100000 in
theorem writeV_rows22 {w : World} {f : Nat} {cs : List Value} (h : Rd Try.prog w f 22 cs) : ∃ a n c, ∃ os : List WriteV, cs = [.slice a n c] ∧ n ≤ c ∧ c * 32 ≤ 140737488351232 ∧ Tab w a n 2 (os.map WriteV.cells) ∧ ∀ o ∈ os, o.ok w := by
  cases f with
  | zero => exact h.elim
  | succ f =>
    unfold Rd at h
    rw [Try.underlying22] at h
    obtain ⟨a, n, c, rfl, hnc, _, hb, vss, hl, hcell, hv⟩ := h
    rw [show Try.prog.bytesOf 68 = 32 from by kernel_rfl] at hb
    have hex : ∃ os : List WriteV, vss = os.map WriteV.cells ∧ ∀ o ∈ os, o.ok w := by
      clear hcell hl
      induction vss with
      | nil => exact ⟨[], rfl, by simp⟩
      | cons vs r ih =>
        obtain ⟨o, rfl, ho⟩ := writeV_of (hv vs (by simp)).2
        obtain ⟨os, rfl, hos⟩ := ih (fun x hx => hv x (by simp [hx]))
        exact ⟨o :: os, rfl, fun x hx => (List.mem_cons.1 hx).elim (fun e => e ▸ ho) (hos x)⟩
    obtain ⟨os, rfl, hos⟩ := hex
    exact ⟨a, n, c, os, rfl, hnc, hb, ⟨hcell, hl.symm, fun vs hvs => by obtain ⟨o, _, rfl⟩ := List.mem_map.1 hvs; rfl⟩, hos⟩

end Go.Proofs.Ytmbppidafnakhaa
/-
  The walks of package image.
-/
set_option linter.unusedVariables false
set_option linter.unusedSimpArgs false
namespace Go.Proofs.Ytmbppidafnakhaa
open Go Brv Brv.Image
/-- The blocks of a disk. -/
structure Blks (w : World) (ps : List Nat) (x : List UInt8) : Prop where
  len : ps.length = dn x
  each : ∀ k (h : k < ps.length), Blk w ps[k] (vbs (blk x k)).toArray 124 (0, 0)
theorem Blks.ext0 {w w' : World} {ps : List Nat} {x : List UInt8} (h : Blks w ps x) (he : Ext [] w w') : Blks w' ps x := ⟨h.len, fun k hk => (h.each k hk).ext0 he⟩
theorem Blks.ext {w w' : World} {ps : List Nat} {x : List UInt8} {M : List Nat} (h : Blks w ps x) (he : Ext M w w') (hM : ∀ g ∈ M, ∃ cs, Blk w g cs 125 (0, 0)) : Blks w' ps x :=
  ⟨h.len, fun k hk => (h.each k hk).ext he (fun hm => let ⟨_, hb⟩ := hM _ hm; (h.each k hk).ne hb (by decide) rfl)⟩
structure DiskL (w : World) (d g c : Nat) (cur : Array Value) (ps : List Nat) (x : List UInt8) : Prop where
  hd : Blk w d #[.slice (some ⟨g, 0, none⟩) (dn x) c] 123 (0, 0)
  len : x.length = 64 * dn x
  pos : 1 ≤ dn x
  le : dn x ≤ 64
  hg : Blk w g cur 125 (0, 0)
  ht : cur.toList.take (dn x) = ps.map ptr
  hb : Blks w ps x
theorem DiskL.ext {w w' : World} {d g c : Nat} {cur : Array Value} {ps : List Nat} {x : List UInt8} {M : List Nat} (h : DiskL w d g c cur ps x) (he : Ext M w w') (hM : ∀ y ∈ d :: g :: ps, y ∉ M) : DiskL w' d g c cur ps x :=
  ⟨h.hd.ext he (hM d (by simp)), h.len, h.pos, h.le, h.hg.ext he (hM g (by simp)), h.ht, h.hb.len, fun k hk => (h.hb.each k hk).ext he (hM _ (by simp [List.getElem_mem]))⟩
theorem DiskL.ext0 {w w' : World} {d g c : Nat} {cur : Array Value} {ps : List Nat} {x : List UInt8} (h : DiskL w d g c cur ps x) (he : Ext [] w w') : DiskL w' d g c cur ps x := h.ext he (by simp)
theorem DiskL.lt {w : World} {d g c : Nat} {cur : Array Value} {ps : List Nat} {x : List UInt8} (h : DiskL w d g c cur ps x) : ∀ y ∈ d :: g :: ps, y < w.heap.size := by
  intro y hy
  rcases List.mem_cons.1 hy with rfl | hy
  · exact h.hd.lt
  rcases List.mem_cons.1 hy with rfl | hy
  · exact h.hg.lt
  obtain ⟨k, hk, rfl⟩ := List.mem_iff_getElem.1 hy
  exact (h.hb.each k hk).lt
theorem DiskL.ptr {w : World} {d g c : Nat} {cur : Array Value} {ps : List Nat} {x : List UInt8} (h : DiskL w d g c cur ps x) {k : Nat} (hk : k < dn x) : ∃ z, cur[k]? = some (Brv.ptr z) ∧ Blk w z (vbs (blk x k)).toArray 124 (0, 0) := by
  have hl := h.hb.len
  refine ⟨ps[k]'(by omega), ?_, h.hb.each k (by omega)⟩
  have e := congrArg (fun l : List Value => l[k]?) h.ht
  simp only [List.getElem?_take, if_pos hk, List.getElem?_map, Array.getElem?_toList] at e
  rw [e, List.getElem?_eq_getElem (show k < ps.length by omega)]
  rfl
theorem DiskL.cells {w : World} {d g c : Nat} {cur : Array Value} {ps : List Nat} {x : List UInt8} (h : DiskL w d g c cur ps x) : Cells w (some ⟨g, 0, none⟩) (ps.map Brv.ptr) :=
  Cells.of_blk h.hg 0 _ (fun j v hj => by
    rw [← h.ht, List.getElem?_take] at hj
    split at hj
    · simpa using hj
    · cases hj)
def DiskAt (w : World) (d : Nat) (x : List UInt8) : Prop := ∃ g c cur ps, DiskL w d g c cur ps x
theorem DiskAt.ext0 {w w' : World} {d : Nat} {x : List UInt8} (h : DiskAt w d x) (he : Ext [] w w') : DiskAt w' d x := by
  obtain ⟨g, c, cur, ps, h⟩ := h
  exact ⟨g, c, cur, ps, h.ext0 he⟩
/-- A new disk, that is written yet. -/
def OwnDisk (w : World) (s d : Nat) (x : List UInt8) : Prop := ∃ a c ps M, Blk w d #[.slice a (dn x) c] 123 (0, 0) ∧ s ≤ d ∧ x.length = 64 * dn x ∧ 1 ≤ dn x ∧ dn x ≤ 64 ∧ Own w 125 1 a (dn x) c (ps.map ptr) M ∧ (∀ g ∈ M, s ≤ g) ∧ Blks w ps x
theorem OwnDisk.at {w : World} {s d : Nat} {x : List UInt8} (h : OwnDisk w s d x) : DiskAt w d x := by
  obtain ⟨a, c, ps, M, h1, _, h2, h3, h4, ho, _, h5⟩ := h
  rcases ho.2 with ⟨_, h0, _, _⟩ | ⟨g, cur, rfl, _, hb, _, _, _, ht⟩
  · omega
  · rw [Nat.mul_one] at ht
    exact ⟨g, c, cur, ps, h1, h2, h3, h4, hb, ht, h5⟩
/-- A new disk, all of whose blocks are new. -/
def OwnDiskF (w : World) (s d : Nat) (x : List UInt8) : Prop := ∃ a c ps M, Blk w d #[.slice a (dn x) c] 123 (0, 0) ∧ s ≤ d ∧ x.length = 64 * dn x ∧ 1 ≤ dn x ∧ dn x ≤ 64 ∧ Own w 125 1 a (dn x) c (ps.map ptr) M ∧ (∀ g ∈ M, s ≤ g) ∧ Blks w ps x ∧ ∀ p ∈ ps, s ≤ p
theorem OwnDiskF.own {w : World} {s d : Nat} {x : List UInt8} (h : OwnDiskF w s d x) : OwnDisk w s d x := by
  obtain ⟨a, c, ps, M, h1, h2, h3, h4, h5, h6, h7, h8, _⟩ := h
  exact ⟨a, c, ps, M, h1, h2, h3, h4, h5, h6, h7, h8⟩
def DiskF (w : World) (s d : Nat) (x : List UInt8) : Prop := ∃ g c cur ps, DiskL w d g c cur ps x ∧ ∀ y ∈ d :: g :: ps, s ≤ y
theorem DiskF.at {w : World} {s d : Nat} {x : List UInt8} (h : DiskF w s d x) : DiskAt w d x := by
  obtain ⟨g, c, cur, ps, h, _⟩ := h
  exact ⟨g, c, cur, ps, h⟩
theorem OwnDiskF.f {w : World} {s d : Nat} {x : List UInt8} (h : OwnDiskF w s d x) : DiskF w s d x := by
  obtain ⟨a, c, ps, M, h1, hd, h2, h3, h4, ho, hM, h5, hp⟩ := h
  rcases ho.2 with ⟨_, h0, _, _⟩ | ⟨g, cur, rfl, hg, hb, _, _, _, ht⟩
  · omega
  · rw [Nat.mul_one] at ht
    refine ⟨g, c, cur, ps, ⟨h1, h2, h3, h4, hb, ht, h5⟩, fun y hy => ?_⟩
    rcases List.mem_cons.1 hy with rfl | hy
    · exact hd
    rcases List.mem_cons.1 hy with rfl | hy
    · exact hM _ (by rw [hg]; simp)
    · exact hp y hy
/-- A disk, or none. -/
def DiskO (w : World) (d : Option Addr) (x : List UInt8) : Prop := (d = none ∧ x = []) ∨ ∃ b, d = some ⟨b, 0, none⟩ ∧ DiskAt w b x
theorem DiskO.ext0 {w w' : World} {d : Option Addr} {x : List UInt8} (h : DiskO w d x) (he : Ext [] w w') : DiskO w' d x := h.imp id (fun ⟨b, h1, h2⟩ => ⟨b, h1, h2.ext0 he⟩)
theorem DiskAt.len {w : World} {b : Nat} {x : List UInt8} (h : DiskAt w b x) : x.length = 64 * dn x ∧ dn x ≤ 64 ∧ 1 ≤ dn x := by
  obtain ⟨g, c, cur, ps, h⟩ := h
  exact ⟨h.len, h.le, h.pos⟩
theorem DiskO.len {w : World} {d : Option Addr} {x : List UInt8} (h : DiskO w d x) : x.length = 64 * dn x ∧ dn x ≤ 64 := by
  rcases h with ⟨_, rfl⟩ | ⟨b, _, h⟩
  · exact ⟨rfl, by decide⟩
  · exact ⟨h.len.1, h.len.2.1⟩
theorem DiskO.no {w : World} : DiskO w Option.none [] := .inl ⟨rfl, rfl⟩
theorem DiskAt.o {w : World} {d : Nat} {x : List UInt8} (h : DiskAt w d x) : DiskO w (some ⟨d, 0, Option.none⟩) x := .inr ⟨d, rfl, h⟩
theorem DiskO.nil {w : World} {x : List UInt8} (h : DiskO w Option.none x) : x = [] := by
  rcases h with ⟨_, h⟩ | ⟨b, h, _⟩
  · exact h
  · cases h
theorem DiskO.got {w : World} {d : Option Addr} {x : List UInt8} (h : DiskO w d x) (hd : d.isNone = false) : ∃ b, d = some ⟨b, 0, Option.none⟩ ∧ DiskAt w b x := by
  rcases h with ⟨rfl, _⟩ | h
  · cases hd
  · exact h
theorem DiskO.pos {w : World} {d : Option Addr} {x : List UInt8} (h : DiskO w d x) (hd : 0 < dn x) : ∃ b, d = some ⟨b, 0, Option.none⟩ ∧ DiskAt w b x := by
  rcases h with ⟨_, rfl⟩ | h
  · exact absurd hd (by decide)
  · exact h

theorem izero_ok  (w : World) : Meets Try.prog 71 [] w (fun v w' => ∃ z, v = ptr z ∧ w.heap.size ≤ z ∧ Ext [] w w' ∧ Blk w' z (vbs (List.replicate 64 (0 : UInt8))).toArray 124 (0, 0)) := by
  refine Meets.enter Try.func71 rfl 2 rfl (Nat.le_of_ble_eq_true rfl) ?_
  refine G.seq ?_
  refine G.region ?_
  refine L.val rfl rfl (R.as rfl) ?_
  refine L.nil ?_
  refine N.seq ?_
  refine G.seq ?_
  refine G.region ?_
  refine L.do rfl rfl (R.alloc) ?_
  rintro _ w1 ⟨z, rfl, hz, hs1, e1, Z⟩
  refine L.val rfl rfl (R.as rfl) ?_
  refine L.nil ?_
  refine N.seq ?_
  refine G.ret1 rfl rfl ?_
  exact ⟨z, rfl, by omega, e1, Z⟩

theorem inew_okF (n : Nat) (w : World) (h1 : 1 ≤ n) (h2 : n ≤ 64) : Meets Try.prog 54 [.int .i64 (n : Int)] w (fun v w' => ∃ d, v = .tuple #[ptr d, .int .i64 0] ∧ Ext [] w w' ∧ OwnDiskF w' w.heap.size d (List.replicate (64 * n) 0)) := by
  refine Meets.enter Try.func54 rfl 16 rfl (Nat.le_of_ble_eq_true rfl) ?_
  have E := Ext.refl [] w
  refine G.seq ?_
  refine G.region ?_
  refine L.val rfl rfl (R.as rfl) ?_
  refine L.val rfl rfl (R.as rfl) ?_
  refine L.nil ?_
  refine N.seq ?_
  refine G.seq ?_
  refine G.seq ?_
  refine G.region ?_
  refine L.val rfl rfl (R.mv rfl) ?_
  refine L.val rfl rfl (R.lss rfl rfl) ?_
  refine L.val rfl rfl (R.mv rfl) ?_
  refine L.caseP 6 rfl (fun hg1_2 => ?_) (fun hg1_2 => ?_)
  · exfalso; omega
  · refine L.val rfl rfl (R.mv rfl) ?_
    refine L.val rfl rfl (R.gtr rfl rfl) ?_
    first | refine L.val rfl rfl (R.pickT rfl rfl) ?_ | refine L.val rfl rfl (R.pickF rfl rfl) ?_
    refine L.nil ?_
    refine N.seq ?_
    refine G.condP rfl (fun h0 => ?_) (fun h0 => ?_)
    · exfalso; omega
    · refine G.skip ?_
      refine N.seq ?_
      refine G.seq ?_
      refine G.region ?_
      refine L.callF rfl rfl rfl go71 (izero_ok _) ?_
      rintro _ w1 ⟨z, rfl, hz, e1, Z⟩
      have hE0 := E
      replace E := E.trans0 e1
      refine L.do rfl rfl (R.buildA rfl rfl rfl rfl rfl) ?_
      rintro _ w2 ⟨b11, rfl, hb11, hs11, e2, B11⟩
      replace E := E.trans0 e2
      replace Z := Z.ext0 e2
      refine L.val rfl rfl (R.mv rfl) ?_
      refine L.callF rfl rfl rfl go70 (prepeat_ok (some ⟨b11, 0, none⟩) 1 (ptr z) n _ (Cells.of_blk B11 0 _ (fun j v hj => by cases j with | zero => exact hj | succ j => simp at hj)) rfl (by omega) (by omega)) ?_
      rintro _ w3 ⟨a, c, M, rfl, e3, o3, hM3⟩
      have hE2 := E.size
      replace E := E.trans0 e3
      replace Z := Z.ext0 e3
      refine L.val rfl rfl (R.build (cs := #[.slice a n c]) rfl rfl) ?_
      refine L.do rfl rfl (R.box rfl) ?_
      rintro _ w4 ⟨d, rfl, hd, hs4, e4, B4⟩
      have hE3 := E.size
      replace E := E.trans0 e4
      replace Z := Z.ext0 e4
      replace o3 := o3.ext0 e4
      refine L.val rfl rfl (R.as rfl) ?_
      refine L.val rfl rfl (R.as rfl) ?_
      refine L.nil ?_
      refine N.seq ?_
      refine G.ret2 rfl rfl rfl ?_
      exact ⟨d, rfl, E, a, c, List.replicate n z, M, by rw [dn_zero]; exact B4, by omega, by rw [dn_zero]; simp, by rw [dn_zero]; omega, by rw [dn_zero]; omega, by rw [dn_zero, List.map_replicate]; exact o3, fun g hg => Nat.le_trans hE2 (hM3 g hg), ⟨by rw [dn_zero]; simp, fun k hk => by rw [List.getElem_replicate, blk_zero (by simpa using hk)]; exact Z⟩, fun p hp => by rw [(List.mem_replicate.1 hp).2]; exact hz⟩

theorem iblocks_ok (d : Option Addr) (x : List UInt8) (w : World) (hd : DiskO w d x) : Meets Try.prog 57 [.pointer d] w (fun v w' => v = .int .i64 (dn x : Int) ∧ w' = w) := by
  refine Meets.enter Try.func57 rfl 10 rfl (Nat.le_of_ble_eq_true rfl) ?_
  refine G.seq ?_
  refine G.region ?_
  refine L.val rfl rfl (R.as rfl) ?_
  refine L.nil ?_
  refine N.seq ?_
  refine G.seq ?_
  refine G.seq ?_
  refine G.region ?_
  refine L.val rfl rfl (R.mv rfl) ?_
  refine L.val rfl rfl (R.eqNilP rfl rfl) ?_
  refine L.nil ?_
  refine N.seq ?_
  refine G.condB rfl (fun h0 => ?_) (fun h0 => ?_)
  · obtain rfl : d = none := by simpa using h0
    obtain rfl := hd.nil
    refine G.seq ?_
    refine G.region ?_
    refine L.val rfl rfl (R.as rfl) ?_
    refine L.nil ?_
    refine N.seq ?_
    refine G.ret1 rfl rfl ?_
    exact ⟨rfl, rfl⟩
  · obtain ⟨b, rfl, g, c, cur, ps, D⟩ := hd.got (by simpa using h0)
    refine G.skip ?_
    refine N.seq ?_
    refine G.seq ?_
    refine G.region ?_
    refine L.val rfl rfl (R.mv rfl) ?_
    refine L.val rfl rfl (R.nilChk rfl) ?_
    refine L.val rfl rfl (R.fld rfl) ?_
    refine L.val rfl rfl (R.ldB rfl D.hd rfl) ?_
    refine L.val rfl rfl (R.lenS rfl) ?_
    refine L.val rfl rfl (R.as rfl) ?_
    refine L.nil ?_
    refine N.seq ?_
    refine G.ret1 rfl rfl ?_
    exact ⟨rfl, rfl⟩



end Go.Proofs.Ytmbppidafnakhaa
/-
  The walks of package image.
-/
set_option linter.unusedVariables false
set_option linter.unusedSimpArgs false
namespace Go.Proofs.Ytmbppidafnakhaa
open Go Brv Brv.Image
structure DfSt where
  i : Nat
  a1 : Option Addr
  c1 : Nat
  M : List Nat


end Go.Proofs.Ytmbppidafnakhaa
/-
  The walks of package image.
-/
set_option linter.unusedVariables false
set_option linter.unusedSimpArgs false
namespace Go.Proofs.Ytmbppidafnakhaa
open Go Brv Brv.Image
theorem getB_in {x : List UInt8} {j : Nat} (h : j < dn x) : getB x (j : Int) = blk x j := if_pos (show okK x j from ⟨by omega, by omega⟩)
theorem okK_nat (x : List UInt8) (j : Nat) : okK x (j : Int) ↔ j < dn x := ⟨fun h => by have := h.2; omega, fun h => ⟨by omega, by omega⟩⟩
theorem rget_ok (x : List UInt8) (k : Int) (w : World) (hx : x.length ≤ 4096) : Meets Try.prog 61 [.string (str x), .int .i64 k] w (fun v w' => v = .tuple #[.string (str (getB x k)), .bool (decide (okK x k))] ∧ w' = w) := by
  refine Meets.enter Try.func61 rfl 22 rfl (Nat.le_of_ble_eq_true rfl) ?_
  have hdx : dn x = x.length / 64 := rfl
  refine G.seq ?_
  refine G.region ?_
  refine L.val rfl rfl (R.as rfl) ?_
  refine L.val rfl rfl (R.as rfl) ?_
  refine L.nil ?_
  refine N.seq ?_
  refine G.seq ?_
  refine G.seq ?_
  refine G.region ?_
  refine L.val rfl rfl (R.mv rfl) ?_
  refine L.val rfl rfl (R.lss rfl rfl) ?_
  refine L.val rfl rfl (R.mv rfl) ?_
  refine L.caseP 8 rfl (fun hg1_2 => ?_) (fun hg1_2 => ?_)
  · have hn : ¬ okK x k := fun h => (by have := h.1; omega)
    refine L.pass rfl rfl ?_
    refine L.pass rfl rfl ?_
    refine L.pass rfl rfl ?_
    refine L.pass rfl rfl ?_
    refine L.pass rfl rfl ?_
    first | refine L.val rfl rfl (R.pickT rfl rfl) ?_ | refine L.val rfl rfl (R.pickF rfl rfl) ?_
    refine L.nil ?_
    refine N.seq ?_
    refine G.condT rfl ?_
    refine G.seq ?_
    refine G.region ?_
    refine L.val rfl rfl (R.as rfl) ?_
    refine L.val rfl rfl (R.as rfl) ?_
    refine L.nil ?_
    refine N.seq ?_
    refine G.ret2 rfl rfl rfl ?_
    first | (rw [show getB x k = [] from if_neg hn, decide_eq_false hn]; exact ⟨rfl, rfl⟩) | (rw [getB_in hj, decide_eq_true hok]; exact ⟨rfl, rfl⟩)
  · refine L.val rfl rfl (R.mv rfl) ?_
    refine L.val rfl rfl (R.mv rfl) ?_
    refine L.val rfl rfl (R.lenT rfl) ?_
    refine L.val rfl rfl (R.quo rfl rfl (by omega) (by omega)) ?_
    refine L.val rfl rfl (R.geq rfl rfl) ?_
    first | refine L.val rfl rfl (R.pickT rfl rfl) ?_ | refine L.val rfl rfl (R.pickF rfl rfl) ?_
    refine L.nil ?_
    refine N.seq ?_
    refine G.condP rfl (fun h0 => ?_) (fun h0 => ?_)
    · have hn : ¬ okK x k := fun h => (by have := h.2; omega)
      refine G.seq ?_
      refine G.region ?_
      refine L.val rfl rfl (R.as rfl) ?_
      refine L.val rfl rfl (R.as rfl) ?_
      refine L.nil ?_
      refine N.seq ?_
      refine G.ret2 rfl rfl rfl ?_
      first | (rw [show getB x k = [] from if_neg hn, decide_eq_false hn]; exact ⟨rfl, rfl⟩) | (rw [getB_in hj, decide_eq_true hok]; exact ⟨rfl, rfl⟩)
    · have hok : okK x k := ⟨by omega, by omega⟩
      obtain ⟨j, rfl⟩ := Int.eq_ofNat_of_zero_le hok.1
      have hj : j < dn x := (okK_nat x j).1 hok
      refine G.skip ?_
      refine N.seq ?_
      refine G.seq ?_
      refine G.region ?_
      refine L.val rfl rfl (R.mv rfl) ?_
      refine L.val rfl rfl (R.mv rfl) ?_
      refine L.val rfl rfl (R.mul rfl rfl (by omega)) ?_
      refine L.val rfl rfl (R.mv rfl) ?_
      refine L.val rfl rfl (R.mul rfl rfl (by omega)) ?_
      refine L.val rfl rfl (R.add rfl rfl (by omega)) ?_
      refine L.val rfl rfl (R.slStr rfl rfl rfl (by omega) (by omega) (by omega)) ?_
      refine L.be 21 rfl (show _ = Value.string (str (blk x j)) by rw [show (64 * (j : Int)).toNat = 64 * j by omega, show (64 * (j : Int) + 64).toNat = 64 * j + 64 by omega, List.drop_take, Nat.add_sub_cancel_left]; rfl) ?_
      refine L.val rfl rfl (R.as rfl) ?_
      refine L.val rfl rfl (R.as rfl) ?_
      refine L.nil ?_
      refine N.seq ?_
      refine G.ret2 rfl rfl rfl ?_
      first | (rw [show getB x k = [] from if_neg hn, decide_eq_false hn]; exact ⟨rfl, rfl⟩) | (rw [getB_in hj, decide_eq_true hok]; exact ⟨rfl, rfl⟩)

theorem rzero_ok (n : Nat) (w : World) (hn : n ≤ 64) : Meets Try.prog 43 [.int .i64 (n : Int)] w (fun v w' => v = .string (str (List.replicate (64 * n) 0)) ∧ Ext [] w w') := by
  refine Meets.enter Try.func43 rfl 7 rfl (Nat.le_of_ble_eq_true rfl) ?_
  have E := Ext.refl [] w
  refine G.seq ?_
  refine G.region ?_
  refine L.val rfl rfl (R.as rfl) ?_
  refine L.nil ?_
  refine N.seq ?_
  refine G.seq ?_
  refine G.region ?_
  refine L.val rfl rfl (R.mv rfl) ?_
  refine L.val rfl rfl (R.mul rfl rfl (by omega)) ?_
  refine L.do rfl rfl (R.make rfl rfl (by omega) (by omega) (by omega) (by omega)) ?_
  rintro _ w1 ⟨b5, rfl, hb5, hs5, e1, B5⟩
  replace E := E.trans0 e1
  have L5 := Bs.of_blk B5 (List.replicate (64 * n) 0) (by rw [show (64 * (n : Int)).toNat * 1 = 64 * n by omega]; exact madeCells_bytes _) (64 * (n : Int)).toNat (by rw [List.length_replicate]; omega)
  refine L.val rfl rfl (R.bytesStr rfl L5.cells L5.len) ?_
  refine L.val rfl rfl (R.as rfl) ?_
  refine L.nil ?_
  refine N.seq ?_
  refine G.ret1 rfl rfl ?_
  exact ⟨rfl, E⟩


end Go.Proofs.Ytmbppidafnakhaa
/-
  The walks of package image.
-/
set_option linter.unusedVariables false
set_option linter.unusedSimpArgs false
namespace Go.Proofs.Ytmbppidafnakhaa
open Go Brv Brv.Image
def wv (o : WriteV) : Int × List UInt8 := (o.Block', o.B')


theorem rwith_ok (x : List UInt8) (la : Option Addr) (ln lc : Nat) (ws : List WriteV) (w : World) (hx : x.length ≤ 4096) (hT : Tab w la ln 2 (ws.map WriteV.cells)) (hO : ∀ o ∈ ws, Bs w o.B'a o.B'n o.B') (hln : ln ≤ 1000000) : Meets Try.prog 42 [.string (str x), .slice la ln lc] w (fun v w' => v = .tuple #[.string (str (withF x (ws.map wv)).1), .int .i64 (withF x (ws.map wv)).2] ∧ Ext [] w w') := by
  refine Meets.enter Try.func42 rfl 47 rfl (Nat.le_of_ble_eq_true rfl) ?_
  have E := Ext.refl [] w
  have hn := hT.len
  rw [List.length_map] at hn
  have hdx : dn x = x.length / 64 := rfl
  refine G.seq ?_
  refine G.region ?_
  refine L.val rfl rfl (R.as rfl) ?_
  refine L.val rfl rfl (R.as rfl) ?_
  refine L.nil ?_
  refine N.seq ?_
  refine G.seq ?_
  refine G.seq ?_
  refine G.region ?_
  refine L.val rfl rfl (R.mv rfl) ?_
  refine L.val rfl rfl (R.lenS rfl) ?_
  refine L.val rfl rfl (R.mv rfl) ?_
  refine L.nil ?_
  refine N.seq ?_
  refine G.block ?_
  refine G.loop (X := Nat × List UInt8) (fun s => [(0, .string (str s.2)), (1, .slice la ln lc), (10, .slice la ln lc), (11, .int .i64 (ln : Int)), (12, .int .i64 (s.1 : Int))]) (fun s w' => s.1 ≤ ln ∧ s.2.length = x.length ∧ withF x (ws.map wv) = withF s.2 ((ws.map wv).drop s.1) ∧ Ext [] w w') (fun s => ln - s.1) ((0, x)) (Sub.cons rfl (Sub.cons rfl (Sub.cons rfl (Sub.cons rfl (Sub.cons rfl (Sub.nil _)))))) ⟨Nat.zero_le _, rfl, rfl, E⟩ ?_
  rintro ⟨i, y⟩ w1 ⟨hi, hyl, hiw, E⟩
  dsimp only at hi hyl hiw
  refine G.sub [(0, .string (str y)), (1, .slice la ln lc), (10, .slice la ln lc), (11, .int .i64 (ln : Int)), (12, .int .i64 (i : Int))] (Sub.cons rfl (Sub.cons rfl (Sub.cons rfl (Sub.cons rfl (Sub.cons rfl (Sub.nil _)))))) ?_
  have hdy : dn y = x.length / 64 := by unfold dn; rw [hyl]
  refine G.seq ?_
  refine G.region ?_
  refine L.val rfl rfl (R.lss rfl rfl) ?_
  refine L.nil ?_
  refine N.seq ?_
  refine G.seq ?_
  refine G.condP rfl (fun h0 => ?_) (fun h0 => ?_)
  · refine G.skip ?_
    refine N.seq ?_
    refine G.seq ?_
    refine G.block ?_
    refine G.seq ?_
    refine G.region ?_
    have hdr : (ws.map wv).drop i = wv (ws[i]'(by omega)) :: (ws.map wv).drop (i + 1) := by rw [List.drop_eq_getElem_cons (by rw [List.length_map]; omega), List.getElem_map]
    obtain ⟨q9, hq9, hcl⟩ := hT.at (by decide) i (by rw [List.length_map]; omega)
    rw [List.getElem_map] at hcl
    have hok' := hO _ (List.getElem_mem (show i < ws.length by omega))
    generalize hoe : ws[i]'(by omega) = o at *
    refine L.val rfl rfl (R.idx rfl rfl (by omega) (by omega) q9 hq9) ?_
    refine L.val rfl rfl (R.ldN rfl (hcl.ext0 E) rfl) ?_
    refine L.do rfl rfl (R.alloc) ?_
    rintro _ w2 ⟨b9, rfl, hb9, hs9, e2, B9⟩
    have hEb := E.size
    replace E := E.trans0 e2
    refine L.set rfl (R.stN rfl rfl B9 rfl (Nat.le_refl 2) (WriteV.cells.one _)) ?_
    rintro w3 ⟨e3, hs3, B9⟩
    replace B9 : Blk w3 b9 o.cells.toArray 68 (0, 0) := B9
    replace E := E.trans e3 (M := []) (by simp) (by intro x hx; rw [List.mem_singleton.1 hx]; exact .inr (by omega))
    refine L.nil ?_
    refine N.seq ?_
    refine G.seq ?_
    refine G.region ?_
    refine L.val rfl rfl (R.mv rfl) ?_
    refine L.val rfl rfl (R.fld rfl) ?_
    refine L.val rfl rfl (R.ldB rfl B9 rfl) ?_
    refine L.callF rfl rfl rfl go61 (rget_ok y o.Block' _ (by omega)) ?_
    rintro _ _ ⟨rfl, hw⟩
    obtain rfl := hw.symm
    refine L.val rfl rfl (R.mv rfl) ?_
    refine L.val rfl rfl (R.ext rfl rfl) ?_
    refine L.val rfl rfl (R.ext rfl rfl) ?_
    refine L.val rfl rfl (R.as rfl) ?_
    refine L.val rfl rfl (R.as rfl) ?_
    refine L.nil ?_
    refine N.seq ?_
    refine G.seq ?_
    refine G.seq ?_
    refine G.region ?_
    refine L.val rfl rfl (R.mv rfl) ?_
    refine L.val rfl rfl (R.not rfl) ?_
    refine L.be 24 rfl (show _ = Value.bool (decide (¬ okK y o.Block')) by simp) ?_
    refine L.nil ?_
    refine N.seq ?_
    refine G.condP rfl (fun h1 => ?_) (fun h1 => ?_)
    · have hw2 : withF x (ws.map wv) = ([], 41) := by rw [hiw, hdr]; exact withF_blk (by show o.Block' < 0 ∨ (dn y : Int) ≤ o.Block'; unfold okK at h1; omega)
      refine G.seq ?_
      refine G.region ?_
      refine L.val rfl rfl (R.as rfl) ?_
      refine L.val rfl rfl (R.as rfl) ?_
      refine L.nil ?_
      refine N.seq ?_
      refine G.ret2 rfl rfl rfl ?_
      rw [hw2]; exact ⟨rfl, E⟩
    · have hok : okK y o.Block' := Classical.not_not.1 h1
      obtain ⟨j, hj0⟩ := Int.eq_ofNat_of_zero_le hok.1
      have hj : j < dn y := by have := hok.2; omega
      have hBs := hok'
      have hBl := hBs.len
      refine G.skip ?_
      refine N.seq ?_
      refine G.seq ?_
      refine G.seq ?_
      refine G.region ?_
      refine L.val rfl rfl (R.fld rfl) ?_
      refine L.val rfl rfl (R.ldB rfl B9 rfl) ?_
      refine L.val rfl rfl (R.lenS rfl) ?_
      refine L.val rfl rfl (R.neI rfl rfl) ?_
      refine L.nil ?_
      refine N.seq ?_
      refine G.condP rfl (fun h2 => ?_) (fun h2 => ?_)
      · have hw2 : withF x (ws.map wv) = ([], 42) := by rw [hiw, hdr]; exact withF_size (by show ¬ (o.Block' < 0 ∨ (dn y : Int) ≤ o.Block'); omega) (by show o.B'.length ≠ 64; omega)
        refine G.seq ?_
        refine G.region ?_
        refine L.val rfl rfl (R.as rfl) ?_
        refine L.val rfl rfl (R.as rfl) ?_
        refine L.nil ?_
        refine N.seq ?_
        refine G.ret2 rfl rfl rfl ?_
        rw [hw2]; exact ⟨rfl, E⟩
      · have h64 : o.B'.length = 64 := by omega
        have hw2 : withF x (ws.map wv) = withF (laid y j o.B') ((ws.map wv).drop (i + 1)) := by rw [hiw, hdr, withF_next (by show ¬ (o.Block' < 0 ∨ (dn y : Int) ≤ o.Block'); omega) h64]; rw [show (wv o).1.toNat = j by show o.Block'.toNat = j; omega]; rfl
        refine G.skip ?_
        refine N.seq ?_
        refine G.quiet (by decide +kernel) rfl ?_
        refine Q.val rfl rfl rfl rfl (fun w4 hE => R.mv rfl) ?_
        refine Q.val rfl rfl rfl rfl (fun w4 hE => R.fld rfl) ?_
        refine Q.val rfl rfl rfl rfl (fun w4 hE => R.ldB rfl (B9.ext0 hE) rfl) ?_
        refine Q.val rfl rfl rfl rfl (fun w4 hE => R.mul rfl rfl (by omega)) ?_
        refine Q.val rfl rfl rfl rfl (fun w4 hE => R.slStrH rfl rfl (by omega) (by omega)) ?_
        refine Q.val rfl rfl rfl rfl (fun w4 hE => R.fld rfl) ?_
        refine Q.val rfl rfl rfl rfl (fun w4 hE => R.ldB rfl (B9.ext0 hE) rfl) ?_
        refine Q.val rfl rfl rfl rfl (fun w4 hE => R.bytesStr rfl (hBs.ext0 (E.trans0 hE)).cells hBl) ?_
        refine Q.val rfl rfl rfl rfl (fun w4 hE => R.addStr rfl rfl (by rw [List.length_take]; omega)) ?_
        refine Q.val rfl rfl rfl rfl (fun w4 hE => R.mv rfl) ?_
        refine Q.val rfl rfl rfl rfl (fun w4 hE => R.fld rfl) ?_
        refine Q.val rfl rfl rfl rfl (fun w4 hE => R.ldB rfl (B9.ext0 hE) rfl) ?_
        refine Q.val rfl rfl rfl rfl (fun w4 hE => R.mul rfl rfl (by omega)) ?_
        refine Q.val rfl rfl rfl rfl (fun w4 hE => R.add rfl rfl (by omega)) ?_
        refine Q.val rfl rfl rfl rfl (fun w4 hE => R.slStrL rfl rfl (by omega) (by omega)) ?_
        refine Q.val rfl rfl rfl rfl (fun w4 hE => R.addStr rfl rfl (by simp only [List.length_append, List.length_take, List.length_drop]; omega)) ?_
        refine Q.be 44 rfl (show _ = Value.string (str (laid y j o.B')) by rw [show (64 * o.Block').toNat = 64 * j by omega, show (64 * o.Block' + 64).toNat = 64 * j + 64 by omega]; rfl) ?_
        refine Q.val rfl rfl rfl rfl (fun w4 hE => R.as rfl) ?_
        refine Q.nil (fun w4 e4 => ?_)
        replace E := E.trans0 e4
        refine N.block ?_
        refine N.seq ?_
        refine G.region ?_
        refine L.val rfl rfl (R.add rfl rfl (by omega)) ?_
        refine L.val rfl rfl (R.mv rfl) ?_
        refine L.nil ?_
        exact N.again (i + 1, laid y j o.B') (by show ln - (i + 1) < ln - i; omega) (Sub.cons rfl (Sub.cons rfl (Sub.cons rfl (Sub.cons rfl (Sub.cons rfl (Sub.nil _)))))) ⟨by show i + 1 ≤ ln; omega, (laid_length h64 hj).trans hyl, hw2, E⟩
  · have hw2 : withF x (ws.map wv) = (y, 0) := by rw [hiw, List.drop_of_length_le (by rw [List.length_map]; omega)]; rfl
    refine G.exit _ rfl ?_
    refine N.seq ?_
    refine G.seq ?_
    refine G.region ?_
    refine L.val rfl rfl (R.mv rfl) ?_
    refine L.val rfl rfl (R.as rfl) ?_
    refine L.val rfl rfl (R.as rfl) ?_
    refine L.nil ?_
    refine N.seq ?_
    refine G.ret2 rfl rfl rfl ?_
    rw [hw2]; exact ⟨rfl, E⟩

end Go.Proofs.Ytmbppidafnakhaa
/-
  The walks of package image.
-/
set_option linter.unusedVariables false
set_option linter.unusedSimpArgs false
namespace Go.Proofs.Ytmbppidafnakhaa
open Go Brv Brv.Image
theorem Blks.put {w w' : World} {qs : List Nat} {y s : List UInt8} {gl j z : Nat} {cur : Array Value} (h : Blks w qs y) (he : Ext [gl] w w') (hl : Blk w gl cur 125 (0, 0)) (hz : Blk w z (vbs s).toArray 124 (0, 0)) (hs : s.length = 64) (hj : j < dn y) : Blks w' (qs.set j z) (laid y j s) := by
  refine ⟨by rw [List.length_set, laid_dn hs hj]; exact h.len, fun k hk => ?_⟩
  rw [List.length_set] at hk
  rw [laid_blk hs hj, List.getElem_set]
  by_cases e : j = k
  · subst e
    rw [if_pos rfl, if_pos rfl]
    exact hz.ext he (fun hm => hz.ne hl (by decide) (List.mem_singleton.1 hm))
  · rw [if_neg e, if_neg (fun e' => e e'.symm)]
    exact (h.each k hk).ext he (fun hm => (h.each k hk).ne hl (by decide) (List.mem_singleton.1 hm))



end Go.Proofs.Ytmbppidafnakhaa
/-
  The walks of package order.
-/
set_option linter.unusedVariables false
set_option linter.unusedSimpArgs false
set_option maxRecDepth 4000
namespace Go.Proofs.Ytmbppidafnakhaa
open Go Brv
theorem nanI_ok (x : Int) (w : World) : Meets Try.prog 74 [.int .i64 x] w (fun v w' => v = .bool false ∧ w' = w) := by
  refine Meets.enter Try.func74 rfl 6 rfl (Nat.le_of_ble_eq_true rfl) ?_
  refine G.seq ?_
  refine G.region ?_
  refine L.val rfl rfl (R.as rfl) ?_
  refine L.nil ?_
  refine N.seq ?_
  refine G.seq ?_
  refine G.region ?_
  refine L.val rfl rfl (R.mv rfl) ?_
  refine L.val rfl rfl (R.mv rfl) ?_
  refine L.val rfl rfl (R.neI rfl rfl) ?_
  refine L.val rfl rfl (R.as rfl) ?_
  refine L.nil ?_
  refine N.seq ?_
  refine G.ret1 rfl rfl ?_
  exact ⟨congrArg Value.bool (by simp), rfl⟩

theorem cmpI_ok (x y : Int) (w : World) : Meets Try.prog 66 [.int .i64 x, .int .i64 y] w (fun v w' => v = .int .i64 (cmpF x y) ∧ w' = w) := by
  refine Meets.enter Try.func66 rfl 20 rfl (Nat.le_of_ble_eq_true rfl) ?_
  refine G.seq ?_
  refine G.region ?_
  refine L.val rfl rfl (R.as rfl) ?_
  refine L.nil ?_
  refine N.seq ?_
  refine G.seq ?_
  refine G.region ?_
  refine L.val rfl rfl (R.mv rfl) ?_
  refine L.callF rfl rfl rfl go74 (nanI_ok _ _) ?_
  rintro _ _ ⟨rfl, hw⟩
  obtain rfl := hw.symm
  refine L.val rfl rfl (R.as rfl) ?_
  refine L.nil ?_
  refine N.seq ?_
  refine G.seq ?_
  refine G.region ?_
  refine L.val rfl rfl (R.mv rfl) ?_
  refine L.callF rfl rfl rfl go74 (nanI_ok _ _) ?_
  rintro _ _ ⟨rfl, hw⟩
  obtain rfl := hw.symm
  refine L.val rfl rfl (R.as rfl) ?_
  refine L.nil ?_
  refine N.seq ?_
  refine G.seq ?_
  refine G.seq ?_
  refine G.region ?_
  refine L.val rfl rfl (R.mv rfl) ?_
  refine L.nil ?_
  refine N.seq ?_
  refine G.condF rfl ?_
  refine G.skip ?_
  refine N.seq ?_
  refine G.seq ?_
  refine G.seq ?_
  refine G.region ?_
  refine L.val rfl rfl (R.mv rfl) ?_
  refine L.nil ?_
  refine N.seq ?_
  refine G.condF rfl ?_
  refine G.skip ?_
  refine N.seq ?_
  refine G.seq ?_
  refine G.seq ?_
  refine G.region ?_
  refine L.val rfl rfl (R.mv rfl) ?_
  refine L.val rfl rfl (R.mv rfl) ?_
  refine L.val rfl rfl (R.lss rfl rfl) ?_
  refine L.nil ?_
  refine N.seq ?_
  refine G.condB rfl (fun h3 => ?_) (fun h3 => ?_)
  · refine G.seq ?_
    refine G.region ?_
    refine L.val rfl rfl (R.as rfl) ?_
    refine L.nil ?_
    refine N.seq ?_
    refine G.ret1 rfl rfl ?_
    first
      | exact ⟨congrArg (Value.int .i64) (cmpF_lt (show Key.lt x y = true from h3)).symm, rfl⟩
      | exact ⟨congrArg (Value.int .i64) (cmpF_gt (show Key.lt x y = false from h3) (show Key.lt y x = true from h4)).symm, rfl⟩
      | exact ⟨congrArg (Value.int .i64) (cmpF_eq (show Key.lt x y = false from h3) (show Key.lt y x = false from h4)).symm, rfl⟩
  · refine G.skip ?_
    refine N.seq ?_
    refine G.seq ?_
    refine G.seq ?_
    refine G.region ?_
    refine L.val rfl rfl (R.mv rfl) ?_
    refine L.val rfl rfl (R.mv rfl) ?_
    refine L.val rfl rfl (R.gtr rfl rfl) ?_
    refine L.nil ?_
    refine N.seq ?_
    refine G.condB rfl (fun h4 => ?_) (fun h4 => ?_)
    · refine G.seq ?_
      refine G.region ?_
      refine L.val rfl rfl (R.as rfl) ?_
      refine L.nil ?_
      refine N.seq ?_
      refine G.ret1 rfl rfl ?_
      first
        | exact ⟨congrArg (Value.int .i64) (cmpF_lt (show Key.lt x y = true from h3)).symm, rfl⟩
        | exact ⟨congrArg (Value.int .i64) (cmpF_gt (show Key.lt x y = false from h3) (show Key.lt y x = true from h4)).symm, rfl⟩
        | exact ⟨congrArg (Value.int .i64) (cmpF_eq (show Key.lt x y = false from h3) (show Key.lt y x = false from h4)).symm, rfl⟩
    · refine G.skip ?_
      refine N.seq ?_
      refine G.seq ?_
      refine G.region ?_
      refine L.val rfl rfl (R.as rfl) ?_
      refine L.nil ?_
      refine N.seq ?_
      refine G.ret1 rfl rfl ?_
      first
        | exact ⟨congrArg (Value.int .i64) (cmpF_lt (show Key.lt x y = true from h3)).symm, rfl⟩
        | exact ⟨congrArg (Value.int .i64) (cmpF_gt (show Key.lt x y = false from h3) (show Key.lt y x = true from h4)).symm, rfl⟩
        | exact ⟨congrArg (Value.int .i64) (cmpF_eq (show Key.lt x y = false from h3) (show Key.lt y x = false from h4)).symm, rfl⟩

end Go.Proofs.Ytmbppidafnakhaa
