/-
  Texts of this claim, put together.
-/
import Derived.Test.YtiiiplhfgblamaaTxnPLz2
/-
  Regions that draw their order, where those that turn the world stand in no chain: a walk for every order of these.
-/
set_option linter.unusedVariables false
set_option linter.unusedSimpArgs false
namespace Brv
open Go
/-- Which operation comes next: one that only reads, or any of those that turn the world. -/
inductive Tr where
  | nil
  | flo (i : Nat) (t : Tr)
  | alt (i : Nat) (t r : Tr)
  | stop
def Tr.choices : Tr → List Nat
  | .alt i _ r => i :: r.choices
  | _ => []
section
variable (P : Program) (n : Fm) (ops : List Oper) (Q : Exit → Act → World → Prop) (o : Org)
def TW : Tr → Pend → Env → List Asn → Prop
  | .nil, _, ρ, H => ∀ w F S, St H F S w → From o w F S → ∀ a, Fr n ρ a → Q .normal a w
  | .flo i t, pend, ρ, H => (∃ w F S, St H F S w ∧ From o w F S) → ∃ op, ops[i]? = some op ∧ isSelect op.op = false ∧ (∀ d, op.dst = some d → d < n.n) ∧ ∃ v, op.dst ≠ none ∧ ((∀ w, Fl P n ops ρ w op v) ∧ TW t pend (extE op.dst v ρ) H ∨
        ∃ g : List Asn → Prop, g H ∧ (∀ H w F S, g H → St H F S w → From o w F S → Fl P n ops ρ w op v) ∧ TW t ((i, g) :: pend) (extE op.dst v ρ) H)
  | .alt i t r, pend, ρ, H => ((∃ w F S, St H F S w ∧ From o w F S) → ∃ op, ops[i]? = some op ∧ isSelect op.op = false ∧ (∀ d, op.dst = some d → d < n.n) ∧ ∃ Ψ : Value → List Asn → Prop, ((wants ops ρ op.guard = some true ∧ CS P n o ρ H op Ψ) ∨ (wants ops ρ op.guard = some false ∧ Ψ = fun v H' => v = undef ∧ H' = H)) ∧
        ∀ v H', Ψ v H' → Obl ops i pend H' ∧ TW t pend (extE op.dst v ρ) H') ∧ TW r pend ρ H
  | .stop, _, _, _ => True
end
/-- Are all the others held back? -/
def chkC (ops : List Oper) (done : List Nat) : Tr → Bool
  | .nil => true
  | .flo _ _ => true
  | .stop => false
  | t => (List.range ops.length).all fun x => done.any (Nat.beq x) || t.choices.any (Nat.beq x) || t.choices.any (fun c => reachIn (masks ops ops.length) x c)
def chkT (ops : List Oper) : List Nat → Tr → Bool
  | done, .nil => (List.range ops.length).all fun i => done.any (Nat.beq i)
  | done, .flo i t => Nat.blt i ops.length && !done.any (Nat.beq i) && (afters ops i).all (fun k => done.any (Nat.beq k)) && chkC ops (i :: done) t && chkT ops (i :: done) t
  | done, .alt i t r => Nat.blt i ops.length && !done.any (Nat.beq i) && (afters ops i).all (fun k => done.any (Nat.beq k)) && chkC ops (i :: done) t && chkT ops (i :: done) t && chkT ops done r
  | _, .stop => true
section
variable {P : Program} {n : Fm} {ops : List Oper} {Q : Exit → Act → World → Prop} {o : Org}
theorem chkT_choice : ∀ {t : Tr} {done : List Nat}, chkT ops done t = true → ∀ c ∈ t.choices, c < ops.length ∧ c ∉ done ∧ ∀ k ∈ afters ops c, k ∈ done
  | .nil, _, _, c, hc => by cases hc
  | .flo _ _, _, _, c, hc => by cases hc
  | .stop, _, _, c, hc => by cases hc
  | .alt i t r, done, h, c, hc => by
    simp only [chkT, Bool.and_eq_true, Bool.not_eq_true', Nat.blt_eq] at h
    obtain ⟨⟨⟨⟨⟨h1, h2⟩, h3⟩, h4⟩, h5⟩, h6⟩ := h
    rcases List.mem_cons.1 hc with rfl | hc
    · exact ⟨h1, (fun hm => by have := any_beq.2 hm; rw [h2] at this; cases this), fun k hk => any_beq.1 (List.all_eq_true.1 h3 k hk)⟩
    · exact chkT_choice h6 c hc
theorem TW.pick : ∀ {t : Tr} {pend : Pend} {ρ : Env} {H : List Asn} {done : List Nat} {i : Nat}, TW P n ops Q o t pend ρ H → chkT ops done t = true → i ∈ t.choices → ∃ u, ((∀ k ∈ afters ops i, k ∈ done) ∧ chkC ops (i :: done) u = true ∧ chkT ops (i :: done) u = true) ∧
      ((∃ w F S, St H F S w ∧ From o w F S) → ∃ op, ops[i]? = some op ∧ isSelect op.op = false ∧ (∀ d, op.dst = some d → d < n.n) ∧ ∃ Ψ : Value → List Asn → Prop, ((wants ops ρ op.guard = some true ∧ CS P n o ρ H op Ψ) ∨ (wants ops ρ op.guard = some false ∧ Ψ = fun v H' => v = undef ∧ H' = H)) ∧
        ∀ v H', Ψ v H' → Obl ops i pend H' ∧ TW P n ops Q o u pend (extE op.dst v ρ) H')
  | .nil, _, _, _, _, _, _, _, hi => by cases hi
  | .flo _ _, _, _, _, _, _, _, _, hi => by cases hi
  | .stop, _, _, _, _, _, _, _, hi => by cases hi
  | .alt j t r, pend, ρ, H, done, i, hsw, h, hi => by
    have h0 := h
    simp only [chkT, Bool.and_eq_true, Bool.not_eq_true', Nat.blt_eq] at h
    obtain ⟨⟨⟨⟨⟨h1, h2⟩, h3⟩, h4⟩, h5⟩, h6⟩ := h
    simp only [TW] at hsw
    by_cases hij : i = j
    · subst hij
      exact ⟨t, ⟨fun k hk => any_beq.1 (List.all_eq_true.1 h3 k hk), h4, h5⟩, hsw.1⟩
    · exact TW.pick hsw.2 h6 ((List.mem_cons.1 hi).resolve_left hij)
/-- What is so while the region runs. -/
structure TInv (P : Program) (n : Fm) (ops : List Oper) (Q : Exit → Act → World → Prop) (o : Org) (ρ₀ : Env) (listed : Array Bool) (a : Act) (w : World) (done : List Nat) (t₀ : Tr) (pend : Pend) (H : List Asn) (F S : List Nat) (val : Nat → Value) : Prop where
  lsz : listed.size = ops.length
  tsz : a.tmps.size = n.n
  tdf : a.defers = n.df
  closed : Closed ops (fun i => listed[i]? = some true)
  ok : DoneOk ops done
  ordC : chkC ops done t₀ = true
  ordT : chkT ops done t₀ = true
  sw : TW P n ops Q o t₀ pend (envOf ops val ρ₀ done) H
  st : St H F S w
  fr : From o w F S
  ldone : ∀ i, listed[i]? = some true → i ∈ done
  pok : ∀ (i : Nat) (op : Oper), i ∈ done → listed[i]? ≠ some true → ops[i]? = some op → isSelect op.op = false ∧ (∀ d, op.dst = some d → d < n.n) ∧ op.dst ≠ none ∧ ((∀ w, Fl P n ops (envB ops val ρ₀ i done) w op (val i)) ∨ ∃ g : List Asn → Prop, (i, g) ∈ pend ∧ g H ∧ ∀ H w F S, g H → St H F S w → From o w F S → Fl P n ops (envB ops val ρ₀ i done) w op (val i))
  d1 : ∀ (i : Nat) (op : Oper) (d : Nat), listed[i]? = some true → ops[i]? = some op → op.dst = some d → a.tmps[d]? = some (val i)
  d2 : ∀ t v, look ρ₀ t = some v → (∀ (i : Nat) (op : Oper), listed[i]? = some true → ops[i]? = some op → op.dst ≠ some t) → a.tmps[t]? = some v
  lt0 : ∀ t v, look ρ₀ t = some v → t < n.n
  ltd : ∀ (i : Nat) (op : Oper) (d : Nat), i ∈ done → ops[i]? = some op → op.dst = some d → d < n.n

/-- The slots that an operation looks at are as its environment has them. -/
theorem TInv.slots {ρ₀ : Env} {listed : Array Bool} {a : Act} {w : World} {done : List Nat} {t₀ : Tr} {pend : Pend} {H : List Asn} {F S : List Nat} {val : Nat → Value} (C : Chk ops []) (I : TInv P n ops Q o ρ₀ listed a w done t₀ pend H F S val)
    {i : Nat} {op : Oper} (hi : ops[i]? = some op) (hnl : listed[i]? ≠ some true) (haft : ∀ k ∈ afters ops i, listed[k]? = some true) {d : List Nat} (hd : DoneOk ops d) (hda : ∀ k ∈ afters ops i, k ∈ d) (hid : i ∉ d) :
    ∀ t ∈ slots ops op, ∀ u, look (envOf ops val ρ₀ d) t = some u → a.tmps[t]? = some u := by
  intro t ht u hu
  rcases look_envOf hu with ⟨j, oj, hj, hoj, hdj, rfl⟩ | ⟨h0, hno⟩
  · rcases C.share i op hi t ht j oj hoj hdj with e | e | e
    · exact absurd (e ▸ hj) hid
    · exact I.d1 j oj t (haft j e) hoj hdj
    · exact absurd (hd.back hj e) hid
  · refine I.d2 t u h0 (fun j oj hlj hoj hdj => ?_)
    rcases C.share i op hi t ht j oj hoj hdj with e | e | e
    · exact hnl (e ▸ hlj)
    · exact hno j oj (hda j e) hoj hdj
    · exact hnl (I.closed j hlj i e)
/-- The walk goes on over all that only read. -/
theorem TInv.adv {ρ₀ : Env} {listed : Array Bool} {a : Act} {w : World} : ∀ {t₀ : Tr} {done : List Nat} {pend : Pend} {H : List Asn} {F S : List Nat} {val : Nat → Value}, TInv P n ops Q o ρ₀ listed a w done t₀ pend H F S val →
    ∃ done' t' pend' val', TInv P n ops Q o ρ₀ listed a w done' t' pend' H F S val' ∧ (t' = .nil ∨ ∃ c u r, t' = .alt c u r)
  | .nil, done, pend, H, F, S, val, I => ⟨done, .nil, pend, val, I, .inl rfl⟩
  | .alt c u r, done, pend, H, F, S, val, I => ⟨done, .alt c u r, pend, val, I, .inr ⟨c, u, r, rfl⟩⟩
  | .stop, done, pend, H, F, S, val, I => by have := I.ordC; simp [chkC] at this
  | .flo i t, done, pend, H, F, S, val, I => by
      have ho := I.ordT
      simp only [chkT, Bool.and_eq_true, Bool.not_eq_true', Nat.blt_eq] at ho
      obtain ⟨⟨⟨⟨h1, h2⟩, h3⟩, h4⟩, h5⟩ := ho
      have hid : i ∉ done := fun h => by have := any_beq.2 h; rw [h2] at this; cases this
      have hia : ∀ k ∈ afters ops i, k ∈ done := fun k hk => any_beq.1 (List.all_eq_true.1 h3 k hk)
      have hop : ops[i]? = some ops[i] := List.getElem?_eq_getElem h1
      have hsw := I.sw
      simp only [TW] at hsw
      obtain ⟨op, ho, q1, q2, v, q3, q⟩ := hsw ⟨w, F, S, I.st, I.fr⟩
      rw [hop] at ho; cases ho
      have hnl : listed[i]? ≠ some true := fun h => hid (I.ldone i h)
      obtain ⟨val', hv'⟩ : ∃ val' : Nat → Value, val' = fun j => if j = i then v else val j := ⟨_, rfl⟩
      have hvi : val' i = v := by rw [hv']; simp
      have hvd : ∀ j ∈ done, val j = val' j := fun j hj => by rw [hv']; simp only [if_neg (fun e : j = i => hid (e ▸ hj))]
      have hE : envOf ops val' ρ₀ (i :: done) = extE ops[i].dst v (envOf ops val ρ₀ done) := by
        simp only [envOf, hop, Option.bind_some, hvi]
        rw [envOf_congr (fun j hj => (hvd j hj).symm)]
      have hB : envB ops val' ρ₀ i (i :: done) = envOf ops val ρ₀ done := by simp only [envB, if_true]; exact envOf_congr (fun j hj => (hvd j hj).symm)
      have hB2 : ∀ j, j ∈ done → envB ops val' ρ₀ j (i :: done) = envB ops val ρ₀ j done := fun j hj => by
        simp only [envB]
        rw [if_neg (fun e : i = j => hid (e ▸ hj))]
        exact envB_congr (fun j hj => (hvd j hj).symm)
      have hd1 : ∀ j op d, listed[j]? = some true → ops[j]? = some op → op.dst = some d → a.tmps[d]? = some (val' j) := fun j op d h1 h2 h3 => by rw [← hvd j (I.ldone j h1)]; exact I.d1 j op d h1 h2 h3
      have hltd : ∀ j op d, j ∈ i :: done → ops[j]? = some op → op.dst = some d → d < n.n := fun j op d hj hoj hdj => by
        rcases List.mem_cons.1 hj with rfl | hj
        · rw [hop] at hoj; cases hoj; exact q2 d hdj
        · exact I.ltd j op d hj hoj hdj
      rcases q with ⟨q4, q5⟩ | ⟨g, q4, q5, q6⟩
      · exact TInv.adv (t₀ := t) (done := i :: done) (pend := pend) (H := H) (F := F) (S := S) (val := val') ⟨I.lsz, I.tsz, I.tdf, I.closed, ⟨hid, h1, hia, I.ok⟩, h4, h5, by rw [hE]; exact q5, I.st, I.fr, fun j hj => by simp [I.ldone j hj],
          fun j op hj hnj hoj => by
            rcases List.mem_cons.1 hj with rfl | hj
            · rw [hop] at hoj; cases hoj
              exact ⟨q1, q2, q3, .inl (by rw [hB, hvi]; exact q4)⟩
            · rw [hB2 j hj, ← hvd j hj]
              exact I.pok j op hj hnj hoj, hd1, I.d2, I.lt0, hltd⟩
      · exact TInv.adv (t₀ := t) (done := i :: done) (pend := (i, g) :: pend) (H := H) (F := F) (S := S) (val := val') ⟨I.lsz, I.tsz, I.tdf, I.closed, ⟨hid, h1, hia, I.ok⟩, h4, h5, by rw [hE]; exact q6, I.st, I.fr, fun j hj => by simp [I.ldone j hj],
          fun j op hj hnj hoj => by
            rcases List.mem_cons.1 hj with rfl | hj
            · rw [hop] at hoj; cases hoj
              exact ⟨q1, q2, q3, .inr ⟨g, by simp, q4, by rw [hB, hvi]; exact q5⟩⟩
            · rw [hB2 j hj, ← hvd j hj]
              obtain ⟨k1, k2, k3, k4⟩ := I.pok j op hj hnj hoj
              exact ⟨k1, k2, k3, k4.imp id (fun ⟨g', m1, m2⟩ => ⟨g', by simp [m1], m2⟩)⟩, hd1, I.d2, I.lt0, hltd⟩
/-- One operation is done, which was walked over. -/
theorem TInv.float {ρ₀ : Env} {listed : Array Bool} {a : Act} {w : World} {done : List Nat} {t₀ : Tr} {pend : Pend} {H : List Asn} {F S : List Nat} {val : Nat → Value} (C : Chk ops []) (I : TInv P n ops Q o ρ₀ listed a w done t₀ pend H F S val)
    {i : Nat} {op : Oper} (hi : ops[i]? = some op) (hid : i ∈ done) (hnl : listed[i]? ≠ some true) (haft : ∀ k ∈ afters ops i, listed[k]? = some true) :
    TInv P n ops Q o ρ₀ (listed.setIfInBounds i true) (a.put op.dst (val i)) w done t₀ pend H F S val := by
  have hlt : i < listed.size := by rw [I.lsz]; exact (List.getElem?_eq_some_iff.1 hi).1
  obtain ⟨d, hd⟩ : ∃ d, op.dst = some d := by
    have := (I.pok i op hid hnl hi).2.2.1
    cases h : op.dst with
    | none => exact absurd h this
    | some d => exact ⟨d, rfl⟩
  have hdn : d < a.tmps.size := by rw [I.tsz]; exact (I.pok i op hid hnl hi).2.1 d hd
  refine ⟨by simpa using I.lsz, by rw [hd]; simpa [Act.put] using I.tsz, by rw [hd]; simpa [Act.put] using I.tdf, ?_, I.ok, I.ordC, I.ordT, I.sw, I.st, I.fr, ?_, ?_, ?_, ?_, I.lt0, I.ltd⟩
  · intro x hx y hy
    rw [listed_set hlt] at hx ⊢
    rcases hx with rfl | hx
    · exact .inr (haft y hy)
    · exact .inr (I.closed x hx y hy)
  · intro x hx
    rcases (listed_set hlt).1 hx with rfl | hx
    · exact hid
    · exact I.ldone x hx
  · intro x ox hx hnx hox
    exact I.pok x ox hx (fun h => hnx ((listed_set hlt).2 (.inr h))) hox
  · intro x ox dx hx hox hdx
    rw [hd]
    simp only [Act.put]
    rcases (listed_set hlt).1 hx with rfl | hx
    · rw [hi] at hox; cases hox
      rw [hd] at hdx; cases hdx
      rw [Array.getElem?_setIfInBounds]; simp [hdn]
    · have hne : d ≠ dx := by
        intro e; subst e
        have := C.apart x ox d hox hdx i op hi hd
        exact hnl (this ▸ hx)
      rw [Array.getElem?_setIfInBounds_ne hne]
      exact I.d1 x ox dx hx hox hdx
  · intro t v hv hno
    have hne : d ≠ t := fun e => hno i op ((listed_set hlt).2 (.inl rfl)) hi (by rw [hd, e])
    rw [hd]
    simp only [Act.put]
    rw [Array.getElem?_setIfInBounds_ne hne]
    exact I.d2 t v hv (fun j oj hj => hno j oj ((listed_set hlt).2 (.inr hj)))

/-- The next one of the chain is done. -/
theorem TInv.chain {ρ₀ : Env} {listed : Array Bool} {a : Act} {w : World} {done : List Nat} {t₀ u : Tr} {pend : Pend} {H : List Asn} {F S : List Nat} {val : Nat → Value} (C : Chk ops []) {i : Nat} {op : Oper} (I : TInv P n ops Q o ρ₀ listed a w done t₀ pend H F S val)
    (hi : ops[i]? = some op) (hnl : listed[i]? ≠ some true) (haft : ∀ k ∈ afters ops i, listed[k]? = some true) (hid : i ∉ done) (hia : ∀ k ∈ afters ops i, k ∈ done) (hdn : ∀ d, op.dst = some d → d < n.n) (hordC : chkC ops (i :: done) u = true) (hordT : chkT ops (i :: done) u = true)
    {v : Value} {H' : List Asn} {F' S' : List Nat} {w' : World} (hob : Obl ops i pend H') (hsw : TW P n ops Q o u pend (extE op.dst v (envOf ops val ρ₀ done)) H') (s' : St H' F' S' w') (f' : From o w' F' S') :
    TInv P n ops Q o ρ₀ (listed.setIfInBounds i true) (a.put op.dst v) w' (i :: done) u pend H' F' S' (fun j => if j = i then v else val j) := by
  have hll := (List.getElem?_eq_some_iff.1 hi).1
  have hlt : i < listed.size := by rw [I.lsz]; exact hll
  obtain ⟨val', hv'⟩ : ∃ val' : Nat → Value, val' = fun j => if j = i then v else val j := ⟨_, rfl⟩
  rw [← hv']
  have hvi : val' i = v := by rw [hv']; simp
  have hvd : ∀ j ∈ done, val j = val' j := fun j hj => by rw [hv']; simp only [if_neg (fun e : j = i => hid (e ▸ hj))]
  have hE : envOf ops val' ρ₀ (i :: done) = extE op.dst v (envOf ops val ρ₀ done) := by
    simp only [envOf, hi, Option.bind_some, hvi]
    rw [envOf_congr (fun j hj => (hvd j hj).symm)]
  have hB2 : ∀ j, j ∈ done → envB ops val' ρ₀ j (i :: done) = envB ops val ρ₀ j done := fun j hj => by
    simp only [envB]
    rw [if_neg (fun e : i = j => hid (e ▸ hj))]
    exact envB_congr (fun j hj => (hvd j hj).symm)
  refine ⟨by simpa using I.lsz, ?_, ?_, ?_, ⟨hid, hll, hia, I.ok⟩, hordC, hordT, by rw [hE]; exact hsw, s', f', ?_, ?_, ?_, ?_, I.lt0, ?_⟩
  · cases hd : op.dst <;> simp [Act.put, I.tsz]
  · cases hd : op.dst <;> simp [Act.put, I.tdf]
  · intro x hx y hy
    rw [listed_set hlt] at hx ⊢
    rcases hx with rfl | hx
    · exact .inr (haft y hy)
    · exact .inr (I.closed x hx y hy)
  · intro x hx
    rcases (listed_set hlt).1 hx with rfl | hx
    · simp
    · simp [I.ldone x hx]
  · intro x ox hx hnx hox
    have hxi : x ≠ i := fun e => hnx ((listed_set hlt).2 (.inl e))
    have hxd := (List.mem_cons.1 hx).resolve_left hxi
    have hnx' : listed[x]? ≠ some true := fun h => hnx ((listed_set hlt).2 (.inr h))
    obtain ⟨k1, k2, k3, k4⟩ := I.pok x ox hxd hnx' hox
    rw [hB2 x hxd, ← hvd x hxd]
    refine ⟨k1, k2, k3, k4.imp id (fun ⟨g, m1, m2, m3⟩ => ⟨g, m1, ?_, m3⟩)⟩
    rcases hob.all x g m1 with hr | hg
    · exact absurd (masks_spec _ _ _ hr (fun y => listed[y]? = some true) I.closed haft) hnx'
    · exact hg
  · intro x ox dx hx hox hdx
    rcases (listed_set hlt).1 hx with rfl | hx
    · rw [hi] at hox; cases hox
      rw [hdx, hvi]
      simp only [Act.put]
      rw [Array.getElem?_setIfInBounds]; simp [I.tsz, hdn dx hdx]
    · rw [← hvd x (I.ldone x hx)]
      have := I.d1 x ox dx hx hox hdx
      cases hd : op.dst with
      | none => exact this
      | some d =>
        simp only [Act.put]
        have hne : d ≠ dx := by
          intro e; subst e
          have := C.apart x ox d hox hdx i op hi hd
          exact hnl (this ▸ hx)
        rw [Array.getElem?_setIfInBounds_ne hne]
        exact this
  · intro t u hu hno
    have h2 := I.d2 t u hu (fun j oj hj => hno j oj ((listed_set hlt).2 (.inr hj)))
    cases hd : op.dst with
    | none => exact h2
    | some d =>
      have hne : d ≠ t := fun e => hno i op ((listed_set hlt).2 (.inl rfl)) hi (by rw [hd, e])
      simp only [Act.put]
      rw [Array.getElem?_setIfInBounds_ne hne]
      exact h2
  · intro j oj dj hj hoj hdj
    rcases List.mem_cons.1 hj with rfl | hj
    · rw [hi] at hoj; cases hoj; exact hdn dj hdj
    · exact I.ltd j oj dj hj hoj hdj
theorem TW.sound {ρ₀ : Env} {t₀ : Tr} {H : List Asn} {F S : List Nat} (hc1 : chk ops [] = true) (hc2 : chkC ops [] t₀ = true) (hc3 : chkT ops [] t₀ = true) (hn : ∀ t v, look ρ₀ t = some v → t < n.n) (h : TW P n ops Q o t₀ [] ρ₀ H)
    {a : Act} {w : World} (s : St H F S w) (fr : From o w F S) (ha : Fr n ρ₀ a) : wpAnyIn (fen n.ro) 0 P .any ops.toArray Q ops.length (Array.replicate ops.length false) a w := by
  have C := chk_spec hc1
  have hready : ∀ (listed : Array Bool) (i : Nat), i ∈ Region.ready .any ops.toArray listed → i < ops.length ∧ listed[i]? ≠ some true ∧ ∀ k ∈ afters ops i, listed[k]? = some true := by
    intro listed i hi
    simp only [Region.ready, List.mem_filter, List.mem_range, Bool.and_eq_true] at hi
    obtain ⟨h1, h2, h3⟩ := hi
    have h1' : i < ops.length := by simpa using h1
    refine ⟨h1', ?_, ?_⟩
    · intro e
      simp [Array.getD_eq_getD_getElem?, e] at h2
    · intro k hk
      rw [List.getElem?_toArray, List.getElem?_eq_getElem h1'] at h3
      simp only [Option.map_some, Option.getD_some] at h3
      simp only [afters, List.getElem?_eq_getElem h1'] at hk
      simp only [List.mem_map, List.mem_filter] at hk
      obtain ⟨e, ⟨he, hb⟩, rfl⟩ := hk
      have := (Array.all_eq_true_iff_forall_mem.1 h3) e (by simpa using he)
      simp only [bindsAny] at hb
      simp only [hb, Bool.not_true, Bool.false_or] at this
      simp only [Array.getD_eq_getD_getElem?] at this
      cases hq : listed[e.on]? with
      | none => simp [hq] at this
      | some b => simp [hq] at this; subst this; rfl
  have allReady : ∀ (listed : Array Bool), listed.size = ops.length → Closed ops (fun i => listed[i]? = some true) → (∀ m, m < ops.length → listed[m]? ≠ some true → ∃ i, i ∈ Region.ready .any ops.toArray listed) := by
    intro listed hsz hcl m
    induction m using Nat.strongRecOn with
    | _ m ih =>
      intro hm hne
      by_cases hall : ∀ k ∈ afters ops m, listed[k]? = some true
      · refine ⟨m, ?_⟩
        simp only [Region.ready, List.mem_filter, List.mem_range, Bool.and_eq_true]
        refine ⟨by simpa using hm, ?_, ?_⟩
        · have hlt : m < listed.size := by omega
          rw [Array.getD_eq_getD_getElem?, Array.getElem?_eq_getElem hlt]
          rw [Array.getElem?_eq_getElem hlt] at hne
          cases hv : listed[m] with
          | true => rw [hv] at hne; exact absurd rfl hne
          | false => rfl
        · rw [List.getElem?_toArray, List.getElem?_eq_getElem hm]
          simp only [Option.map_some, Option.getD_some]
          rw [Array.all_eq_true_iff_forall_mem]
          intro e he
          cases hb : Region.binds .any e with
          | false => rfl
          | true =>
            have := hall e.on (by
              simp only [afters, List.getElem?_eq_getElem hm, List.mem_map, List.mem_filter]
              exact ⟨e, ⟨by simpa using he, hb⟩, rfl⟩)
            simp [Array.getD_eq_getD_getElem?, this]
      · have hex : ∃ k, k ∈ afters ops m ∧ ¬ listed[k]? = some true := Classical.byContradiction fun hno => hall fun k hk => Classical.byContradiction fun hk' => hno ⟨k, hk, hk'⟩
        obtain ⟨k, hk, hk'⟩ := hex
        have hlt := C.back m _ (List.getElem?_eq_getElem hm) k hk
        exact ih k hlt (by omega) hk'
  have key : ∀ (fuel : Nat) (listed : Array Bool) (a : Act) (w : World) (done : List Nat) (t₀ : Tr) (pend : Pend) (H : List Asn) (F S : List Nat) (val : Nat → Value), ((List.range ops.length).filter (fun i => listed[i]? ≠ some true)).length ≤ fuel →
      TInv P n ops Q o ρ₀ listed a w done t₀ pend H F S val → wpAnyIn (fen n.ro) 0 P .any ops.toArray Q fuel listed a w := by
    intro fuel
    have finish : ∀ (listed : Array Bool) (a : Act) (w : World) (done : List Nat) (t₀ : Tr) (pend : Pend) (H : List Asn) (F S : List Nat) (val : Nat → Value), TInv P n ops Q o ρ₀ listed a w done t₀ pend H F S val → (∀ i, i < ops.length → listed[i]? = some true) → Q .normal a w := by
      intro listed a w done t₀ pend H F S val I hall
      obtain ⟨done, t₀, pend, val, I, hr⟩ := I.adv
      rcases hr with rfl | ⟨c, u, r, rfl⟩
      · refine I.sw w F S I.st I.fr a ⟨I.tsz, I.tdf, fun t v hv => ?_⟩
        rcases look_envOf hv with ⟨j, op, h1, h2, h3, rfl⟩ | ⟨h1, h2⟩
        · exact I.d1 j op t (hall j (List.getElem?_eq_some_iff.1 h2).1) h2 h3
        · exact I.d2 t v h1 (fun j op hj hop => h2 j op (I.ldone j hj) hop)
      · exfalso
        obtain ⟨h1, h2, _⟩ := chkT_choice I.ordT c (by simp [Tr.choices])
        exact h2 (I.ldone c (hall c h1))
    induction fuel with
    | zero =>
      intro listed a w done t₀ pend H F S val hcnt I
      have hall : ∀ i, i < ops.length → listed[i]? = some true := by
        intro i hi
        refine Classical.byContradiction fun hne => ?_
        have hmem : i ∈ (List.range ops.length).filter (fun i => listed[i]? ≠ some true) := by
          rw [List.mem_filter]; exact ⟨List.mem_range.2 hi, by simpa using hne⟩
        have : (List.range ops.length).filter (fun i => listed[i]? ≠ some true) = [] := List.eq_nil_of_length_eq_zero (by omega)
        rw [this] at hmem; cases hmem
      refine ⟨?_, finish listed a w done t₀ pend H F S val I hall⟩
      apply List.eq_nil_iff_forall_not_mem.2
      intro i hi
      have := hready listed i hi
      exact this.2.1 (hall i this.1)
    | succ fuel ih =>
      intro listed a w done t₀ pend H F S val hcnt I
      refine ⟨fun hnil => ?_, fun i hi => ?_⟩
      · refine finish listed a w done t₀ pend H F S val I (fun i hi => Classical.byContradiction fun hne => ?_)
        obtain ⟨x, hx⟩ := allReady listed I.lsz I.closed i hi hne
        rw [hnil] at hx; cases hx
      · obtain ⟨hlt, hnl, haft⟩ := hready listed i hi
        obtain ⟨done, t₀, pend, val, I, hr⟩ := I.adv
        have hoi : ops[i]? = some ops[i] := List.getElem?_eq_getElem hlt
        have hlz : i < listed.size := by rw [I.lsz]; exact hlt
        have hless : ((List.range ops.length).filter (fun j => (listed.setIfInBounds i true)[j]? ≠ some true)).length ≤ fuel := by
          have gen : ∀ (l : List Nat), l.Nodup → ((i ∈ l → (l.filter (fun j => (listed.setIfInBounds i true)[j]? ≠ some true)).length + 1 ≤ (l.filter (fun j => listed[j]? ≠ some true)).length) ∧ (l.filter (fun j => (listed.setIfInBounds i true)[j]? ≠ some true)).length ≤ (l.filter (fun j => listed[j]? ≠ some true)).length) := by
            intro l
            induction l with
            | nil => exact fun _ => ⟨fun h => (by cases h), Nat.le_refl _⟩
            | cons x r ihl =>
              intro hnd
              have hnd' := List.nodup_cons.1 hnd
              obtain ⟨k1, k2⟩ := ihl hnd'.2
              by_cases hxi : x = i
              · subst hxi
                have e1 : (decide ((listed.setIfInBounds x true)[x]? ≠ some true)) = false := by simp [listed_set hlz]
                have e2 : (decide (listed[x]? ≠ some true)) = true := by simpa using hnl
                simp only [List.filter_cons, e1, e2, if_true, List.length_cons]
                simp only [Bool.false_eq_true, if_false]
                exact ⟨fun _ => Nat.succ_le_succ k2, Nat.le_succ_of_le k2⟩
              · have e1 : (decide ((listed.setIfInBounds i true)[x]? ≠ some true)) = (decide (listed[x]? ≠ some true)) := by
                  rw [decide_eq_decide]; simp [listed_set hlz, hxi]
                simp only [List.filter_cons, e1]
                split
                · simp only [List.length_cons]
                  exact ⟨fun h => Nat.succ_le_succ (k1 ((List.mem_cons.1 h).resolve_left (fun e => hxi e.symm))), Nat.succ_le_succ k2⟩
                · exact ⟨fun h => k1 ((List.mem_cons.1 h).resolve_left (fun e => hxi e.symm)), k2⟩
          have := (gen _ List.nodup_range).1 (List.mem_range.2 hlt)
          omega
        by_cases hid : i ∈ done
        · obtain ⟨p1, p2, p3, p4⟩ := I.pok i _ hid hnl hoi
          have hfl : Fl P n ops (envB ops val ρ₀ i done) w ops[i] (val i) := p4.elim (fun h => h w) (fun ⟨g, _, h1, h2⟩ => h2 H w F S h1 I.st I.fr)
          obtain ⟨d', hd1, hd2, hd3, hd4, hd5⟩ := envB_of (val := val) (ρ₀ := ρ₀) I.ok hid
          rw [hd1] at hfl
          have hsl := I.slots C hoi hnl haft hd4 hd2 hd3
          have hltE := lt_env (ops := ops) (n := n) (val := val) I.lt0 (fun j op t hj => I.ltd j op t (hd5 j hj))
          obtain ⟨a₀, hfr, hag⟩ := frame_for I.tsz hltE ops[i] hsl
          have hwp : wpo P n ops Q ops[i] (fun a' w' => a' = a.put ops[i].dst (val i) ∧ w' = w) a w := by
            unfold wpo
            rcases hfl with ⟨hg, hrun⟩ | ⟨hg, hv⟩
            · rw [wanted_for hg hfr hag]
              simp only [if_true]
              refine wpIn_run (nodef p1) ((congrArg (fun s => s.run P w) (eval_virtual hag (nosel p1))).trans (hrun a₀ hfr)) ?_
              exact ⟨rfl, rfl⟩
            · rw [wanted_for hg hfr hag]
              simp only [Bool.false_eq_true, if_false]
              rw [hv]; exact ⟨rfl, trivial⟩
          refine wpo_wpOp hoi hwp ?_
          rintro a' w' ⟨rfl, rfl⟩
          exact ih _ _ _ done t₀ pend H F S val hless (I.float C hoi hid hnl haft)
        · have hch : i ∈ t₀.choices := by
            rcases hr with rfl | ⟨c, u, r, rfl⟩
            · have := I.ordT
              simp only [chkT] at this
              exact absurd (any_beq.1 (List.all_eq_true.1 this i (List.mem_range.2 hlt))) hid
            · have := List.all_eq_true.1 I.ordC i (List.mem_range.2 hlt)
              simp only [Bool.or_eq_true] at this
              rcases this with (h | h) | h
              · exact absurd (any_beq.1 h) hid
              · exact any_beq.1 h
              · exfalso
                obtain ⟨c', hc', hrc⟩ := List.any_eq_true.1 h
                obtain ⟨_, h2, _⟩ := chkT_choice I.ordT c' hc'
                exact h2 (I.ldone c' (masks_spec _ _ _ hrc (fun x => listed[x]? = some true) I.closed haft))
          obtain ⟨u, ⟨hia, hC, hT⟩, hsw⟩ := TW.pick I.sw I.ordT hch
          obtain ⟨op, ho, q1, q2, Ψ, hΨ, hk⟩ := hsw ⟨w, F, S, I.st, I.fr⟩
          rw [hoi] at ho; cases ho
          have hsl := I.slots C hoi hnl haft I.ok hia hid
          have hltE := lt_env (ops := ops) (n := n) (val := val) I.lt0 (fun j op t hj => I.ltd j op t hj)
          obtain ⟨a₀, hfr, hag⟩ := frame_for I.tsz hltE ops[i] hsl
          have hwp : wpo P n ops Q ops[i] (fun a' w' => ∃ v, a' = a.put ops[i].dst v ∧ PostS o Ψ v w') a w := by
            unfold wpo
            rcases hΨ with ⟨hg, hrun⟩ | ⟨hg, hv⟩
            · rw [wanted_for hg hfr hag]
              simp only [if_true]
              exact (hrun w F S I.st I.fr).wp (nodef q1) hfr (eval_virtual hag (nosel q1))
            · rw [wanted_for hg hfr hag]
              simp only [Bool.false_eq_true, if_false]
              exact ⟨undef, rfl, H, F, S, by rw [hv]; exact ⟨rfl, rfl⟩, I.st, I.fr⟩
          refine wpo_wpOp hoi hwp ?_
          rintro a' w' ⟨v, rfl, H', F', S', hv, s', f'⟩
          obtain ⟨k1, k2⟩ := hk v H' hv
          exact ih _ _ _ (i :: done) u pend H' F' S' _ hless (I.chain C hoi hnl haft hid hia q2 hC hT k1 k2 s' f')
  refine key _ _ a w [] t₀ [] H F S (fun _ => undef) (Nat.le_trans (List.length_filter_le _ _) (by simp)) ⟨by simp, ha.size, ha.defers, ?_, trivial, hc2, hc3, h, s, fr, ?_, by simp, ?_, fun t v hv _ => ha.vals t v hv, hn, by simp⟩
  · intro x hx
    simp [Array.getElem?_replicate] at hx
  · intro i hi
    simp [Array.getElem?_replicate] at hi
  · intro j o d hj
    simp [Array.getElem?_replicate] at hj

/-! ### the rules -/
theorem SG.drawT [hm : Mixed P] {B : Exit → Act → World → Prop} {ks : List K} {ρ : Env} {H : List Asn} {id : Nat} (t₀ : Tr) (hchk : (chk ops [] && chkC ops [] t₀ && chkT ops [] t₀) = true) (hlt : ρ.all (fun p => Nat.blt p.1 n) = true) (h : TW P n ops (sem P n.ro B ks) o t₀ [] ρ H) :
    SG P B n o ks ρ H (.region id ops.toArray true) := by
  intro w F S s f a ha
  refine wpIn_region_any hm.h ?_
  have hd := Ext.drawn w
  simp only [Bool.and_eq_true] at hchk
  have := TW.sound (P := P) (n := n) (a := a) (w := { w with drawn := w.drawn + 1 }) hchk.1.1 hchk.1.2 hchk.2 (fun t v hv => by
      have hmem : ∀ (r : Env) t v, look r t = some v → (t, v) ∈ r := by
        intro r
        induction r with
        | nil => intro t v h; cases h
        | cons p r ih =>
          obtain ⟨s, u⟩ := p
          intro t v h
          rw [look_cons] at h
          split at h
          · rename_i e; subst e; cases h; simp
          · exact List.mem_cons_of_mem _ (ih t v h)
      have := List.all_eq_true.1 hlt (t, v) (hmem ρ t v hv)
      simpa [Nat.blt_eq] using this) h ⟨s.sep.ext hd (Apart.nilR _) (Apart.nilR _), fun b hb => Nat.lt_of_lt_of_le (s.ltF b hb) hd.size, fun b hb => Nat.lt_of_lt_of_le (s.ltS b hb) hd.size⟩ ⟨f.ext.trans0 hd, f.fF, f.fS⟩ ha
  simpa using this
section
variable {t : Tr} {pend : Pend} {ρ : Env} {H : List Asn} {i d : Nat} {op : Op} {ty : TypeId} {pos : String} {af : Array Edge} {gd : Option (Nat × Bool)}
theorem TW.pure {v : Value} (ho : ops[i]? = some ⟨some d, op, ty, pos, af, gd⟩) (hg : wants ops ρ gd = some true) (hd : Nat.blt d n = true) (hs : isSelect op = false) (hrun : ∀ w, Runs P n ρ w ⟨some d, op, ty, pos, af, gd⟩ v w) (h : TW P n ops Q o t pend ((d, v) :: ρ) H) :
    TW P n ops Q o (.flo i t) pend ρ H :=
  fun _ => ⟨_, ho, hs, fun d' e => by cases e; simpa [Nat.blt_eq] using hd, v, by simp, .inl ⟨fun w => .inl ⟨hg, hrun w⟩, h⟩⟩
theorem TW.pass {hd : Nat.blt d n = true} (ho : ops[i]? = some ⟨some d, op, ty, pos, af, gd⟩) (hg : wants ops ρ gd = some false) (hs : isSelect op = false) (h : TW P n ops Q o t pend ((d, undef) :: ρ) H) :
    TW P n ops Q o (.flo i t) pend ρ H :=
  fun _ => ⟨_, ho, hs, fun d' e => by cases e; simpa [Nat.blt_eq] using hd, undef, by simp, .inl ⟨fun w => .inr ⟨hg, rfl⟩, h⟩⟩
theorem TW.read {v : Value} (ho : ops[i]? = some ⟨some d, op, ty, pos, af, gd⟩) (hg : wants ops ρ gd = some true) (hd : Nat.blt d n = true) (hs : isSelect op = false) (hrun : Rd1 P n o ρ ⟨some d, op, ty, pos, af, gd⟩ v H) (h : TW P n ops Q o t ((i, Rd1 P n o ρ ⟨some d, op, ty, pos, af, gd⟩ v) :: pend) ((d, v) :: ρ) H) :
    TW P n ops Q o (.flo i t) pend ρ H :=
  fun _ => ⟨_, ho, hs, fun d' e => by cases e; simpa [Nat.blt_eq] using hd, v, by simp, .inr ⟨_, hrun, fun H w F S h s f => .inl ⟨hg, h w F S s⟩, h⟩⟩
theorem TW.step {Ψ : Value → List Asn → Prop} (ho : ops[i]? = some ⟨some d, op, ty, pos, af, gd⟩) (hg : wants ops ρ gd = some true) (hd : Nat.blt d n = true) (hs : isSelect op = false) (h : CS P n o ρ H ⟨some d, op, ty, pos, af, gd⟩ Ψ)
    (k : ∀ v H', Ψ v H' → Obl ops i pend H' ∧ TW P n ops Q o t pend ((d, v) :: ρ) H') : TW P n ops Q o (.alt i t .stop) pend ρ H :=
  ⟨fun _ => ⟨_, ho, hs, fun d' e => by cases e; simpa [Nat.blt_eq] using hd, Ψ, .inl ⟨hg, h⟩, k⟩, trivial⟩
theorem TW.step0 {Ψ : Value → List Asn → Prop} (ho : ops[i]? = some ⟨none, op, ty, pos, af, gd⟩) (hg : wants ops ρ gd = some true) (hs : isSelect op = false) (h : CS P n o ρ H ⟨none, op, ty, pos, af, gd⟩ Ψ)
    (k : ∀ v H', Ψ v H' → Obl ops i pend H' ∧ TW P n ops Q o t pend ρ H') : TW P n ops Q o (.alt i t .stop) pend ρ H :=
  ⟨fun _ => ⟨_, ho, hs, fun d' e => (by cases e), Ψ, .inl ⟨hg, h⟩, k⟩, trivial⟩
theorem TW.passS (ho : ops[i]? = some ⟨some d, op, ty, pos, af, gd⟩) (hg : wants ops ρ gd = some false) (hd : Nat.blt d n = true) (hs : isSelect op = false) (k : Obl ops i pend H ∧ TW P n ops Q o t pend ((d, undef) :: ρ) H) :
    TW P n ops Q o (.alt i t .stop) pend ρ H :=
  ⟨fun _ => ⟨_, ho, hs, fun d' e => by cases e; simpa [Nat.blt_eq] using hd, _, .inr ⟨hg, rfl⟩, by rintro v H' ⟨rfl, rfl⟩; exact k⟩, trivial⟩
theorem TW.fact {φ : Prop} (hφ : ∀ w F S, St H F S w → φ) (h : φ → TW P n ops Q o t pend ρ H) : TW P n ops Q o t pend ρ H := by
  induction t with
  | nil => exact fun w F S s f => h (hφ w F S s) w F S s f
  | flo i t _ => exact fun ⟨w, F, S, s, f⟩ => h (hφ w F S s) ⟨w, F, S, s, f⟩
  | alt i t r _ ih => exact ⟨fun ⟨w, F, S, s, f⟩ => (h (hφ w F S s)).1 ⟨w, F, S, s, f⟩, ih (fun q => (h q).2)⟩
  | stop => trivial
theorem TW.congr : ∀ {t : Tr} {pend : Pend} {ρ ρ' : Env} {H : List Asn}, (∀ t, look ρ t = look ρ' t) → TW P n ops Q o t pend ρ H → TW P n ops Q o t pend ρ' H
  | .nil, _, _, _, _, hl, h => fun w F S s f a ha => h w F S s f a (ha.congr hl)
  | .stop, _, _, _, _, hl, h => trivial
  | .flo i t, pend, ρ, ρ', H, hl, h => fun he => by
    obtain ⟨op, ho, q1, q2, v, hn, q⟩ := h he
    refine ⟨op, ho, q1, q2, v, hn, ?_⟩
    rcases q with ⟨h1, h2⟩ | ⟨g, h1, h2, h3⟩
    · exact .inl ⟨fun w => (h1 w).congr hl, TW.congr (extE_congr hl _ _) h2⟩
    · exact .inr ⟨g, h1, fun H w F S a b c => (h2 H w F S a b c).congr hl, TW.congr (extE_congr hl _ _) h3⟩
  | .alt i t r, pend, ρ, ρ', H, hl, h => ⟨fun he => by
    obtain ⟨op, ho, q1, q2, Ψ, hΨ, hk⟩ := h.1 he
    refine ⟨op, ho, q1, q2, Ψ, ?_, fun v H' hv => ⟨(hk v H' hv).1, TW.congr (extE_congr hl _ _) (hk v H' hv).2⟩⟩
    rw [← wants_congr hl]
    exact hΨ.imp (fun ⟨a, b⟩ => ⟨a, fun w F S s f => (b w F S s f).congr hl⟩) id, TW.congr hl h.2⟩
/-- One of the orders, and the others. -/
theorem TW.or {t r : Tr} (h : TW P n ops Q o (.alt i t .stop) pend ρ H) (k : TW P n ops Q o r pend ρ H) : TW P n ops Q o (.alt i t r) pend ρ H := ⟨h.1, k⟩
theorem TW.be {v v' : Value} (d : Nat) (hv : look ρ d = some v) (e : v = v') (h : TW P n ops Q o t pend ((d, v') :: ρ) H) : TW P n ops Q o t pend ρ H := by
  subst e
  refine h.congr (fun t => ?_)
  rw [look_cons]
  split
  · rename_i e; subst e; exact hv.symm
  · rfl
theorem TW.caseB {b : Bool} (d : Nat) (hv : look ρ d = some (.bool b)) (ht : b = true → TW P n ops Q o t pend ((d, .bool true) :: ρ) H) (hf : b = false → TW P n ops Q o t pend ((d, .bool false) :: ρ) H) : TW P n ops Q o t pend ρ H := by
  cases b
  · exact TW.be d hv rfl (hf rfl)
  · exact TW.be d hv rfl (ht rfl)
theorem TW.caseP {p : Prop} {dp : Decidable p} (d : Nat) (hv : look ρ d = some (.bool (@decide p dp))) (ht : p → TW P n ops Q o t pend ((d, .bool true) :: ρ) H) (hf : ¬ p → TW P n ops Q o t pend ((d, .bool false) :: ρ) H) : TW P n ops Q o t pend ρ H :=
  TW.caseB d hv (fun h => ht (of_decide_eq_true h)) (fun h => hf (of_decide_eq_false h))
theorem TW.isT {b : Bool} (d : Nat) (hv : look ρ d = some (.bool b)) (e : b = true) (h : TW P n ops Q o t pend ((d, .bool true) :: ρ) H) : TW P n ops Q o t pend ρ H := TW.be d hv (congrArg Value.bool e) h
theorem TW.isF {b : Bool} (d : Nat) (hv : look ρ d = some (.bool b)) (e : b = false) (h : TW P n ops Q o t pend ((d, .bool false) :: ρ) H) : TW P n ops Q o t pend ρ H := TW.be d hv (congrArg Value.bool e) h
theorem TW.nil {B : Exit → Act → World → Prop} {ks : List K} (h : SN P B n o ks ρ H) : TW P n ops (sem P n.ro B ks) o .nil pend ρ H := fun w F S s f a ha => h w F S s f a ha
end
end
section
variable {P : Program} {n : Fm} {ops : List Oper} {Q : Exit → Act → World → Prop} {o : Org} {t : Tr} {pend : Pend} {ρ : Env} {H : List Asn}
theorem TW.n0 (h : TW P n ops Q o t pend ρ (H)) : TW P n ops Q o t pend ρ ([] ++ H) := h
theorem TW.n1 {A1 : Asn} (h : TW P n ops Q o t pend ρ (A1 :: H)) : TW P n ops Q o t pend ρ ([A1] ++ H) := h
theorem TW.n2 {A1 A2 : Asn} (h : TW P n ops Q o t pend ρ (A1 :: A2 :: H)) : TW P n ops Q o t pend ρ ([A1, A2] ++ H) := h
theorem TW.n3 {A1 A2 A3 : Asn} (h : TW P n ops Q o t pend ρ (A1 :: A2 :: A3 :: H)) : TW P n ops Q o t pend ρ ([A1, A2, A3] ++ H) := h
theorem TW.n4 {A1 A2 A3 A4 : Asn} (h : TW P n ops Q o t pend ρ (A1 :: A2 :: A3 :: A4 :: H)) : TW P n ops Q o t pend ρ ([A1, A2, A3, A4] ++ H) := h
theorem TW.n5 {A1 A2 A3 A4 A5 : Asn} (h : TW P n ops Q o t pend ρ (A1 :: A2 :: A3 :: A4 :: A5 :: H)) : TW P n ops Q o t pend ρ ([A1, A2, A3, A4, A5] ++ H) := h
end
end Brv
/-
  The walks of package record.
-/
set_option linter.unusedVariables false
set_option linter.unusedSimpArgs false
set_option maxRecDepth 4000
namespace Go.Proofs.Ytiiiplhfgblamaa
open Go Brv
theorem rsamew_ok (r r2 : RowW) (w : World) (hr : r.ok w) (hr2 : r2.ok w) : Meets Try.prog 24 [.slice r.a r.n r.c, .slice r2.a r2.n r2.c] w (fun v w' => v = .bool (decide (r.os.map wv = r2.os.map wv)) ∧ Ext [] w w') := by
  refine Meets.enter Try.func24 rfl 43 rfl (Nat.le_of_ble_eq_true rfl) ?_
  have E := Ext.refl [] w
  obtain ⟨hrc, hrT, hrO⟩ := hr
  have hrl := hrT.len
  rw [List.length_map] at hrl
  obtain ⟨hsc, hsT, hsO⟩ := hr2
  have hsl := hsT.len
  rw [List.length_map] at hsl
  refine G.seq ?_
  refine G.region ?_
  refine L.val rfl rfl (R.as rfl) ?_
  refine L.nil ?_
  refine N.seq ?_
  refine G.seq ?_
  refine G.seq ?_
  refine G.region ?_
  refine L.val rfl rfl (R.mv rfl) ?_
  refine L.val rfl rfl (R.lenS rfl) ?_
  refine L.val rfl rfl (R.mv rfl) ?_
  refine L.val rfl rfl (R.lenS rfl) ?_
  refine L.val rfl rfl (R.neI rfl rfl) ?_
  refine L.nil ?_
  refine N.seq ?_
  refine G.condP rfl (fun h0 => ?_) (fun h0 => ?_)
  · refine G.seq ?_
    refine G.region ?_
    refine L.val rfl rfl (R.as rfl) ?_
    refine L.nil ?_
    refine N.seq ?_
    refine G.ret1 rfl rfl ?_
    first
      | exact ⟨congrArg Value.bool (by rw [eq_comm, decide_eq_false_iff_not]; intro h; have := congrArg List.length h; rw [List.length_map, List.length_map] at this; omega), E⟩
      | exact ⟨congrArg Value.bool (by rw [eq_comm, decide_eq_false_iff_not]; intro h; have h9 := congrArg (fun l => l[i]?) h; simp only [List.getElem?_map] at h9; rw [List.getElem?_eq_getElem (by omega), List.getElem?_eq_getElem (by omega), ← hoe2, ← hoe3] at h9; exact hne (by simpa using h9)), E⟩
      | exact ⟨congrArg Value.bool (by rw [eq_comm, decide_eq_true_eq]; rw [List.take_of_length_le (by rw [List.length_map]; omega), List.take_of_length_le (by rw [List.length_map]; omega)] at hp; exact hp), E⟩
  · refine G.skip ?_
    refine N.seq ?_
    refine G.seq ?_
    refine G.seq ?_
    refine G.region ?_
    refine L.val rfl rfl (R.mv rfl) ?_
    refine L.val rfl rfl (R.lenS rfl) ?_
    refine L.val rfl rfl (R.mv rfl) ?_
    refine L.nil ?_
    refine N.seq ?_
    refine G.block ?_
    refine G.loop (X := Nat) (fun s => [(0, .slice r.a r.n r.c), (1, .slice r2.a r2.n r2.c), (12, .int .i64 (r.n : Int)), (13, .int .i64 (s : Int))]) (fun s w' => s ≤ r.n ∧ (r.os.map wv).take s = (r2.os.map wv).take s ∧ Ext [] w w') (fun s => r.n - s) (0) (Sub.cons rfl (Sub.cons rfl (Sub.cons rfl (Sub.cons rfl (Sub.nil _))))) ⟨Nat.zero_le _, rfl, E⟩ ?_
    rintro i w1 ⟨hi, hp, E⟩
    refine G.sub [(0, .slice r.a r.n r.c), (1, .slice r2.a r2.n r2.c), (12, .int .i64 (r.n : Int)), (13, .int .i64 (i : Int))] (Sub.cons rfl (Sub.cons rfl (Sub.cons rfl (Sub.cons rfl (Sub.nil _))))) ?_
    refine G.seq ?_
    refine G.region ?_
    refine L.val rfl rfl (R.lss rfl rfl) ?_
    refine L.nil ?_
    refine N.seq ?_
    refine G.seq ?_
    refine G.condP rfl (fun h1 => ?_) (fun h1 => ?_)
    · obtain ⟨q2, hq2, hcl2⟩ := hrT.at (by decide) i (by rw [List.length_map]; omega)
      rw [List.getElem_map] at hcl2
      have hokx := hrO _ (List.getElem_mem (show i < r.os.length by omega))
      obtain ⟨x, hoe2⟩ : ∃ x, x = r.os[i]'(by omega) := ⟨_, rfl⟩
      rw [← hoe2] at hcl2 hokx
      obtain ⟨p2, hp2, ha2⟩ := hcl2 0 (.int .i64 x.Block') rfl
      cases hp2
      obtain ⟨p2, hp2, hc2⟩ := hcl2 1 (.slice x.B'a x.B'n x.B'c) rfl
      cases hp2
      obtain ⟨q3, hq3, hcl3⟩ := hsT.at (by decide) i (by rw [List.length_map]; omega)
      rw [List.getElem_map] at hcl3
      have hoky := hsO _ (List.getElem_mem (show i < r2.os.length by omega))
      obtain ⟨y, hoe3⟩ : ∃ x, x = r2.os[i]'(by omega) := ⟨_, rfl⟩
      rw [← hoe3] at hcl3 hoky
      obtain ⟨p3, hp3, ha3⟩ := hcl3 0 (.int .i64 y.Block') rfl
      cases hp3
      obtain ⟨p3, hp3, hc3⟩ := hcl3 1 (.slice y.B'a y.B'n y.B'c) rfl
      cases hp3
      have hbx := hokx.2.2
      have hby := hoky.2.2
      refine G.skip ?_
      refine N.seq ?_
      refine G.seq ?_
      refine G.block ?_
      refine G.seq ?_
      refine G.region ?_
      refine L.val rfl rfl (R.mv rfl) ?_
      refine L.val rfl rfl (R.as rfl) ?_
      refine L.nil ?_
      refine N.seq ?_
      refine G.seq ?_
      refine G.quiet (by decide +kernel) rfl ?_
      refine Q.val rfl rfl rfl rfl (fun w2 hE => R.mv rfl) ?_
      refine Q.val rfl rfl rfl rfl (fun w2 hE => R.mv rfl) ?_
      refine Q.val rfl rfl rfl rfl (fun w2 hE => R.idx rfl rfl (by omega) (by omega) q2 hq2) ?_
      refine Q.val rfl rfl rfl rfl (fun w2 hE => R.fldA rfl) ?_
      refine Q.val rfl rfl rfl rfl (fun w2 hE => R.ld rfl (v := (.int .i64 x.Block')) (by rw [Int.toNat_natCast]; exact (Still.of (E.trans0 hE)).cell ha2)) ?_
      refine Q.val rfl rfl rfl rfl (fun w2 hE => R.mv rfl) ?_
      refine Q.val rfl rfl rfl rfl (fun w2 hE => R.mv rfl) ?_
      refine Q.val rfl rfl rfl rfl (fun w2 hE => R.idx rfl rfl (by omega) (by omega) q3 hq3) ?_
      refine Q.val rfl rfl rfl rfl (fun w2 hE => R.fldA rfl) ?_
      refine Q.val rfl rfl rfl rfl (fun w2 hE => R.ld rfl (v := (.int .i64 y.Block')) (by rw [Int.toNat_natCast]; exact (Still.of (E.trans0 hE)).cell ha3)) ?_
      refine Q.val rfl rfl rfl rfl (fun w2 hE => R.neI rfl rfl) ?_
      refine Q.val rfl rfl rfl rfl (fun w2 hE => R.mv rfl) ?_
      refine Q.caseP 27 rfl (fun hg6_11 => ?_) (fun hg6_11 => ?_)
      · have hne : wv x ≠ wv y := fun h => hg6_11 (congrArg Prod.fst h)
        refine Q.pass rfl rfl rfl ?_
        refine Q.pass rfl rfl rfl ?_
        refine Q.pass rfl rfl rfl ?_
        refine Q.pass rfl rfl rfl ?_
        refine Q.pass rfl rfl rfl ?_
        refine Q.pass rfl rfl rfl ?_
        refine Q.pass rfl rfl rfl ?_
        refine Q.pass rfl rfl rfl ?_
        refine Q.pass rfl rfl rfl ?_
        refine Q.pass rfl rfl rfl ?_
        refine Q.pass rfl rfl rfl ?_
        refine Q.pass rfl rfl rfl ?_
        refine Q.pass rfl rfl rfl ?_
        first | refine Q.val rfl rfl rfl rfl (fun w2 hE => R.pickT rfl rfl) ?_ | refine Q.val rfl rfl rfl rfl (fun w2 hE => R.pickF rfl rfl) ?_
        refine Q.nil (fun w2 e2 => ?_)
        replace E := E.trans0 e2
        refine N.seq ?_
        refine G.condT rfl ?_
        refine G.seq ?_
        refine G.region ?_
        refine L.val rfl rfl (R.as rfl) ?_
        refine L.nil ?_
        refine N.seq ?_
        refine G.ret1 rfl rfl ?_
        first
          | exact ⟨congrArg Value.bool (by rw [eq_comm, decide_eq_false_iff_not]; intro h; have := congrArg List.length h; rw [List.length_map, List.length_map] at this; omega), E⟩
          | exact ⟨congrArg Value.bool (by rw [eq_comm, decide_eq_false_iff_not]; intro h; have h9 := congrArg (fun l => l[i]?) h; simp only [List.getElem?_map] at h9; rw [List.getElem?_eq_getElem (by omega), List.getElem?_eq_getElem (by omega), ← hoe2, ← hoe3] at h9; exact hne (by simpa using h9)), E⟩
          | exact ⟨congrArg Value.bool (by rw [eq_comm, decide_eq_true_eq]; rw [List.take_of_length_le (by rw [List.length_map]; omega), List.take_of_length_le (by rw [List.length_map]; omega)] at hp; exact hp), E⟩
      · refine Q.val rfl rfl rfl rfl (fun w2 hE => R.mv rfl) ?_
        refine Q.val rfl rfl rfl rfl (fun w2 hE => R.mv rfl) ?_
        refine Q.val rfl rfl rfl rfl (fun w2 hE => R.idx rfl rfl (by omega) (by omega) q2 hq2) ?_
        refine Q.val rfl rfl rfl rfl (fun w2 hE => R.fldA rfl) ?_
        refine Q.val rfl rfl rfl rfl (fun w2 hE => R.ld rfl (v := (.slice x.B'a x.B'n x.B'c)) (by rw [Int.toNat_natCast]; exact (Still.of (E.trans0 hE)).cell hc2)) ?_
        refine Q.val rfl rfl rfl rfl (fun w2 hE => R.bytesStr rfl (hbx.ext0 (E.trans0 hE)).cells hbx.len) ?_
        refine Q.val rfl rfl rfl rfl (fun w2 hE => R.mv rfl) ?_
        refine Q.val rfl rfl rfl rfl (fun w2 hE => R.mv rfl) ?_
        refine Q.val rfl rfl rfl rfl (fun w2 hE => R.idx rfl rfl (by omega) (by omega) q3 hq3) ?_
        refine Q.val rfl rfl rfl rfl (fun w2 hE => R.fldA rfl) ?_
        refine Q.val rfl rfl rfl rfl (fun w2 hE => R.ld rfl (v := (.slice y.B'a y.B'n y.B'c)) (by rw [Int.toNat_natCast]; exact (Still.of (E.trans0 hE)).cell hc3)) ?_
        refine Q.val rfl rfl rfl rfl (fun w2 hE => R.bytesStr rfl (hby.ext0 (E.trans0 hE)).cells hby.len) ?_
        refine Q.val rfl rfl rfl rfl (fun w2 hE => R.neStr rfl rfl) ?_
        first | refine Q.val rfl rfl rfl rfl (fun w2 hE => R.pickT rfl rfl) ?_ | refine Q.val rfl rfl rfl rfl (fun w2 hE => R.pickF rfl rfl) ?_
        refine Q.nil (fun w2 e2 => ?_)
        replace E := E.trans0 e2
        refine N.seq ?_
        refine G.condP rfl (fun h2 => ?_) (fun h2 => ?_)
        · have hne : wv x ≠ wv y := fun h => h2 (congrArg Prod.snd h)
          refine G.seq ?_
          refine G.region ?_
          refine L.val rfl rfl (R.as rfl) ?_
          refine L.nil ?_
          refine N.seq ?_
          refine G.ret1 rfl rfl ?_
          first
            | exact ⟨congrArg Value.bool (by rw [eq_comm, decide_eq_false_iff_not]; intro h; have := congrArg List.length h; rw [List.length_map, List.length_map] at this; omega), E⟩
            | exact ⟨congrArg Value.bool (by rw [eq_comm, decide_eq_false_iff_not]; intro h; have h9 := congrArg (fun l => l[i]?) h; simp only [List.getElem?_map] at h9; rw [List.getElem?_eq_getElem (by omega), List.getElem?_eq_getElem (by omega), ← hoe2, ← hoe3] at h9; exact hne (by simpa using h9)), E⟩
            | exact ⟨congrArg Value.bool (by rw [eq_comm, decide_eq_true_eq]; rw [List.take_of_length_le (by rw [List.length_map]; omega), List.take_of_length_le (by rw [List.length_map]; omega)] at hp; exact hp), E⟩
        · have heq : wv x = wv y := by unfold wv; rw [Classical.not_not.1 hg6_11, Classical.not_not.1 h2]
          have htk : (r.os.map wv).take (i + 1) = (r2.os.map wv).take (i + 1) := by rw [List.take_add_one, List.take_add_one, hp, List.getElem?_map, List.getElem?_map, List.getElem?_eq_getElem (by omega), List.getElem?_eq_getElem (by omega), ← hoe2, ← hoe3]; exact congrArg (fun z => _ ++ [z]) (heq)
          refine G.skip ?_
          refine N.block ?_
          refine N.seq ?_
          refine G.region ?_
          refine L.val rfl rfl (R.add rfl rfl (by omega)) ?_
          refine L.val rfl rfl (R.mv rfl) ?_
          refine L.nil ?_
          exact N.again (i + 1) (by omega) (Sub.cons rfl (Sub.cons rfl (Sub.cons rfl (Sub.cons rfl (Sub.nil _))))) ⟨by omega, htk, E⟩
    · refine G.exit _ rfl ?_
      refine N.seq ?_
      refine G.seq ?_
      refine G.region ?_
      refine L.val rfl rfl (R.as rfl) ?_
      refine L.nil ?_
      refine N.seq ?_
      refine G.ret1 rfl rfl ?_
      first
        | exact ⟨congrArg Value.bool (by rw [eq_comm, decide_eq_false_iff_not]; intro h; have := congrArg List.length h; rw [List.length_map, List.length_map] at this; omega), E⟩
        | exact ⟨congrArg Value.bool (by rw [eq_comm, decide_eq_false_iff_not]; intro h; have h9 := congrArg (fun l => l[i]?) h; simp only [List.getElem?_map] at h9; rw [List.getElem?_eq_getElem (by omega), List.getElem?_eq_getElem (by omega), ← hoe2, ← hoe3] at h9; exact hne (by simpa using h9)), E⟩
        | exact ⟨congrArg Value.bool (by rw [eq_comm, decide_eq_true_eq]; rw [List.take_of_length_le (by rw [List.length_map]; omega), List.take_of_length_le (by rw [List.length_map]; omega)] at hp; exact hp), E⟩

end Go.Proofs.Ytiiiplhfgblamaa
/-
  The walks of package record.
-/
set_option linter.unusedVariables false
set_option linter.unusedSimpArgs false
set_option maxRecDepth 4000
namespace Go.Proofs.Ytiiiplhfgblamaa
open Go Brv
end Go.Proofs.Ytiiiplhfgblamaa
/-
  The walks of package record.
-/
set_option linter.unusedVariables false
set_option linter.unusedSimpArgs false
set_option maxRecDepth 4000
namespace Go.Proofs.Ytiiiplhfgblamaa
open Go Brv
end Go.Proofs.Ytiiiplhfgblamaa
/-
  Sums of bytes, in plain Lean: the program's step by bytes, the document's bit by bit, that they agree, and that one unlike byte is told.
-/
set_option linter.unusedVariables false
namespace Brv.Crc
open Go Brv

def half (r : UInt32) : UInt32 := if r % 2 = 1 then (r >>> 1) ^^^ 0xedb88320 else r >>> 1
theorem lt_u8 (a : UInt8) : a.toNat < 256 := a.toNat_lt
/-! ### half, bit by bit -/
/-! ### the document's sum, bit by bit -/
def hi (c : UInt8) (j : Nat) : UInt32 := c.toUInt32 >>> j.toUInt32
/-! ### marks -/
def fourF (v : UInt32) : List UInt8 := [v.toUInt8, (v >>> 8).toUInt8, (v >>> 16).toUInt8, (v >>> 24).toUInt8]
/-- What Mark has written behind k bytes of the sum. -/
def partF (l : List UInt8) (m : Nat) (v : UInt32) (k : Nat) : List UInt8 := l.take m ++ ((fourF v).take k ++ l.drop (m + k))
/-! ### one bit that is turned is told -/
end Brv.Crc
/-
  Plain laws on package pack: numbers as bytes of a width, what fits, texts, padding, and what a scan reads.
-/
set_option linter.unusedVariables false
namespace Brv.Pack
open Go Brv Brv.Crc

/-- The bytes of a number, of a width. -/
def be : Nat → Nat → List UInt8
  | 0, _ => []
  | w + 1, x => be w (x / 256) ++ [UInt8.ofNat (x % 256)]
/-- The number that bytes tell. -/
def num (l : List UInt8) : Nat := l.foldl (fun n c => 256 * n + c.toNat) 0
theorem snoc_rec {Q : List UInt8 → Prop} (h0 : Q []) (hs : ∀ l c, Q l → Q (l ++ [c])) (l : List UInt8) : Q l := by
  have : ∀ r : List UInt8, Q r.reverse := by
    intro r
    induction r with
    | nil => exact h0
    | cons c r ih => rw [List.reverse_cons]; exact hs _ c ih
  have := this l.reverse
  rwa [List.reverse_reverse] at this
theorem num_snoc (l : List UInt8) (c : UInt8) : num (l ++ [c]) = 256 * num l + c.toNat := by simp [num]
theorem num_lt : ∀ (l : List UInt8), num l < 256 ^ l.length := by
  refine snoc_rec (by simp [num]) (fun l c ih => ?_)
  · rw [num_snoc, List.length_append, List.length_singleton, Nat.pow_succ]
    have := lt_u8 c
    omega
/-! ### scans -/
/-- May a number of y bytes be read? -/
def okN (l : List UInt8) (y : Int) : Prop := 1 ≤ y ∧ y ≤ 8 ∧ y ≤ l.length ∧ (y = 8 → (l.getD 0 0).toNat < 128)
instance (l : List UInt8) (y : Int) : Decidable (okN l y) := by unfold okN; infer_instance
/-- What a scan reads, what is left, the error. -/
def numF (l : List UInt8) (e y : Int) : Nat × List UInt8 × Int :=
  if e = 0 then (if okN l y then (num (l.take y.toNat), l.drop y.toNat, 0) else (0, l, 20)) else (0, l, e)
def okT (l : List UInt8) (most : Int) : Prop := 2 ≤ l.length ∧ (num (l.take 2) : Int) ≤ most ∧ num (l.take 2) ≤ l.length - 2
instance (l : List UInt8) (y : Int) : Decidable (okT l y) := by unfold okT; infer_instance
def txtF (l : List UInt8) (e most : Int) : List UInt8 × List UInt8 × Int :=
  if e = 0 then (if okT l most then ((l.drop 2).take (num (l.take 2)), (l.drop 2).drop (num (l.take 2)), 0) else ([], l, 20)) else ([], l, e)
theorem num_head (c : UInt8) : ∀ (l : List UInt8), num (c :: l) = c.toNat * 256 ^ l.length + num l := by
  refine snoc_rec (by simp [num]) (fun r d ih => ?_)
  rw [← List.cons_append, num_snoc, ih, num_snoc, List.length_append, List.length_singleton, Nat.pow_succ, Nat.mul_add, ← Nat.mul_assoc, ← Nat.mul_assoc, Nat.mul_comm 256, Nat.mul_right_comm]
  omega
theorem okN_lt {l : List UInt8} {y : Int} (h : okN l y) : num (l.take y.toNat) < 9223372036854775808 := by
  obtain ⟨h1, h8, hl, hh⟩ := h
  have hlen : (l.take y.toNat).length = y.toNat := by rw [List.length_take]; omega
  by_cases e : y = 8
  · subst e
    have := hh rfl
    cases l with
    | nil => simp at hl
    | cons c r =>
      rw [show (c :: r).take (8 : Int).toNat = c :: r.take 7 from rfl, num_head]
      have h7 : (r.take 7).length = 7 := by rw [List.length_take]; simp at hl; omega
      have h9 := num_lt (r.take 7)
      rw [h7] at h9 ⊢
      simp only [List.getD_cons_zero] at this
      omega
  · have := num_lt (l.take y.toNat)
    rw [hlen] at this
    exact Nat.lt_of_lt_of_le this (Nat.le_trans (Nat.pow_le_pow_right (by decide) (show y.toNat ≤ 7 by omega)) (by decide))
theorem numF_no {l : List UInt8} {y : Int} (h : ¬ okN l y) : numF l 0 y = (0, l, 20) := by
  unfold numF; rw [if_pos rfl, if_neg h]
theorem numF_err {l : List UInt8} {e y : Int} (h : e ≠ 0) : numF l e y = (0, l, e) := by
  unfold numF; rw [if_neg h]
theorem numF_two {l : List UInt8} {m : Nat} {l' : List UInt8} {e' : Int} (h : numF l 0 2 = (m, l', e')) : (2 ≤ l.length ∧ e' = 0 ∧ m = num (l.take 2) ∧ l' = l.drop 2) ∨ (l.length < 2 ∧ e' = 20 ∧ m = 0 ∧ l' = l) := by
  by_cases hl : 2 ≤ l.length
  · have ok : okN l 2 := ⟨by omega, by omega, by omega, by omega⟩
    unfold numF at h
    rw [if_pos rfl, if_pos ok] at h
    cases h
    exact .inl ⟨hl, rfl, rfl, rfl⟩
  · have ok : ¬ okN l 2 := fun h => hl (by have := h.2.2.1; omega)
    rw [numF_no ok] at h
    cases h
    exact .inr ⟨by omega, rfl, rfl, rfl⟩
/-! ### the order of numbers is that of their bytes -/
/-! ### any number's bytes -/
end Brv.Pack
/-
  The walks of package pack: the pen.
-/
set_option linter.unusedVariables false
namespace Go.Proofs.Ytiiiplhfgblamaa
open Go Brv Brv.Crc Brv.Pack
end Go.Proofs.Ytiiiplhfgblamaa
/-
  The walks of package pack: the scan.
-/
set_option linter.unusedVariables false
namespace Go.Proofs.Ytiiiplhfgblamaa
open Go Brv Brv.Crc Brv.Pack
end Go.Proofs.Ytiiiplhfgblamaa
/-
  The walks of package record.
-/
set_option linter.unusedVariables false
set_option linter.unusedSimpArgs false
set_option maxRecDepth 4000
namespace Go.Proofs.Ytiiiplhfgblamaa
open Go Brv Brv.Pack
def partF (l : List UInt8) : Option ((Int × List UInt8) × List UInt8) := if 66 ≤ l.length ∧ l[0]? = some 0 then some ((((l[1]?.getD 0).toNat : Int), (l.drop 2).take 64), l.drop 66) else none
end Go.Proofs.Ytiiiplhfgblamaa
/-
  The walks of package record.
-/
set_option linter.unusedVariables false
set_option linter.unusedSimpArgs false
set_option maxRecDepth 4000
namespace Go.Proofs.Ytiiiplhfgblamaa
open Go Brv Brv.Pack
theorem numF_two {l : List UInt8} {b0 b1 : UInt8} {r : List UInt8} (h : l = b0 :: b1 :: r) : numF l 0 2 = (b0.toNat * 256 + b1.toNat, r, 0) := by
  subst h
  unfold numF
  rw [if_pos rfl, if_pos (by unfold Brv.Pack.okN; simp; omega)]
  simp [num]
  omega
theorem numF_err {l : List UInt8} {e y : Int} (h : (numF l e y).2.2 ≠ 0) : (numF l e y).1 = 0 := by
  unfold numF at h ⊢
  split at h
  · rename_i h1
    rw [if_pos h1]
    split at h
    · exact absurd rfl h
    · rename_i h2
      rw [if_neg h2]
  · rename_i h1
    rw [if_neg h1]
end Go.Proofs.Ytiiiplhfgblamaa
/-
  The walks of package crc.
-/
set_option linter.unusedVariables false
namespace Go.Proofs.Ytiiiplhfgblamaa
open Go Brv Brv.Crc
end Go.Proofs.Ytiiiplhfgblamaa
/-
  Plain laws on package frame.
-/
set_option linter.unusedVariables false
namespace Brv.Frame
open Go Brv Brv.Crc Brv.Pack

/-- Is it a right frame? -/
def okFrame (lsn epoch index count : Int) (l : List UInt8) : Prop := (0 ≤ lsn ∧ lsn ≤ 4611686018427387903) ∧ (0 ≤ epoch ∧ epoch ≤ 4294967295) ∧ (1 ≤ count ∧ count ≤ 65535) ∧ (0 ≤ index ∧ index ≤ count - 1) ∧ l.length ≤ 40
instance (a b c d : Int) (l : List UInt8) : Decidable (okFrame a b c d l) := by unfold okFrame; infer_instance
end Brv.Frame
/-
  The walks of package frame.
-/
set_option linter.unusedVariables false
set_option linter.unusedSimpArgs false
namespace Go.Proofs.Ytiiiplhfgblamaa
open Go Brv Brv.Crc Brv.Pack Brv.Frame
end Go.Proofs.Ytiiiplhfgblamaa
/-
  Plain laws on package frame: what a sector tells, that a frame is told again, bodies over sectors.
-/
set_option linter.unusedVariables false
namespace Brv.Frame
open Go Brv Brv.Crc Brv.Pack

abbrev FrV := Int × Int × Int × Int × List UInt8
def okV (f : FrV) : Prop := okFrame f.1 f.2.1 f.2.2.1 f.2.2.2.1 f.2.2.2.2
instance (f : FrV) : Decidable (okV f) := by unfold okV; infer_instance
/-- What a scan reads behind the magic number. -/
def parse (l : List UInt8) : FrV × Int :=
  let a := numF l 0 8
  let b := numF a.2.1 a.2.2 4
  let c := numF b.2.1 b.2.2 2
  let d := numF c.2.1 c.2.2 2
  let t := txtF d.2.1 d.2.2 40
  (((a.1 : Int), (b.1 : Int), (c.1 : Int), (d.1 : Int), t.1), t.2.2)
theorem numF_lt (l : List UInt8) (e y : Int) : (numF l e y).1 < 9223372036854775808 := by
  unfold numF
  split
  · split
    · rename_i h; exact okN_lt h
    · show 0 < _; decide
  · show 0 < _; decide
theorem txtF_most (l : List UInt8) (e : Int) : (txtF l e 40).1.length ≤ 40 := by
  unfold txtF
  split
  · split
    · rename_i h
      rw [List.length_take]
      have := h.2.1
      omega
    · simp
  · simp

/-! ## Bodies over sectors -/
end Brv.Frame
namespace Brv.Frame
open Go Brv Brv.Crc Brv.Pack
/-! ## Gathering -/
def badG (lsn : Int) (at' : Nat) (q k : Int) (f : FrV) : Prop := (f.2.2.1 + 1 < f.2.2.2.1 ∧ (f.2.2.2.2.length : Int) < 40) ∨ (0 < f.2.2.1 ∧ (f.2.2.2.2.length : Int) = 0) ∨ f.1 ≠ lsn + at' ∨ f.2.2.1 ≠ at' ∨ f.2.1 ≠ q ∨ f.2.2.2.1 ≠ k
instance (lsn : Int) (at' : Nat) (q k : Int) (f : FrV) : Decidable (badG lsn at' q k f) := by unfold badG; infer_instance
end Brv.Frame
namespace Brv.Frame
end Brv.Frame
namespace Brv.Frame
open Go Brv Brv.Crc Brv.Pack
end Brv.Frame
namespace Brv.Frame
open Go Brv Brv.Crc Brv.Pack
end Brv.Frame
/-
  The walks of package frame: Get.
-/
set_option linter.unusedVariables false
set_option linter.unusedSimpArgs false
namespace Go.Proofs.Ytiiiplhfgblamaa
open Go Brv Brv.Crc Brv.Pack Brv.Frame
structure InV (f : FrV) : Prop where
  p : -9223372036854775808 ≤ f.1 ∧ f.1 ≤ 9223372036854775807
  q : -9223372036854775808 ≤ f.2.1 ∧ f.2.1 ≤ 9223372036854775807
  i : -9223372036854775808 ≤ f.2.2.1 ∧ f.2.2.1 ≤ 9223372036854775807
  k : -9223372036854775808 ≤ f.2.2.2.1 ∧ f.2.2.2.1 ≤ 9223372036854775807
  l : f.2.2.2.2.length ≤ 140737488351232
theorem InV.of {f : FrV} (h : okV f) : InV f := by
  obtain ⟨⟨o1, o2⟩, ⟨o3, o4⟩, ⟨o5, o6⟩, ⟨o7, o8⟩, o9⟩ := h
  exact ⟨by omega, by omega, by omega, by omega, by omega⟩
theorem InV.parse (l : List UInt8) : InV (parse l).1 := by
  have h1 := numF_lt l 0 8
  have h2 := numF_lt (numF l 0 8).2.1 (numF l 0 8).2.2 4
  have h3 := numF_lt (numF (numF l 0 8).2.1 (numF l 0 8).2.2 4).2.1 (numF (numF l 0 8).2.1 (numF l 0 8).2.2 4).2.2 2
  have h4 := numF_lt (numF (numF (numF l 0 8).2.1 (numF l 0 8).2.2 4).2.1 (numF (numF l 0 8).2.1 (numF l 0 8).2.2 4).2.2 2).2.1 (numF (numF (numF l 0 8).2.1 (numF l 0 8).2.2 4).2.1 (numF (numF l 0 8).2.1 (numF l 0 8).2.2 4).2.2 2).2.2 2
  have h5 : (Frame.parse l).1.2.2.2.2.length ≤ 40 := txtF_most _ _
  exact ⟨⟨by show (-9223372036854775808 : Int) ≤ ((numF l 0 8).1 : Int); omega, by show ((numF l 0 8).1 : Int) ≤ _; omega⟩, ⟨by show (-9223372036854775808 : Int) ≤ ((numF _ _ 4).1 : Int); omega, by show ((numF (numF l 0 8).2.1 (numF l 0 8).2.2 4).1 : Int) ≤ _; omega⟩,
    ⟨by show (-9223372036854775808 : Int) ≤ ((numF _ _ 2).1 : Int); omega, by show ((numF (numF (numF l 0 8).2.1 (numF l 0 8).2.2 4).2.1 (numF (numF l 0 8).2.1 (numF l 0 8).2.2 4).2.2 2).1 : Int) ≤ _; omega⟩,
    ⟨by show (-9223372036854775808 : Int) ≤ ((numF _ _ 2).1 : Int); omega, by show ((numF (numF (numF (numF l 0 8).2.1 (numF l 0 8).2.2 4).2.1 (numF (numF l 0 8).2.1 (numF l 0 8).2.2 4).2.2 2).2.1 (numF (numF (numF l 0 8).2.1 (numF l 0 8).2.2 4).2.1 (numF (numF l 0 8).2.1 (numF l 0 8).2.2 4).2.2 2).2.2 2).1 : Int) ≤ _; omega⟩, Nat.le_trans h5 (by decide)⟩

end Go.Proofs.Ytiiiplhfgblamaa
/-
  The walks of package frame: Spread, Gather.
-/
set_option linter.unusedVariables false
set_option linter.unusedSimpArgs false
namespace Go.Proofs.Ytiiiplhfgblamaa
open Go Brv Brv.Crc Brv.Pack Brv.Frame
structure SpSt where
  i : Nat
  a1 : Option Addr
  c1 : Nat
  M : List Nat

end Go.Proofs.Ytiiiplhfgblamaa
/-
  The walks of package record.
-/
set_option linter.unusedVariables false
set_option linter.unusedSimpArgs false
set_option maxRecDepth 4000
namespace Go.Proofs.Ytiiiplhfgblamaa
open Go Brv Brv.Pack Brv.Frame
structure GtSt where
  i : Nat
  la : Option Addr
  ln : Nat
  lc : Nat
  ll : List UInt8
  os : List WriteV
  ra : Option Addr
  rc : Nat
  MB : List Nat
  CB : List Nat
end Go.Proofs.Ytiiiplhfgblamaa
/-
  The walks of package record.
-/
set_option linter.unusedVariables false
set_option linter.unusedSimpArgs false
set_option maxRecDepth 4000
namespace Go.Proofs.Ytiiiplhfgblamaa
open Go Brv
end Go.Proofs.Ytiiiplhfgblamaa
/-
  The walks of package record.
-/
set_option linter.unusedVariables false
set_option linter.unusedSimpArgs false
set_option maxRecDepth 4000
namespace Go.Proofs.Ytiiiplhfgblamaa
open Go Brv Brv.Pack
structure GtS where
  i : Nat
  os : List WriteV
  ra : Option Addr
  rc : Nat
  ll : List UInt8
  e : Int
end Go.Proofs.Ytiiiplhfgblamaa
/-
  Plain laws on the document's merging: the least key that is left, its last write.
-/
set_option linter.unusedVariables false
set_option linter.unusedSimpArgs false
namespace Brv
open Go
def gtl : Option Int → Int → Prop
  | none, _ => True
  | some x, k => x < k
instance (l : Option Int) (k : Int) : Decidable (gtl l k) := by cases l <;> (simp only [gtl]; infer_instance)
def lastW (out : List Wr) : Option Int := out.getLast?.map Prod.fst
structure Best1 (all : List Wr) (last : Option Int) (i b : Nat) (w : Wr) : Prop where
  lt : b < i
  at' : all[b]? = some w
  gt : gtl last w.1
  least : ∀ j x, j < i → all[j]? = some x → gtl last x.1 → w.1 ≤ x.1
  last : ∀ j x, b < j → j < i → all[j]? = some x → x.1 ≠ w.1
def BestAt (all : List Wr) (last : Option Int) (i : Nat) (best : Int) : Prop :=
  (best = -1 ∧ ∀ j x, j < i → all[j]? = some x → ¬ gtl last x.1) ∨ ∃ (b : Nat) (w : Wr), best = b ∧ Best1 all last i b w
theorem BestAt.zero (all : List Wr) (last : Option Int) : BestAt all last 0 (-1) := .inl ⟨rfl, fun j x h => by omega⟩
theorem BestAt.take {all : List Wr} {last : Option Int} {i : Nat} {best : Int} {w : Wr} (h : BestAt all last i best) (hw : all[i]? = some w) (hg : gtl last w.1) (hb : best < 0 ∨ ∃ x, all[best.toNat]? = some x ∧ w.1 ≤ x.1) : BestAt all last (i + 1) i := by
  refine .inr ⟨i, w, rfl, by omega, hw, hg, ?_, fun j x h1 h2 => by omega⟩
  intro j x hj hx hgx
  by_cases hji : j = i
  · subst hji; rw [hw] at hx; cases hx; exact Int.le_refl _
  · rcases h with ⟨rfl, hno⟩ | ⟨b, v, rfl, B⟩
    · exact absurd hgx (hno j x (by omega) hx)
    · rcases hb with hb | ⟨y, hy, hle⟩
      · omega
      · rw [Int.toNat_natCast, B.at'] at hy; cases hy
        exact Int.le_trans hle (B.least j x (by omega) hx hgx)
theorem BestAt.pass {all : List Wr} {last : Option Int} {i : Nat} {best : Int} {w : Wr} (h : BestAt all last i best) (hw : all[i]? = some w) (hn : gtl last w.1 → ¬ (best < 0) ∧ ∀ x, all[best.toNat]? = some x → ¬ w.1 ≤ x.1) : BestAt all last (i + 1) best := by
  rcases h with ⟨rfl, hno⟩ | ⟨b, v, rfl, B⟩
  · refine .inl ⟨rfl, fun j x hj hx hg => ?_⟩
    by_cases hji : j = i
    · subst hji; rw [hw] at hx; cases hx; exact (hn hg).1 (by decide)
    · exact hno j x (by omega) hx hg
  · refine .inr ⟨b, v, rfl, by have := B.lt; omega, B.at', B.gt, fun j x hj hx hg => ?_, fun j x h1 h2 hx he => ?_⟩
    · by_cases hji : j = i
      · subst hji; rw [hw] at hx; cases hx
        have := (hn hg).2 v (by rw [Int.toNat_natCast]; exact B.at')
        omega
      · exact B.least j x (by omega) hx hg
    · by_cases hji : j = i
      · subst hji; rw [hw] at hx; cases hx
        have := (hn (by rw [he]; exact B.gt)).2 v (by rw [Int.toNat_natCast]; exact B.at')
        omega
      · exact B.last j x h1 (by omega) hx he
theorem BestAt.cell {all : List Wr} {last : Option Int} {i : Nat} {best : Int} (h : BestAt all last i best) (hb : ¬ best < 0) : ∃ (b : Nat) (w : Wr), best = b ∧ Best1 all last i b w := by
  rcases h with ⟨rfl, _⟩ | h
  · exact absurd (by decide) hb
  · exact h
theorem lastOf_idx : ∀ {all : List Wr} {b : Nat} {w : Wr}, all[b]? = some w → (∀ j x, b < j → all[j]? = some x → x.1 ≠ w.1) → lastOf all w.1 = some w.2
  | y :: r, 0, w, h, hl => by
    simp only [List.getElem?_cons_zero, Option.some.injEq] at h; subst h
    have hn : lastOf r y.1 = none := by
      have : ∀ (r : List Wr), (∀ (j : Nat) (x : Wr), r[j]? = some x → x.1 ≠ y.1) → lastOf r y.1 = none := by
        intro r
        induction r with
        | nil => intro _; rfl
        | cons z r ih =>
          intro h
          simp only [lastOf]
          rw [ih (fun j x hx => h (j + 1) x hx), if_neg (h 0 z rfl)]
      exact this r (fun j x hx => hl (j + 1) x (by omega) hx)
    simp only [lastOf]; rw [hn]; simp
  | y :: r, b + 1, w, h, hl => by
    simp only [lastOf]
    rw [lastOf_idx (all := r) (b := b) h (fun j x hj hx => hl (j + 1) x (by omega) hx)]
theorem lastOf_mem : ∀ {all : List Wr} {k : Int} {b : List UInt8}, lastOf all k = some b → ∃ x ∈ all, x.1 = k
  | y :: r, k, b, h => by
    simp only [lastOf] at h
    cases hr : lastOf r k with
    | some b' => obtain ⟨x, hx, e⟩ := lastOf_mem hr; exact ⟨x, List.mem_cons_of_mem _ hx, e⟩
    | none =>
      rw [hr] at h
      by_cases e : y.1 = k
      · exact ⟨y, by simp, e⟩
      · rw [if_neg e] at h; cases h
structure OutOk (all out : List Wr) : Prop where
  sorted : Sorted (out.map toQ)
  mem : ∀ x ∈ out, lastOf all x.1 = some x.2
  rest : ∀ x ∈ all, (∃ y ∈ out, y.1 = x.1) ∨ gtl (lastW out) x.1
theorem OutOk.nil (all : List Wr) : OutOk all [] := ⟨List.Pairwise.nil, by simp, fun x _ => .inr trivial⟩
theorem sorted_le_last {out : List Wr} {x : Wr} (h : Sorted (out.map toQ)) (hx : x ∈ out) {k : Int} (hk : gtl (lastW out) k) : x.1 < k := by
  obtain ⟨r, z, rfl⟩ : ∃ r z, out = r ++ [z] := by
    rcases List.eq_nil_or_concat out with rfl | ⟨r, z, h⟩
    · cases hx
    · exact ⟨r, z, by simpa using h⟩
  simp only [lastW, List.getLast?_append, List.getLast?_singleton, Option.some_or, Option.map_some, gtl] at hk
  rcases List.mem_append.1 hx with hx | hx
  · rw [List.map_append] at h
    have := (List.pairwise_append.1 h).2.2 (toQ x) (List.mem_map.2 ⟨x, hx, rfl⟩) (toQ z) (by simp)
    have h2 : Key.lt x.1 z.1 = true := this
    have : x.1 < z.1 := of_decide_eq_true h2
    omega
  · rw [List.mem_singleton.1 hx]; exact hk
theorem lastW_snoc (out : List Wr) (w : Wr) : lastW (out ++ [w]) = some w.1 := by simp [lastW]
theorem OutOk.step {all out : List Wr} {b : Nat} {w : Wr} (h : OutOk all out) (B : Best1 all (lastW out) all.length b w) : OutOk all (out ++ [w]) := by
  refine ⟨?_, ?_, ?_⟩
  · rw [List.map_append]
    refine List.pairwise_append.2 ⟨h.sorted, List.pairwise_singleton _ _, ?_⟩
    intro p hp q hq
    obtain ⟨x, hx, rfl⟩ := List.mem_map.1 hp
    rw [List.map_cons, List.map_nil] at hq
    rw [List.mem_singleton.1 hq]
    exact decide_eq_true (sorted_le_last h.sorted hx B.gt)
  · intro x hx
    rcases List.mem_append.1 hx with hx | hx
    · exact h.mem x hx
    · rw [List.mem_singleton.1 hx]
      exact lastOf_idx B.at' (fun j y hj hy => B.last j y hj (List.getElem?_eq_some_iff.1 hy).1 hy)
  · intro x hx
    rcases h.rest x hx with ⟨y, hy, e⟩ | hg
    · exact .inl ⟨y, List.mem_append_left _ hy, e⟩
    · obtain ⟨j, hj⟩ := List.getElem?_of_mem hx
      have := B.least j x (List.getElem?_eq_some_iff.1 hj).1 hj hg
      rw [lastW_snoc]
      by_cases e : x.1 = w.1
      · exact .inl ⟨w, by simp, e.symm⟩
      · exact .inr (show w.1 < x.1 by omega)
theorem OutOk.done {all out : List Wr} (h : OutOk all out) (hb : BestAt all (lastW out) all.length (-1)) : out.map toQ = mergeP [] all := by
  have hno : ∀ x ∈ all, ¬ gtl (lastW out) x.1 := by
    rcases hb with ⟨_, hno⟩ | ⟨b, w, e, _⟩
    · intro x hx
      obtain ⟨j, hj⟩ := List.getElem?_of_mem hx
      exact hno j x (List.getElem?_eq_some_iff.1 hj).1 hj
    · omega
  refine sorted_ext h.sorted (mergeP_sorted nil_sorted all) fun p => ?_
  rw [mem_mergeP nil_sorted]
  constructor
  · intro hp
    obtain ⟨x, hx, rfl⟩ := List.mem_map.1 hp
    exact .inl ⟨x.2, h.mem x hx, rfl⟩
  · rintro (⟨b, h1, h2⟩ | ⟨_, h2⟩)
    · obtain ⟨x, hx, e⟩ := lastOf_mem h1
      rcases h.rest x hx with ⟨y, hy, e2⟩ | hg
      · have h3 := h.mem y hy
        rw [e2, e, h1] at h3; cases h3
        refine List.mem_map.2 ⟨y, hy, ?_⟩
        obtain ⟨k, u⟩ := p
        simp only at e e2 h2 ⊢
        rw [toQ, e2, e, h2]
      · exact absurd hg (hno x hx)
    · cases h2
def leftN (all : List Wr) (last : Option Int) : Nat := (all.filter (fun x => decide (gtl last x.1))).length
theorem leftN_lt {all : List Wr} {last : Option Int} {i b : Nat} {w : Wr} (B : Best1 all last i b w) : leftN all (some w.1) < leftN all last := by
  have hw : w ∈ all := List.mem_of_getElem? B.at'
  have hsub : ∀ x : Wr, gtl (some w.1) x.1 → gtl last x.1 := by
    intro x hx
    have h1 : w.1 < x.1 := hx
    have := B.gt
    cases last with
    | none => trivial
    | some y => have : y < w.1 := this; show y < x.1; omega
  have gen : ∀ (l : List Wr), (l.filter (fun x => decide (gtl (some w.1) x.1))).length ≤ (l.filter (fun x => decide (gtl last x.1))).length ∧ (w ∈ l → (l.filter (fun x => decide (gtl (some w.1) x.1))).length < (l.filter (fun x => decide (gtl last x.1))).length) := by
    intro l
    induction l with
    | nil => exact ⟨Nat.le_refl _, fun h => by cases h⟩
    | cons x l ih =>
      simp only [List.filter_cons]
      by_cases h1 : gtl (some w.1) x.1
      · have h2 := hsub x h1
        rw [decide_eq_true h1, decide_eq_true h2]
        simp only [if_true, List.length_cons]
        refine ⟨Nat.succ_le_succ ih.1, fun h => Nat.succ_lt_succ (ih.2 ((List.mem_cons.1 h).resolve_left (fun e => ?_)))⟩
        subst e
        exact absurd (show w.1 < w.1 from h1) (Int.lt_irrefl _)
      · rw [decide_eq_false h1]
        simp only [Bool.false_eq_true, if_false]
        by_cases h2 : gtl last x.1
        · rw [decide_eq_true h2]
          simp only [if_true, List.length_cons]
          exact ⟨Nat.le_succ_of_le ih.1, fun _ => Nat.lt_succ_of_le ih.1⟩
        · rw [decide_eq_false h2]
          simp only [Bool.false_eq_true, if_false]
          refine ⟨ih.1, fun h => ih.2 ((List.mem_cons.1 h).resolve_left (fun e => ?_))⟩
          subst e; exact h2 B.gt
  exact (gen all).2 hw
theorem nodup_le : ∀ {l m : List Int}, l.Nodup → (∀ k ∈ l, k ∈ m) → l.length ≤ m.length
  | [], _, _, _ => Nat.zero_le _
  | x :: l, m, hn, hs => by
    obtain ⟨h1, h2⟩ := List.nodup_cons.1 hn
    have hx := hs x (by simp)
    have := nodup_le (l := l) (m := m.erase x) h2 (fun k hk => (List.mem_erase_of_ne (fun e => h1 (by rw [← e]; exact hk))).2 (hs k (by simp [hk])))
    rw [List.length_erase_of_mem hx] at this
    have := List.length_pos_of_mem hx
    simp only [List.length_cons]; omega
theorem OutOk.len {all out : List Wr} (h : OutOk all out) : out.length ≤ all.length := by
  have hk : (out.map Prod.fst).Nodup := by
    have := h.sorted
    rw [Sorted, List.pairwise_map] at this
    rw [List.Nodup, List.pairwise_map]
    refine this.imp fun {a b} hab => ?_
    intro e
    have h2 : Key.lt a.1 b.1 = true := hab
    have h3 : a.1 < b.1 := of_decide_eq_true h2
    omega
  have hs : ∀ k ∈ out.map Prod.fst, k ∈ all.map Prod.fst := by
    intro k hk
    obtain ⟨x, hx, rfl⟩ := List.mem_map.1 hk
    obtain ⟨y, hy, e⟩ := lastOf_mem (h.mem x hx)
    exact List.mem_map.2 ⟨y, hy, e⟩
  have := nodup_le hk hs
  simpa using this
end Brv
/-
  The walks of package record.
-/
set_option linter.unusedVariables false
set_option linter.unusedSimpArgs false
set_option maxRecDepth 4000
namespace Go.Proofs.Ytiiiplhfgblamaa
open Go Brv
theorem row_cell {w : World} {la : Option Addr} {q : Addr} {rs : List RowW} {i : Nat} {r : RowW} (h : Cells w la (rs.map RowW.val)) (hq : la = some q) (hr : rs[i]? = some r) : w.cell? (q.add ((i : Int).toNat * 1)) = some (.slice r.a r.n r.c) := by
  obtain ⟨p, hp, hc⟩ := h i r.val (by rw [List.getElem?_map, hr]; rfl)
  rw [hq] at hp; cases hp
  rw [Int.toNat_natCast, Nat.mul_one]; exact hc
theorem row_some {w : World} {la : Option Addr} {rs : List RowW} {i : Nat} {r : RowW} (h : Cells w la (rs.map RowW.val)) (hr : rs[i]? = some r) : ∃ q, la = some q := by
  obtain ⟨p, hp, hc⟩ := h i r.val (by rw [List.getElem?_map, hr]; rfl)
  exact ⟨p, hp⟩
theorem cellsW_at {w : World} {p : Addr} {ws : List WriteV} {i : Nat} {o : WriteV} (h : Cells w (some p) (cellsW ws)) (ho : ws[i]? = some o) : Cells w (some (p.add ((i : Int).toNat * 2))) (WriteV.cells o) := by
  obtain ⟨hi, rfl⟩ := List.getElem?_eq_some_iff.1 ho
  obtain ⟨q, hq, hc⟩ := (tabW h rfl).at (by decide) i (by simpa using hi)
  cases hq
  rw [Int.toNat_natCast]
  simpa using hc
theorem cellsW_blk {w : World} {p : Addr} {ws : List WriteV} {i : Nat} {o : WriteV} (h : Cells w (some p) (cellsW ws)) (ho : ws[i]? = some o) : w.cell? ((p.add ((i : Int).toNat * 2)).add 0) = some (.int .i64 o.Block') := by
  exact (cellsW_at h ho).load (j := 0) rfl
theorem cells_to {w : World} {a b : Option Addr} {vs : List Value} (h : Cells w a vs) (e : a = b) : Cells w b vs := e ▸ h
structure MgO where
  os : List WriteV
  oa : Option Addr
  oc : Nat
theorem last_map {os : List WriteV} {z : WriteV} (h : os[os.length - 1]? = some z) : lastW (os.map wv) = some z.Block' := by
  rw [lastW, List.getLast?_map, List.getLast?_eq_getElem?, h]; rfl
theorem all_at {ws : List WriteV} {i : Nat} {o : WriteV} (h : ws[i]? = some o) : (ws.map wv)[i]? = some (wv o) := by rw [List.getElem?_map, h]; rfl
theorem best_lt {all : List Wr} {last : Option Int} {i : Nat} {best : Int} (h : BestAt all last i best) : best < i := by
  rcases h with ⟨rfl, _⟩ | ⟨b, w, rfl, B⟩
  · omega
  · have := B.lt; omega

structure MgA where
  i : Nat
  a : Option Addr
  c : Nat

theorem refmerge7_ok (la : Option Addr) (ln lc : Nat) (rs : List RowW) (hln : ln = rs.length) (htot : (allW rs).length ≤ 50000) (hlb : ln ≤ 2000000) : SpecS Try.prog 26 [.slice la ln lc] [sh (fun w => Cells w la (rs.map RowW.val) ∧ ∀ r ∈ rs, r.ok w)] (fun v H' => ∃ r : RowW, v = .slice r.a r.n r.c ∧ (r.os.map fun o => toQ (wv o)) = mergeP [] ((allW rs).map wv) ∧ r.n ≤ 50000 ∧ H' = [sh (fun w => r.ok w)]) := by
  refine SpecS.enter Try.func26 rfl 68 rfl (Nat.le_of_ble_eq_true rfl) (fun o => ?_)
  refine SG.imp (Imp.ownNil 40 2) ?_
  refine SG.seq ?_
  refine SG.region ?_
  refine SL.val rfl rfl (fun w9 F9 S9 s => R.as rfl) ?_
  refine SL.nil ?_
  refine SN.seq ?_
  refine SG.seq ?_
  refine SG.region ?_
  refine SL.val rfl rfl (fun w9 F9 S9 s => R.as rfl) ?_
  refine SL.val rfl rfl (fun w9 F9 S9 s => R.as rfl) ?_
  refine SL.nil ?_
  refine SN.seq ?_
  refine SG.seq ?_
  refine SG.seq ?_
  refine SG.region ?_
  refine SL.val rfl rfl (fun w9 F9 S9 s => R.mv rfl) ?_
  refine SL.val rfl rfl (fun w9 F9 S9 s => R.lenS rfl) ?_
  refine SL.val rfl rfl (fun w9 F9 S9 s => R.mv rfl) ?_
  refine SL.nil ?_
  refine SN.seq ?_
  refine SG.block ?_
  refine SG.loop (X := MgA) (fun x => [(2, .slice none 0 0), (3, .slice x.a (allW (rs.take x.i)).length x.c), (4, .slice none 0 0), (10, .slice la ln lc), (11, .int .i64 (ln : Int)), (12, .int .i64 (x.i : Int))]) (fun x => [sh (fun w => Cells w la (rs.map RowW.val) ∧ ∀ r ∈ rs, r.ok w), own 40 2 x.a (allW (rs.take x.i)).length x.c (cellsW (allW (rs.take x.i)))]) (fun x => x.i ≤ ln) (fun x => ln - x.i) (⟨0, none, 0⟩) (Sub.cons rfl (Sub.cons rfl (Sub.cons rfl (Sub.cons rfl (Sub.cons rfl (Sub.cons rfl (Sub.nil _))))))) ((Imp.sels (by repeat (first | exact Sels.nil | apply Sels.cons | exact Sel.keep | exact Sel.here | apply Sel.there)))) (Nat.zero_le _) ?_
  rintro ⟨i, a, c⟩ hi
  dsimp only at hi
  show SG _ _ _ _ _ [(2, .slice none 0 0), (3, .slice a (allW (rs.take i)).length c), (4, .slice none 0 0), (10, .slice la ln lc), (11, .int .i64 (ln : Int)), (12, .int .i64 (i : Int))] [sh (fun w => Cells w la (rs.map RowW.val) ∧ ∀ r ∈ rs, r.ok w), own 40 2 a (allW (rs.take i)).length c (cellsW (allW (rs.take i)))] _
  refine SG.seq ?_
  refine SG.region ?_
  refine SL.val rfl rfl (fun w9 F9 S9 s => R.lss rfl rfl) ?_
  refine SL.nil ?_
  refine SN.seq ?_
  refine SG.seq ?_
  refine SG.condP rfl (fun h0 => ?_) (fun h0 => ?_)
  · obtain ⟨r, hr⟩ : ∃ r, rs[i]? = some r := ⟨_, List.getElem?_eq_getElem (by omega)⟩
    refine SG.fact (fun w9 F9 S9 s => row_some (s.sh (by repeat (first | exact Sel.keep | exact Sel.here | apply Sel.there)) (p := fun w => Cells w la (rs.map RowW.val) ∧ ∀ r ∈ rs, r.ok w)).1 hr) (fun hf9 => ?_)
    obtain ⟨q, hq⟩ := hf9
    refine SG.fact (fun w9 F9 S9 s => (show r.os.length = r.n by have h9 := ((s.sh (by repeat (first | exact Sel.keep | exact Sel.here | apply Sel.there)) (p := fun w => Cells w la (rs.map RowW.val) ∧ ∀ r ∈ rs, r.ok w)).2 r (List.mem_of_getElem? hr)).2.1.len; rw [List.length_map] at h9; exact h9.symm)) (fun hf9 => ?_)
    have hrn := hf9; clear hf9
    have hal := allW_le hr
    refine SG.skip ?_
    refine SN.seq ?_
    refine SG.seq ?_
    refine SG.block ?_
    refine SG.seq ?_
    refine SG.region ?_
    refine SL.val rfl rfl (fun w9 F9 S9 s => R.idx rfl rfl (by omega) (by omega) q hq) ?_
    refine SL.val rfl rfl (fun w9 F9 S9 s => R.ld rfl (v := .slice r.a r.n r.c) (row_cell (s.sh (by repeat (first | exact Sel.keep | exact Sel.here | apply Sel.there)) (p := fun w => Cells w la (rs.map RowW.val) ∧ ∀ r ∈ rs, r.ok w)).1 hq hr)) ?_
    refine SL.val rfl rfl (fun w9 F9 S9 s => R.as rfl) ?_
    refine SL.nil ?_
    refine SN.seq ?_
    refine SG.region ?_
    refine SL.val rfl rfl (fun w9 F9 S9 s => R.mv rfl) ?_
    refine SL.val rfl rfl (fun w9 F9 S9 s => R.mv rfl) ?_
    refine SL.step rfl rfl (CS.app (news := cellsW r.os) rfl rfl (by repeat (first | exact Sel.keep | exact Sel.here | apply Sel.there)) (fun w9 F9 S9 s => ((s.sh (by repeat (first | exact Sel.keep | exact Sel.here | apply Sel.there)) (p := fun w => Cells w la (rs.map RowW.val) ∧ ∀ r ∈ rs, r.ok w)).2 r (List.mem_of_getElem? hr)).2.1.cells) (by rw [cellsW_length, hrn]) (cellsW_one _) (by simp [maxLen]; omega) (by omega)) ?_
    rintro _ _ ⟨a18, c18, rfl, rfl⟩
    refine SL.val rfl rfl (fun w9 F9 S9 s => R.as rfl) ?_
    refine SL.nil ?_
    refine SN.be 3 rfl (show Value.slice a18 ((allW (rs.take i)).length + r.n) c18 = Value.slice a18 (allW (rs.take (i + 1))).length c18 by rw [allW_succ hr, List.length_append, hrn]) ?_
    refine SN.block ?_
    refine SN.seq ?_
    refine SG.region ?_
    refine SL.val rfl rfl (fun w9 F9 S9 s => R.add rfl rfl (by omega)) ?_
    refine SL.val rfl rfl (fun w9 F9 S9 s => R.mv rfl) ?_
    refine SL.nil ?_
    exact SN.again (⟨i + 1, a18, c18⟩) (by show ln - (i + 1) < ln - i; omega) (Sub.cons rfl (Sub.cons rfl (Sub.cons rfl (Sub.cons rfl (Sub.cons rfl (Sub.cons rfl (Sub.nil _))))))) ((show Imp _ _ by simp only [allW_succ hr, List.length_append, cellsW_append, hrn]; exact (Imp.sels (by repeat (first | exact Sels.nil | apply Sels.cons | exact Sel.keep | exact Sel.here | apply Sel.there))))) (by show i + 1 ≤ ln; omega)
  · obtain rfl : ln = i := by omega
    have hta : rs.take ln = rs := List.take_of_length_le (by omega)
    rw [hta]
    obtain ⟨aa, haa⟩ : ∃ aa, aa = a := ⟨_, rfl⟩
    obtain ⟨ac, hac⟩ : ∃ ac, ac = c := ⟨_, rfl⟩
    rw [← haa, ← hac]
    refine SG.imp (Imp.weak (by repeat (first | exact Sel.keep | exact Sel.here | apply Sel.there)) (p := fun w => Cells w la (rs.map RowW.val) ∧ ∀ r ∈ rs, r.ok w) (q := fun w => ∀ o ∈ allW rs, o.okW w) (fun w h o ho => by obtain ⟨os, hos, ho⟩ := List.mem_flatten.1 ho; obtain ⟨r, hr, rfl⟩ := List.mem_map.1 hos; exact (h.2 r hr).2.2 o ho)) ?_
    refine SG.exit _ rfl ?_
    refine SN.seq ?_
    refine SG.block ?_
    refine SG.imp (Imp.ownNil 40 2) ?_
    refine SG.loop (X := MgO) (fun x => [(3, .slice aa (allW rs).length ac), (4, .slice x.oa x.os.length x.oc)]) (fun x => [sh (fun w => ∀ o ∈ allW rs, o.okW w), own 40 2 aa (allW rs).length ac (cellsW (allW rs)), own 40 2 x.oa x.os.length x.oc (cellsW x.os)]) (fun x => OutOk ((allW rs).map wv) (x.os.map wv) ∧ ∀ z ∈ x.os, z ∈ allW rs) (fun x => leftN ((allW rs).map wv) (lastW (x.os.map wv))) (⟨[], none, 0⟩) (Sub.cons rfl (Sub.cons rfl (Sub.nil _))) ((Imp.sels (by repeat (first | exact Sels.nil | apply Sels.cons | exact Sel.keep | exact Sel.here | apply Sel.there)))) (⟨OutOk.nil _, by simp⟩) ?_
    rintro ⟨os, oa, oc⟩ ⟨hO, hI⟩
    dsimp only at hO hI
    have hln := hO.len
    rw [List.length_map, List.length_map] at hln
    show SG _ _ _ _ _ [(3, .slice aa (allW rs).length ac), (4, .slice oa os.length oc)] [sh (fun w => ∀ o ∈ allW rs, o.okW w), own 40 2 aa (allW rs).length ac (cellsW (allW rs)), own 40 2 oa os.length oc (cellsW os)] _
    refine SG.block ?_
    refine SG.seq ?_
    refine SG.region ?_
    refine SL.val rfl rfl (fun w9 F9 S9 s => R.as rfl) ?_
    refine SL.nil ?_
    refine SN.seq ?_
    refine SG.seq ?_
    refine SG.seq ?_
    refine SG.region ?_
    refine SL.val rfl rfl (fun w9 F9 S9 s => R.mv rfl) ?_
    refine SL.val rfl rfl (fun w9 F9 S9 s => R.lenS rfl) ?_
    refine SL.val rfl rfl (fun w9 F9 S9 s => R.mv rfl) ?_
    refine SL.nil ?_
    refine SN.seq ?_
    refine SG.block ?_
    refine SG.loop (X := Nat × Int) (fun x => [(3, .slice aa (allW rs).length ac), (4, .slice oa os.length oc), (7, .int .i64 x.2), (20, .slice aa (allW rs).length ac), (21, .int .i64 ((allW rs).length : Int)), (22, .int .i64 (x.1 : Int))]) (fun x => [sh (fun w => ∀ o ∈ allW rs, o.okW w), own 40 2 aa (allW rs).length ac (cellsW (allW rs)), own 40 2 oa os.length oc (cellsW os)]) (fun x => x.1 ≤ (allW rs).length ∧ BestAt ((allW rs).map wv) (lastW (os.map wv)) x.1 x.2) (fun x => (allW rs).length - x.1) ((0, -1)) (Sub.cons rfl (Sub.cons rfl (Sub.cons rfl (Sub.cons rfl (Sub.cons rfl (Sub.cons rfl (Sub.nil _))))))) ((Imp.sels (by repeat (first | exact Sels.nil | apply Sels.cons | exact Sel.keep | exact Sel.here | apply Sel.there)))) (⟨Nat.zero_le _, BestAt.zero _ _⟩) ?_
    rintro ⟨i, best⟩ ⟨hi, hB⟩
    dsimp only at hi hB
    have hbl := best_lt hB
    show SG _ _ _ _ _ [(3, .slice aa (allW rs).length ac), (4, .slice oa os.length oc), (7, .int .i64 best), (20, .slice aa (allW rs).length ac), (21, .int .i64 ((allW rs).length : Int)), (22, .int .i64 (i : Int))] [sh (fun w => ∀ o ∈ allW rs, o.okW w), own 40 2 aa (allW rs).length ac (cellsW (allW rs)), own 40 2 oa os.length oc (cellsW os)] _
    refine SG.seq ?_
    refine SG.region ?_
    refine SL.val rfl rfl (fun w9 F9 S9 s => R.lss rfl rfl) ?_
    refine SL.nil ?_
    refine SN.seq ?_
    refine SG.seq ?_
    refine SG.condP rfl (fun h1 => ?_) (fun h1 => ?_)
    · obtain ⟨z, hz⟩ : ∃ z, (allW rs)[i]? = some z := ⟨_, List.getElem?_eq_getElem (by omega)⟩
      have hzw := all_at hz
      refine SG.fact (fun w9 F9 S9 s => s.ownG (a := aa) (by repeat (first | exact Sel.keep | exact Sel.here | apply Sel.there)) (by omega)) (fun hf9 => ?_)
      obtain ⟨g3, hg3⟩ := hf9
      refine SG.skip ?_
      refine SN.seq ?_
      refine SG.seq ?_
      refine SG.block ?_
      refine SG.seq ?_
      refine SG.region ?_
      refine SL.val rfl rfl (fun w9 F9 S9 s => R.mv rfl) ?_
      refine SL.val rfl rfl (fun w9 F9 S9 s => R.idx rfl rfl (by omega) (by omega) ⟨g3, 0, none⟩ hg3) ?_
      refine SL.val rfl rfl (fun w9 F9 S9 s => R.ldN (vs := WriteV.cells z) rfl (cellsW_at (cells_to (s.ownC (a := aa) (by repeat (first | exact Sel.keep | exact Sel.here | apply Sel.there))) hg3) hz) rfl) ?_
      refine SL.step rfl rfl (CS.alloc [.int .i64 0, .slice none 0 0] rfl) ?_
      rintro _ _ ⟨b9, rfl, rfl⟩
      refine SL.val rfl rfl (fun w9 F9 S9 s => R.as rfl) ?_
      refine SL.step0 rfl (CS.stA (vs := WriteV.cells z) rfl rfl (by repeat (first | exact Sel.keep | exact Sel.here | apply Sel.there)) (by rfl) (by rfl) (by intro u hu; exact WriteV.cells.one _ u (by simpa using hu))) ?_
      rintro _ _ rfl
      refine SL.nil ?_
      refine SN.seq ?_
      refine SG.seq ?_
      refine SG.draw [] [0, 1, 2, 3, 4, 5, 6, 7, 8, 9, 10, 11, 12, 13, 14, 15, 16, 17, 18, 19, 20, 21, 22, 23, 24, 25, 26, 27, 28] (by decide +kernel) rfl ?_
      refine SW.pure rfl rfl rfl rfl (fun w9 => R.mv rfl) ?_
      refine SW.pure rfl rfl rfl rfl (fun w9 => R.lenS rfl) ?_
      refine SW.pure rfl rfl rfl rfl (fun w9 => R.eqI rfl rfl) ?_
      refine SW.pure rfl rfl rfl rfl (fun w9 => R.mv rfl) ?_
      refine SW.caseP 30 rfl (fun hg11_3 => ?_) (fun hg11_3 => ?_)
      · have hgt : gtl (lastW (os.map wv)) (wv z).1 := by rw [List.eq_nil_of_length_eq_zero (show os.length = 0 by omega)]; trivial
        refine SW.pass (hd := rfl) rfl rfl rfl ?_
        refine SW.pass (hd := rfl) rfl rfl rfl ?_
        refine SW.pass (hd := rfl) rfl rfl rfl ?_
        refine SW.pass (hd := rfl) rfl rfl rfl ?_
        refine SW.pass (hd := rfl) rfl rfl rfl ?_
        refine SW.pass (hd := rfl) rfl rfl rfl ?_
        refine SW.pass (hd := rfl) rfl rfl rfl ?_
        refine SW.pass (hd := rfl) rfl rfl rfl ?_
        refine SW.pass (hd := rfl) rfl rfl rfl ?_
        refine SW.pass (hd := rfl) rfl rfl rfl ?_
        first | refine SW.pure rfl rfl rfl rfl (fun w9 => R.pickT rfl rfl) ?_ | refine SW.pure rfl rfl rfl rfl (fun w9 => R.pickF rfl rfl) ?_
        refine SW.pure rfl rfl rfl rfl (fun w9 => R.mv rfl) ?_
        refine SW.pure rfl rfl rfl rfl (fun w9 => R.mv rfl) ?_
        refine SW.pure rfl rfl rfl rfl (fun w9 => R.lss rfl rfl) ?_
        refine SW.pure rfl rfl rfl rfl (fun w9 => R.mv rfl) ?_
        refine SW.caseP 45 rfl (fun hg11_18 => ?_) (fun hg11_18 => ?_)
        · have hnew := hB.take hzw hgt (.inl hg11_18)
          refine SW.pass (hd := rfl) rfl rfl rfl ?_
          refine SW.pass (hd := rfl) rfl rfl rfl ?_
          refine SW.pass (hd := rfl) rfl rfl rfl ?_
          refine SW.pass (hd := rfl) rfl rfl rfl ?_
          refine SW.pass (hd := rfl) rfl rfl rfl ?_
          refine SW.pass (hd := rfl) rfl rfl rfl ?_
          refine SW.pass (hd := rfl) rfl rfl rfl ?_
          refine SW.pass (hd := rfl) rfl rfl rfl ?_
          first | refine SW.pure rfl rfl rfl rfl (fun w9 => R.pickT rfl rfl) ?_ | refine SW.pure rfl rfl rfl rfl (fun w9 => R.pickF rfl rfl) ?_
          first | refine SW.pure rfl rfl rfl rfl (fun w9 => R.pickT rfl rfl) ?_ | refine SW.pure rfl rfl rfl rfl (fun w9 => R.pickF rfl rfl) ?_
          refine SW.nil ?_
          refine SN.seq ?_
          refine SG.condT rfl ?_
          refine SG.region ?_
          refine SL.val rfl rfl (fun w9 F9 S9 s => R.mv rfl) ?_
          refine SL.val rfl rfl (fun w9 F9 S9 s => R.as rfl) ?_
          refine SL.nil ?_
          refine SN.block ?_
          refine SN.seq ?_
          refine SG.region ?_
          refine SL.val rfl rfl (fun w9 F9 S9 s => R.add rfl rfl (by omega)) ?_
          refine SL.val rfl rfl (fun w9 F9 S9 s => R.mv rfl) ?_
          refine SL.nil ?_
          first
            | exact SN.again (i + 1, (i : Int)) (by show _ - (i + 1) < _ - i; omega) (Sub.cons rfl (Sub.cons rfl (Sub.cons rfl (Sub.cons rfl (Sub.cons rfl (Sub.cons rfl (Sub.nil _))))))) (Imp.sels (by repeat (first | exact Sels.nil | apply Sels.cons | exact Sel.keep | exact Sel.here | apply Sel.there))) ⟨by show i + 1 ≤ _; omega, hnew⟩
            | exact SN.again (i + 1, _) (by show _ - (i + 1) < _ - i; omega) (Sub.cons rfl (Sub.cons rfl (Sub.cons rfl (Sub.cons rfl (Sub.cons rfl (Sub.cons rfl (Sub.nil _))))))) (Imp.sels (by repeat (first | exact Sels.nil | apply Sels.cons | exact Sel.keep | exact Sel.here | apply Sel.there))) ⟨by show i + 1 ≤ _; omega, hnew⟩
        · obtain ⟨b9, w9, hb9, hB9⟩ := hB.cell hg11_18
          subst hb9
          obtain ⟨y9, hy9⟩ : ∃ y9, (allW rs)[b9]? = some y9 := ⟨_, List.getElem?_eq_getElem (by omega)⟩
          have hyw := all_at hy9
          refine SW.pure rfl rfl rfl rfl (fun w9 => R.fld rfl) ?_
          refine SW.read rfl rfl rfl rfl (fun w9 F9 S9 s => R.ldB rfl (s.cel (by repeat (first | exact SelB.blk | exact SelB.fz | apply SelB.there))) (by rfl)) ?_
          refine SW.pure rfl rfl rfl rfl (fun w9 => R.mv rfl) ?_
          refine SW.pure rfl rfl rfl rfl (fun w9 => R.mv rfl) ?_
          refine SW.pure rfl rfl rfl rfl (fun w9 => R.idx rfl rfl (by omega) (by omega) ⟨g3, 0, none⟩ hg3) ?_
          refine SW.pure rfl rfl rfl rfl (fun w9 => R.fldA rfl) ?_
          refine SW.read rfl rfl rfl rfl (fun w9 F9 S9 s => R.ld (v := .int .i64 y9.Block') rfl (cellsW_blk (cells_to (s.ownC (a := aa) (by repeat (first | exact Sel.keep | exact Sel.here | apply Sel.there))) hg3) hy9)) ?_
          refine SW.pure rfl rfl rfl rfl (fun w9 => R.leq rfl rfl) ?_
          first | refine SW.pure rfl rfl rfl rfl (fun w9 => R.pickT rfl rfl) ?_ | refine SW.pure rfl rfl rfl rfl (fun w9 => R.pickF rfl rfl) ?_
          first | refine SW.pure rfl rfl rfl rfl (fun w9 => R.pickT rfl rfl) ?_ | refine SW.pure rfl rfl rfl rfl (fun w9 => R.pickF rfl rfl) ?_
          refine SW.nil ?_
          refine SN.seq ?_
          refine SG.condP rfl (fun h2 => ?_) (fun h2 => ?_)
          · have hnew := hB.take hzw hgt (.inr ⟨wv y9, by rw [Int.toNat_natCast]; exact hyw, h2⟩)
            refine SG.region ?_
            refine SL.val rfl rfl (fun w9 F9 S9 s => R.mv rfl) ?_
            refine SL.val rfl rfl (fun w9 F9 S9 s => R.as rfl) ?_
            refine SL.nil ?_
            refine SN.block ?_
            refine SN.seq ?_
            refine SG.region ?_
            refine SL.val rfl rfl (fun w9 F9 S9 s => R.add rfl rfl (by omega)) ?_
            refine SL.val rfl rfl (fun w9 F9 S9 s => R.mv rfl) ?_
            refine SL.nil ?_
            first
              | exact SN.again (i + 1, (i : Int)) (by show _ - (i + 1) < _ - i; omega) (Sub.cons rfl (Sub.cons rfl (Sub.cons rfl (Sub.cons rfl (Sub.cons rfl (Sub.cons rfl (Sub.nil _))))))) (Imp.sels (by repeat (first | exact Sels.nil | apply Sels.cons | exact Sel.keep | exact Sel.here | apply Sel.there))) ⟨by show i + 1 ≤ _; omega, hnew⟩
              | exact SN.again (i + 1, _) (by show _ - (i + 1) < _ - i; omega) (Sub.cons rfl (Sub.cons rfl (Sub.cons rfl (Sub.cons rfl (Sub.cons rfl (Sub.cons rfl (Sub.nil _))))))) (Imp.sels (by repeat (first | exact Sels.nil | apply Sels.cons | exact Sel.keep | exact Sel.here | apply Sel.there))) ⟨by show i + 1 ≤ _; omega, hnew⟩
          · have hnew := hB.pass hzw (fun _ => ⟨hg11_18, fun x hx => by rw [Int.toNat_natCast, hyw] at hx; cases hx; exact h2⟩)
            refine SG.skip ?_
            refine SN.block ?_
            refine SN.seq ?_
            refine SG.region ?_
            refine SL.val rfl rfl (fun w9 F9 S9 s => R.add rfl rfl (by omega)) ?_
            refine SL.val rfl rfl (fun w9 F9 S9 s => R.mv rfl) ?_
            refine SL.nil ?_
            first
              | exact SN.again (i + 1, (i : Int)) (by show _ - (i + 1) < _ - i; omega) (Sub.cons rfl (Sub.cons rfl (Sub.cons rfl (Sub.cons rfl (Sub.cons rfl (Sub.cons rfl (Sub.nil _))))))) (Imp.sels (by repeat (first | exact Sels.nil | apply Sels.cons | exact Sel.keep | exact Sel.here | apply Sel.there))) ⟨by show i + 1 ≤ _; omega, hnew⟩
              | exact SN.again (i + 1, _) (by show _ - (i + 1) < _ - i; omega) (Sub.cons rfl (Sub.cons rfl (Sub.cons rfl (Sub.cons rfl (Sub.cons rfl (Sub.cons rfl (Sub.nil _))))))) (Imp.sels (by repeat (first | exact Sels.nil | apply Sels.cons | exact Sel.keep | exact Sel.here | apply Sel.there))) ⟨by show i + 1 ≤ _; omega, hnew⟩
      · refine SW.fact (fun w9 F9 S9 s => s.ownG (a := oa) (by repeat (first | exact Sel.keep | exact Sel.here | apply Sel.there)) (by omega)) (fun hf9 => ?_)
        obtain ⟨g4, hg4⟩ := hf9
        obtain ⟨y, hy⟩ : ∃ y, os[os.length - 1]? = some y := ⟨_, List.getElem?_eq_getElem (by omega)⟩
        have hyl := last_map hy
        have hcast : ((os.length : Int) - 1) = ((os.length - 1 : Nat) : Int) := by omega
        refine SW.pure rfl rfl rfl rfl (fun w9 => R.fld rfl) ?_
        refine SW.read rfl rfl rfl rfl (fun w9 F9 S9 s => R.ldB rfl (s.cel (by repeat (first | exact SelB.blk | exact SelB.fz | apply SelB.there))) (by rfl)) ?_
        refine SW.pure rfl rfl rfl rfl (fun w9 => R.mv rfl) ?_
        refine SW.pure rfl rfl rfl rfl (fun w9 => R.mv rfl) ?_
        refine SW.pure rfl rfl rfl rfl (fun w9 => R.lenS rfl) ?_
        refine SW.pure rfl rfl rfl rfl (fun w9 => R.sub' rfl rfl (by omega)) ?_
        refine SW.be 36 rfl (congrArg (Value.int .i64) hcast) ?_
        refine SW.pure rfl rfl rfl rfl (fun w9 => R.idx rfl rfl (by omega) (by omega) ⟨g4, 0, none⟩ hg4) ?_
        refine SW.pure rfl rfl rfl rfl (fun w9 => R.fldA rfl) ?_
        refine SW.read rfl rfl rfl rfl (fun w9 F9 S9 s => R.ld (v := .int .i64 y.Block') rfl (cellsW_blk (cells_to (s.ownC (a := oa) (by repeat (first | exact Sel.keep | exact Sel.here | apply Sel.there))) hg4) hy)) ?_
        refine SW.pure rfl rfl rfl rfl (fun w9 => R.gtr rfl rfl) ?_
        first | refine SW.pure rfl rfl rfl rfl (fun w9 => R.pickT rfl rfl) ?_ | refine SW.pure rfl rfl rfl rfl (fun w9 => R.pickF rfl rfl) ?_
        refine SW.pure rfl rfl rfl rfl (fun w9 => R.mv rfl) ?_
        refine SW.caseP 42 rfl (fun hg11_15 => ?_) (fun hg11_15 => ?_)
        · have hgt : gtl (lastW (os.map wv)) (wv z).1 := by rw [hyl]; show y.Block' < z.Block'; omega
          refine SW.pure rfl rfl rfl rfl (fun w9 => R.mv rfl) ?_
          refine SW.pure rfl rfl rfl rfl (fun w9 => R.lss rfl rfl) ?_
          refine SW.pure rfl rfl rfl rfl (fun w9 => R.mv rfl) ?_
          refine SW.caseP 45 rfl (fun hg11_18 => ?_) (fun hg11_18 => ?_)
          · have hnew := hB.take hzw hgt (.inl hg11_18)
            refine SW.pass (hd := rfl) rfl rfl rfl ?_
            refine SW.pass (hd := rfl) rfl rfl rfl ?_
            refine SW.pass (hd := rfl) rfl rfl rfl ?_
            refine SW.pass (hd := rfl) rfl rfl rfl ?_
            refine SW.pass (hd := rfl) rfl rfl rfl ?_
            refine SW.pass (hd := rfl) rfl rfl rfl ?_
            refine SW.pass (hd := rfl) rfl rfl rfl ?_
            refine SW.pass (hd := rfl) rfl rfl rfl ?_
            first | refine SW.pure rfl rfl rfl rfl (fun w9 => R.pickT rfl rfl) ?_ | refine SW.pure rfl rfl rfl rfl (fun w9 => R.pickF rfl rfl) ?_
            first | refine SW.pure rfl rfl rfl rfl (fun w9 => R.pickT rfl rfl) ?_ | refine SW.pure rfl rfl rfl rfl (fun w9 => R.pickF rfl rfl) ?_
            refine SW.nil ?_
            refine SN.seq ?_
            refine SG.condT rfl ?_
            refine SG.region ?_
            refine SL.val rfl rfl (fun w9 F9 S9 s => R.mv rfl) ?_
            refine SL.val rfl rfl (fun w9 F9 S9 s => R.as rfl) ?_
            refine SL.nil ?_
            refine SN.block ?_
            refine SN.seq ?_
            refine SG.region ?_
            refine SL.val rfl rfl (fun w9 F9 S9 s => R.add rfl rfl (by omega)) ?_
            refine SL.val rfl rfl (fun w9 F9 S9 s => R.mv rfl) ?_
            refine SL.nil ?_
            first
              | exact SN.again (i + 1, (i : Int)) (by show _ - (i + 1) < _ - i; omega) (Sub.cons rfl (Sub.cons rfl (Sub.cons rfl (Sub.cons rfl (Sub.cons rfl (Sub.cons rfl (Sub.nil _))))))) (Imp.sels (by repeat (first | exact Sels.nil | apply Sels.cons | exact Sel.keep | exact Sel.here | apply Sel.there))) ⟨by show i + 1 ≤ _; omega, hnew⟩
              | exact SN.again (i + 1, _) (by show _ - (i + 1) < _ - i; omega) (Sub.cons rfl (Sub.cons rfl (Sub.cons rfl (Sub.cons rfl (Sub.cons rfl (Sub.cons rfl (Sub.nil _))))))) (Imp.sels (by repeat (first | exact Sels.nil | apply Sels.cons | exact Sel.keep | exact Sel.here | apply Sel.there))) ⟨by show i + 1 ≤ _; omega, hnew⟩
          · obtain ⟨b9, w9, hb9, hB9⟩ := hB.cell hg11_18
            subst hb9
            obtain ⟨y9, hy9⟩ : ∃ y9, (allW rs)[b9]? = some y9 := ⟨_, List.getElem?_eq_getElem (by omega)⟩
            have hyw := all_at hy9
            refine SW.pure rfl rfl rfl rfl (fun w9 => R.fld rfl) ?_
            refine SW.read rfl rfl rfl rfl (fun w9 F9 S9 s => R.ldB rfl (s.cel (by repeat (first | exact SelB.blk | exact SelB.fz | apply SelB.there))) (by rfl)) ?_
            refine SW.pure rfl rfl rfl rfl (fun w9 => R.mv rfl) ?_
            refine SW.pure rfl rfl rfl rfl (fun w9 => R.mv rfl) ?_
            refine SW.pure rfl rfl rfl rfl (fun w9 => R.idx rfl rfl (by omega) (by omega) ⟨g3, 0, none⟩ hg3) ?_
            refine SW.pure rfl rfl rfl rfl (fun w9 => R.fldA rfl) ?_
            refine SW.read rfl rfl rfl rfl (fun w9 F9 S9 s => R.ld (v := .int .i64 y9.Block') rfl (cellsW_blk (cells_to (s.ownC (a := aa) (by repeat (first | exact Sel.keep | exact Sel.here | apply Sel.there))) hg3) hy9)) ?_
            refine SW.pure rfl rfl rfl rfl (fun w9 => R.leq rfl rfl) ?_
            first | refine SW.pure rfl rfl rfl rfl (fun w9 => R.pickT rfl rfl) ?_ | refine SW.pure rfl rfl rfl rfl (fun w9 => R.pickF rfl rfl) ?_
            first | refine SW.pure rfl rfl rfl rfl (fun w9 => R.pickT rfl rfl) ?_ | refine SW.pure rfl rfl rfl rfl (fun w9 => R.pickF rfl rfl) ?_
            refine SW.nil ?_
            refine SN.seq ?_
            refine SG.condP rfl (fun h2 => ?_) (fun h2 => ?_)
            · have hnew := hB.take hzw hgt (.inr ⟨wv y9, by rw [Int.toNat_natCast]; exact hyw, h2⟩)
              refine SG.region ?_
              refine SL.val rfl rfl (fun w9 F9 S9 s => R.mv rfl) ?_
              refine SL.val rfl rfl (fun w9 F9 S9 s => R.as rfl) ?_
              refine SL.nil ?_
              refine SN.block ?_
              refine SN.seq ?_
              refine SG.region ?_
              refine SL.val rfl rfl (fun w9 F9 S9 s => R.add rfl rfl (by omega)) ?_
              refine SL.val rfl rfl (fun w9 F9 S9 s => R.mv rfl) ?_
              refine SL.nil ?_
              first
                | exact SN.again (i + 1, (i : Int)) (by show _ - (i + 1) < _ - i; omega) (Sub.cons rfl (Sub.cons rfl (Sub.cons rfl (Sub.cons rfl (Sub.cons rfl (Sub.cons rfl (Sub.nil _))))))) (Imp.sels (by repeat (first | exact Sels.nil | apply Sels.cons | exact Sel.keep | exact Sel.here | apply Sel.there))) ⟨by show i + 1 ≤ _; omega, hnew⟩
                | exact SN.again (i + 1, _) (by show _ - (i + 1) < _ - i; omega) (Sub.cons rfl (Sub.cons rfl (Sub.cons rfl (Sub.cons rfl (Sub.cons rfl (Sub.cons rfl (Sub.nil _))))))) (Imp.sels (by repeat (first | exact Sels.nil | apply Sels.cons | exact Sel.keep | exact Sel.here | apply Sel.there))) ⟨by show i + 1 ≤ _; omega, hnew⟩
            · have hnew := hB.pass hzw (fun _ => ⟨hg11_18, fun x hx => by rw [Int.toNat_natCast, hyw] at hx; cases hx; exact h2⟩)
              refine SG.skip ?_
              refine SN.block ?_
              refine SN.seq ?_
              refine SG.region ?_
              refine SL.val rfl rfl (fun w9 F9 S9 s => R.add rfl rfl (by omega)) ?_
              refine SL.val rfl rfl (fun w9 F9 S9 s => R.mv rfl) ?_
              refine SL.nil ?_
              first
                | exact SN.again (i + 1, (i : Int)) (by show _ - (i + 1) < _ - i; omega) (Sub.cons rfl (Sub.cons rfl (Sub.cons rfl (Sub.cons rfl (Sub.cons rfl (Sub.cons rfl (Sub.nil _))))))) (Imp.sels (by repeat (first | exact Sels.nil | apply Sels.cons | exact Sel.keep | exact Sel.here | apply Sel.there))) ⟨by show i + 1 ≤ _; omega, hnew⟩
                | exact SN.again (i + 1, _) (by show _ - (i + 1) < _ - i; omega) (Sub.cons rfl (Sub.cons rfl (Sub.cons rfl (Sub.cons rfl (Sub.cons rfl (Sub.cons rfl (Sub.nil _))))))) (Imp.sels (by repeat (first | exact Sels.nil | apply Sels.cons | exact Sel.keep | exact Sel.here | apply Sel.there))) ⟨by show i + 1 ≤ _; omega, hnew⟩
        · have hnew : BestAt ((allW rs).map wv) (lastW (os.map wv)) (i + 1) best := hB.pass hzw (fun hg => by rw [hyl] at hg; have : y.Block' < z.Block' := hg; omega)
          refine SW.pass (hd := rfl) rfl rfl rfl ?_
          refine SW.pass (hd := rfl) rfl rfl rfl ?_
          refine SW.pass (hd := rfl) rfl rfl rfl ?_
          refine SW.pass (hd := rfl) rfl rfl rfl ?_
          refine SW.pass (hd := rfl) rfl rfl rfl ?_
          refine SW.pass (hd := rfl) rfl rfl rfl ?_
          refine SW.pass (hd := rfl) rfl rfl rfl ?_
          refine SW.pass (hd := rfl) rfl rfl rfl ?_
          refine SW.pass (hd := rfl) rfl rfl rfl ?_
          refine SW.pass (hd := rfl) rfl rfl rfl ?_
          refine SW.pass (hd := rfl) rfl rfl rfl ?_
          refine SW.pass (hd := rfl) rfl rfl rfl ?_
          first | refine SW.pure rfl rfl rfl rfl (fun w9 => R.pickT rfl rfl) ?_ | refine SW.pure rfl rfl rfl rfl (fun w9 => R.pickF rfl rfl) ?_
          refine SW.nil ?_
          refine SN.seq ?_
          refine SG.condF rfl ?_
          refine SG.skip ?_
          refine SN.block ?_
          refine SN.seq ?_
          refine SG.region ?_
          refine SL.val rfl rfl (fun w9 F9 S9 s => R.add rfl rfl (by omega)) ?_
          refine SL.val rfl rfl (fun w9 F9 S9 s => R.mv rfl) ?_
          refine SL.nil ?_
          first
            | exact SN.again (i + 1, (i : Int)) (by show _ - (i + 1) < _ - i; omega) (Sub.cons rfl (Sub.cons rfl (Sub.cons rfl (Sub.cons rfl (Sub.cons rfl (Sub.cons rfl (Sub.nil _))))))) (Imp.sels (by repeat (first | exact Sels.nil | apply Sels.cons | exact Sel.keep | exact Sel.here | apply Sel.there))) ⟨by show i + 1 ≤ _; omega, hnew⟩
            | exact SN.again (i + 1, _) (by show _ - (i + 1) < _ - i; omega) (Sub.cons rfl (Sub.cons rfl (Sub.cons rfl (Sub.cons rfl (Sub.cons rfl (Sub.cons rfl (Sub.nil _))))))) (Imp.sels (by repeat (first | exact Sels.nil | apply Sels.cons | exact Sel.keep | exact Sel.here | apply Sel.there))) ⟨by show i + 1 ≤ _; omega, hnew⟩
    · obtain rfl : i = (allW rs).length := by omega
      refine SG.exit _ rfl ?_
      refine SN.seq ?_
      refine SG.seq ?_
      refine SG.seq ?_
      refine SG.region ?_
      refine SL.val rfl rfl (fun w9 F9 S9 s => R.mv rfl) ?_
      refine SL.val rfl rfl (fun w9 F9 S9 s => R.lss rfl rfl) ?_
      refine SL.nil ?_
      refine SN.seq ?_
      refine SG.condP rfl (fun h3 => ?_) (fun h3 => ?_)
      · refine SG.seq ?_
        refine SG.region ?_
        refine SL.val rfl rfl (fun w9 F9 S9 s => R.mv rfl) ?_
        refine SL.val rfl rfl (fun w9 F9 S9 s => R.as rfl) ?_
        refine SL.nil ?_
        refine SN.seq ?_
        have hdone : (os.map wv).map toQ = mergeP [] ((allW rs).map wv) := hO.done (by rw [List.length_map]; have hbm : best = -1 := by { rcases hB with h9 | ⟨b9, w9, h9, _⟩; exact h9.1; omega }; rw [← hbm]; exact hB)
        refine SG.fact (fun w9 F9 S9 s => s.ownL (show Sel _ (own 40 2 oa os.length oc (cellsW os)) _ from (by repeat (first | exact Sel.keep | exact Sel.here | apply Sel.there)))) (fun hf9 => ?_)
        obtain ⟨_, hoc⟩ := hf9
        refine SG.imp (Imp.ownSh (show Sel _ (own 40 2 oa os.length oc (cellsW os)) _ from (by repeat (first | exact Sel.keep | exact Sel.here | apply Sel.there))) (p := fun w => Cells w oa (cellsW os)) (fun w h => h)) ?_
        refine SG.imp (Imp.both (by repeat (first | exact Sel.keep | exact Sel.here | apply Sel.there)) (by repeat (first | exact Sel.keep | exact Sel.here | apply Sel.there)) (p := fun w => Cells w oa (cellsW os)) (q := fun w => ∀ o ∈ allW rs, o.okW w)) ?_
        refine SG.imp (Imp.weak (by repeat (first | exact Sel.keep | exact Sel.here | apply Sel.there)) (p := fun w => Cells w oa (cellsW os) ∧ ∀ o ∈ allW rs, o.okW w) (q := fun w => RowW.ok w ⟨oa, os.length, oc, os⟩) (fun w h => ⟨⟨hoc, by show os.length ≤ _; omega⟩, tabW h.1 rfl, fun o ho => h.2 o (hI o ho)⟩)) ?_
        exact SG.ret1 rfl rfl ((Imp.sels (by repeat (first | exact Sels.nil | apply Sels.cons | exact Sel.keep | exact Sel.here | apply Sel.there)))) (⟨⟨oa, os.length, oc, os⟩, rfl, by rw [← hdone, List.map_map]; rfl, by show os.length ≤ 50000; omega, rfl⟩)
      · obtain ⟨b9, w9, hb9, hB1⟩ := hB.cell h3
        subst hb9
        obtain ⟨z, hz⟩ : ∃ z, (allW rs)[b9]? = some z := ⟨_, List.getElem?_eq_getElem hB1.lt⟩
        have hzw := all_at hz
        obtain rfl : w9 = wv z := by have := hB1.at'; rw [hzw] at this; cases this; rfl
        have hO2 := hO.step (by rw [List.length_map]; exact hB1)
        have hl2 := hO2.len
        rw [List.length_append, List.length_map, List.length_map] at hl2
        refine SG.fact (fun w9 F9 S9 s => s.ownG (a := aa) (by repeat (first | exact Sel.keep | exact Sel.here | apply Sel.there)) (by omega)) (fun hf9 => ?_)
        obtain ⟨g3, hg3⟩ := hf9
        refine SG.skip ?_
        refine SN.seq ?_
        refine SG.region ?_
        refine SL.val rfl rfl (fun w9 F9 S9 s => R.mv rfl) ?_
        refine SL.val rfl rfl (fun w9 F9 S9 s => R.mv rfl) ?_
        refine SL.val rfl rfl (fun w9 F9 S9 s => R.mv rfl) ?_
        refine SL.val rfl rfl (fun w9 F9 S9 s => R.idx rfl rfl (by omega) (by omega) ⟨g3, 0, none⟩ hg3) ?_
        refine SL.val rfl rfl (fun w9 F9 S9 s => R.ldN (vs := WriteV.cells z) rfl (cellsW_at (cells_to (s.ownC (a := aa) (by repeat (first | exact Sel.keep | exact Sel.here | apply Sel.there))) hg3) hz) rfl) ?_
        refine SL.step rfl rfl (CS.buildA rfl rfl rfl rfl rfl (WriteV.cells z) rfl) ?_
        rintro _ _ ⟨b66, rfl, rfl⟩
        refine SL.step rfl rfl (CS.app rfl rfl (show Sel _ (own 40 2 oa os.length oc (cellsW os)) _ from (by repeat (first | exact Sel.keep | exact Sel.here | apply Sel.there))) (fun w9 F9 S9 s => s.blkC (by repeat (first | exact Sel.keep | exact Sel.here | apply Sel.there))) rfl (by intro u hu; exact WriteV.cells.one _ u (by simpa using hu)) (by simp [maxLen]; simp at hl2; omega) (by simp at hl2; omega)) ?_
        rintro _ _ ⟨a67, c67, rfl, rfl⟩
        refine SL.val rfl rfl (fun w9 F9 S9 s => R.as rfl) ?_
        refine SL.nil ?_
        refine SN.be 4 rfl (show Value.slice a67 (os.length + 1) c67 = Value.slice a67 (os ++ [z]).length c67 by rw [List.length_append]; rfl) ?_
        refine SN.block ?_
        exact SN.again (⟨os ++ [z], a67, c67⟩) (by show leftN ((allW rs).map wv) (lastW ((os ++ [z]).map wv)) < leftN ((allW rs).map wv) (lastW (os.map wv)); rw [List.map_append, List.map_cons, List.map_nil, lastW_snoc]; exact leftN_lt hB1) (Sub.cons rfl (Sub.cons rfl (Sub.nil _))) ((show Imp _ _ by simp only [List.length_append, cellsW_append]; exact (Imp.sels (by repeat (first | exact Sels.nil | apply Sels.cons | exact Sel.keep | exact Sel.here | apply Sel.there))))) (⟨by show OutOk _ ((os ++ [z]).map wv); rw [List.map_append]; exact hO.step (by rw [List.length_map]; exact hB1), fun y hy => (List.mem_append.1 hy).elim (hI y) (fun h => by rw [List.mem_singleton.1 h]; exact List.mem_of_getElem? hz)⟩)

end Go.Proofs.Ytiiiplhfgblamaa
/-
  The walks of package txn.
-/
set_option linter.unusedVariables false
set_option linter.unusedSimpArgs false
set_option maxRecDepth 4000
namespace Go.Proofs.Ytiiiplhfgblamaa
open Go Brv
theorem dbPost {M : List (Int × List Wr)} {B L x y z : Int} {a : Option Addr} {n c : Nat} {ts : List (Int × RowW)} {K : List Asn} (h : bgE M = y ∧ bgH L M = x ∧ bgL L M = z ∧ bgM [] L M = absT ts) (hK : K = [sh (fun w => DkOk w a n c ts)]) :
    ∃ a' n' c' ts', Value.tuple #[.agg #[.int .i64 B, .int .i64 z, .slice a n c], .int .i64 x, .int .i64 y] = .tuple #[.agg #[.int .i64 B, .int .i64 (bgL L M), .slice a' n' c'], .int .i64 (bgH L M), .int .i64 (bgE M)] ∧ absT ts' = bgM [] L M ∧ K = [sh (fun w => DkOk w a' n' c' ts')] := by
  obtain ⟨h1, h2, h3, h4⟩ := h
  subst h1; subst h2; subst h3
  exact ⟨a, n, c, ts, rfl, h4.symm, hK⟩
theorem ddPost {B L e e' : Int} {a : Option Addr} {n c : Nat} {ts : List (Int × RowW)} {M' : List (Int × List Wr)} {K : List Asn} (he : e' = e) (hM : absT ts = M') (hK : K = [sh (fun w => DkOk w a n c ts)]) :
    ∃ a' n' c' ts', Value.tuple #[.agg #[.int .i64 B, .int .i64 L, .slice a n c], .int .i64 e] = .tuple #[.agg #[.int .i64 B, .int .i64 L, .slice a' n' c'], .int .i64 e'] ∧ absT ts' = M' ∧ K = [sh (fun w => DkOk w a' n' c' ts')] := by
  subst he; exact ⟨a, n, c, ts, rfl, hM, hK⟩
theorem put_last {ts : List (Int × RowW)} {L : Int} (hk : ∀ e ∈ absT ts, e.1 ≤ L) (r : RowW) : putT ts (L + 1) r = ts ++ [(L + 1, r)] :=
  putT_end r fun t ht => by have := hk (t.1, t.2.os.map wv) (List.mem_map.2 ⟨t, ht, rfl⟩); simp only at this; omega
theorem dk_new {w : World} {a a' : Option Addr} {n c m c' : Nat} {ts ts' : List (Int × RowW)} {cs : List Value} (h : DkOk w a n c ts) (hc : Cells w a' cs) (e : cs = txCs ts') (hm : m = ts'.length) (hcap : m ≤ c') (hok : ∀ t ∈ ts', t ∈ ts ∨ RowW.ok w t.2) : DkOk w a' m c' ts' :=
  ⟨hm, hcap, e ▸ hc, fun t ht => (hok t ht).elim (h.ok t) id⟩
theorem own_row {w : World} {g i : Nat} {xs : List Value} {v : Value} (h : Cells w (some ⟨g, 0, none⟩) xs) (hx : xs[i * 2 + 1]? = some v) : w.cell? ((⟨g, i * 2, none⟩ : Addr).add 1) = some v := by
  have := h.load (j := i * 2 + 1) hx
  simpa [Addr.add] using this
theorem txCs_take (ts : List (Int × RowW)) (i : Nat) : (txCs ts).take (i * 2) = txCs (ts.take i) := by
  induction ts generalizing i with
  | nil => simp [txCs]
  | cons y ts ih =>
    have e : ∀ y ts, txCs (y :: ts) = .int .i64 y.1 :: y.2.val :: txCs ts := fun _ _ => rfl
    cases i with
    | zero => simp [txCs]
    | succ i => rw [show (i + 1) * 2 = i * 2 + 1 + 1 by omega, e, List.take_succ_cons, List.take_succ_cons, ih, List.take_succ_cons, e]
theorem txCs_drop (ts : List (Int × RowW)) (i : Nat) : (txCs ts).drop (i * 2) = txCs (ts.drop i) := by
  induction ts generalizing i with
  | nil => simp [txCs]
  | cons y ts ih =>
    have e : ∀ y ts, txCs (y :: ts) = .int .i64 y.1 :: y.2.val :: txCs ts := fun _ _ => rfl
    cases i with
    | zero => rfl
    | succ i => rw [show (i + 1) * 2 = i * 2 + 1 + 1 by omega, e, List.drop_succ_cons, List.drop_succ_cons, ih, List.drop_succ_cons]

theorem dbegin_ok (B L : Int) (a : Option Addr) (n c : Nat) (ts : List (Int × RowW)) (hk : ∀ e ∈ absT ts, e.1 ≤ L) (hl : ts.length ≤ 1000) (hL0 : 0 ≤ L) (hL : L ≤ 1000000) : SpecS Try.prog 36 [.agg #[.int .i64 B, .int .i64 L, .slice a n c]] [sh (fun w => DkOk w a n c ts)] (fun v H' => ∃ a' n' c' ts', v = .tuple #[.agg #[.int .i64 B, .int .i64 (bgL L (absT ts)), .slice a' n' c'], .int .i64 (bgH L (absT ts)), .int .i64 (bgE (absT ts))] ∧ absT ts' = bgM [] L (absT ts) ∧ H' = [sh (fun w => DkOk w a' n' c' ts')]) := by
  refine SpecS.enter Try.func36 rfl 27 rfl (Nat.le_of_ble_eq_true rfl) (fun o => ?_)
  refine SG.fact (fun w9 F9 S9 s => (s.sh (p := fun w => DkOk w a n c ts) (by repeat (first | exact Sel.keep | exact Sel.here | apply Sel.there))).len) (fun hf9 => ?_)
  have hln := hf9; clear hf9
  refine SG.fact (fun w9 F9 S9 s => (s.sh (p := fun w => DkOk w a n c ts) (by repeat (first | exact Sel.keep | exact Sel.here | apply Sel.there))).cap) (fun hf9 => ?_)
  have hcp := hf9; clear hf9
  refine SG.seq ?_
  refine SG.region ?_
  refine SL.step rfl rfl (CS.boxA rfl) ?_
  rintro _ _ ⟨b1, rfl, rfl⟩
  refine SL.step rfl rfl (CS.alloc [.int .i64 0, .int .i64 0, .slice none 0 0] rfl) ?_
  rintro _ _ ⟨b2, rfl, rfl⟩
  refine SL.val rfl rfl (fun w9 F9 S9 s => R.as rfl) ?_
  refine SL.val rfl rfl (fun w9 F9 S9 s => R.as rfl) ?_
  refine SL.nil ?_
  refine SN.seq ?_
  refine SG.seq ?_
  refine SG.seq ?_
  refine SG.region ?_
  refine SL.val rfl rfl (fun w9 F9 S9 s => R.fld rfl) ?_
  refine SL.val rfl rfl (fun w9 F9 S9 s => R.ldB (v := .slice a n c) rfl (s.cel (by repeat (first | exact SelB.blk | exact SelB.fz | apply SelB.there))) (by rfl)) ?_
  refine SL.val rfl rfl (fun w9 F9 S9 s => R.lenS rfl) ?_
  refine SL.val rfl rfl (fun w9 F9 S9 s => R.geq rfl rfl) ?_
  refine SL.nil ?_
  refine SN.seq ?_
  refine SG.condP rfl (fun h0 => ?_) (fun h0 => ?_)
  · have hbg := bg_many (txs := ts) (L := L) (by omega)
    refine SG.seq ?_
    refine SG.region ?_
    refine SL.val rfl rfl (fun w9 F9 S9 s => R.ldBN rfl (s.cel (by repeat (first | exact SelB.blk | exact SelB.fz | apply SelB.there))) (by rfl)) ?_
    refine SL.step0 rfl (CS.stA rfl rfl (by repeat (first | exact Sel.keep | exact Sel.here | apply Sel.there)) (by rfl) (by rfl) (by intro u hu; simp only [List.mem_cons, List.not_mem_nil, or_false] at hu; rcases hu with rfl | rfl | rfl <;> rfl)) ?_
    rintro _ _ rfl
    refine SL.val rfl rfl (fun w9 F9 S9 s => R.as rfl) ?_
    refine SL.val rfl rfl (fun w9 F9 S9 s => R.as rfl) ?_
    refine SL.nil ?_
    refine SN.seq ?_
    exact SG.retCTT rfl rfl rfl rfl (by repeat (first | exact Sel.keep | exact Sel.here | apply Sel.there)) (by rfl) ((Imp.sels (by repeat (first | exact Sels.nil | apply Sels.cons | exact Sel.keep | exact Sel.here | apply Sel.there)))) (dbPost hbg rfl)
  · have hbg := bg_one (txs := ts) (L := L) (by omega)
    rw [put_last hk] at hbg
    refine SG.skip ?_
    refine SN.seq ?_
    refine SG.seq ?_
    refine SG.region ?_
    refine SL.val rfl rfl (fun w9 F9 S9 s => R.fld rfl) ?_
    refine SL.val rfl rfl (fun w9 F9 S9 s => R.ldB (v := .int .i64 L) rfl (s.cel (by repeat (first | exact SelB.blk | exact SelB.fz | apply SelB.there))) (by rfl)) ?_
    refine SL.val rfl rfl (fun w9 F9 S9 s => R.add rfl rfl (by omega)) ?_
    refine SL.val rfl rfl (fun w9 F9 S9 s => R.fld rfl) ?_
    refine SL.step0 rfl (CS.st rfl rfl (by repeat (first | exact Sel.keep | exact Sel.here | apply Sel.there)) (by repeat (first | exact SetAt.here | apply SetAt.there)) rfl) ?_
    rintro _ _ rfl
    refine SL.nil ?_
    refine SN.seq ?_
    refine SG.seq ?_
    refine SG.cut (X := Option Addr × Nat) (fun x => [(1, .pointer (some ⟨b1, 0, none⟩)), (2, .pointer (some ⟨b2, 0, none⟩))]) (fun x => [blk b1 [.int .i64 B, .int .i64 (L + 1), .slice x.1 (0 + n + 1) x.2] 66, blk b2 [.int .i64 0, .int .i64 0, .slice none 0 0] 66, sh (fun w => DkOk w x.1 (0 + n + 1) x.2 (ts ++ [(L + 1, rowZ)]))]) (fun x => True) ?_ ?_
    · refine SG.drawT (.flo 1 (.flo 2 (.flo 4 (.flo 5 (.flo 6 (.alt 0 (.alt 3 (.alt 7 (.alt 8 (.flo 9 (.alt 10 .nil .stop)) .stop) .stop) (.alt 7 (.alt 3 (.alt 8 (.flo 9 (.alt 10 .nil .stop)) .stop) .stop) .stop)) (.alt 7 (.alt 0 (.alt 3 (.alt 8 (.flo 9 (.alt 10 .nil .stop)) .stop) .stop) .stop) .stop))))))) (by decide +kernel) rfl ?_
      refine TW.pure rfl rfl rfl rfl (fun w9 => R.fld rfl) ?_
      refine TW.read rfl rfl rfl rfl (fun w9 F9 S9 s => R.ldB (v := .slice a n c) rfl (s.cel (by repeat (first | exact SelB.blk | exact SelB.fz | apply SelB.there))) (by rfl)) ?_
      refine TW.pure rfl rfl rfl rfl (fun w9 => R.fld rfl) ?_
      refine TW.read rfl rfl rfl rfl (fun w9 F9 S9 s => R.ldB (v := .int .i64 (L + 1)) rfl (s.cel (by repeat (first | exact SelB.blk | exact SelB.fz | apply SelB.there))) (by rfl)) ?_
      refine TW.pure rfl rfl rfl rfl (fun w9 => R.build (cs := (txC (L + 1, rowZ)).toArray) rfl rfl) ?_
      refine TW.or ?_ ?_
      · refine TW.step rfl rfl rfl rfl (CS.buildA rfl rfl rfl rfl rfl [] rfl) ?_
        rintro _ _ ⟨b14, rfl, rfl⟩
        refine ⟨⟨.inr (fun w9 F9 S9 s => R.ldB (v := .int .i64 (L + 1)) rfl (s.cel (by repeat (first | exact SelB.blk | exact SelB.fz | apply SelB.there))) (by rfl)), ⟨.inr (fun w9 F9 S9 s => R.ldB (v := .slice a n c) rfl (s.cel (by repeat (first | exact SelB.blk | exact SelB.fz | apply SelB.there))) (by rfl)), trivial⟩⟩, ?_⟩
        refine TW.or ?_ ?_
        · refine TW.step rfl rfl rfl rfl (CS.imp (Imp.ownBlk (size := 2) (k := 0) (show Sel _ (blk b14 [] 80) _ from (by repeat (first | exact Sel.keep | exact Sel.here | apply Sel.there))) rfl (Nat.zero_le _)) (CS.app rfl rfl (by repeat (first | exact Sel.keep | exact Sel.here | apply Sel.there)) (fun w9 F9 S9 s => (s.sh (p := fun w => DkOk w a n c ts) (by repeat (first | exact Sel.keep | exact Sel.here | apply Sel.there))).cells) (by rw [txCs_len, hln]) (txCs_one ts) (by simp [maxLen]; omega) (by omega))) ?_
          rintro _ _ ⟨a17, c17, rfl, rfl⟩
          refine ⟨⟨.inr (fun w9 F9 S9 s => R.ldB (v := .int .i64 (L + 1)) rfl (s.cel (by repeat (first | exact SelB.blk | exact SelB.fz | apply SelB.there))) (by rfl)), ⟨.inl (by decide +kernel), trivial⟩⟩, ?_⟩
          refine TW.step rfl rfl rfl rfl (CS.buildA rfl rfl rfl rfl rfl (txC (L + 1, rowZ)) rfl) ?_
          rintro _ _ ⟨b21, rfl, rfl⟩
          refine ⟨⟨.inl (by decide +kernel), ⟨.inr (fun w9 F9 S9 s => R.ldB (v := .slice a n c) rfl (s.cel (by repeat (first | exact SelB.blk | exact SelB.fz | apply SelB.there))) (by rfl)), trivial⟩⟩, ?_⟩
          refine TW.step rfl rfl rfl rfl (CS.app rfl rfl (show Sel _ (own 80 2 a17 (0 + n) c17 ([] ++ txCs ts)) _ from (by repeat (first | exact Sel.keep | exact Sel.here | apply Sel.there))) (fun w9 F9 S9 s => s.blkC (show Sel _ (blk b21 (txC (L + 1, rowZ)) _) _ from (by repeat (first | exact Sel.keep | exact Sel.here | apply Sel.there)))) rfl (fun u hu => txCs_one [(L + 1, rowZ)] u (by simpa [txCs] using hu)) (by simp [maxLen]; omega) (by omega)) ?_
          rintro _ _ ⟨a22, c22, rfl, rfl⟩
          refine ⟨⟨.inl (by decide +kernel), ⟨.inl (by decide +kernel), trivial⟩⟩, ?_⟩
          refine TW.pure rfl rfl rfl rfl (fun w9 => R.fld rfl) ?_
          refine TW.step0 rfl rfl rfl (CS.st rfl rfl (by repeat (first | exact Sel.keep | exact Sel.here | apply Sel.there)) (by repeat (first | exact SetAt.here | apply SetAt.there)) rfl) ?_
          rintro _ _ rfl
          refine ⟨⟨.inl (by decide +kernel), ⟨.inl (by decide +kernel), trivial⟩⟩, ?_⟩
          refine TW.nil ?_
          refine SN.fact (fun w9 F9 S9 s => s.ownL (show Sel _ (own 80 2 a22 (0 + n + 1) c22 ([] ++ txCs ts ++ txC (L + 1, rowZ))) _ from (by repeat (first | exact Sel.keep | exact Sel.here | apply Sel.there)))) (fun hf9 => ?_)
          obtain ⟨_, hc22⟩ := hf9
          refine SN.imp (Imp.ownSh (show Sel _ (own 80 2 a22 (0 + n + 1) c22 ([] ++ txCs ts ++ txC (L + 1, rowZ))) _ from (by repeat (first | exact Sel.keep | exact Sel.here | apply Sel.there))) (p := fun w => Cells w a22 ([] ++ txCs ts ++ txC (L + 1, rowZ))) (fun w h => h)) ?_
          refine SN.imp (Imp.both (p := fun w => DkOk w a n c ts) (q := fun w => Cells w a22 ([] ++ txCs ts ++ txC (L + 1, rowZ))) (by repeat (first | exact Sel.keep | exact Sel.here | apply Sel.there)) (by repeat (first | exact Sel.keep | exact Sel.here | apply Sel.there))) ?_
          refine SN.imp (Imp.weak (p := fun w => DkOk w a n c ts ∧ Cells w a22 ([] ++ txCs ts ++ txC (L + 1, rowZ))) (q := fun w => DkOk w a22 (0 + n + 1) c22 (ts ++ [(L + 1, rowZ)])) (by repeat (first | exact Sel.keep | exact Sel.here | apply Sel.there)) (fun w hw => dk_new hw.1 hw.2 (by rw [txCs_append]; simp [txCs]) (by rw [List.length_append, ← hln]; simp) hc22 (fun t ht => (List.mem_append.1 ht).imp id (fun h => by rw [List.mem_singleton.1 h]; exact rowZ_ok w)))) ?_
          exact SN.handX (a22, c22) (Sub.cons rfl (Sub.cons rfl (Sub.nil _))) (Imp.sels (by repeat (first | exact Sels.nil | apply Sels.cons | exact Sel.keep | exact Sel.here | apply Sel.there))) trivial
        refine TW.step rfl rfl rfl rfl (CS.buildA rfl rfl rfl rfl rfl (txC (L + 1, rowZ)) rfl) ?_
        rintro _ _ ⟨b21, rfl, rfl⟩
        refine ⟨⟨.inl (by decide +kernel), ⟨.inr (fun w9 F9 S9 s => R.ldB (v := .slice a n c) rfl (s.cel (by repeat (first | exact SelB.blk | exact SelB.fz | apply SelB.there))) (by rfl)), trivial⟩⟩, ?_⟩
        refine TW.step rfl rfl rfl rfl (CS.imp (Imp.ownBlk (size := 2) (k := 0) (show Sel _ (blk b14 [] 80) _ from (by repeat (first | exact Sel.keep | exact Sel.here | apply Sel.there))) rfl (Nat.zero_le _)) (CS.app rfl rfl (by repeat (first | exact Sel.keep | exact Sel.here | apply Sel.there)) (fun w9 F9 S9 s => (s.sh (p := fun w => DkOk w a n c ts) (by repeat (first | exact Sel.keep | exact Sel.here | apply Sel.there))).cells) (by rw [txCs_len, hln]) (txCs_one ts) (by simp [maxLen]; omega) (by omega))) ?_
        rintro _ _ ⟨a17, c17, rfl, rfl⟩
        refine ⟨⟨.inr (fun w9 F9 S9 s => R.ldB (v := .int .i64 (L + 1)) rfl (s.cel (by repeat (first | exact SelB.blk | exact SelB.fz | apply SelB.there))) (by rfl)), ⟨.inl (by decide +kernel), trivial⟩⟩, ?_⟩
        refine TW.step rfl rfl rfl rfl (CS.app rfl rfl (show Sel _ (own 80 2 a17 (0 + n) c17 ([] ++ txCs ts)) _ from (by repeat (first | exact Sel.keep | exact Sel.here | apply Sel.there))) (fun w9 F9 S9 s => s.blkC (show Sel _ (blk b21 (txC (L + 1, rowZ)) _) _ from (by repeat (first | exact Sel.keep | exact Sel.here | apply Sel.there)))) rfl (fun u hu => txCs_one [(L + 1, rowZ)] u (by simpa [txCs] using hu)) (by simp [maxLen]; omega) (by omega)) ?_
        rintro _ _ ⟨a22, c22, rfl, rfl⟩
        refine ⟨⟨.inl (by decide +kernel), ⟨.inl (by decide +kernel), trivial⟩⟩, ?_⟩
        refine TW.pure rfl rfl rfl rfl (fun w9 => R.fld rfl) ?_
        refine TW.step0 rfl rfl rfl (CS.st rfl rfl (by repeat (first | exact Sel.keep | exact Sel.here | apply Sel.there)) (by repeat (first | exact SetAt.here | apply SetAt.there)) rfl) ?_
        rintro _ _ rfl
        refine ⟨⟨.inl (by decide +kernel), ⟨.inl (by decide +kernel), trivial⟩⟩, ?_⟩
        refine TW.nil ?_
        refine SN.fact (fun w9 F9 S9 s => s.ownL (show Sel _ (own 80 2 a22 (0 + n + 1) c22 ([] ++ txCs ts ++ txC (L + 1, rowZ))) _ from (by repeat (first | exact Sel.keep | exact Sel.here | apply Sel.there)))) (fun hf9 => ?_)
        obtain ⟨_, hc22⟩ := hf9
        refine SN.imp (Imp.ownSh (show Sel _ (own 80 2 a22 (0 + n + 1) c22 ([] ++ txCs ts ++ txC (L + 1, rowZ))) _ from (by repeat (first | exact Sel.keep | exact Sel.here | apply Sel.there))) (p := fun w => Cells w a22 ([] ++ txCs ts ++ txC (L + 1, rowZ))) (fun w h => h)) ?_
        refine SN.imp (Imp.both (p := fun w => DkOk w a n c ts) (q := fun w => Cells w a22 ([] ++ txCs ts ++ txC (L + 1, rowZ))) (by repeat (first | exact Sel.keep | exact Sel.here | apply Sel.there)) (by repeat (first | exact Sel.keep | exact Sel.here | apply Sel.there))) ?_
        refine SN.imp (Imp.weak (p := fun w => DkOk w a n c ts ∧ Cells w a22 ([] ++ txCs ts ++ txC (L + 1, rowZ))) (q := fun w => DkOk w a22 (0 + n + 1) c22 (ts ++ [(L + 1, rowZ)])) (by repeat (first | exact Sel.keep | exact Sel.here | apply Sel.there)) (fun w hw => dk_new hw.1 hw.2 (by rw [txCs_append]; simp [txCs]) (by rw [List.length_append, ← hln]; simp) hc22 (fun t ht => (List.mem_append.1 ht).imp id (fun h => by rw [List.mem_singleton.1 h]; exact rowZ_ok w)))) ?_
        exact SN.handX (a22, c22) (Sub.cons rfl (Sub.cons rfl (Sub.nil _))) (Imp.sels (by repeat (first | exact Sels.nil | apply Sels.cons | exact Sel.keep | exact Sel.here | apply Sel.there))) trivial
      refine TW.step rfl rfl rfl rfl (CS.buildA rfl rfl rfl rfl rfl (txC (L + 1, rowZ)) rfl) ?_
      rintro _ _ ⟨b21, rfl, rfl⟩
      refine ⟨⟨.inl (by decide +kernel), ⟨.inr (fun w9 F9 S9 s => R.ldB (v := .slice a n c) rfl (s.cel (by repeat (first | exact SelB.blk | exact SelB.fz | apply SelB.there))) (by rfl)), trivial⟩⟩, ?_⟩
      refine TW.step rfl rfl rfl rfl (CS.buildA rfl rfl rfl rfl rfl [] rfl) ?_
      rintro _ _ ⟨b14, rfl, rfl⟩
      refine ⟨⟨.inr (fun w9 F9 S9 s => R.ldB (v := .int .i64 (L + 1)) rfl (s.cel (by repeat (first | exact SelB.blk | exact SelB.fz | apply SelB.there))) (by rfl)), ⟨.inr (fun w9 F9 S9 s => R.ldB (v := .slice a n c) rfl (s.cel (by repeat (first | exact SelB.blk | exact SelB.fz | apply SelB.there))) (by rfl)), trivial⟩⟩, ?_⟩
      refine TW.step rfl rfl rfl rfl (CS.imp (Imp.ownBlk (size := 2) (k := 0) (show Sel _ (blk b14 [] 80) _ from (by repeat (first | exact Sel.keep | exact Sel.here | apply Sel.there))) rfl (Nat.zero_le _)) (CS.app rfl rfl (by repeat (first | exact Sel.keep | exact Sel.here | apply Sel.there)) (fun w9 F9 S9 s => (s.sh (p := fun w => DkOk w a n c ts) (by repeat (first | exact Sel.keep | exact Sel.here | apply Sel.there))).cells) (by rw [txCs_len, hln]) (txCs_one ts) (by simp [maxLen]; omega) (by omega))) ?_
      rintro _ _ ⟨a17, c17, rfl, rfl⟩
      refine ⟨⟨.inr (fun w9 F9 S9 s => R.ldB (v := .int .i64 (L + 1)) rfl (s.cel (by repeat (first | exact SelB.blk | exact SelB.fz | apply SelB.there))) (by rfl)), ⟨.inl (by decide +kernel), trivial⟩⟩, ?_⟩
      refine TW.step rfl rfl rfl rfl (CS.app rfl rfl (show Sel _ (own 80 2 a17 (0 + n) c17 ([] ++ txCs ts)) _ from (by repeat (first | exact Sel.keep | exact Sel.here | apply Sel.there))) (fun w9 F9 S9 s => s.blkC (show Sel _ (blk b21 (txC (L + 1, rowZ)) _) _ from (by repeat (first | exact Sel.keep | exact Sel.here | apply Sel.there)))) rfl (fun u hu => txCs_one [(L + 1, rowZ)] u (by simpa [txCs] using hu)) (by simp [maxLen]; omega) (by omega)) ?_
      rintro _ _ ⟨a22, c22, rfl, rfl⟩
      refine ⟨⟨.inl (by decide +kernel), ⟨.inl (by decide +kernel), trivial⟩⟩, ?_⟩
      refine TW.pure rfl rfl rfl rfl (fun w9 => R.fld rfl) ?_
      refine TW.step0 rfl rfl rfl (CS.st rfl rfl (by repeat (first | exact Sel.keep | exact Sel.here | apply Sel.there)) (by repeat (first | exact SetAt.here | apply SetAt.there)) rfl) ?_
      rintro _ _ rfl
      refine ⟨⟨.inl (by decide +kernel), ⟨.inl (by decide +kernel), trivial⟩⟩, ?_⟩
      refine TW.nil ?_
      refine SN.fact (fun w9 F9 S9 s => s.ownL (show Sel _ (own 80 2 a22 (0 + n + 1) c22 ([] ++ txCs ts ++ txC (L + 1, rowZ))) _ from (by repeat (first | exact Sel.keep | exact Sel.here | apply Sel.there)))) (fun hf9 => ?_)
      obtain ⟨_, hc22⟩ := hf9
      refine SN.imp (Imp.ownSh (show Sel _ (own 80 2 a22 (0 + n + 1) c22 ([] ++ txCs ts ++ txC (L + 1, rowZ))) _ from (by repeat (first | exact Sel.keep | exact Sel.here | apply Sel.there))) (p := fun w => Cells w a22 ([] ++ txCs ts ++ txC (L + 1, rowZ))) (fun w h => h)) ?_
      refine SN.imp (Imp.both (p := fun w => DkOk w a n c ts) (q := fun w => Cells w a22 ([] ++ txCs ts ++ txC (L + 1, rowZ))) (by repeat (first | exact Sel.keep | exact Sel.here | apply Sel.there)) (by repeat (first | exact Sel.keep | exact Sel.here | apply Sel.there))) ?_
      refine SN.imp (Imp.weak (p := fun w => DkOk w a n c ts ∧ Cells w a22 ([] ++ txCs ts ++ txC (L + 1, rowZ))) (q := fun w => DkOk w a22 (0 + n + 1) c22 (ts ++ [(L + 1, rowZ)])) (by repeat (first | exact Sel.keep | exact Sel.here | apply Sel.there)) (fun w hw => dk_new hw.1 hw.2 (by rw [txCs_append]; simp [txCs]) (by rw [List.length_append, ← hln]; simp) hc22 (fun t ht => (List.mem_append.1 ht).imp id (fun h => by rw [List.mem_singleton.1 h]; exact rowZ_ok w)))) ?_
      exact SN.handX (a22, c22) (Sub.cons rfl (Sub.cons rfl (Sub.nil _))) (Imp.sels (by repeat (first | exact Sels.nil | apply Sels.cons | exact Sel.keep | exact Sel.here | apply Sel.there))) trivial
    · rintro ⟨a22, c22⟩ _
      show SN _ _ _ _ _ [(1, .pointer (some ⟨b1, 0, none⟩)), (2, .pointer (some ⟨b2, 0, none⟩))] [blk b1 [.int .i64 B, .int .i64 (L + 1), .slice a22 (0 + n + 1) c22] 66, blk b2 [.int .i64 0, .int .i64 0, .slice none 0 0] 66, sh (fun w => DkOk w a22 (0 + n + 1) c22 (ts ++ [(L + 1, rowZ)]))]
      refine SN.seq ?_
      refine SG.seq ?_
      refine SG.draw [3] [0, 1, 2, 3, 4, 5] (by decide +kernel) rfl ?_
      refine SW.read rfl rfl rfl rfl (fun w9 F9 S9 s => R.ldBN rfl (s.cel (by repeat (first | exact SelB.blk | exact SelB.fz | apply SelB.there))) (by rfl)) ?_
      refine SW.pure rfl rfl rfl rfl (fun w9 => R.fld rfl) ?_
      refine SW.read rfl rfl rfl rfl (fun w9 F9 S9 s => R.ldB rfl (s.cel (by repeat (first | exact SelB.blk | exact SelB.fz | apply SelB.there))) (by rfl)) ?_
      refine SW.step0 rfl rfl rfl (CS.stA rfl rfl (by repeat (first | exact Sel.keep | exact Sel.here | apply Sel.there)) (by rfl) (by rfl) (by intro u hu; simp only [List.mem_cons, List.not_mem_nil, or_false] at hu; rcases hu with rfl | rfl | rfl <;> rfl)) ?_
      rintro _ _ rfl
      refine ⟨⟨.inr (fun w9 F9 S9 s => R.ldB rfl (s.cel (by repeat (first | exact SelB.blk | exact SelB.fz | apply SelB.there))) (by rfl)), ⟨.inl (by decide +kernel), trivial⟩⟩, ?_⟩
      refine SW.pure rfl rfl rfl rfl (fun w9 => R.as rfl) ?_
      refine SW.pure rfl rfl rfl rfl (fun w9 => R.as rfl) ?_
      refine SW.nil ?_
      refine SN.seq ?_
      exact SG.retCTT rfl rfl rfl rfl (by repeat (first | exact Sel.keep | exact Sel.here | apply Sel.there)) (by rfl) ((Imp.sels (by repeat (first | exact Sels.nil | apply Sels.cons | exact Sel.keep | exact Sel.here | apply Sel.there)))) (dbPost hbg rfl)

theorem dk_take {w : World} {a : Option Addr} {n c : Nat} {ts : List (Int × RowW)} (h : DkOk w a n c ts) (i : Nat) : Cells w (subA a 0 c 2) (txCs (ts.take i)) := by
  rw [subA_zero, ← txCs_take]
  exact fun j v hj => h.cells j v (by rw [List.getElem?_take] at hj; split at hj; exact hj; cases hj)
theorem dk_drop {w : World} {a : Option Addr} {n c : Nat} {ts : List (Int × RowW)} (h : DkOk w a n c ts) {x : Int} {i : Nat} (hx : x.toNat = i) (hi : i ≤ n) : Cells w (subA a x.toNat c 2) (txCs (ts.drop i)) := by
  rw [hx]
  have := h.cells.sub i c 2 ((n - i) * 2) (by rw [txCs_len, ← h.len]; omega) (fun e => by have := h.cap; omega)
  rw [txCs_drop, List.take_of_length_le (by rw [txCs_len, List.length_drop, ← h.len]; exact Nat.le_refl _)] at this
  exact this

theorem dend_ok (B L : Int) (a : Option Addr) (n c : Nat) (ts : List (Int × RowW)) (h : Int) (hs : Srt (absT ts)) (hl : ts.length ≤ 1000) : SpecS Try.prog 40 [.agg #[.int .i64 B, .int .i64 L, .slice a n c], .int .i64 h] [sh (fun w => DkOk w a n c ts)] (fun v H' => ∃ a' n' c' ts', v = .tuple #[.agg #[.int .i64 B, .int .i64 L, .slice a' n' c'], .int .i64 (ofE (absT ts) h)] ∧ absT ts' = delT (absT ts) h ∧ H' = [sh (fun w => DkOk w a' n' c' ts')]) := by
  refine SpecS.enter Try.func40 rfl 27 rfl (Nat.le_of_ble_eq_true rfl) (fun o => ?_)
  refine SG.seq ?_
  refine SG.region ?_
  refine SL.step rfl rfl (CS.boxA rfl) ?_
  rintro _ _ ⟨b2, rfl, rfl⟩
  refine SL.step rfl rfl (CS.alloc [.int .i64 0, .int .i64 0, .slice none 0 0] rfl) ?_
  rintro _ _ ⟨b4, rfl, rfl⟩
  refine SL.val rfl rfl (fun w9 F9 S9 s => R.as rfl) ?_
  refine SL.nil ?_
  refine SN.seq ?_
  refine SG.seq ?_
  refine SG.region ?_
  refine SL.val rfl rfl (fun w9 F9 S9 s => R.ldBN rfl (s.cel (by repeat (first | exact SelB.blk | exact SelB.fz | apply SelB.there))) (by rfl)) ?_
  refine SL.val rfl rfl (fun w9 F9 S9 s => R.mv rfl) ?_
  refine SL.step rfl rfl (CS.call rfl go84 (txat_ok B L a n c ts h hl) (by repeat (first | exact Sels.nil | apply Sels.cons | exact Sel.keep | exact Sel.here | apply Sel.there))) ?_
  rintro _ _ ⟨_, ⟨x, rfl, hx, rfl⟩, rfl⟩
  refine SL.n1 ?_
  refine SL.val rfl rfl (fun w9 F9 S9 s => R.as rfl) ?_
  refine SL.nil ?_
  refine SN.seq ?_
  refine SG.seq ?_
  refine SG.seq ?_
  refine SG.region ?_
  refine SL.val rfl rfl (fun w9 F9 S9 s => R.mv rfl) ?_
  refine SL.val rfl rfl (fun w9 F9 S9 s => R.lss rfl rfl) ?_
  refine SL.nil ?_
  refine SN.seq ?_
  refine SG.condP rfl (fun h0 => ?_) (fun h0 => ?_)
  · obtain ⟨hno, hgt⟩ := at_no hx h0
    have hdl : delT (absT ts) h = absT ts := by unfold delT; rw [hno]; rfl
    refine SG.seq ?_
    refine SG.region ?_
    refine SL.val rfl rfl (fun w9 F9 S9 s => R.ldBN rfl (s.cel (by repeat (first | exact SelB.blk | exact SelB.fz | apply SelB.there))) (by rfl)) ?_
    refine SL.step0 rfl (CS.stA rfl rfl (by repeat (first | exact Sel.keep | exact Sel.here | apply Sel.there)) (by rfl) (by rfl) (by intro u hu; simp only [List.mem_cons, List.not_mem_nil, or_false] at hu; rcases hu with rfl | rfl | rfl <;> rfl)) ?_
    rintro _ _ rfl
    refine SL.val rfl rfl (fun w9 F9 S9 s => R.as rfl) ?_
    refine SL.nil ?_
    refine SN.seq ?_
    exact SG.retCT rfl rfl rfl (by repeat (first | exact Sel.keep | exact Sel.here | apply Sel.there)) (by rfl) ((Imp.sels (by repeat (first | exact Sels.nil | apply Sels.cons | exact Sel.keep | exact Sel.here | apply Sel.there)))) (ddPost (by unfold ofE; rw [hno]; rfl) hdl.symm rfl)
  · obtain ⟨i, t, rfl, ht, hth, hil, hhas, hgt⟩ := at_yes hs hx h0
    refine SG.fact (fun w9 F9 S9 s => dk_pt (s.sh (p := fun w => DkOk w a n c ts) (by repeat (first | exact Sel.keep | exact Sel.here | apply Sel.there))) ht) (fun hf9 => ?_)
    obtain ⟨q, hq⟩ := hf9
    refine SG.fact (fun w9 F9 S9 s => (s.sh (p := fun w => DkOk w a n c ts) (by repeat (first | exact Sel.keep | exact Sel.here | apply Sel.there))).len) (fun hf9 => ?_)
    have hln := hf9; clear hf9
    refine SG.fact (fun w9 F9 S9 s => (s.sh (p := fun w => DkOk w a n c ts) (by repeat (first | exact Sel.keep | exact Sel.here | apply Sel.there))).cap) (fun hf9 => ?_)
    have hcp := hf9; clear hf9
    have hs2 := (Srt_map (fun r : RowW => r.os.map wv)).1 hs
    have hdl : absT (ts.take i ++ ts.drop (i + 1)) = delT (absT ts) h := by rw [← hth, ← delT_at hs2 ht]; exact delT_map _ _ _
    refine SG.skip ?_
    refine SN.seq ?_
    refine SG.seq ?_
    refine SG.draw [0, 5, 11, 13] [1, 2, 3, 4, 6, 7, 8, 9, 10, 0, 5, 11, 12, 13] (by decide +kernel) rfl ?_
    refine SW.pure rfl rfl rfl rfl (fun w9 => R.fld rfl) ?_
    refine SW.read rfl rfl rfl rfl (fun w9 F9 S9 s => R.ldB (v := .slice a n c) rfl (s.cel (by repeat (first | exact SelB.blk | exact SelB.fz | apply SelB.there))) (by rfl)) ?_
    refine SW.pure rfl rfl rfl rfl (fun w9 => R.mv rfl) ?_
    refine SW.pure rfl rfl rfl rfl (fun w9 => R.slH (j := (i : Int)) rfl rfl (by omega) (by omega)) ?_
    refine SW.pure rfl rfl rfl rfl (fun w9 => R.fld rfl) ?_
    refine SW.read rfl rfl rfl rfl (fun w9 F9 S9 s => R.ldB (v := .slice a n c) rfl (s.cel (by repeat (first | exact SelB.blk | exact SelB.fz | apply SelB.there))) (by rfl)) ?_
    refine SW.pure rfl rfl rfl rfl (fun w9 => R.mv rfl) ?_
    refine SW.pure rfl rfl rfl rfl (fun w9 => R.add rfl rfl (by omega)) ?_
    refine SW.pure rfl rfl rfl rfl (fun w9 => R.slL (i := (i : Int) + 1) rfl rfl (by omega) (by omega)) ?_
    refine SW.step rfl rfl rfl rfl (CS.buildA rfl rfl rfl rfl rfl [] rfl) ?_
    rintro _ _ ⟨b13, rfl, rfl⟩
    refine ⟨⟨.inr (fun w9 F9 S9 s => R.ldB (v := .slice a n c) rfl (s.cel (by repeat (first | exact SelB.blk | exact SelB.fz | apply SelB.there))) (by rfl)), ⟨.inr (fun w9 F9 S9 s => R.ldB (v := .slice a n c) rfl (s.cel (by repeat (first | exact SelB.blk | exact SelB.fz | apply SelB.there))) (by rfl)), trivial⟩⟩, ?_⟩
    refine SW.step rfl rfl rfl rfl (CS.imp (Imp.ownBlk (size := 2) (k := 0) (show Sel _ (blk b13 [] 80) _ from (by repeat (first | exact Sel.keep | exact Sel.here | apply Sel.there))) rfl (Nat.zero_le _)) (CS.app rfl rfl (by repeat (first | exact Sel.keep | exact Sel.here | apply Sel.there)) (fun w9 F9 S9 s => dk_take (s.sh (p := fun w => DkOk w a n c ts) (by repeat (first | exact Sel.keep | exact Sel.here | apply Sel.there))) i) (by rw [txCs_len, List.length_take]; omega) (txCs_one _) (by simp [maxLen]; omega) (by omega))) ?_
    rintro _ _ ⟨a18, c18, rfl, rfl⟩
    refine ⟨⟨.inr (fun w9 F9 S9 s => R.ldB (v := .slice a n c) rfl (s.cel (by repeat (first | exact SelB.blk | exact SelB.fz | apply SelB.there))) (by rfl)), ⟨.inl (by decide +kernel), trivial⟩⟩, ?_⟩
    refine SW.step rfl rfl rfl rfl (CS.app rfl rfl (by repeat (first | exact Sel.keep | exact Sel.here | apply Sel.there)) (fun w9 F9 S9 s => dk_drop (s.sh (p := fun w => DkOk w a n c ts) (by repeat (first | exact Sel.keep | exact Sel.here | apply Sel.there))) (i := i + 1) (by omega) (by omega)) (by rw [txCs_len, List.length_drop]; omega) (txCs_one _) (by simp [maxLen]; omega) (by omega)) ?_
    rintro _ _ ⟨a24, c24, rfl, rfl⟩
    refine ⟨⟨.inl (by decide +kernel), ⟨.inl (by decide +kernel), trivial⟩⟩, ?_⟩
    refine SW.pure rfl rfl rfl rfl (fun w9 => R.fld rfl) ?_
    refine SW.step0 rfl rfl rfl (CS.st rfl rfl (by repeat (first | exact Sel.keep | exact Sel.here | apply Sel.there)) (by repeat (first | exact SetAt.here | apply SetAt.there)) rfl) ?_
    rintro _ _ rfl
    refine ⟨⟨.inl (by decide +kernel), ⟨.inl (by decide +kernel), trivial⟩⟩, ?_⟩
    refine SW.nil ?_
    refine SN.fact (fun w9 F9 S9 s => s.ownL (show Sel _ (own 80 2 a24 (0 + (i : Int).toNat + (n - ((i : Int) + 1).toNat)) c24 ([] ++ txCs (ts.take i) ++ txCs (ts.drop (i + 1)))) _ from (by repeat (first | exact Sel.keep | exact Sel.here | apply Sel.there)))) (fun hf9 => ?_)
    obtain ⟨_, hc24⟩ := hf9
    refine SN.imp (Imp.ownSh (show Sel _ (own 80 2 a24 (0 + (i : Int).toNat + (n - ((i : Int) + 1).toNat)) c24 ([] ++ txCs (ts.take i) ++ txCs (ts.drop (i + 1)))) _ from (by repeat (first | exact Sel.keep | exact Sel.here | apply Sel.there))) (p := fun w => Cells w a24 ([] ++ txCs (ts.take i) ++ txCs (ts.drop (i + 1)))) (fun w h => h)) ?_
    refine SN.imp (Imp.both (p := fun w => DkOk w a n c ts) (q := fun w => Cells w a24 ([] ++ txCs (ts.take i) ++ txCs (ts.drop (i + 1)))) (by repeat (first | exact Sel.keep | exact Sel.here | apply Sel.there)) (by repeat (first | exact Sel.keep | exact Sel.here | apply Sel.there))) ?_
    refine SN.imp (Imp.weak (p := fun w => DkOk w a n c ts ∧ Cells w a24 ([] ++ txCs (ts.take i) ++ txCs (ts.drop (i + 1)))) (q := fun w => DkOk w a24 (0 + (i : Int).toNat + (n - ((i : Int) + 1).toNat)) c24 (ts.take i ++ ts.drop (i + 1))) (by repeat (first | exact Sel.keep | exact Sel.here | apply Sel.there)) (fun w hw => dk_new hw.1 hw.2 (by rw [txCs_append]; simp) (by simp; omega) hc24 (fun t ht => .inl ((List.mem_append.1 ht).elim List.mem_of_mem_take List.mem_of_mem_drop)))) ?_
    refine SN.seq ?_
    refine SG.seq ?_
    refine SG.region ?_
    refine SL.val rfl rfl (fun w9 F9 S9 s => R.ldBN rfl (s.cel (by repeat (first | exact SelB.blk | exact SelB.fz | apply SelB.there))) (by rfl)) ?_
    refine SL.step0 rfl (CS.stA rfl rfl (by repeat (first | exact Sel.keep | exact Sel.here | apply Sel.there)) (by rfl) (by rfl) (by intro u hu; simp only [List.mem_cons, List.not_mem_nil, or_false] at hu; rcases hu with rfl | rfl | rfl <;> rfl)) ?_
    rintro _ _ rfl
    refine SL.val rfl rfl (fun w9 F9 S9 s => R.as rfl) ?_
    refine SL.nil ?_
    refine SN.seq ?_
    exact SG.retCT rfl rfl rfl (by repeat (first | exact Sel.keep | exact Sel.here | apply Sel.there)) (by rfl) ((Imp.sels (by repeat (first | exact Sels.nil | apply Sels.cons | exact Sel.keep | exact Sel.here | apply Sel.there)))) (ddPost (by unfold ofE; rw [hhas]; rfl) hdl rfl)

theorem dwrite_ok (B L : Int) (a : Option Addr) (n c : Nat) (ts : List (Int × RowW)) (h k : Int) (da : Option Addr) (dn dc : Nat) (d : List UInt8) (hs : Srt (absT ts)) (hl : ts.length ≤ 1000) (hol : ∀ t ∈ ts, t.2.os.length ≤ 1000) (hnc : dn ≤ dc) (hc : dc ≤ 140737488351232) (hnd : dn = d.length) : SpecS Try.prog 37 [.agg #[.int .i64 B, .int .i64 L, .slice a n c], .int .i64 h, .int .i64 k, .slice da dn dc] [sh (fun w => DkOk w a n c ts), bs da dn d] (fun v H' => ∃ a' n' c' ts', v = .tuple #[.agg #[.int .i64 B, .int .i64 L, .slice a' n' c'], .int .i64 (wrE B (absT ts) h k d.length)] ∧ absT ts' = wrM B (absT ts) h k d ∧ H' = [sh (fun w => DkOk w a' n' c' ts')]) := by
  refine SpecS.enter Try.func37 rfl 53 rfl (Nat.le_of_ble_eq_true rfl) (fun o => ?_)
  refine SG.seq ?_
  refine SG.region ?_
  refine SL.step rfl rfl (CS.boxA rfl) ?_
  rintro _ _ ⟨b4, rfl, rfl⟩
  refine SL.step rfl rfl (CS.alloc [.int .i64 0, .int .i64 0, .slice none 0 0] rfl) ?_
  rintro _ _ ⟨b8, rfl, rfl⟩
  refine SL.val rfl rfl (fun w9 F9 S9 s => R.as rfl) ?_
  refine SL.nil ?_
  refine SN.seq ?_
  refine SG.seq ?_
  refine SG.region ?_
  refine SL.val rfl rfl (fun w9 F9 S9 s => R.ldBN rfl (s.cel (by repeat (first | exact SelB.blk | exact SelB.fz | apply SelB.there))) (by rfl)) ?_
  refine SL.val rfl rfl (fun w9 F9 S9 s => R.mv rfl) ?_
  refine SL.step rfl rfl (CS.call rfl go84 (txat_ok B L a n c ts h hl) (by repeat (first | exact Sels.nil | apply Sels.cons | exact Sel.keep | exact Sel.here | apply Sel.there))) ?_
  rintro _ _ ⟨_, ⟨x, rfl, hx, rfl⟩, rfl⟩
  refine SL.n1 ?_
  refine SL.val rfl rfl (fun w9 F9 S9 s => R.as rfl) ?_
  refine SL.nil ?_
  refine SN.seq ?_
  refine SG.seq ?_
  refine SG.seq ?_
  refine SG.region ?_
  refine SL.val rfl rfl (fun w9 F9 S9 s => R.mv rfl) ?_
  refine SL.val rfl rfl (fun w9 F9 S9 s => R.lss rfl rfl) ?_
  refine SL.nil ?_
  refine SN.seq ?_
  refine SG.condP rfl (fun h0 => ?_) (fun h0 => ?_)
  · obtain ⟨hno, hgt⟩ := at_no hx h0
    have hwE : wrE B (absT ts) h k d.length = 40 := by unfold wrE; rw [hno]; rfl
    refine SG.seq ?_
    refine SG.region ?_
    refine SL.val rfl rfl (fun w9 F9 S9 s => R.ldBN rfl (s.cel (by repeat (first | exact SelB.blk | exact SelB.fz | apply SelB.there))) (by rfl)) ?_
    refine SL.step0 rfl (CS.stA rfl rfl (by repeat (first | exact Sel.keep | exact Sel.here | apply Sel.there)) (by rfl) (by rfl) (by intro u hu; simp only [List.mem_cons, List.not_mem_nil, or_false] at hu; rcases hu with rfl | rfl | rfl <;> rfl)) ?_
    rintro _ _ rfl
    refine SL.val rfl rfl (fun w9 F9 S9 s => R.as rfl) ?_
    refine SL.nil ?_
    refine SN.seq ?_
    exact SG.retCT rfl rfl rfl (by repeat (first | exact Sel.keep | exact Sel.here | apply Sel.there)) (by rfl) ((Imp.sels (by repeat (first | exact Sels.nil | apply Sels.cons | exact Sel.keep | exact Sel.here | apply Sel.there)))) (ddPost hwE (by unfold wrM; rw [if_neg (by rw [hwE]; decide)]) rfl)
  · obtain ⟨i, t, rfl, ht, hth, hil, hhas, hgt⟩ := at_yes hs hx h0
    refine SG.fact (fun w9 F9 S9 s => dk_pt (s.sh (p := fun w => DkOk w a n c ts) (by repeat (first | exact Sel.keep | exact Sel.here | apply Sel.there))) ht) (fun hf9 => ?_)
    obtain ⟨q, hq⟩ := hf9
    refine SG.fact (fun w9 F9 S9 s => (s.sh (p := fun w => DkOk w a n c ts) (by repeat (first | exact Sel.keep | exact Sel.here | apply Sel.there))).len) (fun hf9 => ?_)
    have hln := hf9; clear hf9
    refine SG.fact (fun w9 F9 S9 s => (s.sh (p := fun w => DkOk w a n c ts) (by repeat (first | exact Sel.keep | exact Sel.here | apply Sel.there))).cap) (fun hf9 => ?_)
    have hcp := hf9; clear hf9
    have hs2 := (Srt_map (fun r : RowW => r.os.map wv)).1 hs
    refine SG.skip ?_
    refine SN.seq ?_
    refine SG.seq ?_
    refine SG.seq ?_
    refine SG.region ?_
    refine SL.val rfl rfl (fun w9 F9 S9 s => R.mv rfl) ?_
    refine SL.val rfl rfl (fun w9 F9 S9 s => R.lss rfl rfl) ?_
    refine SL.val rfl rfl (fun w9 F9 S9 s => R.mv rfl) ?_
    refine SL.caseP 19 rfl (fun hg4_2 => ?_) (fun hg4_2 => ?_)
    · have hwE : wrE B (absT ts) h k d.length = 41 := by unfold wrE; rw [hhas, inB_lo (B := B) hg4_2]; rfl
      refine SL.pass rfl rfl ?_
      refine SL.pass rfl rfl ?_
      refine SL.pass rfl rfl ?_
      refine SL.pass rfl rfl ?_
      first | refine SL.val rfl rfl (fun w9 F9 S9 s => R.pickT rfl rfl) ?_ | refine SL.val rfl rfl (fun w9 F9 S9 s => R.pickF rfl rfl) ?_
      refine SL.nil ?_
      refine SN.seq ?_
      refine SG.condT rfl ?_
      refine SG.seq ?_
      refine SG.region ?_
      refine SL.val rfl rfl (fun w9 F9 S9 s => R.ldBN rfl (s.cel (by repeat (first | exact SelB.blk | exact SelB.fz | apply SelB.there))) (by rfl)) ?_
      refine SL.step0 rfl (CS.stA rfl rfl (by repeat (first | exact Sel.keep | exact Sel.here | apply Sel.there)) (by rfl) (by rfl) (by intro u hu; simp only [List.mem_cons, List.not_mem_nil, or_false] at hu; rcases hu with rfl | rfl | rfl <;> rfl)) ?_
      rintro _ _ rfl
      refine SL.val rfl rfl (fun w9 F9 S9 s => R.as rfl) ?_
      refine SL.nil ?_
      refine SN.seq ?_
      exact SG.retCT rfl rfl rfl (by repeat (first | exact Sel.keep | exact Sel.here | apply Sel.there)) (by rfl) ((Imp.sels (by repeat (first | exact Sels.nil | apply Sels.cons | exact Sel.keep | exact Sel.here | apply Sel.there)))) (ddPost hwE (by unfold wrM; rw [if_neg (by rw [hwE]; decide)]) rfl)
    · refine SL.val rfl rfl (fun w9 F9 S9 s => R.mv rfl) ?_
      refine SL.val rfl rfl (fun w9 F9 S9 s => R.fld rfl) ?_
      refine SL.val rfl rfl (fun w9 F9 S9 s => R.ldB (v := .int .i64 B) rfl (s.cel (by repeat (first | exact SelB.blk | exact SelB.fz | apply SelB.there))) (by rfl)) ?_
      refine SL.val rfl rfl (fun w9 F9 S9 s => R.geq rfl rfl) ?_
      first | refine SL.val rfl rfl (fun w9 F9 S9 s => R.pickT rfl rfl) ?_ | refine SL.val rfl rfl (fun w9 F9 S9 s => R.pickF rfl rfl) ?_
      refine SL.nil ?_
      refine SN.seq ?_
      refine SG.condP rfl (fun h1 => ?_) (fun h1 => ?_)
      · have hwE : wrE B (absT ts) h k d.length = 41 := by unfold wrE; rw [hhas, inB_hi h1]; rfl
        refine SG.seq ?_
        refine SG.region ?_
        refine SL.val rfl rfl (fun w9 F9 S9 s => R.ldBN rfl (s.cel (by repeat (first | exact SelB.blk | exact SelB.fz | apply SelB.there))) (by rfl)) ?_
        refine SL.step0 rfl (CS.stA rfl rfl (by repeat (first | exact Sel.keep | exact Sel.here | apply Sel.there)) (by rfl) (by rfl) (by intro u hu; simp only [List.mem_cons, List.not_mem_nil, or_false] at hu; rcases hu with rfl | rfl | rfl <;> rfl)) ?_
        rintro _ _ rfl
        refine SL.val rfl rfl (fun w9 F9 S9 s => R.as rfl) ?_
        refine SL.nil ?_
        refine SN.seq ?_
        exact SG.retCT rfl rfl rfl (by repeat (first | exact Sel.keep | exact Sel.here | apply Sel.there)) (by rfl) ((Imp.sels (by repeat (first | exact Sels.nil | apply Sels.cons | exact Sel.keep | exact Sel.here | apply Sel.there)))) (ddPost hwE (by unfold wrM; rw [if_neg (by rw [hwE]; decide)]) rfl)
      · refine SG.skip ?_
        refine SN.seq ?_
        refine SG.seq ?_
        refine SG.seq ?_
        refine SG.region ?_
        refine SL.val rfl rfl (fun w9 F9 S9 s => R.mv rfl) ?_
        refine SL.val rfl rfl (fun w9 F9 S9 s => R.lenS rfl) ?_
        refine SL.val rfl rfl (fun w9 F9 S9 s => R.neI rfl rfl) ?_
        refine SL.nil ?_
        refine SN.seq ?_
        refine SG.condP rfl (fun h2 => ?_) (fun h2 => ?_)
        · have hwE : wrE B (absT ts) h k d.length = 42 := by unfold wrE; rw [hhas, inB_in hg4_2 h1, if_pos rfl, if_pos rfl, if_neg (by omega)]
          refine SG.seq ?_
          refine SG.region ?_
          refine SL.val rfl rfl (fun w9 F9 S9 s => R.ldBN rfl (s.cel (by repeat (first | exact SelB.blk | exact SelB.fz | apply SelB.there))) (by rfl)) ?_
          refine SL.step0 rfl (CS.stA rfl rfl (by repeat (first | exact Sel.keep | exact Sel.here | apply Sel.there)) (by rfl) (by rfl) (by intro u hu; simp only [List.mem_cons, List.not_mem_nil, or_false] at hu; rcases hu with rfl | rfl | rfl <;> rfl)) ?_
          rintro _ _ rfl
          refine SL.val rfl rfl (fun w9 F9 S9 s => R.as rfl) ?_
          refine SL.nil ?_
          refine SN.seq ?_
          exact SG.retCT rfl rfl rfl (by repeat (first | exact Sel.keep | exact Sel.here | apply Sel.there)) (by rfl) ((Imp.sels (by repeat (first | exact Sels.nil | apply Sels.cons | exact Sel.keep | exact Sel.here | apply Sel.there)))) (ddPost hwE (by unfold wrM; rw [if_neg (by rw [hwE]; decide)]) rfl)
        · have hwE : wrE B (absT ts) h k d.length = 0 := by unfold wrE; rw [hhas, inB_in hg4_2 h1, if_pos rfl, if_pos rfl, if_pos (by omega)]
          have htl := hol t (List.mem_of_getElem? ht)
          refine SG.skip ?_
          refine SN.seq ?_
          refine SG.seq ?_
          refine SG.region ?_
          refine SL.step rfl rfl (CS.buildA rfl rfl rfl rfl rfl [] rfl) ?_
          rintro _ _ ⟨b30, rfl, rfl⟩
          refine SL.imp (Imp.ownBlk (size := 2) (k := 0) (show Sel _ (blk b30 [] 80) _ from (by repeat (first | exact Sel.keep | exact Sel.here | apply Sel.there))) rfl (Nat.zero_le _)) ?_
          refine SL.val rfl rfl (fun w9 F9 S9 s => R.fld rfl) ?_
          refine SL.val rfl rfl (fun w9 F9 S9 s => R.ldB (v := .slice a n c) rfl (s.cel (by repeat (first | exact SelB.blk | exact SelB.fz | apply SelB.there))) (by rfl)) ?_
          refine SL.step rfl rfl (CS.app rfl rfl (by repeat (first | exact Sel.keep | exact Sel.here | apply Sel.there)) (fun w9 F9 S9 s => (s.sh (p := fun w => DkOk w a n c ts) (by repeat (first | exact Sel.keep | exact Sel.here | apply Sel.there))).cells) (by rw [txCs_len, hln]) (txCs_one ts) (by simp [maxLen]; omega) (by omega)) ?_
          rintro _ _ ⟨a33, c33, rfl, rfl⟩
          refine SL.val rfl rfl (fun w9 F9 S9 s => R.fld rfl) ?_
          refine SL.step0 rfl (CS.st rfl rfl (by repeat (first | exact Sel.keep | exact Sel.here | apply Sel.there)) (by repeat (first | exact SetAt.here | apply SetAt.there)) rfl) ?_
          rintro _ _ rfl
          refine SL.nil ?_
          refine SN.fact (fun w9 F9 S9 s => s.ownG (show Sel _ (own 80 2 a33 (0 + n) c33 ([] ++ txCs ts)) _ from (by repeat (first | exact Sel.keep | exact Sel.here | apply Sel.there))) (by omega)) (fun hf9 => ?_)
          obtain ⟨g, hg⟩ := hf9
          subst hg
          refine SN.fact (fun w9 F9 S9 s => s.ownL (show Sel _ (own 80 2 (some ⟨g, 0, none⟩) (0 + n) c33 ([] ++ txCs ts)) _ from (by repeat (first | exact Sel.keep | exact Sel.here | apply Sel.there)))) (fun hf9 => ?_)
          obtain ⟨_, hc33⟩ := hf9
          refine SN.seq ?_
          refine SG.seq ?_
          refine SG.draw [12, 13, 14, 17] [0, 1, 2, 3, 4, 5, 6, 7, 8, 9, 10, 11, 12, 13, 14, 15, 16, 17] (by decide +kernel) rfl ?_
          refine SW.pure rfl rfl rfl rfl (fun w9 => R.fld rfl) ?_
          refine SW.read rfl rfl rfl rfl (fun w9 F9 S9 s => R.ldB (v := .slice (some ⟨g, 0, none⟩) (0 + n) c33) rfl (s.cel (by repeat (first | exact SelB.blk | exact SelB.fz | apply SelB.there))) (by rfl)) ?_
          refine SW.pure rfl rfl rfl rfl (fun w9 => R.mv rfl) ?_
          refine SW.pure rfl rfl rfl rfl (fun w9 => R.fld rfl) ?_
          refine SW.read rfl rfl rfl rfl (fun w9 F9 S9 s => R.ldB (v := .slice (some ⟨g, 0, none⟩) (0 + n) c33) rfl (s.cel (by repeat (first | exact SelB.blk | exact SelB.fz | apply SelB.there))) (by rfl)) ?_
          refine SW.pure rfl rfl rfl rfl (fun w9 => R.mv rfl) ?_
          refine SW.pure rfl rfl rfl rfl (fun w9 => R.idxO (i := (i : Int)) rfl rfl (by omega) (by omega) rfl (i * 2) (by omega)) ?_
          refine SW.pure rfl rfl rfl rfl (fun w9 => R.fldA rfl) ?_
          refine SW.read rfl rfl rfl rfl (fun w9 F9 S9 s => R.ld (v := t.2.val) rfl (own_row (s.ownC (show Sel _ (own 80 2 (some ⟨g, 0, none⟩) (0 + n) c33 ([] ++ txCs ts)) _ from (by repeat (first | exact Sel.keep | exact Sel.here | apply Sel.there)))) (by rw [List.nil_append]; exact (txCs_get ht).2))) ?_
          refine SW.pure rfl rfl rfl rfl (fun w9 => R.mv rfl) ?_
          refine SW.pure rfl rfl rfl rfl (fun w9 => R.mv rfl) ?_
          refine SW.pure rfl rfl rfl rfl (fun w9 => R.build (cs := (WriteV.cells (⟨k, da, dn, dc, d⟩ : WriteV)).toArray) rfl rfl) ?_
          refine SW.step rfl rfl rfl rfl (CS.buildA rfl rfl rfl rfl rfl (WriteV.cells (⟨k, da, dn, dc, d⟩ : WriteV)) rfl) ?_
          rintro _ _ ⟨b47, rfl, rfl⟩
          refine ⟨⟨.inr (fun w9 F9 S9 s => R.ld (v := t.2.val) rfl (own_row (s.ownC (show Sel _ (own 80 2 (some ⟨g, 0, none⟩) (0 + n) c33 ([] ++ txCs ts)) _ from (by repeat (first | exact Sel.keep | exact Sel.here | apply Sel.there)))) (by rw [List.nil_append]; exact (txCs_get ht).2))), ⟨.inr (fun w9 F9 S9 s => R.ldB (v := .slice (some ⟨g, 0, none⟩) (0 + n) c33) rfl (s.cel (by repeat (first | exact SelB.blk | exact SelB.fz | apply SelB.there))) (by rfl)), ⟨.inr (fun w9 F9 S9 s => R.ldB (v := .slice (some ⟨g, 0, none⟩) (0 + n) c33) rfl (s.cel (by repeat (first | exact SelB.blk | exact SelB.fz | apply SelB.there))) (by rfl)), trivial⟩⟩⟩, ?_⟩
          refine SW.step rfl rfl rfl rfl (CS.imp (rowB2 [(⟨k, da, dn, dc, d⟩ : WriteV)] (show Sel _ (blk b47 (WriteV.cells (⟨k, da, dn, dc, d⟩ : WriteV)) 40) _ from (by repeat (first | exact Sel.keep | exact Sel.here | apply Sel.there))) rfl (show Sel _ (sh (fun w => Bs w da dn d)) _ from (by repeat (first | exact Sel.keep | exact Sel.here | apply Sel.there))) (fun w h o ho => by rw [List.mem_singleton.1 ho]; exact ⟨hnc, by show dn ≤ _; omega, h⟩) (by simp)) (CS.buildA rfl rfl rfl rfl rfl ([t.2, (⟨some ⟨b47, 0, none⟩, 1, 1, [(⟨k, da, dn, dc, d⟩ : WriteV)]⟩ : RowW)].map RowW.val) rfl)) ?_
          rintro _ _ ⟨b48, rfl, rfl⟩
          refine ⟨⟨.inl (by decide +kernel), ⟨.inl (by decide +kernel), ⟨.inr (fun w9 F9 S9 s => R.ldB (v := .slice (some ⟨g, 0, none⟩) (0 + n) c33) rfl (s.cel (by repeat (first | exact SelB.blk | exact SelB.fz | apply SelB.there))) (by rfl)), trivial⟩⟩⟩, ?_⟩
          refine SW.step rfl rfl rfl rfl (CS.imp (Imp.blkSh (p := fun w => Cells w (some ⟨b48, 0, none⟩) ([t.2, (⟨some ⟨b47, 0, none⟩, 1, 1, [(⟨k, da, dn, dc, d⟩ : WriteV)]⟩ : RowW)].map RowW.val)) (show Sel _ (blk b48 ([t.2, (⟨some ⟨b47, 0, none⟩, 1, 1, [(⟨k, da, dn, dc, d⟩ : WriteV)]⟩ : RowW)].map RowW.val) _) _ from (by repeat (first | exact Sel.keep | exact Sel.here | apply Sel.there))) (fun w h => Cells.of_blk h 0 _ (fun j v hj => by simpa using hj))) (CS.imp (Imp.both (p := fun w => DkOk w a n c ts) (q := fun w => RowW.ok w (⟨some ⟨b47, 0, none⟩, 1, 1, [(⟨k, da, dn, dc, d⟩ : WriteV)]⟩ : RowW)) (by repeat (first | exact Sel.keep | exact Sel.here | apply Sel.there)) (by repeat (first | exact Sel.keep | exact Sel.here | apply Sel.there))) (CS.imp (Imp.both (p := fun w => Cells w (some ⟨b48, 0, none⟩) ([t.2, (⟨some ⟨b47, 0, none⟩, 1, 1, [(⟨k, da, dn, dc, d⟩ : WriteV)]⟩ : RowW)].map RowW.val)) (q := fun w => DkOk w a n c ts ∧ RowW.ok w (⟨some ⟨b47, 0, none⟩, 1, 1, [(⟨k, da, dn, dc, d⟩ : WriteV)]⟩ : RowW)) (by repeat (first | exact Sel.keep | exact Sel.here | apply Sel.there)) (by repeat (first | exact Sel.keep | exact Sel.here | apply Sel.there))) (CS.imp (Imp.weak (p := fun w => Cells w (some ⟨b48, 0, none⟩) ([t.2, (⟨some ⟨b47, 0, none⟩, 1, 1, [(⟨k, da, dn, dc, d⟩ : WriteV)]⟩ : RowW)].map RowW.val) ∧ DkOk w a n c ts ∧ RowW.ok w (⟨some ⟨b47, 0, none⟩, 1, 1, [(⟨k, da, dn, dc, d⟩ : WriteV)]⟩ : RowW)) (q := fun w => Cells w (some ⟨b48, 0, none⟩) ([t.2, (⟨some ⟨b47, 0, none⟩, 1, 1, [(⟨k, da, dn, dc, d⟩ : WriteV)]⟩ : RowW)].map RowW.val) ∧ ∀ r ∈ [t.2, (⟨some ⟨b47, 0, none⟩, 1, 1, [(⟨k, da, dn, dc, d⟩ : WriteV)]⟩ : RowW)], r.ok w) (by repeat (first | exact Sel.keep | exact Sel.here | apply Sel.there)) (fun w hw => ⟨hw.1, fun r hr => by simp only [List.mem_cons, List.not_mem_nil, or_false] at hr; rcases hr with rfl | rfl; exact hw.2.1.ok t (List.mem_of_getElem? ht); exact hw.2.2⟩)) (CS.call rfl go26 (refmerge7_ok (some ⟨b48, 0, none⟩) 2 2 [t.2, (⟨some ⟨b47, 0, none⟩, 1, 1, [(⟨k, da, dn, dc, d⟩ : WriteV)]⟩ : RowW)] rfl (by simp [allW]; omega) (by decide)) (by repeat (first | exact Sels.nil | apply Sels.cons | exact Sel.keep | exact Sel.here | apply Sel.there))))))) ?_
          rintro _ _ ⟨_, ⟨r9, rfl, hr9, hr9n, rfl⟩, rfl⟩
          refine ⟨⟨.inl (by decide +kernel), ⟨.inl (by decide +kernel), ⟨.inr (fun w9 F9 S9 s => R.ldB (v := .slice (some ⟨g, 0, none⟩) (0 + n) c33) rfl (s.cel (by repeat (first | exact SelB.blk | exact SelB.fz | apply SelB.there))) (by rfl)), trivial⟩⟩⟩, ?_⟩
          refine SW.n1 ?_
          refine SW.pure rfl rfl rfl rfl (fun w9 => R.idxO (i := (i : Int)) rfl rfl (by omega) (by omega) rfl (i * 2) (by omega)) ?_
          refine SW.pure rfl rfl rfl rfl (fun w9 => R.fldA rfl) ?_
          refine SW.step0 rfl rfl rfl (CS.stO (j := i * 2 + 1) rfl rfl (show Sel _ (own 80 2 (some ⟨g, 0, none⟩) (0 + n) c33 ([] ++ txCs ts)) _ from (by repeat (first | exact Sel.keep | exact Sel.here | apply Sel.there))) (by omega) rfl) ?_
          rintro _ _ rfl
          refine ⟨⟨.inl (by decide +kernel), ⟨.inl (by decide +kernel), ⟨.inl (by decide +kernel), trivial⟩⟩⟩, ?_⟩
          refine SW.nil ?_
          refine SN.imp (Imp.ownSh (show Sel _ (own 80 2 (some ⟨g, 0, none⟩) (0 + n) c33 (([] ++ txCs ts).set (i * 2 + 1) r9.val)) _ from (by repeat (first | exact Sel.keep | exact Sel.here | apply Sel.there))) (p := fun w => Cells w (some ⟨g, 0, none⟩) (([] ++ txCs ts).set (i * 2 + 1) r9.val)) (fun w h => h)) ?_
          refine SN.imp (Imp.both (p := fun w => DkOk w a n c ts) (q := fun w => Cells w (some ⟨g, 0, none⟩) (([] ++ txCs ts).set (i * 2 + 1) r9.val)) (by repeat (first | exact Sel.keep | exact Sel.here | apply Sel.there)) (by repeat (first | exact Sel.keep | exact Sel.here | apply Sel.there))) ?_
          refine SN.imp (Imp.both (p := fun w => DkOk w a n c ts ∧ Cells w (some ⟨g, 0, none⟩) (([] ++ txCs ts).set (i * 2 + 1) r9.val)) (q := fun w => r9.ok w) (by repeat (first | exact Sel.keep | exact Sel.here | apply Sel.there)) (by repeat (first | exact Sel.keep | exact Sel.here | apply Sel.there))) ?_
          refine SN.imp (Imp.weak (p := fun w => (DkOk w a n c ts ∧ Cells w (some ⟨g, 0, none⟩) (([] ++ txCs ts).set (i * 2 + 1) r9.val)) ∧ r9.ok w) (q := fun w => DkOk w (some ⟨g, 0, none⟩) (0 + n) c33 (ts.set i (t.1, r9))) (by repeat (first | exact Sel.keep | exact Sel.here | apply Sel.there)) (fun w hw => dk_new hw.1.1 hw.1.2 (by rw [List.nil_append]; exact txCs_set ht r9) (by simp; omega) hc33 (fun t ht => (List.mem_or_eq_of_mem_set ht).imp id (fun e => by rw [e]; exact hw.2)))) ?_
          have hab : absT (ts.set i (t.1, r9)) = wrM B (absT ts) h k d := by rw [← putT_at hs2 ht r9, hth]; exact wrM_put (by rw [← wrE_abs]; exact hwE) (by unfold ofV; rw [← hth, getT_at hs2 ht]; exact mgW_of (by rw [List.map_map]; have h9 := hr9; simp only [allW, List.map_cons, List.map_nil, List.flatten_cons, List.flatten_nil, List.append_nil, List.map_append] at h9; exact h9))
          refine SN.seq ?_
          refine SG.seq ?_
          refine SG.region ?_
          refine SL.val rfl rfl (fun w9 F9 S9 s => R.ldBN rfl (s.cel (by repeat (first | exact SelB.blk | exact SelB.fz | apply SelB.there))) (by rfl)) ?_
          refine SL.step0 rfl (CS.stA rfl rfl (by repeat (first | exact Sel.keep | exact Sel.here | apply Sel.there)) (by rfl) (by rfl) (by intro u hu; simp only [List.mem_cons, List.not_mem_nil, or_false] at hu; rcases hu with rfl | rfl | rfl <;> rfl)) ?_
          rintro _ _ rfl
          refine SL.val rfl rfl (fun w9 F9 S9 s => R.as rfl) ?_
          refine SL.nil ?_
          refine SN.seq ?_
          exact SG.retCT rfl rfl rfl (by repeat (first | exact Sel.keep | exact Sel.here | apply Sel.there)) (by rfl) ((Imp.sels (by repeat (first | exact Sels.nil | apply Sels.cons | exact Sel.keep | exact Sel.here | apply Sel.there)))) (ddPost hwE hab rfl)

end Go.Proofs.Ytiiiplhfgblamaa
/-
  The walks of package txn.
-/
set_option linter.unusedVariables false
set_option linter.unusedSimpArgs false
set_option maxRecDepth 4000
namespace Go.Proofs.Ytiiiplhfgblamaa
open Go Brv
theorem f_wrE : wrE 4 [((1 : Int), ([] : List Wr))] 1 2 (0 :: 3 :: List.replicate 62 (0 : UInt8)).length = 0 := by decide +kernel
theorem f_wrM : wrM 4 [((1 : Int), ([] : List Wr))] 1 2 (0 :: 3 :: List.replicate 62 (0 : UInt8)) = [((1 : Int), [((2 : Int), (0 :: 3 :: List.replicate 62 (0 : UInt8)))])] := by
  unfold wrM
  rw [if_pos f_wrE]
  rfl
theorem f_rdV : rdV 4 [((1 : Int), [((2 : Int), (0 :: 3 :: List.replicate 62 (0 : UInt8)))])] 1 2 = some (0 :: 3 :: List.replicate 62 (0 : UInt8)) ∧ rdE 4 [((1 : Int), [((2 : Int), (0 :: 3 :: List.replicate 62 (0 : UInt8)))])] 1 2 = 0 := ⟨rfl, rfl⟩
theorem f_rdV1 : rdV 4 [((1 : Int), [((2 : Int), (0 :: 3 :: List.replicate 62 (0 : UInt8)))])] 1 1 = none ∧ rdE 4 [((1 : Int), [((2 : Int), (0 :: 3 :: List.replicate 62 (0 : UInt8)))])] 1 1 = 0 := ⟨rfl, rfl⟩
theorem f_mg : mgW ((getT [((1 : Int), [((2 : Int), (0 :: 3 :: List.replicate 62 (0 : UInt8)))])] 1).getD []) = [((2 : Int), (0 :: 3 :: List.replicate 62 (0 : UInt8)))] ∧ ofE [((1 : Int), [((2 : Int), (0 :: 3 :: List.replicate 62 (0 : UInt8)))])] 1 = 0 ∧ delT [((1 : Int), [((2 : Int), (0 :: 3 :: List.replicate 62 (0 : UInt8)))])] 1 = [] ∧ ofE ([] : List (Int × List Wr)) 1 = 40 ∧ delT ([] : List (Int × List Wr)) 1 = [] := ⟨rfl, rfl, rfl, rfl, rfl⟩
theorem begin1 (b : Nat) : SpecS Try.prog 29 [.pointer (some ⟨b, 0, none⟩)] [bk b 4 0 []] (fun v H' => v = .tuple #[.int .i64 1, .int .i64 0] ∧ H' = [bk b 4 1 [((1 : Int), ([] : List Wr))]]) := beginS b 4 0 [] (by decide) (by decide) (by decide)
theorem one_row {r : RowW} {x : Wr} (h : r.os.map wv = [x]) : ∃ z, r.os[0]? = some z ∧ wv z = x ∧ r.os.length = 1 := by
  match hr : r.os, h with
  | [z], h => exact ⟨z, rfl, by simpa using h, rfl⟩

set_option maxHeartbeats 1000000 in
theorem first13_ok  : SpecS Try.prog 27 [] [] (fun v H' => v = .bool true ∧ H' = []) := by
  refine SpecS.enter Try.func27 rfl 109 rfl (Nat.le_of_ble_eq_true rfl) (fun o => ?_)
  refine SG.seq ?_
  refine SG.region ?_
  refine SL.val rfl rfl (fun w9 F9 S9 s => R.as rfl) ?_
  refine SL.nil ?_
  refine SN.seq ?_
  refine SG.seq ?_
  refine SG.region ?_
  refine SL.step rfl rfl (CS.call rfl go28 (newS 4 (by decide) (by decide)) (by repeat (first | exact Sels.nil | apply Sels.cons | exact Sel.keep | exact Sel.here | apply Sel.there))) ?_
  rintro _ _ ⟨_, ⟨b, rfl, rfl⟩, rfl⟩
  refine SL.n1 ?_
  refine SL.val rfl rfl (fun w9 F9 S9 s => R.mv rfl) ?_
  refine SL.val rfl rfl (fun w9 F9 S9 s => R.ext rfl rfl) ?_
  refine SL.val rfl rfl (fun w9 F9 S9 s => R.ext rfl rfl) ?_
  refine SL.val rfl rfl (fun w9 F9 S9 s => R.as rfl) ?_
  refine SL.val rfl rfl (fun w9 F9 S9 s => R.as rfl) ?_
  refine SL.nil ?_
  refine SN.seq ?_
  refine SG.seq ?_
  refine SG.region ?_
  refine SL.val rfl rfl (fun w9 F9 S9 s => R.mv rfl) ?_
  refine SL.step rfl rfl (CS.call rfl go29 (begin1 b) (by repeat (first | exact Sels.nil | apply Sels.cons | exact Sel.keep | exact Sel.here | apply Sel.there))) ?_
  rintro _ _ ⟨_, ⟨rfl, rfl⟩, rfl⟩
  refine SL.n1 ?_
  refine SL.val rfl rfl (fun w9 F9 S9 s => R.mv rfl) ?_
  refine SL.val rfl rfl (fun w9 F9 S9 s => R.ext rfl rfl) ?_
  refine SL.val rfl rfl (fun w9 F9 S9 s => R.ext rfl rfl) ?_
  refine SL.val rfl rfl (fun w9 F9 S9 s => R.as rfl) ?_
  refine SL.val rfl rfl (fun w9 F9 S9 s => R.as rfl) ?_
  refine SL.nil ?_
  refine SN.seq ?_
  refine SG.seq ?_
  refine SG.region ?_
  refine SL.step rfl rfl (CS.make rfl rfl (by decide) (by decide) (by decide) (by decide) (vbs (List.replicate 64 0)) (madeCells_bytes 64)) ?_
  rintro _ _ ⟨b24, rfl, rfl⟩
  refine SL.val rfl rfl (fun w9 F9 S9 s => R.as rfl) ?_
  refine SL.nil ?_
  refine SN.seq ?_
  refine SG.seq ?_
  refine SG.region ?_
  refine SL.val rfl rfl (fun w9 F9 S9 s => R.mv rfl) ?_
  refine SL.val rfl rfl (fun w9 F9 S9 s => R.idxO (i := 1) rfl rfl (by decide) (by decide) rfl 1 (by decide)) ?_
  refine SL.step0 rfl (CS.st (cs' := vbs (0 :: 3 :: List.replicate 62 (0 : UInt8))) rfl rfl (by repeat (first | exact Sel.keep | exact Sel.here | apply Sel.there)) (SetAt.there SetAt.here) rfl) ?_
  rintro _ _ rfl
  refine SL.nil ?_
  refine SN.imp (Imp.blkSh (p := fun w => Bs w (some ⟨b24, 0, none⟩) 64 (0 :: 3 :: List.replicate 62 (0 : UInt8))) (show Sel _ (blk b24 (vbs (0 :: 3 :: List.replicate 62 (0 : UInt8))) _) _ from (by repeat (first | exact Sel.keep | exact Sel.here | apply Sel.there))) (fun w h => ⟨Cells.of_blk h 0 _ (fun j v hj => by simpa using hj), by decide +kernel⟩)) ?_
  refine SN.seq ?_
  refine SG.seq ?_
  refine SG.region ?_
  refine SL.val rfl rfl (fun w9 F9 S9 s => R.mv rfl) ?_
  refine SL.val rfl rfl (fun w9 F9 S9 s => R.mv rfl) ?_
  refine SL.val rfl rfl (fun w9 F9 S9 s => R.mv rfl) ?_
  refine SL.step rfl rfl (CS.call rfl go30 (writeS b 4 1 [((1 : Int), ([] : List Wr))] 1 2 (some ⟨b24, 0, none⟩) 64 64 (0 :: 3 :: List.replicate 62 (0 : UInt8)) (by decide) (by simp) (by decide) (by decide) (by decide +kernel)) (by repeat (first | exact Sels.nil | apply Sels.cons | exact Sel.keep | exact Sel.here | apply Sel.there))) ?_
  rintro _ _ ⟨_, ⟨rfl, rfl⟩, rfl⟩
  refine SL.n1 ?_
  rw [f_wrE, f_wrM]
  refine SL.val rfl rfl (fun w9 F9 S9 s => R.as rfl) ?_
  refine SL.nil ?_
  refine SN.seq ?_
  refine SG.seq ?_
  refine SG.region ?_
  refine SL.val rfl rfl (fun w9 F9 S9 s => R.mv rfl) ?_
  refine SL.val rfl rfl (fun w9 F9 S9 s => R.mv rfl) ?_
  refine SL.step rfl rfl (CS.call rfl go31 (readS b 4 1 [((1 : Int), [((2 : Int), (0 :: 3 :: List.replicate 62 (0 : UInt8)))])] 1 2 (by decide) (by simp)) (by repeat (first | exact Sels.nil | apply Sels.cons | exact Sel.keep | exact Sel.here | apply Sel.there))) ?_
  rintro _ _ ⟨_, ⟨a34, n34, c34, rfl, hn34, rfl⟩, rfl⟩
  refine SL.n2 ?_
  rw [f_rdV.1, f_rdV.2]
  refine SL.val rfl rfl (fun w9 F9 S9 s => R.mv rfl) ?_
  refine SL.val rfl rfl (fun w9 F9 S9 s => R.ext rfl rfl) ?_
  refine SL.val rfl rfl (fun w9 F9 S9 s => R.ext rfl rfl) ?_
  refine SL.val rfl rfl (fun w9 F9 S9 s => R.ext rfl rfl) ?_
  refine SL.val rfl rfl (fun w9 F9 S9 s => R.as rfl) ?_
  refine SL.val rfl rfl (fun w9 F9 S9 s => R.as rfl) ?_
  refine SL.val rfl rfl (fun w9 F9 S9 s => R.as rfl) ?_
  refine SL.nil ?_
  refine SN.seq ?_
  refine SG.seq ?_
  refine SG.region ?_
  refine SL.val rfl rfl (fun w9 F9 S9 s => R.mv rfl) ?_
  refine SL.val rfl rfl (fun w9 F9 S9 s => R.mv rfl) ?_
  refine SL.step rfl rfl (CS.call rfl go31 (readS b 4 1 [((1 : Int), [((2 : Int), (0 :: 3 :: List.replicate 62 (0 : UInt8)))])] 1 1 (by decide) (by simp)) (by repeat (first | exact Sels.nil | apply Sels.cons | exact Sel.keep | exact Sel.here | apply Sel.there))) ?_
  rintro _ _ ⟨_, ⟨a41, n41, c41, rfl, hn41, rfl⟩, rfl⟩
  refine SL.n2 ?_
  rw [f_rdV1.1, f_rdV1.2]
  refine SL.val rfl rfl (fun w9 F9 S9 s => R.mv rfl) ?_
  refine SL.val rfl rfl (fun w9 F9 S9 s => R.ext rfl rfl) ?_
  refine SL.val rfl rfl (fun w9 F9 S9 s => R.ext rfl rfl) ?_
  refine SL.val rfl rfl (fun w9 F9 S9 s => R.ext rfl rfl) ?_
  refine SL.val rfl rfl (fun w9 F9 S9 s => R.as rfl) ?_
  refine SL.val rfl rfl (fun w9 F9 S9 s => R.as rfl) ?_
  refine SL.val rfl rfl (fun w9 F9 S9 s => R.as rfl) ?_
  refine SL.nil ?_
  refine SN.seq ?_
  refine SG.seq ?_
  refine SG.region ?_
  refine SL.val rfl rfl (fun w9 F9 S9 s => R.mv rfl) ?_
  refine SL.val rfl rfl (fun w9 F9 S9 s => R.mv rfl) ?_
  refine SL.step rfl rfl (CS.call rfl go32 (writesS b 4 1 [((1 : Int), [((2 : Int), (0 :: 3 :: List.replicate 62 (0 : UInt8)))])] 1 (by decide) (by simp)) (by repeat (first | exact Sels.nil | apply Sels.cons | exact Sel.keep | exact Sel.here | apply Sel.there))) ?_
  rintro _ _ ⟨_, ⟨r48, rfl, hr48, rfl⟩, rfl⟩
  refine SL.n2 ?_
  rw [f_mg.1] at hr48
  rw [f_mg.2.1]
  refine SL.val rfl rfl (fun w9 F9 S9 s => R.mv rfl) ?_
  refine SL.val rfl rfl (fun w9 F9 S9 s => R.ext rfl rfl) ?_
  refine SL.val rfl rfl (fun w9 F9 S9 s => R.ext rfl rfl) ?_
  refine SL.val rfl rfl (fun w9 F9 S9 s => R.as rfl) ?_
  refine SL.val rfl rfl (fun w9 F9 S9 s => R.as rfl) ?_
  refine SL.nil ?_
  obtain ⟨z, hz, hzv, hzl⟩ := one_row hr48
  refine SN.fact (fun w9 F9 S9 s => rowlen (s.row2 (show Sel _ (sh (fun w => RowW.ok w r48)) _ from (by repeat (first | exact Sel.keep | exact Sel.here | apply Sel.there))))) (fun hf9 => ?_)
  have hrl := hf9; clear hf9
  refine SN.fact (fun w9 F9 S9 s => rowpt (s.row2 (show Sel _ (sh (fun w => RowW.ok w r48)) _ from (by repeat (first | exact Sel.keep | exact Sel.here | apply Sel.there)))) hz) (fun hf9 => ?_)
  obtain ⟨q, hq⟩ := hf9
  refine SN.seq ?_
  refine SG.seq ?_
  refine SG.region ?_
  refine SL.val rfl rfl (fun w9 F9 S9 s => R.mv rfl) ?_
  refine SL.val rfl rfl (fun w9 F9 S9 s => R.eqI rfl rfl) ?_
  refine SL.val rfl rfl (fun w9 F9 S9 s => R.mv rfl) ?_
  refine SL.isT 53 rfl (rfl) ?_
  refine SL.val rfl rfl (fun w9 F9 S9 s => R.mv rfl) ?_
  refine SL.val rfl rfl (fun w9 F9 S9 s => R.eqI rfl rfl) ?_
  first | refine SL.val rfl rfl (fun w9 F9 S9 s => R.pickT rfl rfl) ?_ | refine SL.val rfl rfl (fun w9 F9 S9 s => R.pickF rfl rfl) ?_
  refine SL.val rfl rfl (fun w9 F9 S9 s => R.mv rfl) ?_
  refine SL.isT 57 rfl (rfl) ?_
  refine SL.val rfl rfl (fun w9 F9 S9 s => R.mv rfl) ?_
  refine SL.val rfl rfl (fun w9 F9 S9 s => R.eqI rfl rfl) ?_
  first | refine SL.val rfl rfl (fun w9 F9 S9 s => R.pickT rfl rfl) ?_ | refine SL.val rfl rfl (fun w9 F9 S9 s => R.pickF rfl rfl) ?_
  refine SL.val rfl rfl (fun w9 F9 S9 s => R.mv rfl) ?_
  refine SL.isT 61 rfl (rfl) ?_
  refine SL.val rfl rfl (fun w9 F9 S9 s => R.mv rfl) ?_
  refine SL.val rfl rfl (fun w9 F9 S9 s => R.eqI rfl rfl) ?_
  first | refine SL.val rfl rfl (fun w9 F9 S9 s => R.pickT rfl rfl) ?_ | refine SL.val rfl rfl (fun w9 F9 S9 s => R.pickF rfl rfl) ?_
  refine SL.val rfl rfl (fun w9 F9 S9 s => R.mv rfl) ?_
  refine SL.isT 65 rfl (rfl) ?_
  refine SL.val rfl rfl (fun w9 F9 S9 s => R.mv rfl) ?_
  first | refine SL.val rfl rfl (fun w9 F9 S9 s => R.pickT rfl rfl) ?_ | refine SL.val rfl rfl (fun w9 F9 S9 s => R.pickF rfl rfl) ?_
  refine SL.val rfl rfl (fun w9 F9 S9 s => R.mv rfl) ?_
  refine SL.isT 68 rfl (rfl) ?_
  refine SL.val rfl rfl (fun w9 F9 S9 s => R.mv rfl) ?_
  refine SL.val rfl rfl (fun w9 F9 S9 s => R.not rfl) ?_
  first | refine SL.val rfl rfl (fun w9 F9 S9 s => R.pickT rfl rfl) ?_ | refine SL.val rfl rfl (fun w9 F9 S9 s => R.pickF rfl rfl) ?_
  refine SL.val rfl rfl (fun w9 F9 S9 s => R.mv rfl) ?_
  refine SL.isT 72 rfl (rfl) ?_
  refine SL.val rfl rfl (fun w9 F9 S9 s => R.mv rfl) ?_
  refine SL.val rfl rfl (fun w9 F9 S9 s => R.strB rfl (s.sh (p := fun w => Bs w a34 n34 ((some (0 :: 3 :: List.replicate 62 (0 : UInt8))).getD [])) (by repeat (first | exact Sel.keep | exact Sel.here | apply Sel.there)))) ?_
  refine SL.val rfl rfl (fun w9 F9 S9 s => R.mv rfl) ?_
  refine SL.val rfl rfl (fun w9 F9 S9 s => R.strB rfl (s.sh (p := fun w => Bs w (some ⟨b24, 0, none⟩) 64 (0 :: 3 :: List.replicate 62 (0 : UInt8))) (by repeat (first | exact Sel.keep | exact Sel.here | apply Sel.there)))) ?_
  refine SL.val rfl rfl (fun w9 F9 S9 s => R.eqStr rfl rfl) ?_
  first | refine SL.val rfl rfl (fun w9 F9 S9 s => R.pickT rfl rfl) ?_ | refine SL.val rfl rfl (fun w9 F9 S9 s => R.pickF rfl rfl) ?_
  refine SL.val rfl rfl (fun w9 F9 S9 s => R.mv rfl) ?_
  refine SL.isT 79 rfl (decide_eq_true rfl) ?_
  refine SL.val rfl rfl (fun w9 F9 S9 s => R.mv rfl) ?_
  refine SL.val rfl rfl (fun w9 F9 S9 s => R.lenS rfl) ?_
  refine SL.val rfl rfl (fun w9 F9 S9 s => R.eqI rfl rfl) ?_
  first | refine SL.val rfl rfl (fun w9 F9 S9 s => R.pickT rfl rfl) ?_ | refine SL.val rfl rfl (fun w9 F9 S9 s => R.pickF rfl rfl) ?_
  refine SL.val rfl rfl (fun w9 F9 S9 s => R.mv rfl) ?_
  refine SL.isT 84 rfl (decide_eq_true (by omega)) ?_
  refine SL.val rfl rfl (fun w9 F9 S9 s => R.mv rfl) ?_
  refine SL.val rfl rfl (fun w9 F9 S9 s => R.idx (i := 0) rfl rfl (by omega) (by omega) q hq) ?_
  refine SL.val rfl rfl (fun w9 F9 S9 s => R.fldA rfl) ?_
  refine SL.val rfl rfl (fun w9 F9 S9 s => R.ld (v := .int .i64 z.Block') rfl ((rowcells (s.row2 (show Sel _ (sh (fun w => RowW.ok w r48)) _ from (by repeat (first | exact Sel.keep | exact Sel.here | apply Sel.there)))) hq hz).load (j := 0) rfl)) ?_
  refine SL.val rfl rfl (fun w9 F9 S9 s => R.eqI rfl rfl) ?_
  first | refine SL.val rfl rfl (fun w9 F9 S9 s => R.pickT rfl rfl) ?_ | refine SL.val rfl rfl (fun w9 F9 S9 s => R.pickF rfl rfl) ?_
  refine SL.val rfl rfl (fun w9 F9 S9 s => R.mv rfl) ?_
  refine SL.isT 91 rfl (decide_eq_true (congrArg Prod.fst hzv)) ?_
  refine SL.val rfl rfl (fun w9 F9 S9 s => R.mv rfl) ?_
  refine SL.step rfl rfl (CS.call rfl go35 (openS b 4 1 [((1 : Int), [((2 : Int), (0 :: 3 :: List.replicate 62 (0 : UInt8)))])] (by decide)) (by repeat (first | exact Sels.nil | apply Sels.cons | exact Sel.keep | exact Sel.here | apply Sel.there))) ?_
  rintro _ _ ⟨_, ⟨a93, c93, rfl, rfl⟩, rfl⟩
  refine SL.n2 ?_
  refine SL.val rfl rfl (fun w9 F9 S9 s => R.lenS rfl) ?_
  refine SL.val rfl rfl (fun w9 F9 S9 s => R.eqI rfl rfl) ?_
  first | refine SL.val rfl rfl (fun w9 F9 S9 s => R.pickT rfl rfl) ?_ | refine SL.val rfl rfl (fun w9 F9 S9 s => R.pickF rfl rfl) ?_
  refine SL.val rfl rfl (fun w9 F9 S9 s => R.mv rfl) ?_
  refine SL.isT 97 rfl (rfl) ?_
  refine SL.val rfl rfl (fun w9 F9 S9 s => R.mv rfl) ?_
  refine SL.val rfl rfl (fun w9 F9 S9 s => R.mv rfl) ?_
  refine SL.step rfl rfl (CS.call rfl go33 (endS b 4 1 [((1 : Int), [((2 : Int), (0 :: 3 :: List.replicate 62 (0 : UInt8)))])] 1 (by decide)) (by repeat (first | exact Sels.nil | apply Sels.cons | exact Sel.keep | exact Sel.here | apply Sel.there))) ?_
  rintro _ _ ⟨_, ⟨rfl, rfl⟩, rfl⟩
  refine SL.n1 ?_
  rw [f_mg.2.1, f_mg.2.2.1]
  refine SL.val rfl rfl (fun w9 F9 S9 s => R.eqI rfl rfl) ?_
  first | refine SL.val rfl rfl (fun w9 F9 S9 s => R.pickT rfl rfl) ?_ | refine SL.val rfl rfl (fun w9 F9 S9 s => R.pickF rfl rfl) ?_
  refine SL.val rfl rfl (fun w9 F9 S9 s => R.mv rfl) ?_
  refine SL.isT 103 rfl (rfl) ?_
  refine SL.val rfl rfl (fun w9 F9 S9 s => R.mv rfl) ?_
  refine SL.val rfl rfl (fun w9 F9 S9 s => R.mv rfl) ?_
  refine SL.step rfl rfl (CS.call rfl go33 (endS b 4 1 [] 1 (by decide)) (by repeat (first | exact Sels.nil | apply Sels.cons | exact Sel.keep | exact Sel.here | apply Sel.there))) ?_
  rintro _ _ ⟨_, ⟨rfl, rfl⟩, rfl⟩
  refine SL.n1 ?_
  rw [f_mg.2.2.2.1, f_mg.2.2.2.2]
  refine SL.val rfl rfl (fun w9 F9 S9 s => R.eqI rfl rfl) ?_
  first | refine SL.val rfl rfl (fun w9 F9 S9 s => R.pickT rfl rfl) ?_ | refine SL.val rfl rfl (fun w9 F9 S9 s => R.pickF rfl rfl) ?_
  refine SL.val rfl rfl (fun w9 F9 S9 s => R.as rfl) ?_
  refine SL.nil ?_
  refine SN.seq ?_
  exact SG.ret1 rfl rfl (Imp.sels Sels.nil) (⟨congrArg Value.bool (decide_eq_true rfl), rfl⟩)

end Go.Proofs.Ytiiiplhfgblamaa
/-
  The walks of package txn.
-/
set_option linter.unusedVariables false
set_option linter.unusedSimpArgs false
set_option maxRecDepth 4000
namespace Go.Proofs.Ytiiiplhfgblamaa
open Go Brv
structure OpV where
  mk ::
  (Kind' : Int)
  (H' : Int)
  (Block' : Int)
  (B'a : Option Addr) (B'n B'c : Nat) (B' : List UInt8)
def OpV.cells (o : OpV) : List Value := [.int .i64 o.Kind', .int .i64 o.H', .int .i64 o.Block', .slice o.B'a o.B'n o.B'c]
def OpV.ok (w : World) (o : OpV) : Prop := (Lit.int .i64 o.Kind').wf = true ∧ (Lit.int .i64 o.H').wf = true ∧ (Lit.int .i64 o.Block').wf = true ∧ (o.B'n ≤ o.B'c ∧ o.B'c ≤ 140737488351232 ∧ Bs w o.B'a o.B'n o.B')
theorem OpV.ok.ext0 {w w' : World} {o : OpV} (h : o.ok w) (he : Ext [] w w') : o.ok w' := by
  obtain ⟨h0, h1, h2, h3⟩ := h
  exact ⟨h0, h1, h2, ⟨h3.1, h3.2.1, h3.2.2.ext0 he⟩⟩
theorem OpV.cells.length (o : OpV) : o.cells.length = 4 := rfl
theorem OpV.cells.one (o : OpV) : ∀ u ∈ o.cells.toArray.toList, u.oneCell' = true := by
  intro u hu
  simp only [OpV.cells, List.mem_cons, List.not_mem_nil, or_false] at hu
  rcases hu with rfl | rfl | rfl | rfl <;> rfl
set_option maxRecDepth 100000 in
theorem opV_of {w : World} {f : Nat} {cs : List Value} (h : Rd Try.prog w f 55 cs) : ∃ o : OpV, cs = o.cells ∧ o.ok w := by
  cases f with
  | zero => exact h.elim
  | succ f =>
    unfold Rd at h
    rw [Try.underlying55] at h
    obtain ⟨hl, hf⟩ := h
    rw [show Try.prog.cellsOf 55 = 4 from by kernel_rfl] at hl
    obtain ⟨v0, v1, v2, v3, rfl⟩ : ∃ v0 v1 v2 v3, cs = [v0, v1, v2, v3] := by
      match cs, hl with
      | [v0, v1, v2, v3], _ => exact ⟨v0, v1, v2, v3, rfl⟩
    have r0 : Rd Try.prog w f 3 (List.take (Try.prog.cellsOf 3) (List.drop 0 [v0, v1, v2, v3])) := hf 0 _ rfl
    rw [show Try.prog.cellsOf 3 = 1 from by kernel_rfl] at r0
    replace r0 : Rd Try.prog w f 3 [v0] := r0
    have r1 : Rd Try.prog w f 3 (List.take (Try.prog.cellsOf 3) (List.drop 1 [v0, v1, v2, v3])) := hf 1 _ rfl
    rw [show Try.prog.cellsOf 3 = 1 from by kernel_rfl] at r1
    replace r1 : Rd Try.prog w f 3 [v1] := r1
    have r2 : Rd Try.prog w f 3 (List.take (Try.prog.cellsOf 3) (List.drop 2 [v0, v1, v2, v3])) := hf 2 _ rfl
    rw [show Try.prog.cellsOf 3 = 1 from by kernel_rfl] at r2
    replace r2 : Rd Try.prog w f 3 [v2] := r2
    have r3 : Rd Try.prog w f 25 (List.take (Try.prog.cellsOf 25) (List.drop 3 [v0, v1, v2, v3])) := hf 3 _ rfl
    rw [show Try.prog.cellsOf 25 = 1 from by kernel_rfl] at r3
    replace r3 : Rd Try.prog w f 25 [v3] := r3
    obtain ⟨x0, e0, w0⟩ := r0.int
    cases e0
    obtain ⟨x1, e1, w1⟩ := r1.int
    cases e1
    obtain ⟨x2, e2, w2⟩ := r2.int
    cases e2
    obtain ⟨a3, n3, c3, l3, e3, z3, _, y3, b3⟩ := r3.bytes (by kernel_rfl) (by kernel_rfl)
    cases e3
    exact ⟨⟨x0, x1, x2, a3, n3, c3, l3⟩, rfl, ⟨w0, w1, w2, ⟨z3, y3, b3⟩⟩⟩
set_option maxRecDepth 100000 in
theorem opV_rows47 {w : World} {f : Nat} {cs : List Value} (h : Rd Try.prog w f 47 cs) : ∃ a n c, ∃ os : List OpV, cs = [.slice a n c] ∧ n ≤ c ∧ c * 48 ≤ 140737488351232 ∧ Tab w a n 4 (os.map OpV.cells) ∧ ∀ o ∈ os, o.ok w := by
  cases f with
  | zero => exact h.elim
  | succ f =>
    unfold Rd at h
    rw [Try.underlying47] at h
    obtain ⟨a, n, c, rfl, hnc, _, hb, vss, hl, hcell, hv⟩ := h
    rw [show Try.prog.bytesOf 55 = 48 from by kernel_rfl] at hb
    have hex : ∃ os : List OpV, vss = os.map OpV.cells ∧ ∀ o ∈ os, o.ok w := by
      clear hcell hl
      induction vss with
      | nil => exact ⟨[], rfl, by simp⟩
      | cons vs r ih =>
        obtain ⟨o, rfl, ho⟩ := opV_of (hv vs (by simp)).2
        obtain ⟨os, rfl, hos⟩ := ih (fun x hx => hv x (by simp [hx]))
        exact ⟨o :: os, rfl, fun x hx => (List.mem_cons.1 hx).elim (fun e => e ▸ ho) (hos x)⟩
    obtain ⟨os, rfl, hos⟩ := hex
    exact ⟨a, n, c, os, rfl, hnc, hb, ⟨hcell, hl.symm, fun vs hvs => by obtain ⟨o, _, rfl⟩ := List.mem_map.1 hvs; rfl⟩, hos⟩

structure OpsOk (w : World) (a : Option Addr) (n : Nat) (os : List OpV) : Prop where
  len : n = os.length
  tab : Tab w a n 4 (os.map OpV.cells)
  ok : ∀ o ∈ os, o.ok w
theorem OpsOk.ext0 {w w' : World} {a : Option Addr} {n : Nat} {os : List OpV} (h : OpsOk w a n os) (he : Ext [] w w') : OpsOk w' a n os := ⟨h.len, h.tab.ext0 he, fun o ho => (h.ok o ho).ext0 he⟩
theorem ops_pt {w : World} {a : Option Addr} {n : Nat} {os : List OpV} {i : Nat} {o : OpV} (h : OpsOk w a n os) (ho : os[i]? = some o) : ∃ q, a = some q := by
  obtain ⟨hi, _⟩ := List.getElem?_eq_some_iff.1 ho
  obtain ⟨q, hq, _⟩ := h.tab.at (by decide) i (by simpa using hi)
  exact ⟨q, hq⟩
theorem ops_cells {w : World} {a : Option Addr} {n : Nat} {os : List OpV} {i : Nat} {o : OpV} {p : Addr} (h : OpsOk w a n os) (hp : a = some p) (ho : os[i]? = some o) : Cells w (some (p.add ((i : Int).toNat * 4))) (OpV.cells o) := by
  obtain ⟨hi, rfl⟩ := List.getElem?_eq_some_iff.1 ho
  obtain ⟨q, hq, hc⟩ := h.tab.at (by decide) i (by simpa using hi)
  rw [hp] at hq; cases hq
  simpa [Int.toNat_natCast] using hc
theorem dk_nil (w : World) : DkOk w none 0 0 [] := ⟨rfl, Nat.le_refl _, fun j v hj => (by simp [txCs] at hj), by simp⟩
/-- What is so of the transactions after i operations. -/
structure PlOk (i : Nat) (L : Int) (M : List (Int × List Wr)) : Prop where
  lo : 0 ≤ L
  hi : L ≤ i
  srt : Srt M
  top : ∀ e ∈ M, e.1 ≤ L
  few : M.length ≤ 8
  short : ∀ e ∈ M, e.2.length ≤ i
  rows : ∀ e ∈ M, Srt e.2
theorem PlOk.same {i : Nat} {L : Int} {M : List (Int × List Wr)} (h : PlOk i L M) : PlOk (i + 1) L M := ⟨h.lo, by have := h.hi; omega, h.srt, h.top, h.few, fun e he => Nat.le_succ_of_le (h.short e he), h.rows⟩
theorem PlOk.clear {i : Nat} {L : Int} {M : List (Int × List Wr)} (h : PlOk i L M) : PlOk (i + 1) L [] := ⟨h.lo, by have := h.hi; omega, List.Pairwise.nil, by simp, by simp, by simp, by simp⟩
theorem srt_snoc {α : Type} {M : List (Int × α)} {k : Int} {v : α} (hs : Srt M) (h : ∀ e ∈ M, e.1 < k) : Srt (M ++ [(k, v)]) :=
  List.pairwise_append.2 ⟨hs, List.pairwise_singleton _ _, fun a ha b hb => by rw [List.mem_singleton.1 hb]; exact h a ha⟩
theorem PlOk.begin {i : Nat} {L : Int} {M : List (Int × List Wr)} (h : PlOk i L M) : PlOk (i + 1) (bgL L M) (bgM [] L M) := by
  unfold bgL bgM
  split
  · exact h.same
  · rename_i hn
    have ht : ∀ e ∈ M, e.1 < L + 1 := fun e he => by have := h.top e he; omega
    rw [putT_end _ ht]
    refine ⟨by have := h.lo; omega, by have := h.hi; omega, srt_snoc h.srt ht, fun e he => ?_, by rw [List.length_append]; simp; omega, fun e he => ?_, fun e he => ?_⟩
    · rcases List.mem_append.1 he with he | he
      · have := h.top e he; omega
      · rw [List.mem_singleton.1 he]; exact Int.le_refl _
    · rcases List.mem_append.1 he with he | he
      · exact Nat.le_succ_of_le (h.short e he)
      · rw [List.mem_singleton.1 he]; exact Nat.zero_le _
    · rcases List.mem_append.1 he with he | he
      · exact h.rows e he
      · rw [List.mem_singleton.1 he]; exact List.Pairwise.nil
theorem putT_fst {α : Type} {l : List (Int × α)} {k : Int} {v : α} (hs : Srt l) (h : hasT l k = true) : Srt (putT l k v) ∧ (putT l k v).length = l.length ∧ ∀ p ∈ putT l k v, ∃ q ∈ l, q.1 = p.1 := by
  obtain ⟨p, hp, rfl⟩ := hasT_mem h
  rw [putT_at hs (lowT_at hs hp ▸ hp)]
  have hm := List.mem_of_getElem? hp
  obtain ⟨hi, he⟩ := List.getElem?_eq_some_iff.1 hp
  refine ⟨?_, by simp, fun q hq => ?_⟩
  · have hmap : (l.set (lowT l p.1) (p.1, v)).map Prod.fst = l.map Prod.fst := by
      rw [List.map_set]
      apply List.ext_getElem?
      intro j
      rw [List.getElem?_set]
      split
      · rename_i e; subst e
        rw [List.getElem?_map, hp]; simp [hi]
      · rfl
    have key : ∀ {β : Type} (m : List (Int × β)), Srt m ↔ (m.map Prod.fst).Pairwise (· < ·) := fun m => by unfold Srt; rw [List.pairwise_map]
    rw [key, hmap, ← key]; exact hs
  · rcases List.mem_or_eq_of_mem_set hq with h | h
    · exact ⟨q, h, rfl⟩
    · exact ⟨p, hm, by rw [h]⟩
theorem delT_sub {α : Type} {l : List (Int × α)} {k : Int} : (delT l k).Sublist l := by
  unfold delT
  split
  · refine List.Sublist.trans ((List.Sublist.refl _).append (List.drop_sublist_drop_left l (Nat.le_succ _))) ?_
    rw [List.take_append_drop]; exact List.Sublist.refl _
  · exact List.Sublist.refl _
theorem PlOk.delete {i : Nat} {L : Int} {M : List (Int × List Wr)} (h : PlOk i L M) (x : Int) : PlOk (i + 1) L (delT M x) :=
  ⟨h.lo, by have := h.hi; omega, h.srt.sublist delT_sub, fun e he => h.top e (mem_delT he), Nat.le_trans delT_sub.length_le h.few, fun e he => Nat.le_succ_of_le (h.short e (mem_delT he)), fun e he => h.rows e (mem_delT he)⟩
theorem mgW_len (l : List Wr) : (mgW l).length ≤ l.length := by
  have h1 := congrArg List.length (mgW_toQ l)
  rw [List.length_map] at h1
  have key : ∀ (l : List Wr) (ps : List (Pr Int)), (mergeP ps l).length ≤ ps.length + l.length := by
    intro l
    induction l with
    | nil => intro ps; exact Nat.le_refl _
    | cons w l ih =>
      intro ps
      have := ih (putK ps w.1 (vbs w.2))
      have h2 := put_len (ps := ps) w.1 (vbs w.2)
      rw [List.length_cons]
      show (mergeP (putK ps w.1 (vbs w.2)) l).length ≤ _
      split at h2 <;> omega
  have := key l []
  rw [List.length_nil] at this
  omega
theorem PlOk.write {i : Nat} {L : Int} {M : List (Int × List Wr)} (hp : PlOk i L M) (B h k : Int) (d : List UInt8) : PlOk (i + 1) L (wrM B M h k d) := by
  unfold wrM
  split
  · rename_i he
    have hh : hasT M h = true := by
      unfold wrE at he
      split at he
      · assumption
      · cases he
    obtain ⟨p1, p2, p3⟩ := putT_fst (v := mgW ((getT M h).getD [] ++ [(k, d)])) hp.srt hh
    refine ⟨hp.lo, by have := hp.hi; omega, p1, fun e he => ?_, by rw [p2]; exact hp.few, fun e he => ?_, fun e he => ?_⟩
    · obtain ⟨q, hq, e1⟩ := p3 e he; rw [← e1]; exact hp.top q hq
    · rcases mem_putT he with rfl | he
      · refine Nat.le_trans (mgW_len _) ?_
        rw [List.length_append]
        obtain ⟨v, hv⟩ := hasT_get hh
        rw [hv]
        exact Nat.succ_le_succ (hp.short _ (getT_some hv))
      · exact Nat.le_succ_of_le (hp.short e he)
    · rcases mem_putT he with rfl | he
      · exact mgW_sorted _
      · exact hp.rows e he
  · exact hp.same
theorem PlOk.got {i : Nat} {L : Int} {M : List (Int × List Wr)} (hp : PlOk i L M) (h : Int) : mgW ((getT M h).getD []) = (getT M h).getD [] := by
  refine mgW_again ?_
  cases hg : getT M h with
  | none => exact List.Pairwise.nil
  | some x => exact hp.rows _ (getT_some hg)

end Go.Proofs.Ytiiiplhfgblamaa
/-
  The walks of package txn.
-/
set_option linter.unusedVariables false
set_option linter.unusedSimpArgs false
set_option maxRecDepth 4000
namespace Go.Proofs.Ytiiiplhfgblamaa
open Go Brv
structure PlS where
  i : Nat
  L : Int
  M : List (Int × List Wr)
  a : Option Addr
  n : Nat
  c : Nat
  ts : List (Int × RowW)
structure PlC where
  L : Int
  M : List (Int × List Wr)
  a : Option Addr
  n : Nat
  c : Nat
  ts : List (Int × RowW)
  e : Int
theorem pl_len {i : Nat} {L : Int} {ts : List (Int × RowW)} (h : PlOk i L (absT ts)) (hi : i ≤ 1000) : ts.length ≤ 1000 ∧ (∀ t ∈ ts, t.2.os.length ≤ 1000) ∧ (absT ts).length ≤ 1000 ∧ ∀ e ∈ absT ts, e.2.length ≤ 1000 := by
  have h1 := h.few
  have h2 : ∀ e ∈ absT ts, e.2.length ≤ 1000 := fun e he => Nat.le_trans (h.short e he) hi
  refine ⟨by rw [absT_len] at h1; omega, abs_len h2, by omega, h2⟩

theorem plays_no (B : Int) (la : Option Addr) (ln lc : Nat) (os : List OpV) (w : World) (hB : B < 1 ∨ 64 < B) (hO : OpsOk w la ln os) : Meets Try.prog 9 [.int .i64 B, .slice la ln lc] w (fun v w' => v = .bool true ∧ Ext [] w w') := by
  refine Meets.law Try.func9 rfl 251 rfl (Nat.le_of_ble_eq_true rfl) (law_cons (p := fun w => OpsOk w la ln os) (fun w9 he => hO.ext0 he) (law_nil w)) ?_
  refine SG.seq ?_
  refine SG.region ?_
  refine SL.val rfl rfl (fun w9 F9 S9 s => R.as rfl) ?_
  refine SL.nil ?_
  refine SN.seq ?_
  refine SG.seq ?_
  refine SG.seq ?_
  refine SG.region ?_
  refine SL.step rfl rfl (CS.call rfl go27 (first13_ok) (by repeat (first | exact Sels.nil | apply Sels.cons | exact Sel.keep | exact Sel.here | apply Sel.there))) ?_
  rintro _ _ ⟨_, ⟨rfl, rfl⟩, rfl⟩
  refine SL.n0 ?_
  refine SL.val rfl rfl (fun w9 F9 S9 s => R.not rfl) ?_
  refine SL.nil ?_
  refine SN.seq ?_
  refine SG.condF rfl ?_
  refine SG.skip ?_
  refine SN.seq ?_
  refine SG.seq ?_
  refine SG.region ?_
  refine SL.val rfl rfl (fun w9 F9 S9 s => R.mv rfl) ?_
  refine SL.step rfl rfl (CS.call rfl go28 (txnew_no B hB) (by repeat (first | exact Sels.nil | apply Sels.cons | exact Sel.keep | exact Sel.here | apply Sel.there))) ?_
  rintro _ _ ⟨_, ⟨rfl, rfl⟩, rfl⟩
  refine SL.n0 ?_
  refine SL.val rfl rfl (fun w9 F9 S9 s => R.mv rfl) ?_
  refine SL.val rfl rfl (fun w9 F9 S9 s => R.ext rfl rfl) ?_
  refine SL.val rfl rfl (fun w9 F9 S9 s => R.ext rfl rfl) ?_
  refine SL.val rfl rfl (fun w9 F9 S9 s => R.as rfl) ?_
  refine SL.val rfl rfl (fun w9 F9 S9 s => R.as rfl) ?_
  refine SL.nil ?_
  refine SN.seq ?_
  refine SG.seq ?_
  refine SG.region ?_
  refine SL.val rfl rfl (fun w9 F9 S9 s => R.mv rfl) ?_
  refine SL.val rfl rfl (fun w9 F9 S9 s => R.build (cs := [.int .i64 B, .int .i64 0, .slice none 0 0].toArray) rfl rfl) ?_
  refine SL.step rfl rfl (CS.alloc [.int .i64 0, .int .i64 0, .slice none 0 0] rfl) ?_
  rintro _ _ ⟨b7, rfl, rfl⟩
  refine SL.step0 rfl (CS.stA rfl rfl (by repeat (first | exact Sel.keep | exact Sel.here | apply Sel.there)) (by rfl) (by rfl) (by intro u hu; simp only [List.mem_cons, List.not_mem_nil, or_false] at hu; rcases hu with rfl | rfl | rfl <;> rfl)) ?_
  rintro _ _ rfl
  refine SL.nil ?_
  refine SN.seq ?_
  refine SG.seq ?_
  refine SG.seq ?_
  refine SG.region ?_
  refine SL.val rfl rfl (fun w9 F9 S9 s => R.mv rfl) ?_
  refine SL.val rfl rfl (fun w9 F9 S9 s => R.lss rfl rfl) ?_
  refine SL.val rfl rfl (fun w9 F9 S9 s => R.mv rfl) ?_
  refine SL.caseP 44 rfl (fun hg5_2 => ?_) (fun hg5_2 => ?_)
  · refine SL.pass rfl rfl ?_
    refine SL.pass rfl rfl ?_
    first | refine SL.val rfl rfl (fun w9 F9 S9 s => R.pickT rfl rfl) ?_ | refine SL.val rfl rfl (fun w9 F9 S9 s => R.pickF rfl rfl) ?_
    refine SL.nil ?_
    refine SN.seq ?_
    refine SG.condT rfl ?_
    refine SG.seq ?_
    refine SG.region ?_
    refine SL.val rfl rfl (fun w9 F9 S9 s => R.mv rfl) ?_
    refine SL.step rfl rfl (CS.call rfl go29 (begin_nil) (by repeat (first | exact Sels.nil | apply Sels.cons | exact Sel.keep | exact Sel.here | apply Sel.there))) ?_
    rintro _ _ ⟨_, ⟨rfl, rfl⟩, rfl⟩
    refine SL.n0 ?_
    refine SL.val rfl rfl (fun w9 F9 S9 s => R.mv rfl) ?_
    refine SL.val rfl rfl (fun w9 F9 S9 s => R.ext rfl rfl) ?_
    refine SL.val rfl rfl (fun w9 F9 S9 s => R.ext rfl rfl) ?_
    refine SL.val rfl rfl (fun w9 F9 S9 s => R.as rfl) ?_
    refine SL.val rfl rfl (fun w9 F9 S9 s => R.as rfl) ?_
    refine SL.nil ?_
    refine SN.seq ?_
    refine SG.seq ?_
    refine SG.region ?_
    refine SL.val rfl rfl (fun w9 F9 S9 s => R.mv rfl) ?_
    refine SL.step rfl rfl (CS.call rfl go32 (writes_nil 1) (by repeat (first | exact Sels.nil | apply Sels.cons | exact Sel.keep | exact Sel.here | apply Sel.there))) ?_
    rintro _ _ ⟨_, ⟨r55, rfl, rfl⟩, rfl⟩
    refine SL.n0 ?_
    refine SL.val rfl rfl (fun w9 F9 S9 s => R.mv rfl) ?_
    refine SL.val rfl rfl (fun w9 F9 S9 s => R.ext rfl rfl) ?_
    refine SL.val rfl rfl (fun w9 F9 S9 s => R.ext rfl rfl) ?_
    refine SL.val rfl rfl (fun w9 F9 S9 s => R.as rfl) ?_
    refine SL.val rfl rfl (fun w9 F9 S9 s => R.as rfl) ?_
    refine SL.nil ?_
    refine SN.seq ?_
    refine SG.seq ?_
    refine SG.region ?_
    refine SL.val rfl rfl (fun w9 F9 S9 s => R.mv rfl) ?_
    refine SL.step rfl rfl (CS.call rfl go34 (clear_nil) (by repeat (first | exact Sels.nil | apply Sels.cons | exact Sel.keep | exact Sel.here | apply Sel.there))) ?_
    rintro _ _ ⟨_, ⟨rfl, rfl⟩, rfl⟩
    refine SL.n0 ?_
    refine SL.nil ?_
    refine SN.seq ?_
    refine SG.seq ?_
    refine SG.region ?_
    refine SL.val rfl rfl (fun w9 F9 S9 s => R.mv rfl) ?_
    refine SL.val rfl rfl (fun w9 F9 S9 s => R.eqNilP rfl rfl) ?_
    refine SL.val rfl rfl (fun w9 F9 S9 s => R.mv rfl) ?_
    refine SL.isT 62 rfl (rfl) ?_
    refine SL.val rfl rfl (fun w9 F9 S9 s => R.mv rfl) ?_
    refine SL.val rfl rfl (fun w9 F9 S9 s => R.eqI rfl rfl) ?_
    first | refine SL.val rfl rfl (fun w9 F9 S9 s => R.pickT rfl rfl) ?_ | refine SL.val rfl rfl (fun w9 F9 S9 s => R.pickF rfl rfl) ?_
    refine SL.val rfl rfl (fun w9 F9 S9 s => R.mv rfl) ?_
    refine SL.isT 66 rfl (rfl) ?_
    refine SL.val rfl rfl (fun w9 F9 S9 s => R.mv rfl) ?_
    refine SL.val rfl rfl (fun w9 F9 S9 s => R.eqI rfl rfl) ?_
    first | refine SL.val rfl rfl (fun w9 F9 S9 s => R.pickT rfl rfl) ?_ | refine SL.val rfl rfl (fun w9 F9 S9 s => R.pickF rfl rfl) ?_
    refine SL.val rfl rfl (fun w9 F9 S9 s => R.mv rfl) ?_
    refine SL.isT 70 rfl (rfl) ?_
    refine SL.val rfl rfl (fun w9 F9 S9 s => R.mv rfl) ?_
    refine SL.val rfl rfl (fun w9 F9 S9 s => R.eqI rfl rfl) ?_
    first | refine SL.val rfl rfl (fun w9 F9 S9 s => R.pickT rfl rfl) ?_ | refine SL.val rfl rfl (fun w9 F9 S9 s => R.pickF rfl rfl) ?_
    refine SL.val rfl rfl (fun w9 F9 S9 s => R.mv rfl) ?_
    refine SL.isT 74 rfl (rfl) ?_
    refine SL.val rfl rfl (fun w9 F9 S9 s => R.mv rfl) ?_
    refine SL.step rfl rfl (CS.call rfl go33 (end_nil 1) (by repeat (first | exact Sels.nil | apply Sels.cons | exact Sel.keep | exact Sel.here | apply Sel.there))) ?_
    rintro _ _ ⟨_, ⟨rfl, rfl⟩, rfl⟩
    refine SL.n0 ?_
    refine SL.val rfl rfl (fun w9 F9 S9 s => R.eqI rfl rfl) ?_
    first | refine SL.val rfl rfl (fun w9 F9 S9 s => R.pickT rfl rfl) ?_ | refine SL.val rfl rfl (fun w9 F9 S9 s => R.pickF rfl rfl) ?_
    refine SL.val rfl rfl (fun w9 F9 S9 s => R.mv rfl) ?_
    refine SL.isT 79 rfl (rfl) ?_
    refine SL.val rfl rfl (fun w9 F9 S9 s => R.mv rfl) ?_
    refine SL.step rfl rfl (CS.call rfl go30 (write_nil 1 0 none 0 0) (by repeat (first | exact Sels.nil | apply Sels.cons | exact Sel.keep | exact Sel.here | apply Sel.there))) ?_
    rintro _ _ ⟨_, ⟨rfl, rfl⟩, rfl⟩
    refine SL.n0 ?_
    refine SL.val rfl rfl (fun w9 F9 S9 s => R.eqI rfl rfl) ?_
    first | refine SL.val rfl rfl (fun w9 F9 S9 s => R.pickT rfl rfl) ?_ | refine SL.val rfl rfl (fun w9 F9 S9 s => R.pickF rfl rfl) ?_
    refine SL.val rfl rfl (fun w9 F9 S9 s => R.mv rfl) ?_
    refine SL.isT 84 rfl (rfl) ?_
    refine SL.val rfl rfl (fun w9 F9 S9 s => R.mv rfl) ?_
    refine SL.step rfl rfl (CS.call rfl go35 (open_nil) (by repeat (first | exact Sels.nil | apply Sels.cons | exact Sel.keep | exact Sel.here | apply Sel.there))) ?_
    rintro _ _ ⟨_, ⟨rfl, rfl⟩, rfl⟩
    refine SL.n0 ?_
    refine SL.val rfl rfl (fun w9 F9 S9 s => R.lenS rfl) ?_
    refine SL.val rfl rfl (fun w9 F9 S9 s => R.eqI rfl rfl) ?_
    first | refine SL.val rfl rfl (fun w9 F9 S9 s => R.pickT rfl rfl) ?_ | refine SL.val rfl rfl (fun w9 F9 S9 s => R.pickF rfl rfl) ?_
    refine SL.val rfl rfl (fun w9 F9 S9 s => R.as rfl) ?_
    refine SL.nil ?_
    refine SN.seq ?_
    exact SG.ret1 rfl rfl ((Imp.sels (by repeat (first | exact Sels.nil | apply Sels.cons | exact Sel.keep | exact Sel.here | apply Sel.there)))) (congrArg Value.bool (decide_eq_true rfl))
  · refine SL.val rfl rfl (fun w9 F9 S9 s => R.mv rfl) ?_
    refine SL.val rfl rfl (fun w9 F9 S9 s => R.gtr rfl rfl) ?_
    first | refine SL.val rfl rfl (fun w9 F9 S9 s => R.pickT rfl rfl) ?_ | refine SL.val rfl rfl (fun w9 F9 S9 s => R.pickF rfl rfl) ?_
    refine SL.nil ?_
    refine SN.seq ?_
    refine SG.condP rfl (fun h1 => ?_) (fun h1 => ?_)
    · refine SG.seq ?_
      refine SG.region ?_
      refine SL.val rfl rfl (fun w9 F9 S9 s => R.mv rfl) ?_
      refine SL.step rfl rfl (CS.call rfl go29 (begin_nil) (by repeat (first | exact Sels.nil | apply Sels.cons | exact Sel.keep | exact Sel.here | apply Sel.there))) ?_
      rintro _ _ ⟨_, ⟨rfl, rfl⟩, rfl⟩
      refine SL.n0 ?_
      refine SL.val rfl rfl (fun w9 F9 S9 s => R.mv rfl) ?_
      refine SL.val rfl rfl (fun w9 F9 S9 s => R.ext rfl rfl) ?_
      refine SL.val rfl rfl (fun w9 F9 S9 s => R.ext rfl rfl) ?_
      refine SL.val rfl rfl (fun w9 F9 S9 s => R.as rfl) ?_
      refine SL.val rfl rfl (fun w9 F9 S9 s => R.as rfl) ?_
      refine SL.nil ?_
      refine SN.seq ?_
      refine SG.seq ?_
      refine SG.region ?_
      refine SL.val rfl rfl (fun w9 F9 S9 s => R.mv rfl) ?_
      refine SL.step rfl rfl (CS.call rfl go32 (writes_nil 1) (by repeat (first | exact Sels.nil | apply Sels.cons | exact Sel.keep | exact Sel.here | apply Sel.there))) ?_
      rintro _ _ ⟨_, ⟨r55, rfl, rfl⟩, rfl⟩
      refine SL.n0 ?_
      refine SL.val rfl rfl (fun w9 F9 S9 s => R.mv rfl) ?_
      refine SL.val rfl rfl (fun w9 F9 S9 s => R.ext rfl rfl) ?_
      refine SL.val rfl rfl (fun w9 F9 S9 s => R.ext rfl rfl) ?_
      refine SL.val rfl rfl (fun w9 F9 S9 s => R.as rfl) ?_
      refine SL.val rfl rfl (fun w9 F9 S9 s => R.as rfl) ?_
      refine SL.nil ?_
      refine SN.seq ?_
      refine SG.seq ?_
      refine SG.region ?_
      refine SL.val rfl rfl (fun w9 F9 S9 s => R.mv rfl) ?_
      refine SL.step rfl rfl (CS.call rfl go34 (clear_nil) (by repeat (first | exact Sels.nil | apply Sels.cons | exact Sel.keep | exact Sel.here | apply Sel.there))) ?_
      rintro _ _ ⟨_, ⟨rfl, rfl⟩, rfl⟩
      refine SL.n0 ?_
      refine SL.nil ?_
      refine SN.seq ?_
      refine SG.seq ?_
      refine SG.region ?_
      refine SL.val rfl rfl (fun w9 F9 S9 s => R.mv rfl) ?_
      refine SL.val rfl rfl (fun w9 F9 S9 s => R.eqNilP rfl rfl) ?_
      refine SL.val rfl rfl (fun w9 F9 S9 s => R.mv rfl) ?_
      refine SL.isT 62 rfl (rfl) ?_
      refine SL.val rfl rfl (fun w9 F9 S9 s => R.mv rfl) ?_
      refine SL.val rfl rfl (fun w9 F9 S9 s => R.eqI rfl rfl) ?_
      first | refine SL.val rfl rfl (fun w9 F9 S9 s => R.pickT rfl rfl) ?_ | refine SL.val rfl rfl (fun w9 F9 S9 s => R.pickF rfl rfl) ?_
      refine SL.val rfl rfl (fun w9 F9 S9 s => R.mv rfl) ?_
      refine SL.isT 66 rfl (rfl) ?_
      refine SL.val rfl rfl (fun w9 F9 S9 s => R.mv rfl) ?_
      refine SL.val rfl rfl (fun w9 F9 S9 s => R.eqI rfl rfl) ?_
      first | refine SL.val rfl rfl (fun w9 F9 S9 s => R.pickT rfl rfl) ?_ | refine SL.val rfl rfl (fun w9 F9 S9 s => R.pickF rfl rfl) ?_
      refine SL.val rfl rfl (fun w9 F9 S9 s => R.mv rfl) ?_
      refine SL.isT 70 rfl (rfl) ?_
      refine SL.val rfl rfl (fun w9 F9 S9 s => R.mv rfl) ?_
      refine SL.val rfl rfl (fun w9 F9 S9 s => R.eqI rfl rfl) ?_
      first | refine SL.val rfl rfl (fun w9 F9 S9 s => R.pickT rfl rfl) ?_ | refine SL.val rfl rfl (fun w9 F9 S9 s => R.pickF rfl rfl) ?_
      refine SL.val rfl rfl (fun w9 F9 S9 s => R.mv rfl) ?_
      refine SL.isT 74 rfl (rfl) ?_
      refine SL.val rfl rfl (fun w9 F9 S9 s => R.mv rfl) ?_
      refine SL.step rfl rfl (CS.call rfl go33 (end_nil 1) (by repeat (first | exact Sels.nil | apply Sels.cons | exact Sel.keep | exact Sel.here | apply Sel.there))) ?_
      rintro _ _ ⟨_, ⟨rfl, rfl⟩, rfl⟩
      refine SL.n0 ?_
      refine SL.val rfl rfl (fun w9 F9 S9 s => R.eqI rfl rfl) ?_
      first | refine SL.val rfl rfl (fun w9 F9 S9 s => R.pickT rfl rfl) ?_ | refine SL.val rfl rfl (fun w9 F9 S9 s => R.pickF rfl rfl) ?_
      refine SL.val rfl rfl (fun w9 F9 S9 s => R.mv rfl) ?_
      refine SL.isT 79 rfl (rfl) ?_
      refine SL.val rfl rfl (fun w9 F9 S9 s => R.mv rfl) ?_
      refine SL.step rfl rfl (CS.call rfl go30 (write_nil 1 0 none 0 0) (by repeat (first | exact Sels.nil | apply Sels.cons | exact Sel.keep | exact Sel.here | apply Sel.there))) ?_
      rintro _ _ ⟨_, ⟨rfl, rfl⟩, rfl⟩
      refine SL.n0 ?_
      refine SL.val rfl rfl (fun w9 F9 S9 s => R.eqI rfl rfl) ?_
      first | refine SL.val rfl rfl (fun w9 F9 S9 s => R.pickT rfl rfl) ?_ | refine SL.val rfl rfl (fun w9 F9 S9 s => R.pickF rfl rfl) ?_
      refine SL.val rfl rfl (fun w9 F9 S9 s => R.mv rfl) ?_
      refine SL.isT 84 rfl (rfl) ?_
      refine SL.val rfl rfl (fun w9 F9 S9 s => R.mv rfl) ?_
      refine SL.step rfl rfl (CS.call rfl go35 (open_nil) (by repeat (first | exact Sels.nil | apply Sels.cons | exact Sel.keep | exact Sel.here | apply Sel.there))) ?_
      rintro _ _ ⟨_, ⟨rfl, rfl⟩, rfl⟩
      refine SL.n0 ?_
      refine SL.val rfl rfl (fun w9 F9 S9 s => R.lenS rfl) ?_
      refine SL.val rfl rfl (fun w9 F9 S9 s => R.eqI rfl rfl) ?_
      first | refine SL.val rfl rfl (fun w9 F9 S9 s => R.pickT rfl rfl) ?_ | refine SL.val rfl rfl (fun w9 F9 S9 s => R.pickF rfl rfl) ?_
      refine SL.val rfl rfl (fun w9 F9 S9 s => R.as rfl) ?_
      refine SL.nil ?_
      refine SN.seq ?_
      exact SG.ret1 rfl rfl ((Imp.sels (by repeat (first | exact Sels.nil | apply Sels.cons | exact Sel.keep | exact Sel.here | apply Sel.there)))) (congrArg Value.bool (decide_eq_true rfl))
    · exfalso; omega

theorem u64_posX (z : Int) : 0 ≤ IntKind.u64.wrap z := by
  simp only [IntKind.wrap, IntKind.bits, IntKind.signed]
  simp
  omega
theorem cells_pt {w : World} {a : Option Addr} {xs : List Value} {k : Nat} {x : Value} (h : Cells w a xs) (hx : xs[k]? = some x) : ∃ q, a = some q := let ⟨q, hq, _⟩ := h k x hx; ⟨q, hq⟩
theorem cells_ld {w : World} {a : Option Addr} {xs : List Value} {k : Nat} {x : Value} {q : Addr} (h : Cells w a xs) (hq : a = some q) (hx : xs[k]? = some x) : w.cell? (q.add ((k : Int).toNat * 1)) = some x := by
  obtain ⟨p, hp, hc⟩ := h k x hx
  rw [hq] at hp; cases hp
  rw [Int.toNat_natCast, Nat.mul_one]; exact hc

set_option maxHeartbeats 4000000 in
theorem plays_yes (B : Int) (la : Option Addr) (ln lc : Nat) (os : List OpV) (w : World) (h1B : 1 ≤ B) (h2B : B ≤ 64) (hO : OpsOk w la ln os) : Meets Try.prog 9 [.int .i64 B, .slice la ln lc] w (fun v w' => v = .bool true ∧ Ext [] w w') := by
  refine Meets.law Try.func9 rfl 251 rfl (Nat.le_of_ble_eq_true rfl) (law_cons (p := fun w => OpsOk w la ln os) (fun w9 he => hO.ext0 he) (law_nil w)) ?_
  refine SG.seq ?_
  refine SG.region ?_
  refine SL.val rfl rfl (fun w9 F9 S9 s => R.as rfl) ?_
  refine SL.nil ?_
  refine SN.seq ?_
  refine SG.seq ?_
  refine SG.seq ?_
  refine SG.region ?_
  refine SL.step rfl rfl (CS.call rfl go27 (first13_ok) (by repeat (first | exact Sels.nil | apply Sels.cons | exact Sel.keep | exact Sel.here | apply Sel.there))) ?_
  rintro _ _ ⟨_, ⟨rfl, rfl⟩, rfl⟩
  refine SL.n0 ?_
  refine SL.val rfl rfl (fun w9 F9 S9 s => R.not rfl) ?_
  refine SL.nil ?_
  refine SN.seq ?_
  refine SG.condF rfl ?_
  refine SG.skip ?_
  refine SN.seq ?_
  refine SG.seq ?_
  refine SG.region ?_
  refine SL.val rfl rfl (fun w9 F9 S9 s => R.mv rfl) ?_
  refine SL.step rfl rfl (CS.call rfl go28 (newS B h1B h2B) (by repeat (first | exact Sels.nil | apply Sels.cons | exact Sel.keep | exact Sel.here | apply Sel.there))) ?_
  rintro _ _ ⟨_, ⟨b, rfl, rfl⟩, rfl⟩
  refine SL.n1 ?_
  refine SL.val rfl rfl (fun w9 F9 S9 s => R.mv rfl) ?_
  refine SL.val rfl rfl (fun w9 F9 S9 s => R.ext rfl rfl) ?_
  refine SL.val rfl rfl (fun w9 F9 S9 s => R.ext rfl rfl) ?_
  refine SL.val rfl rfl (fun w9 F9 S9 s => R.as rfl) ?_
  refine SL.val rfl rfl (fun w9 F9 S9 s => R.as rfl) ?_
  refine SL.nil ?_
  refine SN.seq ?_
  refine SG.seq ?_
  refine SG.region ?_
  refine SL.val rfl rfl (fun w9 F9 S9 s => R.mv rfl) ?_
  refine SL.val rfl rfl (fun w9 F9 S9 s => R.build (cs := [.int .i64 B, .int .i64 0, .slice none 0 0].toArray) rfl rfl) ?_
  refine SL.step rfl rfl (CS.alloc [.int .i64 0, .int .i64 0, .slice none 0 0] rfl) ?_
  rintro _ _ ⟨b7, rfl, rfl⟩
  refine SL.step0 rfl (CS.stA rfl rfl (by repeat (first | exact Sel.keep | exact Sel.here | apply Sel.there)) (by rfl) (by rfl) (by intro u hu; simp only [List.mem_cons, List.not_mem_nil, or_false] at hu; rcases hu with rfl | rfl | rfl <;> rfl)) ?_
  rintro _ _ rfl
  refine SL.nil ?_
  refine SN.seq ?_
  refine SG.seq ?_
  refine SG.seq ?_
  refine SG.region ?_
  refine SL.val rfl rfl (fun w9 F9 S9 s => R.mv rfl) ?_
  refine SL.val rfl rfl (fun w9 F9 S9 s => R.lss rfl rfl) ?_
  refine SL.val rfl rfl (fun w9 F9 S9 s => R.mv rfl) ?_
  refine SL.caseP 44 rfl (fun hg5_2 => ?_) (fun hg5_2 => ?_)
  · exfalso; omega
  · refine SL.val rfl rfl (fun w9 F9 S9 s => R.mv rfl) ?_
    refine SL.val rfl rfl (fun w9 F9 S9 s => R.gtr rfl rfl) ?_
    first | refine SL.val rfl rfl (fun w9 F9 S9 s => R.pickT rfl rfl) ?_ | refine SL.val rfl rfl (fun w9 F9 S9 s => R.pickF rfl rfl) ?_
    refine SL.nil ?_
    refine SN.seq ?_
    refine SG.condP rfl (fun h1 => ?_) (fun h1 => ?_)
    · exfalso; omega
    · refine SG.skip ?_
      refine SN.seq ?_
      refine SG.seq ?_
      refine SG.seq ?_
      refine SG.region ?_
      refine SL.val rfl rfl (fun w9 F9 S9 s => R.mv rfl) ?_
      refine SL.val rfl rfl (fun w9 F9 S9 s => R.lenS rfl) ?_
      refine SL.val rfl rfl (fun w9 F9 S9 s => R.mv rfl) ?_
      refine SL.nil ?_
      refine SN.imp (Imp.pure (p := fun w => DkOk w none 0 0 []) dk_nil) ?_
      refine SN.fact (fun w9 F9 S9 s => (s.sh (p := fun w => OpsOk w la ln os) (by repeat (first | exact Sel.keep | exact Sel.here | apply Sel.there))).len) (fun hf9 => ?_)
      have hln := hf9; clear hf9
      refine SN.seq ?_
      refine SG.block ?_
      refine SG.loop (X := PlS) (fun x => [(5, .pointer (some ⟨b, 0, none⟩)), (7, .pointer (some ⟨b7, 0, none⟩)), (90, .slice la ln lc), (91, .int .i64 (ln : Int)), (92, .int .i64 (x.i : Int))]) (fun x => [bk b B x.L x.M, blk b7 [.int .i64 B, .int .i64 x.L, .slice x.a x.n x.c] 66, sh (fun w => DkOk w x.a x.n x.c x.ts), sh (fun w => OpsOk w la ln os)]) (fun x => x.i ≤ ln ∧ x.i ≤ 60 ∧ x.M = absT x.ts ∧ PlOk x.i x.L x.M) (fun x => ln - x.i) (⟨0, 0, [], none, 0, 0, []⟩) (Sub.cons rfl (Sub.cons rfl (Sub.cons rfl (Sub.cons rfl (Sub.cons rfl (Sub.nil _)))))) ((Imp.sels (by repeat (first | exact Sels.nil | apply Sels.cons | exact Sel.keep | exact Sel.here | apply Sel.there)))) (⟨Nat.zero_le _, Nat.zero_le _, rfl, ⟨Int.le_refl _, Int.le_refl _, List.Pairwise.nil, by simp, by simp, by simp, by simp⟩⟩) ?_
      rintro ⟨i, L, M, a, n, c, ts⟩ ⟨hi, hi6, hM, hP⟩
      dsimp only at hi hi6 hM hP
      show SG _ _ _ _ _ [(5, .pointer (some ⟨b, 0, none⟩)), (7, .pointer (some ⟨b7, 0, none⟩)), (90, .slice la ln lc), (91, .int .i64 (ln : Int)), (92, .int .i64 (i : Int))] [bk b B L M, blk b7 [.int .i64 B, .int .i64 L, .slice a n c] 66, sh (fun w => DkOk w a n c ts), sh (fun w => OpsOk w la ln os)] _
      refine SG.seq ?_
      refine SG.region ?_
      refine SL.val rfl rfl (fun w9 F9 S9 s => R.lss rfl rfl) ?_
      refine SL.nil ?_
      refine SN.seq ?_
      refine SG.seq ?_
      refine SG.condP rfl (fun h2 => ?_) (fun h2 => ?_)
      · obtain ⟨o, ho⟩ : ∃ o, os[i]? = some o := ⟨_, List.getElem?_eq_getElem (by omega)⟩
        refine SG.fact (fun w9 F9 S9 s => ops_pt (s.sh (p := fun w => OpsOk w la ln os) (by repeat (first | exact Sel.keep | exact Sel.here | apply Sel.there))) ho) (fun hf9 => ?_)
        obtain ⟨q, hq⟩ := hf9
        have hPl := pl_len (hM ▸ hP) (by omega)
        have hPL := hP.lo
        have hPH := hP.hi
        refine SG.skip ?_
        refine SN.seq ?_
        refine SG.seq ?_
        refine SG.block ?_
        refine SG.seq ?_
        refine SG.region ?_
        refine SL.val rfl rfl (fun w9 F9 S9 s => R.mv rfl) ?_
        refine SL.val rfl rfl (fun w9 F9 S9 s => R.idx rfl rfl (by omega) (by omega) q hq) ?_
        refine SL.val rfl rfl (fun w9 F9 S9 s => R.ldN (vs := OpV.cells o) rfl (ops_cells (s.sh (p := fun w => OpsOk w la ln os) (by repeat (first | exact Sel.keep | exact Sel.here | apply Sel.there))) hq ho) rfl) ?_
        refine SL.step rfl rfl (CS.alloc [.int .i64 0, .int .i64 0, .int .i64 0, .slice none 0 0] rfl) ?_
        rintro _ _ ⟨b13, rfl, rfl⟩
        refine SL.val rfl rfl (fun w9 F9 S9 s => R.as rfl) ?_
        refine SL.step0 rfl (CS.stA (vs := OpV.cells o) rfl rfl (by repeat (first | exact Sel.keep | exact Sel.here | apply Sel.there)) (by rfl) (by rfl) (by intro u hu; exact OpV.cells.one _ u (by simpa using hu))) ?_
        rintro _ _ rfl
        refine SL.nil ?_
        refine SN.seq ?_
        refine SG.seq ?_
        refine SG.seq ?_
        refine SG.region ?_
        refine SL.val rfl rfl (fun w9 F9 S9 s => R.mv rfl) ?_
        refine SL.val rfl rfl (fun w9 F9 S9 s => R.geq rfl rfl) ?_
        refine SL.val rfl rfl (fun w9 F9 S9 s => R.mv rfl) ?_
        refine SL.caseP 99 rfl (fun hg13_2 => ?_) (fun hg13_2 => ?_)
        · refine SL.pass rfl rfl ?_
          refine SL.pass rfl rfl ?_
          refine SL.pass rfl rfl ?_
          refine SL.pass rfl rfl ?_
          first | refine SL.val rfl rfl (fun w9 F9 S9 s => R.pickT rfl rfl) ?_ | refine SL.val rfl rfl (fun w9 F9 S9 s => R.pickF rfl rfl) ?_
          refine SL.nil ?_
          refine SN.seq ?_
          refine SG.condT rfl ?_
          refine SG.seq ?_
          refine SG.region ?_
          refine SL.val rfl rfl (fun w9 F9 S9 s => R.as rfl) ?_
          refine SL.nil ?_
          refine SN.seq ?_
          exact SG.ret1 rfl rfl ((Imp.sels (by repeat (first | exact Sels.nil | apply Sels.cons | exact Sel.keep | exact Sel.here | apply Sel.there)))) (rfl)
        · refine SL.val rfl rfl (fun w9 F9 S9 s => R.fld rfl) ?_
          refine SL.val rfl rfl (fun w9 F9 S9 s => R.ldB (v := .slice o.B'a o.B'n o.B'c) rfl (s.cel (by repeat (first | exact SelB.blk | exact SelB.fz | apply SelB.there))) (by rfl)) ?_
          refine SL.val rfl rfl (fun w9 F9 S9 s => R.lenS rfl) ?_
          refine SL.val rfl rfl (fun w9 F9 S9 s => R.gtr rfl rfl) ?_
          first | refine SL.val rfl rfl (fun w9 F9 S9 s => R.pickT rfl rfl) ?_ | refine SL.val rfl rfl (fun w9 F9 S9 s => R.pickF rfl rfl) ?_
          refine SL.nil ?_
          refine SN.seq ?_
          refine SG.condP rfl (fun h3 => ?_) (fun h3 => ?_)
          · refine SG.seq ?_
            refine SG.region ?_
            refine SL.val rfl rfl (fun w9 F9 S9 s => R.as rfl) ?_
            refine SL.nil ?_
            refine SN.seq ?_
            exact SG.ret1 rfl rfl ((Imp.sels (by repeat (first | exact Sels.nil | apply Sels.cons | exact Sel.keep | exact Sel.here | apply Sel.there)))) (rfl)
          · refine SG.skip ?_
            refine SN.seq ?_
            refine SG.seq ?_
            refine SG.region ?_
            refine SL.val rfl rfl (fun w9 F9 S9 s => R.as rfl) ?_
            refine SL.val rfl rfl (fun w9 F9 S9 s => R.as rfl) ?_
            refine SL.nil ?_
            refine SN.seq ?_
            refine SG.seq ?_
            refine SG.seq ?_
            refine SG.region ?_
            refine SL.val rfl rfl (fun w9 F9 S9 s => R.fld rfl) ?_
            refine SL.val rfl rfl (fun w9 F9 S9 s => R.ldB (v := .int .i64 o.Kind') rfl (s.cel (by repeat (first | exact SelB.blk | exact SelB.fz | apply SelB.there))) (by rfl)) ?_
            refine SL.val rfl rfl (fun w9 F9 S9 s => R.conv rfl _ rfl) ?_
            refine SL.val rfl rfl (fun w9 F9 S9 s => R.rem rfl rfl (u64_posX _) (by decide)) ?_
            refine SL.nil ?_
            refine SN.seq ?_
            refine SG.block ?_
            refine SG.seq ?_
            refine SG.region ?_
            refine SL.val rfl rfl (fun w9 F9 S9 s => R.eqI rfl rfl) ?_
            refine SL.val rfl rfl (fun w9 F9 S9 s => R.as rfl) ?_
            refine SL.nil ?_
            refine SN.seq ?_
            refine SG.imp (Imp.weak (p := fun w => OpsOk w la ln os) (q := fun w => Bs w o.B'a o.B'n o.B') (by repeat (first | exact Sel.keep | exact Sel.here | apply Sel.there)) (fun w hw => (hw.ok o (List.mem_of_getElem? ho)).2.2.2.2.2)) ?_
            refine SG.imp (Imp.weak (p := fun w => OpsOk w la ln os) (q := fun w => o.B'n ≤ o.B'c ∧ o.B'c ≤ 140737488351232) (by repeat (first | exact Sel.keep | exact Sel.here | apply Sel.there)) (fun w hw => ⟨(hw.ok o (List.mem_of_getElem? ho)).2.2.2.1, (hw.ok o (List.mem_of_getElem? ho)).2.2.2.2.1⟩)) ?_
            refine SG.fact (fun w9 F9 S9 s => s.sh (p := fun w => o.B'n ≤ o.B'c ∧ o.B'c ≤ 140737488351232) (by repeat (first | exact Sel.keep | exact Sel.here | apply Sel.there))) (fun hf9 => ?_)
            obtain ⟨hoc, hoC⟩ := hf9
            refine SG.fact (fun w9 F9 S9 s => (s.sh (p := fun w => Bs w o.B'a o.B'n o.B') (by repeat (first | exact Sel.keep | exact Sel.here | apply Sel.there))).len) (fun hf9 => ?_)
            have hol := hf9; clear hf9
            refine SG.cut (X := PlC) (fun x => [(5, .pointer (some ⟨b, 0, none⟩)), (7, .pointer (some ⟨b7, 0, none⟩)), (14, .int .i64 x.e), (15, .int .i64 x.e), (90, .slice la ln lc), (91, .int .i64 (ln : Int)), (92, .int .i64 (i : Int))]) (fun x => [bk b B x.L x.M, blk b7 [.int .i64 B, .int .i64 x.L, .slice x.a x.n x.c] 66, sh (fun w => DkOk w x.a x.n x.c x.ts), sh (fun w => OpsOk w la ln os)]) (fun x => x.M = absT x.ts ∧ PlOk (i + 1) x.L x.M) ?_ ?_
            · refine SG.condP rfl (fun h4 => ?_) (fun h4 => ?_)
              · refine SG.seq ?_
                refine SG.region ?_
                refine SL.val rfl rfl (fun w9 F9 S9 s => R.ldBN rfl (s.cel (by repeat (first | exact SelB.blk | exact SelB.fz | apply SelB.there))) (by rfl)) ?_
                refine SL.step rfl rfl (CS.call rfl go36 (dbegin_ok B L a n c ts (by rw [← hM]; exact hP.top) hPl.1 hPL (by omega)) (by repeat (first | exact Sels.nil | apply Sels.cons | exact Sel.keep | exact Sel.here | apply Sel.there))) ?_
                rintro _ _ ⟨_, ⟨a9, n9, c9, ts9, rfl, hts9, rfl⟩, rfl⟩
                refine SL.n1 ?_
                rw [← hM] at hts9 ⊢
                refine SL.val rfl rfl (fun w9 F9 S9 s => R.mv rfl) ?_
                refine SL.val rfl rfl (fun w9 F9 S9 s => R.ext rfl rfl) ?_
                refine SL.val rfl rfl (fun w9 F9 S9 s => R.ext rfl rfl) ?_
                refine SL.val rfl rfl (fun w9 F9 S9 s => R.ext rfl rfl) ?_
                refine SL.step rfl rfl (CS.alloc [.int .i64 0, .int .i64 0, .slice none 0 0] rfl) ?_
                rintro _ _ ⟨b16, rfl, rfl⟩
                refine SL.step0 rfl (CS.stA rfl rfl (by repeat (first | exact Sel.keep | exact Sel.here | apply Sel.there)) (by rfl) (by rfl) (by intro u hu; simp only [List.mem_cons, List.not_mem_nil, or_false] at hu; rcases hu with rfl | rfl | rfl <;> rfl)) ?_
                rintro _ _ rfl
                refine SL.val rfl rfl (fun w9 F9 S9 s => R.as rfl) ?_
                refine SL.val rfl rfl (fun w9 F9 S9 s => R.as rfl) ?_
                refine SL.nil ?_
                refine SN.seq ?_
                refine SG.seq ?_
                refine SG.region ?_
                refine SL.val rfl rfl (fun w9 F9 S9 s => R.ldBN rfl (s.cel (by repeat (first | exact SelB.blk | exact SelB.fz | apply SelB.there))) (by rfl)) ?_
                refine SL.val rfl rfl (fun w9 F9 S9 s => R.mv rfl) ?_
                refine SL.step0 rfl (CS.stA rfl rfl (by repeat (first | exact Sel.keep | exact Sel.here | apply Sel.there)) (by rfl) (by rfl) (by intro u hu; simp only [List.mem_cons, List.not_mem_nil, or_false] at hu; rcases hu with rfl | rfl | rfl <;> rfl)) ?_
                rintro _ _ rfl
                refine SL.val rfl rfl (fun w9 F9 S9 s => R.as rfl) ?_
                refine SL.nil ?_
                refine SN.seq ?_
                refine SG.seq ?_
                refine SG.region ?_
                refine SL.val rfl rfl (fun w9 F9 S9 s => R.mv rfl) ?_
                refine SL.step rfl rfl (CS.call rfl go29 (beginS b B L M (hM ▸ hPl.2.2.1) hPL (by omega)) (by repeat (first | exact Sels.nil | apply Sels.cons | exact Sel.keep | exact Sel.here | apply Sel.there))) ?_
                rintro _ _ ⟨_, ⟨rfl, rfl⟩, rfl⟩
                refine SL.n1 ?_
                refine SL.val rfl rfl (fun w9 F9 S9 s => R.mv rfl) ?_
                refine SL.val rfl rfl (fun w9 F9 S9 s => R.ext rfl rfl) ?_
                refine SL.val rfl rfl (fun w9 F9 S9 s => R.ext rfl rfl) ?_
                refine SL.val rfl rfl (fun w9 F9 S9 s => R.as rfl) ?_
                refine SL.val rfl rfl (fun w9 F9 S9 s => R.as rfl) ?_
                refine SL.nil ?_
                refine SN.seq ?_
                refine SG.seq ?_
                refine SG.region ?_
                refine SL.val rfl rfl (fun w9 F9 S9 s => R.mv rfl) ?_
                refine SL.val rfl rfl (fun w9 F9 S9 s => R.as rfl) ?_
                refine SL.nil ?_
                refine SN.seq ?_
                refine SG.seq ?_
                refine SG.region ?_
                refine SL.val rfl rfl (fun w9 F9 S9 s => R.mv rfl) ?_
                refine SL.val rfl rfl (fun w9 F9 S9 s => R.mv rfl) ?_
                refine SL.val rfl rfl (fun w9 F9 S9 s => R.neI rfl rfl) ?_
                refine SL.nil ?_
                refine SN.seq ?_
                refine SG.condP rfl (fun h5 => ?_) (fun h5 => ?_)
                · exact absurd rfl h5
                · refine SG.skip ?_
                  exact SN.handX (⟨bgL L M, bgM [] L M, a9, n9, c9, ts9, bgE M⟩ : PlC) (Sub.cons rfl (Sub.cons rfl (Sub.cons rfl (Sub.cons rfl (Sub.cons rfl (Sub.cons rfl (Sub.cons rfl (Sub.nil _)))))))) (Imp.sels (by repeat (first | exact Sels.nil | apply Sels.cons | exact Sel.keep | exact Sel.here | apply Sel.there))) ⟨hts9.symm, hP.begin⟩
              · refine SG.seq ?_
                refine SG.region ?_
                refine SL.val rfl rfl (fun w9 F9 S9 s => R.eqI rfl rfl) ?_
                refine SL.val rfl rfl (fun w9 F9 S9 s => R.as rfl) ?_
                refine SL.nil ?_
                refine SN.seq ?_
                refine SG.condP rfl (fun h6 => ?_) (fun h6 => ?_)
                · refine SG.seq ?_
                  refine SG.region ?_
                  refine SL.val rfl rfl (fun w9 F9 S9 s => R.ldBN rfl (s.cel (by repeat (first | exact SelB.blk | exact SelB.fz | apply SelB.there))) (by rfl)) ?_
                  refine SL.val rfl rfl (fun w9 F9 S9 s => R.fld rfl) ?_
                  refine SL.val rfl rfl (fun w9 F9 S9 s => R.ldB rfl (s.cel (by repeat (first | exact SelB.blk | exact SelB.fz | apply SelB.there))) (by rfl)) ?_
                  refine SL.val rfl rfl (fun w9 F9 S9 s => R.fld rfl) ?_
                  refine SL.val rfl rfl (fun w9 F9 S9 s => R.ldB rfl (s.cel (by repeat (first | exact SelB.blk | exact SelB.fz | apply SelB.there))) (by rfl)) ?_
                  refine SL.val rfl rfl (fun w9 F9 S9 s => R.fld rfl) ?_
                  refine SL.val rfl rfl (fun w9 F9 S9 s => R.ldB rfl (s.cel (by repeat (first | exact SelB.blk | exact SelB.fz | apply SelB.there))) (by rfl)) ?_
                  refine SL.step rfl rfl (CS.call rfl go37 (dwrite_ok B L a n c ts o.H' o.Block' o.B'a o.B'n o.B'c o.B' (hM ▸ hP.srt) hPl.1 hPl.2.1 hoc hoC (by omega)) (by repeat (first | exact Sels.nil | apply Sels.cons | exact Sel.keep | exact Sel.here | apply Sel.there))) ?_
                  rintro _ _ ⟨_, ⟨a9, n9, c9, ts9, rfl, hts9, rfl⟩, rfl⟩
                  refine SL.n1 ?_
                  rw [← hM] at hts9 ⊢
                  refine SL.val rfl rfl (fun w9 F9 S9 s => R.mv rfl) ?_
                  refine SL.val rfl rfl (fun w9 F9 S9 s => R.ext rfl rfl) ?_
                  refine SL.val rfl rfl (fun w9 F9 S9 s => R.ext rfl rfl) ?_
                  refine SL.step0 rfl (CS.stA rfl rfl (by repeat (first | exact Sel.keep | exact Sel.here | apply Sel.there)) (by rfl) (by rfl) (by intro u hu; simp only [List.mem_cons, List.not_mem_nil, or_false] at hu; rcases hu with rfl | rfl | rfl <;> rfl)) ?_
                  rintro _ _ rfl
                  refine SL.val rfl rfl (fun w9 F9 S9 s => R.as rfl) ?_
                  refine SL.nil ?_
                  refine SN.seq ?_
                  refine SG.region ?_
                  refine SL.val rfl rfl (fun w9 F9 S9 s => R.mv rfl) ?_
                  refine SL.val rfl rfl (fun w9 F9 S9 s => R.fld rfl) ?_
                  refine SL.val rfl rfl (fun w9 F9 S9 s => R.ldB rfl (s.cel (by repeat (first | exact SelB.blk | exact SelB.fz | apply SelB.there))) (by rfl)) ?_
                  refine SL.val rfl rfl (fun w9 F9 S9 s => R.fld rfl) ?_
                  refine SL.val rfl rfl (fun w9 F9 S9 s => R.ldB rfl (s.cel (by repeat (first | exact SelB.blk | exact SelB.fz | apply SelB.there))) (by rfl)) ?_
                  refine SL.val rfl rfl (fun w9 F9 S9 s => R.fld rfl) ?_
                  refine SL.val rfl rfl (fun w9 F9 S9 s => R.ldB rfl (s.cel (by repeat (first | exact SelB.blk | exact SelB.fz | apply SelB.there))) (by rfl)) ?_
                  refine SL.step rfl rfl (CS.call rfl go30 (writeS b B L M o.H' o.Block' o.B'a o.B'n o.B'c o.B' (hM ▸ hPl.2.2.1) (hM ▸ hPl.2.2.2) hoc hoC (by omega)) (by repeat (first | exact Sels.nil | apply Sels.cons | exact Sel.keep | exact Sel.here | apply Sel.there))) ?_
                  rintro _ _ ⟨_, ⟨rfl, rfl⟩, rfl⟩
                  refine SL.n1 ?_
                  refine SL.val rfl rfl (fun w9 F9 S9 s => R.as rfl) ?_
                  refine SL.nil ?_
                  exact SN.handX (⟨L, wrM B M o.H' o.Block' o.B', a9, n9, c9, ts9, wrE B M o.H' o.Block' o.B'.length⟩ : PlC) (Sub.cons rfl (Sub.cons rfl (Sub.cons rfl (Sub.cons rfl (Sub.cons rfl (Sub.cons rfl (Sub.cons rfl (Sub.nil _)))))))) (Imp.sels (by repeat (first | exact Sels.nil | apply Sels.cons | exact Sel.keep | exact Sel.here | apply Sel.there))) ⟨hts9.symm, hP.write B _ _ _⟩
                · refine SG.seq ?_
                  refine SG.region ?_
                  refine SL.val rfl rfl (fun w9 F9 S9 s => R.eqI rfl rfl) ?_
                  refine SL.val rfl rfl (fun w9 F9 S9 s => R.as rfl) ?_
                  refine SL.nil ?_
                  refine SN.seq ?_
                  refine SG.condP rfl (fun h7 => ?_) (fun h7 => ?_)
                  · refine SG.seq ?_
                    refine SG.region ?_
                    refine SL.val rfl rfl (fun w9 F9 S9 s => R.ldBN rfl (s.cel (by repeat (first | exact SelB.blk | exact SelB.fz | apply SelB.there))) (by rfl)) ?_
                    refine SL.val rfl rfl (fun w9 F9 S9 s => R.fld rfl) ?_
                    refine SL.val rfl rfl (fun w9 F9 S9 s => R.ldB rfl (s.cel (by repeat (first | exact SelB.blk | exact SelB.fz | apply SelB.there))) (by rfl)) ?_
                    refine SL.val rfl rfl (fun w9 F9 S9 s => R.fld rfl) ?_
                    refine SL.val rfl rfl (fun w9 F9 S9 s => R.ldB rfl (s.cel (by repeat (first | exact SelB.blk | exact SelB.fz | apply SelB.there))) (by rfl)) ?_
                    refine SL.step rfl rfl (CS.call rfl go38 (dread_ok B L a n c ts o.H' o.Block' (hM ▸ hP.srt) hPl.1) (by repeat (first | exact Sels.nil | apply Sels.cons | exact Sel.keep | exact Sel.here | apply Sel.there))) ?_
                    rintro _ _ ⟨_, ⟨rfl, rfl⟩, rfl⟩
                    refine SL.n0 ?_
                    rw [← hM]
                    refine SL.val rfl rfl (fun w9 F9 S9 s => R.mv rfl) ?_
                    refine SL.val rfl rfl (fun w9 F9 S9 s => R.ext rfl rfl) ?_
                    refine SL.val rfl rfl (fun w9 F9 S9 s => R.ext rfl rfl) ?_
                    refine SL.val rfl rfl (fun w9 F9 S9 s => R.ext rfl rfl) ?_
                    refine SL.val rfl rfl (fun w9 F9 S9 s => R.as rfl) ?_
                    refine SL.val rfl rfl (fun w9 F9 S9 s => R.as rfl) ?_
                    refine SL.val rfl rfl (fun w9 F9 S9 s => R.as rfl) ?_
                    refine SL.nil ?_
                    refine SN.seq ?_
                    refine SG.seq ?_
                    refine SG.region ?_
                    refine SL.val rfl rfl (fun w9 F9 S9 s => R.mv rfl) ?_
                    refine SL.val rfl rfl (fun w9 F9 S9 s => R.fld rfl) ?_
                    refine SL.val rfl rfl (fun w9 F9 S9 s => R.ldB rfl (s.cel (by repeat (first | exact SelB.blk | exact SelB.fz | apply SelB.there))) (by rfl)) ?_
                    refine SL.val rfl rfl (fun w9 F9 S9 s => R.fld rfl) ?_
                    refine SL.val rfl rfl (fun w9 F9 S9 s => R.ldB rfl (s.cel (by repeat (first | exact SelB.blk | exact SelB.fz | apply SelB.there))) (by rfl)) ?_
                    refine SL.step rfl rfl (CS.call rfl go31 (readS b B L M o.H' o.Block' (hM ▸ hPl.2.2.1) (hM ▸ hPl.2.2.2)) (by repeat (first | exact Sels.nil | apply Sels.cons | exact Sel.keep | exact Sel.here | apply Sel.there))) ?_
                    rintro _ _ ⟨_, ⟨a31, n31, c31, rfl, hn31, rfl⟩, rfl⟩
                    refine SL.n2 ?_
                    refine SL.val rfl rfl (fun w9 F9 S9 s => R.mv rfl) ?_
                    refine SL.val rfl rfl (fun w9 F9 S9 s => R.ext rfl rfl) ?_
                    refine SL.val rfl rfl (fun w9 F9 S9 s => R.ext rfl rfl) ?_
                    refine SL.val rfl rfl (fun w9 F9 S9 s => R.ext rfl rfl) ?_
                    refine SL.val rfl rfl (fun w9 F9 S9 s => R.as rfl) ?_
                    refine SL.val rfl rfl (fun w9 F9 S9 s => R.as rfl) ?_
                    refine SL.val rfl rfl (fun w9 F9 S9 s => R.as rfl) ?_
                    refine SL.nil ?_
                    refine SN.seq ?_
                    refine SG.seq ?_
                    refine SG.region ?_
                    refine SL.val rfl rfl (fun w9 F9 S9 s => R.mv rfl) ?_
                    refine SL.val rfl rfl (fun w9 F9 S9 s => R.mv rfl) ?_
                    refine SL.val rfl rfl (fun w9 F9 S9 s => R.as rfl) ?_
                    refine SL.val rfl rfl (fun w9 F9 S9 s => R.as rfl) ?_
                    refine SL.nil ?_
                    refine SN.seq ?_
                    refine SG.seq ?_
                    refine SG.region ?_
                    refine SL.val rfl rfl (fun w9 F9 S9 s => R.mv rfl) ?_
                    refine SL.val rfl rfl (fun w9 F9 S9 s => R.strB rfl (s.sh (p := fun w => Bs w a31 n31 ((rdV B M o.H' o.Block').getD [])) (by repeat (first | exact Sel.keep | exact Sel.here | apply Sel.there)))) ?_
                    refine SL.val rfl rfl (fun w9 F9 S9 s => R.mv rfl) ?_
                    refine SL.val rfl rfl (fun w9 F9 S9 s => R.neStr rfl rfl) ?_
                    refine SL.val rfl rfl (fun w9 F9 S9 s => R.mv rfl) ?_
                    refine SL.caseP 180 rfl (fun hg33_4 => ?_) (fun hg33_4 => ?_)
                    · exact absurd rfl hg33_4
                    · refine SL.val rfl rfl (fun w9 F9 S9 s => R.mv rfl) ?_
                      refine SL.val rfl rfl (fun w9 F9 S9 s => R.mv rfl) ?_
                      refine SL.val rfl rfl (fun w9 F9 S9 s => R.neB rfl rfl) ?_
                      first | refine SL.val rfl rfl (fun w9 F9 S9 s => R.pickT rfl rfl) ?_ | refine SL.val rfl rfl (fun w9 F9 S9 s => R.pickF rfl rfl) ?_
                      refine SL.nil ?_
                      refine SN.seq ?_
                      refine SG.condB rfl (fun h8 => ?_) (fun h8 => ?_)
                      · exfalso
                        simp at h8
                      · refine SG.skip ?_
                        exact SN.handX (⟨L, M, a, n, c, ts, rdE B M o.H' o.Block'⟩ : PlC) (Sub.cons rfl (Sub.cons rfl (Sub.cons rfl (Sub.cons rfl (Sub.cons rfl (Sub.cons rfl (Sub.cons rfl (Sub.nil _)))))))) (Imp.sels (by repeat (first | exact Sels.nil | apply Sels.cons | exact Sel.keep | exact Sel.here | apply Sel.there))) ⟨hM, hP.same⟩
                  · refine SG.seq ?_
                    refine SG.region ?_
                    refine SL.val rfl rfl (fun w9 F9 S9 s => R.eqI rfl rfl) ?_
                    refine SL.val rfl rfl (fun w9 F9 S9 s => R.as rfl) ?_
                    refine SL.nil ?_
                    refine SN.seq ?_
                    refine SG.condP rfl (fun h9 => ?_) (fun h9 => ?_)
                    · refine SG.seq ?_
                      refine SG.region ?_
                      refine SL.val rfl rfl (fun w9 F9 S9 s => R.ldBN rfl (s.cel (by repeat (first | exact SelB.blk | exact SelB.fz | apply SelB.there))) (by rfl)) ?_
                      refine SL.val rfl rfl (fun w9 F9 S9 s => R.fld rfl) ?_
                      refine SL.val rfl rfl (fun w9 F9 S9 s => R.ldB rfl (s.cel (by repeat (first | exact SelB.blk | exact SelB.fz | apply SelB.there))) (by rfl)) ?_
                      refine SL.step rfl rfl (CS.call rfl go39 (dwrites_ok B L a n c ts o.H' (hM ▸ hP.srt) hPl.1) (by repeat (first | exact Sels.nil | apply Sels.cons | exact Sel.keep | exact Sel.here | apply Sel.there))) ?_
                      rintro _ _ ⟨_, ⟨r36, rfl, hr36, rfl⟩, rfl⟩
                      refine SL.n1 ?_
                      rw [← hM] at hr36 ⊢
                      refine SL.val rfl rfl (fun w9 F9 S9 s => R.mv rfl) ?_
                      refine SL.val rfl rfl (fun w9 F9 S9 s => R.ext rfl rfl) ?_
                      refine SL.val rfl rfl (fun w9 F9 S9 s => R.ext rfl rfl) ?_
                      refine SL.val rfl rfl (fun w9 F9 S9 s => R.as rfl) ?_
                      refine SL.val rfl rfl (fun w9 F9 S9 s => R.as rfl) ?_
                      refine SL.nil ?_
                      refine SN.seq ?_
                      refine SG.seq ?_
                      refine SG.region ?_
                      refine SL.val rfl rfl (fun w9 F9 S9 s => R.mv rfl) ?_
                      refine SL.val rfl rfl (fun w9 F9 S9 s => R.fld rfl) ?_
                      refine SL.val rfl rfl (fun w9 F9 S9 s => R.ldB rfl (s.cel (by repeat (first | exact SelB.blk | exact SelB.fz | apply SelB.there))) (by rfl)) ?_
                      refine SL.step rfl rfl (CS.call rfl go32 (writesS b B L M o.H' (hM ▸ hPl.2.2.1) (hM ▸ hPl.2.2.2)) (by repeat (first | exact Sels.nil | apply Sels.cons | exact Sel.keep | exact Sel.here | apply Sel.there))) ?_
                      rintro _ _ ⟨_, ⟨r37, rfl, hr37, rfl⟩, rfl⟩
                      refine SL.n2 ?_
                      rw [hP.got] at hr37
                      refine SL.val rfl rfl (fun w9 F9 S9 s => R.mv rfl) ?_
                      refine SL.val rfl rfl (fun w9 F9 S9 s => R.ext rfl rfl) ?_
                      refine SL.val rfl rfl (fun w9 F9 S9 s => R.ext rfl rfl) ?_
                      refine SL.val rfl rfl (fun w9 F9 S9 s => R.as rfl) ?_
                      refine SL.val rfl rfl (fun w9 F9 S9 s => R.as rfl) ?_
                      refine SL.nil ?_
                      refine SN.seq ?_
                      refine SG.seq ?_
                      refine SG.region ?_
                      refine SL.val rfl rfl (fun w9 F9 S9 s => R.mv rfl) ?_
                      refine SL.val rfl rfl (fun w9 F9 S9 s => R.mv rfl) ?_
                      refine SL.val rfl rfl (fun w9 F9 S9 s => R.as rfl) ?_
                      refine SL.val rfl rfl (fun w9 F9 S9 s => R.as rfl) ?_
                      refine SL.nil ?_
                      refine SN.seq ?_
                      refine SG.seq ?_
                      refine SG.region ?_
                      refine SL.val rfl rfl (fun w9 F9 S9 s => R.mv rfl) ?_
                      refine SL.val rfl rfl (fun w9 F9 S9 s => R.mv rfl) ?_
                      refine SL.step rfl rfl (CS.callR rfl go24 (fun w9 F9 S9 s => rsamew_ok r36 r37 w9 (s.row2 (by repeat (first | exact Sel.keep | exact Sel.here | apply Sel.there))) (s.row2 (by repeat (first | exact Sel.keep | exact Sel.here | apply Sel.there))))) ?_
                      rintro _ _ ⟨rfl, rfl⟩
                      refine SL.val rfl rfl (fun w9 F9 S9 s => R.not rfl) ?_
                      refine SL.nil ?_
                      refine SN.seq ?_
                      refine SG.condB rfl (fun h10 => ?_) (fun h10 => ?_)
                      · exfalso
                        simp [hr36, hr37] at h10
                      · refine SG.skip ?_
                        exact SN.handX (⟨L, M, a, n, c, ts, ofE M o.H'⟩ : PlC) (Sub.cons rfl (Sub.cons rfl (Sub.cons rfl (Sub.cons rfl (Sub.cons rfl (Sub.cons rfl (Sub.cons rfl (Sub.nil _)))))))) (Imp.sels (by repeat (first | exact Sels.nil | apply Sels.cons | exact Sel.keep | exact Sel.here | apply Sel.there))) ⟨hM, hP.same⟩
                    · refine SG.seq ?_
                      refine SG.region ?_
                      refine SL.val rfl rfl (fun w9 F9 S9 s => R.eqI rfl rfl) ?_
                      refine SL.val rfl rfl (fun w9 F9 S9 s => R.as rfl) ?_
                      refine SL.nil ?_
                      refine SN.seq ?_
                      refine SG.condP rfl (fun h11 => ?_) (fun h11 => ?_)
                      · refine SG.seq ?_
                        refine SG.region ?_
                        refine SL.val rfl rfl (fun w9 F9 S9 s => R.ldBN rfl (s.cel (by repeat (first | exact SelB.blk | exact SelB.fz | apply SelB.there))) (by rfl)) ?_
                        refine SL.val rfl rfl (fun w9 F9 S9 s => R.fld rfl) ?_
                        refine SL.val rfl rfl (fun w9 F9 S9 s => R.ldB rfl (s.cel (by repeat (first | exact SelB.blk | exact SelB.fz | apply SelB.there))) (by rfl)) ?_
                        refine SL.step rfl rfl (CS.call rfl go40 (dend_ok B L a n c ts o.H' (hM ▸ hP.srt) hPl.1) (by repeat (first | exact Sels.nil | apply Sels.cons | exact Sel.keep | exact Sel.here | apply Sel.there))) ?_
                        rintro _ _ ⟨_, ⟨a9, n9, c9, ts9, rfl, hts9, rfl⟩, rfl⟩
                        refine SL.n1 ?_
                        rw [← hM] at hts9 ⊢
                        refine SL.val rfl rfl (fun w9 F9 S9 s => R.mv rfl) ?_
                        refine SL.val rfl rfl (fun w9 F9 S9 s => R.ext rfl rfl) ?_
                        refine SL.val rfl rfl (fun w9 F9 S9 s => R.ext rfl rfl) ?_
                        refine SL.step0 rfl (CS.stA rfl rfl (by repeat (first | exact Sel.keep | exact Sel.here | apply Sel.there)) (by rfl) (by rfl) (by intro u hu; simp only [List.mem_cons, List.not_mem_nil, or_false] at hu; rcases hu with rfl | rfl | rfl <;> rfl)) ?_
                        rintro _ _ rfl
                        refine SL.val rfl rfl (fun w9 F9 S9 s => R.as rfl) ?_
                        refine SL.nil ?_
                        refine SN.seq ?_
                        refine SG.region ?_
                        refine SL.val rfl rfl (fun w9 F9 S9 s => R.mv rfl) ?_
                        refine SL.val rfl rfl (fun w9 F9 S9 s => R.fld rfl) ?_
                        refine SL.val rfl rfl (fun w9 F9 S9 s => R.ldB rfl (s.cel (by repeat (first | exact SelB.blk | exact SelB.fz | apply SelB.there))) (by rfl)) ?_
                        refine SL.step rfl rfl (CS.call rfl go33 (endS b B L M o.H' (hM ▸ hPl.2.2.1)) (by repeat (first | exact Sels.nil | apply Sels.cons | exact Sel.keep | exact Sel.here | apply Sel.there))) ?_
                        rintro _ _ ⟨_, ⟨rfl, rfl⟩, rfl⟩
                        refine SL.n1 ?_
                        refine SL.val rfl rfl (fun w9 F9 S9 s => R.as rfl) ?_
                        refine SL.nil ?_
                        exact SN.handX (⟨L, delT M o.H', a9, n9, c9, ts9, ofE M o.H'⟩ : PlC) (Sub.cons rfl (Sub.cons rfl (Sub.cons rfl (Sub.cons rfl (Sub.cons rfl (Sub.cons rfl (Sub.cons rfl (Sub.nil _)))))))) (Imp.sels (by repeat (first | exact Sels.nil | apply Sels.cons | exact Sel.keep | exact Sel.here | apply Sel.there))) ⟨hts9.symm, hP.delete _⟩
                      · refine SG.seq ?_
                        refine SG.region ?_
                        refine SL.val rfl rfl (fun w9 F9 S9 s => R.fld rfl) ?_
                        refine SL.step0 rfl (CS.st rfl rfl (by repeat (first | exact Sel.keep | exact Sel.here | apply Sel.there)) (by repeat (first | exact SetAt.here | apply SetAt.there)) rfl) ?_
                        rintro _ _ rfl
                        refine SL.nil ?_
                        refine SN.seq ?_
                        refine SG.region ?_
                        refine SL.val rfl rfl (fun w9 F9 S9 s => R.mv rfl) ?_
                        refine SL.step rfl rfl (CS.call rfl go34 (clearS b B L M) (by repeat (first | exact Sels.nil | apply Sels.cons | exact Sel.keep | exact Sel.here | apply Sel.there))) ?_
                        rintro _ _ ⟨_, ⟨rfl, rfl⟩, rfl⟩
                        refine SL.n1 ?_
                        refine SL.nil ?_
                        refine SN.imp (Imp.pure (p := fun w => DkOk w none 0 0 []) dk_nil) ?_
                        exact SN.handX (⟨L, [], none, 0, 0, [], 0⟩ : PlC) (Sub.cons rfl (Sub.cons rfl (Sub.cons rfl (Sub.cons rfl (Sub.cons rfl (Sub.cons rfl (Sub.cons rfl (Sub.nil _)))))))) (Imp.sels (by repeat (first | exact Sels.nil | apply Sels.cons | exact Sel.keep | exact Sel.here | apply Sel.there))) ⟨rfl, hP.clear⟩
            · rintro ⟨L2, M2, a2, n2, c2, ts2, e2⟩ ⟨hM2, hP2⟩
              show SN _ _ _ _ _ [(5, .pointer (some ⟨b, 0, none⟩)), (7, .pointer (some ⟨b7, 0, none⟩)), (14, .int .i64 e2), (15, .int .i64 e2), (90, .slice la ln lc), (91, .int .i64 (ln : Int)), (92, .int .i64 (i : Int))] [bk b B L2 M2, blk b7 [.int .i64 B, .int .i64 L2, .slice a2 n2 c2] 66, sh (fun w => DkOk w a2 n2 c2 ts2), sh (fun w => OpsOk w la ln os)]
              dsimp only at hM2 hP2
              have hPl2 := pl_len (hM2 ▸ hP2) (by omega)
              refine SN.fact (fun w9 F9 S9 s => (s.sh (p := fun w => DkOk w a2 n2 c2 ts2) (by repeat (first | exact Sel.keep | exact Sel.here | apply Sel.there))).len) (fun hf9 => ?_)
              have hdn := hf9; clear hf9
              have hml : M2.length = ts2.length := by rw [hM2, absT_len]
              refine SN.block ?_
              refine SN.seq ?_
              refine SG.seq ?_
              refine SG.region ?_
              refine SL.val rfl rfl (fun w9 F9 S9 s => R.mv rfl) ?_
              refine SL.step rfl rfl (CS.call rfl go35 (openS b B L2 M2 (hM2 ▸ hPl2.2.2.1)) (by repeat (first | exact Sels.nil | apply Sels.cons | exact Sel.keep | exact Sel.here | apply Sel.there))) ?_
              rintro _ _ ⟨_, ⟨a221, c221, rfl, rfl⟩, rfl⟩
              refine SL.n2 ?_
              refine SL.val rfl rfl (fun w9 F9 S9 s => R.as rfl) ?_
              refine SL.nil ?_
              refine SN.imp (Imp.ownSh (show Sel _ (own 3 1 a221 M2.length c221 (M2.map fun e => .int .i64 e.1)) _ from (by repeat (first | exact Sel.keep | exact Sel.here | apply Sel.there))) (p := fun w => Cells w a221 (M2.map fun e => .int .i64 e.1)) (fun w h => h)) ?_
              refine SN.seq ?_
              refine SG.seq ?_
              refine SG.seq ?_
              refine SG.region ?_
              refine SL.val rfl rfl (fun w9 F9 S9 s => R.mv rfl) ?_
              refine SL.val rfl rfl (fun w9 F9 S9 s => R.mv rfl) ?_
              refine SL.val rfl rfl (fun w9 F9 S9 s => R.neI rfl rfl) ?_
              refine SL.val rfl rfl (fun w9 F9 S9 s => R.mv rfl) ?_
              refine SL.caseP 225 rfl (fun hg45_3 => ?_) (fun hg45_3 => ?_)
              · exact absurd rfl hg45_3
              · refine SL.val rfl rfl (fun w9 F9 S9 s => R.mv rfl) ?_
                refine SL.val rfl rfl (fun w9 F9 S9 s => R.lenS rfl) ?_
                refine SL.val rfl rfl (fun w9 F9 S9 s => R.fld rfl) ?_
                refine SL.val rfl rfl (fun w9 F9 S9 s => R.ldB (v := .slice a2 n2 c2) rfl (s.cel (by repeat (first | exact SelB.blk | exact SelB.fz | apply SelB.there))) (by rfl)) ?_
                refine SL.val rfl rfl (fun w9 F9 S9 s => R.lenS rfl) ?_
                refine SL.val rfl rfl (fun w9 F9 S9 s => R.neI rfl rfl) ?_
                first | refine SL.val rfl rfl (fun w9 F9 S9 s => R.pickT rfl rfl) ?_ | refine SL.val rfl rfl (fun w9 F9 S9 s => R.pickF rfl rfl) ?_
                refine SL.nil ?_
                refine SN.seq ?_
                refine SG.condP rfl (fun h12 => ?_) (fun h12 => ?_)
                · exfalso; omega
                · refine SG.skip ?_
                  refine SN.seq ?_
                  refine SG.seq ?_
                  refine SG.region ?_
                  refine SL.val rfl rfl (fun w9 F9 S9 s => R.mv rfl) ?_
                  refine SL.val rfl rfl (fun w9 F9 S9 s => R.lenS rfl) ?_
                  refine SL.val rfl rfl (fun w9 F9 S9 s => R.mv rfl) ?_
                  refine SL.nil ?_
                  refine SN.seq ?_
                  refine SG.block ?_
                  refine SG.loop (X := Nat) (fun k => [(5, .pointer (some ⟨b, 0, none⟩)), (7, .pointer (some ⟨b7, 0, none⟩)), (31, .slice a221 M2.length c221), (90, .slice la ln lc), (91, .int .i64 (ln : Int)), (92, .int .i64 (i : Int)), (234, .int .i64 (M2.length : Int)), (235, .int .i64 (k : Int))]) (fun k => [bk b B L2 M2, blk b7 [.int .i64 B, .int .i64 L2, .slice a2 n2 c2] 66, sh (fun w => DkOk w a2 n2 c2 ts2), sh (fun w => OpsOk w la ln os), sh (fun w => Cells w a221 (M2.map fun e => .int .i64 e.1))]) (fun k => k ≤ M2.length) (fun k => M2.length - k) (0) (Sub.cons rfl (Sub.cons rfl (Sub.cons rfl (Sub.cons rfl (Sub.cons rfl (Sub.cons rfl (Sub.cons rfl (Sub.cons rfl (Sub.nil _))))))))) ((Imp.sels (by repeat (first | exact Sels.nil | apply Sels.cons | exact Sel.keep | exact Sel.here | apply Sel.there)))) (Nat.zero_le _) ?_
                  intro k hk
                  have hfew := hP2.few
                  show SG _ _ _ _ _ [(5, .pointer (some ⟨b, 0, none⟩)), (7, .pointer (some ⟨b7, 0, none⟩)), (31, .slice a221 M2.length c221), (90, .slice la ln lc), (91, .int .i64 (ln : Int)), (92, .int .i64 (i : Int)), (234, .int .i64 (M2.length : Int)), (235, .int .i64 (k : Int))] [bk b B L2 M2, blk b7 [.int .i64 B, .int .i64 L2, .slice a2 n2 c2] 66, sh (fun w => DkOk w a2 n2 c2 ts2), sh (fun w => OpsOk w la ln os), sh (fun w => Cells w a221 (M2.map fun e => .int .i64 e.1))] _
                  refine SG.seq ?_
                  refine SG.region ?_
                  refine SL.val rfl rfl (fun w9 F9 S9 s => R.lss rfl rfl) ?_
                  refine SL.nil ?_
                  refine SN.seq ?_
                  refine SG.seq ?_
                  refine SG.condP rfl (fun h13 => ?_) (fun h13 => ?_)
                  · obtain ⟨t, ht⟩ : ∃ t, ts2[k]? = some t := ⟨_, List.getElem?_eq_getElem (by omega)⟩
                    refine SG.fact (fun w9 F9 S9 s => dk_pt (s.sh (p := fun w => DkOk w a2 n2 c2 ts2) (by repeat (first | exact Sel.keep | exact Sel.here | apply Sel.there))) ht) (fun hf9 => ?_)
                    obtain ⟨q2, hq2⟩ := hf9
                    have hmk : (M2.map fun e => Value.int .i64 e.1)[k]? = some (.int .i64 t.1) := by rw [hM2]; simp [absT, mapT, ht]
                    refine SG.fact (fun w9 F9 S9 s => cells_pt (s.sh (p := fun w => Cells w a221 (M2.map fun e => .int .i64 e.1)) (by repeat (first | exact Sel.keep | exact Sel.here | apply Sel.there))) hmk) (fun hf9 => ?_)
                    obtain ⟨q3, hq3⟩ := hf9
                    refine SG.skip ?_
                    refine SN.seq ?_
                    refine SG.seq ?_
                    refine SG.block ?_
                    refine SG.seq ?_
                    refine SG.region ?_
                    refine SL.val rfl rfl (fun w9 F9 S9 s => R.mv rfl) ?_
                    refine SL.val rfl rfl (fun w9 F9 S9 s => R.as rfl) ?_
                    refine SL.nil ?_
                    refine SN.seq ?_
                    refine SG.seq ?_
                    refine SG.draw [] [0, 1, 2, 3, 4, 5, 6, 7, 8, 9, 10] (by decide +kernel) rfl ?_
                    refine SW.pure rfl rfl rfl rfl (fun w9 => R.mv rfl) ?_
                    refine SW.pure rfl rfl rfl rfl (fun w9 => R.mv rfl) ?_
                    refine SW.pure rfl rfl rfl rfl (fun w9 => R.idx rfl rfl (by omega) (by omega) q3 hq3) ?_
                    refine SW.read rfl rfl rfl rfl (fun w9 F9 S9 s => R.ld (v := .int .i64 t.1) rfl (cells_ld (s.sh (p := fun w => Cells w a221 (M2.map fun e => .int .i64 e.1)) (by repeat (first | exact Sel.keep | exact Sel.here | apply Sel.there))) hq3 hmk)) ?_
                    refine SW.pure rfl rfl rfl rfl (fun w9 => R.fld rfl) ?_
                    refine SW.read rfl rfl rfl rfl (fun w9 F9 S9 s => R.ldB (v := .slice a2 n2 c2) rfl (s.cel (by repeat (first | exact SelB.blk | exact SelB.fz | apply SelB.there))) (by rfl)) ?_
                    refine SW.pure rfl rfl rfl rfl (fun w9 => R.mv rfl) ?_
                    refine SW.pure rfl rfl rfl rfl (fun w9 => R.idx rfl rfl (by omega) (by omega) q2 hq2) ?_
                    refine SW.pure rfl rfl rfl rfl (fun w9 => R.fldA rfl) ?_
                    refine SW.read rfl rfl rfl rfl (fun w9 F9 S9 s => R.ld (v := .int .i64 t.1) rfl ((dk_cells (s.sh (p := fun w => DkOk w a2 n2 c2 ts2) (by repeat (first | exact Sel.keep | exact Sel.here | apply Sel.there))) hq2 ht).load (j := 0) rfl)) ?_
                    refine SW.pure rfl rfl rfl rfl (fun w9 => R.neI rfl rfl) ?_
                    refine SW.nil ?_
                    refine SN.seq ?_
                    refine SG.condP rfl (fun h14 => ?_) (fun h14 => ?_)
                    · exact absurd rfl h14
                    · refine SG.skip ?_
                      refine SN.block ?_
                      refine SN.seq ?_
                      refine SG.region ?_
                      refine SL.val rfl rfl (fun w9 F9 S9 s => R.add rfl rfl (by omega)) ?_
                      refine SL.val rfl rfl (fun w9 F9 S9 s => R.mv rfl) ?_
                      refine SL.nil ?_
                      exact SN.again (k + 1) (by show M2.length - (k + 1) < M2.length - k; omega) (Sub.cons rfl (Sub.cons rfl (Sub.cons rfl (Sub.cons rfl (Sub.cons rfl (Sub.cons rfl (Sub.cons rfl (Sub.cons rfl (Sub.nil _))))))))) ((Imp.sels (by repeat (first | exact Sels.nil | apply Sels.cons | exact Sel.keep | exact Sel.here | apply Sel.there)))) (by show k + 1 ≤ M2.length; omega)
                  · refine SG.exit _ rfl ?_
                    refine SN.block ?_
                    refine SN.seq ?_
                    refine SG.region ?_
                    refine SL.val rfl rfl (fun w9 F9 S9 s => R.add rfl rfl (by omega)) ?_
                    refine SL.val rfl rfl (fun w9 F9 S9 s => R.mv rfl) ?_
                    refine SL.nil ?_
                    exact SN.again (⟨i + 1, L2, M2, a2, n2, c2, ts2⟩) (by show ln - (i + 1) < ln - i; omega) (Sub.cons rfl (Sub.cons rfl (Sub.cons rfl (Sub.cons rfl (Sub.cons rfl (Sub.nil _)))))) ((Imp.sels (by repeat (first | exact Sels.nil | apply Sels.cons | exact Sel.keep | exact Sel.here | apply Sel.there)))) (⟨by show i + 1 ≤ ln; omega, by show i + 1 ≤ 60; omega, hM2, hP2⟩)
      · refine SG.exit _ rfl ?_
        refine SN.seq ?_
        refine SG.seq ?_
        refine SG.region ?_
        refine SL.val rfl rfl (fun w9 F9 S9 s => R.as rfl) ?_
        refine SL.nil ?_
        refine SN.seq ?_
        exact SG.ret1 rfl rfl ((Imp.sels (by repeat (first | exact Sels.nil | apply Sels.cons | exact Sel.keep | exact Sel.here | apply Sel.there)))) (rfl)

end Go.Proofs.Ytiiiplhfgblamaa
