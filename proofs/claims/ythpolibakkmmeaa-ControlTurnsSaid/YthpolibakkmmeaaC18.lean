/-
  Regions that draw their order, but end with one operation that comes behind all others: that one is walked last. Operations that make something new, at whatever stage.
-/
import Derived.Test.YthpolibakkmmeaaC17
set_option linter.unusedVariables false
namespace Brv
open Go
/-- The last operation comes behind all others; the others look back only. -/
def chkLast (pre : List Oper) (o : Oper) : Bool :=
  (List.range pre.length).all (fun j => o.after.toList.any fun e => bindsAny e && Nat.beq e.on j) && o.after.toList.all (fun e => !bindsAny e || Nat.blt e.on pre.length) &&
  pre.zipIdx.all (fun p => p.1.after.toList.all (fun e => !bindsAny e || Nat.blt e.on p.2) && (match p.1.guard with | some (j, _) => Nat.blt j pre.length | none => true))
section
variable {P : Program} {F : Fence} {m : Nat}
theorem wpIn_then {o : Oper} {a : Act} {w : World} {K J : Act → World → Prop} {Q : Exit → Act → World → Prop} (h : o.wpIn F m P a w K (Exit.then J Q)) : o.wpIn F m P a w K Q := by
  unfold Oper.wpIn at h ⊢
  refine ⟨h.1, ?_⟩
  have h2 := h.2
  generalize (o.semAt F.round a.eval).run P w = r at h2 ⊢
  cases r with
  | ok x w' =>
    cases x with
    | enter f args =>
      refine ⟨h2.1, CallsIn.mono h2.2 fun e w2 he => ?_⟩
      cases e <;> exact he
    | round l f tmps as body =>
      refine ⟨h2.1, RoundIn.mono h2.2 fun e w2 he => ?_⟩
      cases e <;> exact he
    | _ => exact h2
  | halt x w' => cases x <;> exact h2
theorem ready_nil {pre : List Oper} {listed : Array Bool} (hs : listed.size = pre.length) (hb : ∀ (i : Nat) (o : Oper), pre[i]? = some o → ∀ e ∈ o.after.toList, bindsAny e = true → e.on < i) (h : Region.ready .any pre.toArray listed = []) : ∀ i, i < pre.length → listed[i]? = some true := by
  intro i
  induction i using Nat.strongRecOn with
  | _ i ih =>
    intro hi
    refine Classical.byContradiction fun hne => ?_
    have hmem : i ∈ Region.ready .any pre.toArray listed := by
      simp only [Region.ready, List.mem_filter, List.mem_range, Bool.and_eq_true]
      refine ⟨by simpa using hi, ?_, ?_⟩
      · have hlt : i < listed.size := by omega
        rw [Array.getD_eq_getD_getElem?, Array.getElem?_eq_getElem hlt]
        rw [Array.getElem?_eq_getElem hlt] at hne
        cases hv : listed[i] with
        | true => rw [hv] at hne; exact absurd rfl hne
        | false => rfl
      · rw [List.getElem?_toArray, List.getElem?_eq_getElem hi]
        simp only [Option.map_some, Option.getD_some]
        rw [Array.all_eq_true_iff_forall_mem]
        intro e he
        cases hq : Region.binds .any e with
        | false => rfl
        | true =>
          have hlt := hb i _ (List.getElem?_eq_getElem hi) e (by simpa using he) hq
          have := ih e.on hlt (by omega)
          simp [Array.getD_eq_getD_getElem?, this]
    rw [h] at hmem; cases hmem
theorem push_getD {listed : Array Bool} {k : Nat} : (listed.push false).getD k false = listed.getD k false := by
  simp only [Array.getD_eq_getD_getElem?, Array.getElem?_push]
  split
  · rename_i h; subst h; simp
  · rfl
theorem wpAny_last {pre : List Oper} {o : Oper} {Q : Exit → Act → World → Prop} (hb : ∀ (i : Nat) (o : Oper), pre[i]? = some o → (∀ e ∈ o.after.toList, bindsAny e = true → e.on < i) ∧ ∀ j b, o.guard = some (j, b) → j < pre.length)
    (hl : ∀ j, j < pre.length → ∃ e ∈ o.after.toList, bindsAny e = true ∧ e.on = j) (hl2 : ∀ e ∈ o.after.toList, bindsAny e = true → e.on < pre.length) : ∀ (fuel : Nat) (listed : Array Bool) (a : Act) (w : World), listed.size = pre.length →
    wpAnyIn F m P .any pre.toArray (Exit.then (fun a w => wpListIn F m P (pre ++ [o]).toArray Q [o] a w) Q) fuel listed a w → wpAnyIn F m P .any (pre ++ [o]).toArray Q (fuel + 1) (listed.push false) a w := by
  have hready : ∀ (listed : Array Bool), listed.size = pre.length → ∀ i, i ∈ Region.ready .any (pre ++ [o]).toArray (listed.push false) → (i < pre.length ∧ i ∈ Region.ready .any pre.toArray listed) ∨ (i = pre.length ∧ ∀ j, j < pre.length → listed[j]? = some true) := by
    intro listed hs i hi
    simp only [Region.ready, List.mem_filter, List.mem_range, Bool.and_eq_true] at hi
    obtain ⟨h1, h2, h3⟩ := hi
    have h1' : i < pre.length + 1 := by simpa using h1
    rcases Nat.lt_or_ge i pre.length with hlt | hge
    · refine .inl ⟨hlt, ?_⟩
      simp only [Region.ready, List.mem_filter, List.mem_range, Bool.and_eq_true]
      refine ⟨by simpa using hlt, ?_, ?_⟩
      · simp only [Array.getD_eq_getD_getElem?, Array.getElem?_push] at h2 ⊢
        rw [if_neg (by omega)] at h2
        exact h2
      · rw [List.getElem?_toArray, List.getElem?_append_left hlt] at h3
        rw [List.getElem?_toArray]
        simpa only [push_getD] using h3
    · have e : i = pre.length := by omega
      subst e
      refine .inr ⟨rfl, fun j hj => ?_⟩
      rw [List.getElem?_toArray, List.getElem?_append_right (Nat.le_refl _), Nat.sub_self] at h3
      simp only [List.getElem?_cons_zero, Option.map_some, Option.getD_some] at h3
      obtain ⟨e, he, hbd, rfl⟩ := hl j hj
      have := (Array.all_eq_true_iff_forall_mem.1 h3) e (by simpa using he)
      simp only [bindsAny] at hbd
      rw [hbd, push_getD, Array.getD_eq_getD_getElem?] at this
      cases hq : listed[e.on]? with
      | none => rw [hq] at this; cases this
      | some b =>
        rw [hq] at this
        cases b with
        | true => rfl
        | false => cases this
  have hrl : ∀ (listed : Array Bool), listed.size = pre.length → (∀ j, j < pre.length → listed[j]? = some true) → pre.length ∈ Region.ready .any (pre ++ [o]).toArray (listed.push false) := by
    intro listed hs hall
    simp only [Region.ready, List.mem_filter, List.mem_range, Bool.and_eq_true]
    refine ⟨by simp, ?_, ?_⟩
    · rw [Array.getD_eq_getD_getElem?, ← hs]; simp
    · rw [List.getElem?_toArray, List.getElem?_append_right (Nat.le_refl _), Nat.sub_self]
      simp only [List.getElem?_cons_zero, Option.map_some, Option.getD_some]
      rw [Array.all_eq_true_iff_forall_mem]
      intro e he
      cases hq : Region.binds .any e with
      | false => rfl
      | true =>
        have := hall e.on (hl2 e (by simpa using he) hq)
        rw [push_getD, Array.getD_eq_getD_getElem?, this]; rfl
  have hyield : ∀ (a : Act) (i : Nat) (o' : Oper), pre[i]? = some o' → Region.wanted o' (yielded (pre ++ [o]).toArray a.tmps) = Region.wanted o' (yielded pre.toArray a.tmps) := by
    intro a i o' hi
    unfold Region.wanted
    cases hg : o'.guard with
    | none => rfl
    | some g =>
      obtain ⟨j, b⟩ := g
      have := (hb i o' hi).2 j b hg
      simp only [yielded, List.getElem?_toArray, List.getElem?_append_left this]
  have hdone : ∀ (fuel : Nat) (a : Act) (w : World) (l : Array Bool), l.size = pre.length + 1 → (∀ j, j < pre.length + 1 → l[j]? = some true) → Q .normal a w → wpAnyIn F m P .any (pre ++ [o]).toArray Q fuel l a w := by
    intro fuel a w l hs hall hq
    have hnil : Region.ready .any (pre ++ [o]).toArray l = [] := by
      apply List.eq_nil_iff_forall_not_mem.2
      intro i hi
      simp only [Region.ready, List.mem_filter, List.mem_range, Bool.and_eq_true] at hi
      have hlt : i < pre.length + 1 := by simpa using hi.1
      have h2 := hi.2.1
      rw [Array.getD_eq_getD_getElem?, hall i hlt] at h2
      simp at h2
    cases fuel with
    | zero => exact ⟨hnil, hq⟩
    | succ fuel => exact ⟨fun _ => hq, fun i hi => by rw [hnil] at hi; cases hi⟩
  have hlast : ∀ (fuel : Nat) (listed : Array Bool) (a : Act) (w : World), listed.size = pre.length → (∀ j, j < pre.length → listed[j]? = some true) → wpListIn F m P (pre ++ [o]).toArray Q [o] a w →
      wpOpIn F m P (pre ++ [o]).toArray Q pre.length (wpAnyIn F m P .any (pre ++ [o]).toArray Q fuel ((listed.push false).setIfInBounds pre.length true)) a w := by
    intro fuel listed a w hs hall h
    have hd : ∀ a' w', Q .normal a' w' → wpAnyIn F m P .any (pre ++ [o]).toArray Q fuel ((listed.push false).setIfInBounds pre.length true) a' w' := by
      intro a' w' hq
      refine hdone fuel a' w' _ (by simp [hs]) (fun j hj => ?_) hq
      rw [Array.getElem?_setIfInBounds]
      split
      · rename_i e; subst e; simp [hs]
      · rename_i e
        rw [Array.getElem?_push, if_neg (by omega)]
        exact hall j (by omega)
    unfold wpOpIn
    have ho : (pre ++ [o]).toArray[pre.length]? = some o := by rw [List.getElem?_toArray, List.getElem?_append_right (Nat.le_refl _), Nat.sub_self]; rfl
    rw [ho]
    unfold wpListIn at h
    dsimp only
    split
    · rename_i hw
      rw [if_pos hw] at h
      exact Oper.wpIn_mono (fun a' w' h9 => hd a' w' h9) h
    · rename_i hw
      rw [if_neg hw] at h
      exact ⟨h.1, hd _ _ h.2⟩
  intro fuel
  induction fuel with
  | zero =>
    intro listed a w hs h
    obtain ⟨h1, h2⟩ := h
    have hall := ready_nil hs (fun i o' hi => (hb i o' hi).1) h1
    refine ⟨fun hnil => ?_, fun i hi => ?_⟩
    · have := hrl listed hs hall
      rw [hnil] at this; cases this
    · rcases hready listed hs i hi with ⟨_, hm⟩ | ⟨rfl, _⟩
      · rw [h1] at hm; cases hm
      · exact hlast 0 listed a w hs hall h2
  | succ fuel ih =>
    intro listed a w hs h
    obtain ⟨h1, h2⟩ := h
    refine ⟨fun hnil => ?_, fun i hi => ?_⟩
    · have hn : Region.ready .any pre.toArray listed = [] := by
        apply List.eq_nil_iff_forall_not_mem.2
        intro i hi
        have hmem : i ∈ Region.ready .any (pre ++ [o]).toArray (listed.push false) := by
          simp only [Region.ready, List.mem_filter, List.mem_range, Bool.and_eq_true] at hi ⊢
          obtain ⟨g1, g2, g3⟩ := hi
          have hlt : i < pre.length := by simpa using g1
          refine ⟨by simp; omega, ?_, ?_⟩
          · rw [Array.getD_eq_getD_getElem?] at g2 ⊢
            rw [Array.getElem?_push, if_neg (by omega)]
            exact g2
          · rw [List.getElem?_toArray] at g3
            rw [List.getElem?_toArray, List.getElem?_append_left hlt]
            simpa only [push_getD] using g3
        rw [hnil] at hmem; cases hmem
      have := hrl listed hs (ready_nil hs (fun i o' hi => (hb i o' hi).1) hn)
      rw [hnil] at this; cases this
    · rcases hready listed hs i hi with ⟨hlt, hm⟩ | ⟨rfl, hall⟩
      · have h3 := h2 i hm
        unfold wpOpIn at h3 ⊢
        have e1 : pre.toArray[i]? = some pre[i] := by rw [List.getElem?_toArray, List.getElem?_eq_getElem hlt]
        have e2 : (pre ++ [o]).toArray[i]? = some pre[i] := by rw [List.getElem?_toArray, List.getElem?_append_left hlt, List.getElem?_eq_getElem hlt]
        rw [e1] at h3
        rw [e2]
        dsimp only at h3 ⊢
        rw [hyield a i _ (List.getElem?_eq_getElem hlt)]
        have hset : (listed.push false).setIfInBounds i true = (listed.setIfInBounds i true).push false := by
          apply Array.ext_getElem?
          intro j
          simp only [Array.getElem?_setIfInBounds, Array.getElem?_push, Array.size_push, Array.size_setIfInBounds]
          by_cases h4 : i = j
          · subst h4
            rw [if_pos rfl, if_pos (by omega), if_neg (by omega), if_pos rfl, if_pos (by omega)]
          · rw [if_neg h4, if_neg h4]
        rw [hset]
        split
        · rename_i hw
          rw [if_pos hw] at h3
          exact Oper.wpIn_mono (fun a' w' h9 => ih _ a' w' (by simpa using hs) h9) (wpIn_then h3)
        · rename_i hw
          rw [if_neg hw] at h3
          exact ⟨h3.1, ih _ _ _ (by simpa using hs) h3.2⟩
      · have hn : Region.ready .any pre.toArray listed = [] := by
          apply List.eq_nil_iff_forall_not_mem.2
          intro i hi
          simp only [Region.ready, List.mem_filter, List.mem_range, Bool.and_eq_true] at hi
          have hlt : i < pre.length := by simpa using hi.1
          have h2 := hi.2.1
          rw [Array.getD_eq_getD_getElem?, hall i hlt] at h2
          simp at h2
        exact hlast (fuel + 1) listed a w hs hall (h1 hn)
end
theorem chkLast_spec {pre : List Oper} {o : Oper} (h : chkLast pre o = true) : (∀ (i : Nat) (o : Oper), pre[i]? = some o → (∀ e ∈ o.after.toList, bindsAny e = true → e.on < i) ∧ ∀ j b, o.guard = some (j, b) → j < pre.length) ∧
    (∀ j, j < pre.length → ∃ e ∈ o.after.toList, bindsAny e = true ∧ e.on = j) ∧ (∀ e ∈ o.after.toList, bindsAny e = true → e.on < pre.length) := by
  simp only [chkLast, Bool.and_eq_true] at h
  obtain ⟨⟨h1, h2⟩, h3⟩ := h
  refine ⟨fun i o' hi => ?_, fun j hj => ?_, fun e he hb => ?_⟩
  · have h4 := List.all_eq_true.1 h3 (o', i) (by rw [List.mem_zipIdx_iff_getElem?]; simpa using hi)
    simp only [Bool.and_eq_true] at h4
    refine ⟨fun e he hb => ?_, fun j b hg => ?_⟩
    · have h5 := List.all_eq_true.1 h4.1 e he
      rw [hb] at h5
      simpa [Nat.blt_eq] using h5
    · have h5 := h4.2
      rw [hg] at h5
      simpa [Nat.blt_eq] using h5
  · have h4 := List.all_eq_true.1 h1 j (List.mem_range.2 hj)
    obtain ⟨e, he, h5⟩ := List.any_eq_true.1 h4
    simp only [Bool.and_eq_true] at h5
    exact ⟨e, he, h5.1, Nat.eq_of_beq_eq_true h5.2⟩
  · have h4 := List.all_eq_true.1 h2 e he
    rw [hb] at h4
    simpa [Nat.blt_eq] using h4
section
variable {P : Program} {B : Exit → Act → World → Prop} {n : Fm} {ks : List K} {ρ : Env} {w : World} {σ : List Nat} {Ms : List Foot} {Js : List (World → Prop)} {X : List (Nat × Nat)}
/-- What is left to do behind all but the last operation of a region. -/
def lastK (P : Program) (n : Fm) (B : Exit → Act → World → Prop) (ks : List K) (full : List Oper) (o : Oper) : K := .hand fun a w => wpListIn (fen n.ro) 0 P full.toArray (sem P n.ro B ks) [o] a w
theorem N.last {full : List Oper} {o : Oper} (h : L P B n full ks ρ w [o]) : N P B n (lastK P n B ks full o :: ks) ρ w := N.hand fun a ha => h a ha
def splitLast : List Oper → Option (List Oper × Oper)
  | [] => none
  | [x] => some ([], x)
  | x :: y :: r => match splitLast (y :: r) with
    | some (p, o) => some (x :: p, o)
    | none => none
theorem splitLast_eq : ∀ {l p : List Oper} {o : Oper}, splitLast l = some (p, o) → l = p ++ [o]
  | [], p, o, h => by cases h
  | [x], p, o, h => by
    simp only [splitLast, Option.some.injEq, Prod.mk.injEq] at h
    obtain ⟨rfl, rfl⟩ := h
    rfl
  | x :: y :: r, p, o, h => by
    simp only [splitLast] at h
    split at h
    · rename_i p' o' h'
      simp only [Option.some.injEq, Prod.mk.injEq] at h
      obtain ⟨rfl, rfl⟩ := h
      have := splitLast_eq h'
      rw [this]; rfl
    · cases h
theorem G.stagedL [hm : Mixed P] {id : Nat} {full pre : List Oper} {o : Oper} (hsp : splitLast full = some (pre, o)) (hlast : chkLast pre o = true) (σ : List Nat) (Ms : List Foot) (Js : List (World → Prop)) (X : List (Nat × Nat)) (hchk : chk pre σ = true) (hkill : chkKill pre X = true) (hσ : σ.all (fun s => Nat.blt s pre.length) = true) (hlt : ρ.all (fun p => Nat.blt p.1 n) = true)
    {Ψ : World → Prop} (hΨ : Js[0]? = some Ψ) (hJ : ∀ w', Ext [] w w' → Ψ w') (h : DZ P n pre (sem P n.ro B (lastK P n B ks full o :: ks)) Js σ Ms X ρ [] 0 pre) : G P B n ks ρ w (.region id full.toArray true) := by
  intro a ha
  have hlk : ∀ t s, lookD (mkD ρ []) t = some s → ∃ v, look ρ t = some v ∧ s = .eq v := by
    intro t s hs
    rw [lookD_mkD] at hs
    simp only [lookT] at hs
    cases hv : look ρ t with
    | none => rw [hv] at hs; cases hs
    | some v => rw [hv] at hs; cases hs; exact ⟨v, rfl, rfl⟩
  have hmem : ∀ (r : Env) t v, look r t = some v → (t, v) ∈ r := by
    intro r
    induction r with
    | nil => intro t v h; cases h
    | cons p r ih =>
      obtain ⟨s, u⟩ := p
      intro t v h
      rw [look_cons] at h
      split at h
      · rename_i e; subst e; cases h; simp
      · exact List.mem_cons_of_mem _ (ih t v h)
  obtain ⟨h1, h2, h3⟩ := chkLast_spec hlast
  refine wpIn_region_any hm.h ?_
  have := D.sound (P := P) (Q := sem P n.ro B (lastK P n B ks full o :: ks)) (R := RS σ Ms) (X := X) hchk hkill (fun s hs => by simpa [Nat.blt_eq] using List.all_eq_true.1 hσ s hs) (fun A t hA => by obtain ⟨v, _, e⟩ := hlk t _ hA; cases e)
    (fun t s hs => by
      obtain ⟨v, hv, _⟩ := hlk t s hs
      have := List.all_eq_true.1 hlt (t, v) (hmem ρ t v hv)
      simpa [Nat.blt_eq] using this) (h (fun t ht => absurd rfl ht)) (a := a) (w := { w with drawn := w.drawn + 1 }) ha.size ha.defers (fun t s hs => by
      obtain ⟨v, hv, rfl⟩ := hlk t s hs
      exact ⟨v, ha.vals t v hv, rfl⟩) ⟨_, hΨ, hJ _ (Ext.drawn w)⟩
  have hf := splitLast_eq hsp
  subst hf
  have h5 := wpAny_last (Q := sem P n.ro B ks) h1 h2 h3 pre.length (Array.replicate pre.length false) a { w with drawn := w.drawn + 1 } (by simp) this
  rw [show (pre ++ [o]).toArray.size = pre.length + 1 by simp, show Array.replicate (pre.length + 1) false = (Array.replicate pre.length false).push false from Array.replicate_succ]
  exact h5
end
section
variable {P : Program} {n : Fm} {ops : List Oper} {Q : Exit → Act → World → Prop} {Js : List (World → Prop)} {σ : List Nat} {Ms : List Foot} {X : List (Nat × Nat)}
variable {ρ : Env} {τ : RelEnv} {i : Nat} {rest : List Oper} {d : Nat} {op : Op} {ty : TypeId} {pos : String} {af : Array Edge} {gd : Option (Nat × Bool)}
/-- One that makes something new, at any stage. -/
theorem Z.newI {A : Value → World → Prop} (hA : Lasts ops X σ Ms d i A) {I : World → Prop} (hI : ∀ k w, stage Js k w → I w) (hK : ∀ Ψ ∈ Js, ∀ w w', Ext [] w w' → Ψ w → Ψ w') (hst : stepsOf σ i = 0)
    (hg : wants ops ρ gd = some true) (hd : Nat.blt d n = true) (hns : isSelect op = false)
    (h : ∀ w, I w → RelsT τ w (slots ops ⟨some d, op, ty, pos, af, gd⟩) ρ (fun ρ' => Does P n ρ' w ⟨some d, op, ty, pos, af, gd⟩ (fun v w' => A v w' ∧ Ext [] w w')))
    (hnext : DZ P n ops Q Js σ Ms X (dropS d ρ) ((d, A) :: τ) (i + 1) rest) : DZ P n ops Q Js σ Ms X ρ τ i (⟨some d, op, ty, pos, af, gd⟩ :: rest) :=
  DS.rel A hA hg hd hns (fun w k hr hJ => by
    refine RelsT.mono (fun _ hx => hx.mono fun _ _ h => ⟨h.1, RS.of0 h.2, ?_⟩) (h w (hI k w hJ))
    rw [hst]
    obtain ⟨Ψ, h1, h2⟩ := hJ
    exact ⟨Ψ, h1, hK Ψ (List.mem_of_getElem? h1) _ _ h.2 h2⟩) hnext
end
end Brv
namespace Brv
open Go
section
variable {P : Program} {n : Fm} {ρ : Env} {w : World} {d : Nat} {ty : TypeId} {pos : String} {af : Array Edge} {gd : Option (Nat × Bool)}
/-- xs[i] of an array that is a value. -/
theorem R.idxV {T m E : Nat} [t : TyArr P T m E 1] [te : TyOne P E] {x y : Operand} {k : IntKind} {cs : Array Value} {i : Int} {v : Value} (hx : ev ρ x = some (.agg cs)) (hy : ev ρ y = some (.int k i)) (h0 : 0 ≤ i) (h1 : i < m) (hv : cs[i.toNat]? = some v) :
    Runs P n ρ w ⟨some d, .index T x y, ty, pos, af, gd⟩ v w := (fun f hf => by
    cases hq : P.info? E with
    | none => have := t.i; simp [hq] at this
    | some q =>
      have hs : q.size = 1 := by have := t.i; simpa [hq] using this
      simp [execOp, hf.eval hx, hf.eval hy, Instr.index, asIntOf, run_underlying t.h, h0, h1, Go.sizeOf, typeInfo, hq, hs, part, TyOne.agg, hv])
end
end Brv
namespace Brv
open Go
/-- A struct's parts, each of one cell, laid one by one. -/
def fillL (pl : Nat → Option (Nat × Nat)) : List Value → List (Nat × Value) → Option (List Value)
  | cs, [] => some cs
  | cs, (i, v) :: rest => match pl i with
    | some (off, sz) => match Nat.beq sz 1 && Nat.blt off cs.length with
      | true => fillL pl (cs.set off v) rest
      | false => none
    | none => none
theorem fillL_spec {pl : Nat → Option (Nat × Nat)} : ∀ {vs : List (Nat × Value)} {cs : Array Value} {l : List Value}, (∀ p ∈ vs, p.2.oneCell' = true) → fillL pl cs.toList vs = some l → Instr.fill pl cs vs = some l.toArray
  | [], cs, l, _, h => by
    simp only [fillL, Option.some.injEq] at h
    subst h
    simp [Instr.fill]
  | (i, v) :: rest, cs, l, h1, h => by
    simp only [fillL] at h
    split at h
    · rename_i off sz hp
      split at h
      · rename_i hb
        rw [Bool.and_eq_true] at hb
        have hsz := Nat.eq_of_beq_eq_true hb.1
        have hlt : off < cs.size := by simpa [Nat.blt_eq] using hb.2
        subst hsz
        have hv : v.cells = #[v] := by
          have := h1 (i, v) (by simp)
          cases v <;> simp_all [Value.cells, Value.oneCell']
        have e : cs.toList.set off v = (cs.setIfInBounds off v).toList := by simp
        rw [e] at h
        have ih := fillL_spec (fun p hp => h1 p (by simp [hp])) h
        simp only [Instr.fill, hp, hv]
        rw [if_neg (by simp; omega)]
        simpa using ih
      · cases h
    · cases h
def oneCells : List (Nat × Value) → Bool
  | [] => true
  | (_, v) :: r => v.oneCell' && oneCells r
theorem oneCells_spec : ∀ {vs : List (Nat × Value)}, oneCells vs = true → ∀ p ∈ vs, p.2.oneCell' = true
  | [], _, p, hp => by cases hp
  | (i, v) :: r, h, p, hp => by
    simp only [oneCells, Bool.and_eq_true] at h
    rcases List.mem_cons.1 hp with rfl | hp
    · exact h.1
    · exact oneCells_spec h.2 p hp
section
variable {P : Program} {n : Fm} {ρ : Env} {w : World} {d : Nat} {ty : TypeId} {pos : String} {af : Array Edge} {gd : Option (Nat × Bool)}
theorem R.build1 {T : TypeId} {pl : Nat → Option (Nat × Nat)} {z : Value} [t : TyBuilt P T pl z] {parts : Array (Nat × Operand)} {vs : List (Nat × Value)} {cs : Array Value} (hp : evps ρ parts.toList = some vs) (h1 : oneCells vs = true) (hb : fillL pl z.cells.toList vs = some cs.toList) :
    Runs P n ρ w ⟨some d, .build T parts, ty, pos, af, gd⟩ (.agg cs) w := R.build hp (by
    have := fillL_spec (oneCells_spec h1) hb
    simpa using this)
end
end Brv
