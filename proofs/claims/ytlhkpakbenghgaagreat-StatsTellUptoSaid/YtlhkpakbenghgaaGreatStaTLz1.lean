/-
  Texts of this claim, put together.
-/
import Derived.Stop.BytesEq
import Derived.Laws.Cover3
import Derived.Test.YtlhkpakbenghgaaGreatProg
import Derived.Test.YtlhkpakbenghgaaGreatChecked
import Derived.Test.YtlhkpakbenghgaaGreatStaTLz0
/-
  Orders: keys, rows of pairs, what is found, put and deleted.
-/
set_option linter.unusedVariables false
namespace Brv
open Go
/-- What keys are: values that are compared. -/
class Key (κ : Type) where
  val : κ → Value
  lt : κ → κ → Bool
  one : ∀ k, (val k).oneCell' = true
  cell : ∀ k, (val k).cells = #[val k]
  irr : ∀ k, lt k k = false
  trans : ∀ a b c, lt a b = true → lt b c = true → lt a c = true
  tri : ∀ a b, lt a b = false → lt b a = false → a = b
theorem bl_irr : ∀ a : List UInt8, Op.bytesLess a a = false
  | [] => rfl
  | x :: r => by simp [Op.bytesLess, bl_irr r]
theorem bl_trans : ∀ a b c : List UInt8, Op.bytesLess a b = true → Op.bytesLess b c = true → Op.bytesLess a c = true
  | _, _, [], _, h => by simp [Op.bytesLess] at h
  | _, [], _ :: _, h, _ => by simp [Op.bytesLess] at h
  | [], _ :: _, _ :: _, _, _ => rfl
  | x :: a, y :: b, z :: c, h, k => by
    simp only [Op.bytesLess, Bool.or_eq_true, decide_eq_true_eq, Bool.and_eq_true, beq_iff_eq] at h k ⊢
    rcases h with h | ⟨rfl, h⟩
    · rcases k with k | ⟨rfl, k⟩
      · exact .inl (UInt8.lt_trans h k)
      · exact .inl h
    · rcases k with k | ⟨rfl, k⟩
      · exact .inl k
      · exact .inr ⟨rfl, bl_trans a b c h k⟩
theorem bl_tri : ∀ a b : List UInt8, Op.bytesLess a b = false → Op.bytesLess b a = false → a = b
  | [], [], _, _ => rfl
  | [], y :: b, h, _ => by simp [Op.bytesLess] at h
  | x :: a, [], _, h => by simp [Op.bytesLess] at h
  | x :: a, y :: b, h, k => by
    simp only [Op.bytesLess, Bool.or_eq_false_iff, decide_eq_false_iff_not] at h k
    have e : x = y := by
      have h1 := h.1; have k1 := k.1
      rw [UInt8.not_lt] at h1 k1
      exact UInt8.le_antisymm k1 h1
    subst e
    have h2 := h.2; have k2 := k.2
    simp at h2 k2
    rw [bl_tri a b h2 k2]
instance : Key Int := ⟨.int .i64, fun a b => decide (a < b), fun _ => rfl, fun _ => rfl, fun k => by simp, fun a b c h k => by simp at h k ⊢; omega, fun a b h k => by simp at h k; omega⟩
instance : Key (List UInt8) := ⟨fun k => .string (str k), Op.bytesLess, fun _ => rfl, fun _ => rfl, bl_irr, bl_trans, bl_tri⟩
section
variable {κ : Type} [Key κ]
/-- A key and a value's cells. -/
abbrev Pr (κ : Type) := κ × List Value
def pcell (p : Pr κ) : List Value := Key.val p.1 :: p.2
def pcells (ps : List (Pr κ)) : List Value := (ps.map pcell).flatten
def Sorted (ps : List (Pr κ)) : Prop := ps.Pairwise fun a b => Key.lt a.1 b.1 = true
/-- How many keys are below k. -/
def low (ps : List (Pr κ)) (k : κ) : Nat := (ps.takeWhile fun p => Key.lt p.1 k).length
def hasK (ps : List (Pr κ)) (k : κ) : Bool := match ps[low ps k]? with
  | some p => !Key.lt k p.1
  | none => false
theorem low_le (ps : List (Pr κ)) (k : κ) : low ps k ≤ ps.length := by
  unfold low
  exact (List.takeWhile_sublist _).length_le
theorem low_lt {ps : List (Pr κ)} {k : κ} {i : Nat} {p : Pr κ} (hi : i < low ps k) (hp : ps[i]? = some p) : Key.lt p.1 k = true := by
  unfold low at hi
  induction ps generalizing i with
  | nil => simp at hi
  | cons q r ih =>
    rw [List.takeWhile_cons] at hi
    split at hi
    · rename_i hq
      cases i with
      | zero => simp at hp; subst hp; exact hq
      | succ i => exact ih (by simpa using hi) (by simpa using hp)
    · simp at hi
theorem low_ge {ps : List (Pr κ)} (hs : Sorted ps) {k : κ} {i : Nat} {p : Pr κ} (hi : low ps k ≤ i) (hp : ps[i]? = some p) : Key.lt p.1 k = false := by
  unfold low at hi
  induction ps generalizing i with
  | nil => simp at hp
  | cons q r ih =>
    have hs' := List.pairwise_cons.1 hs
    rw [List.takeWhile_cons] at hi
    split at hi
    · rename_i hq
      cases i with
      | zero => simp at hi
      | succ i => exact ih hs'.2 (by simpa using hi) (by simpa using hp)
    · rename_i hq
      have hq' : Key.lt q.1 k = false := by simpa using hq
      cases i with
      | zero => simp at hp; subst hp; exact hq'
      | succ i =>
        have hm : p ∈ r := List.mem_of_getElem? (by simpa using hp)
        have h1 := hs'.1 p hm
        cases hc : Key.lt p.1 k with
        | false => rfl
        | true => rw [Key.trans _ _ _ h1 hc] at hq'; cases hq'
theorem hasK_iff {ps : List (Pr κ)} (hs : Sorted ps) {k : κ} : hasK ps k = true ↔ ∃ v, ps[low ps k]? = some (k, v) := by
  unfold hasK
  cases h : ps[low ps k]? with
  | none => simp
  | some p =>
    have hg := low_ge hs (Nat.le_refl _) h
    constructor
    · intro h1
      have h1 : Key.lt k p.1 = false := by simpa using h1
      have := Key.tri _ _ hg h1
      exact ⟨p.2, by rw [← this]⟩
    · rintro ⟨v, h1⟩
      cases h1
      have := Key.irr k
      simp [this]
def getK (ps : List (Pr κ)) (k : κ) : Option (List Value) := if hasK ps k then (ps[low ps k]?).map Prod.snd else none
def putK (ps : List (Pr κ)) (k : κ) (v : List Value) : List (Pr κ) := if hasK ps k then ps.set (low ps k) (k, v) else ps.take (low ps k) ++ (k, v) :: ps.drop (low ps k)
theorem sorted_put {ps : List (Pr κ)} (hs : Sorted ps) (k : κ) (v : List Value) : Sorted (putK ps k v) := by
  have key : ∀ i p, ps[i]? = some p → i < low ps k → Key.lt p.1 k = true := fun i p hp hi => low_lt hi hp
  unfold putK
  split
  · rename_i hk
    obtain ⟨u, hu⟩ := (hasK_iff hs).1 hk
    unfold Sorted at hs ⊢
    rw [List.pairwise_iff_getElem] at hs ⊢
    intro i j hi hj hij
    rw [List.length_set] at hi hj
    have e : ∀ m (hm : m < ps.length), ((ps.set (low ps k) (k, v))[m]'(by rw [List.length_set]; exact hm)).1 = ps[m].1 := by
      intro m hm
      rw [List.getElem_set]
      split
      · rename_i e
        subst e
        rw [List.getElem?_eq_getElem hm] at hu
        cases hu' : ps[low ps k] with
        | mk a b => rw [hu'] at hu; cases hu; rfl
      · rfl
    rw [e i hi, e j hj]
    exact hs i j hi hj hij
  · rename_i hk
    unfold Sorted at hs ⊢
    rw [List.pairwise_append]
    refine ⟨hs.sublist (List.take_sublist _ _), List.pairwise_cons.2 ⟨fun p hp => ?_, hs.sublist (List.drop_sublist _ _)⟩, fun a ha b hb => ?_⟩
    · obtain ⟨j, hj, e⟩ := List.mem_iff_getElem.1 hp
      have hj' : low ps k + j < ps.length := by simp at hj; omega
      have hpp : ps[low ps k + j]? = some p := by rw [List.getElem?_eq_getElem hj', ← e, List.getElem_drop]
      have hg := low_ge hs (Nat.le_add_right _ _) hpp
      cases hc : Key.lt k p.1 with
      | true => rfl
      | false =>
        exfalso
        have e2 := Key.tri _ _ hg hc
        rcases Nat.eq_zero_or_pos j with rfl | hj0
        · refine hk ?_
          unfold hasK
          rw [show low ps k = low ps k + 0 from rfl, hpp]
          simp [hc]
        · have hl : low ps k < ps.length := by omega
          rw [List.pairwise_iff_getElem] at hs
          have h1 := hs (low ps k) (low ps k + j) hl hj' (by omega)
          have h2 := low_ge (k := k) (by rw [Sorted, List.pairwise_iff_getElem]; exact hs) (Nat.le_refl _) (List.getElem?_eq_getElem hl)
          rw [List.getElem?_eq_getElem hj'] at hpp
          have h3 : ps[low ps k + j] = p := by simpa using hpp
          rw [h3, e2] at h1
          rw [h1] at h2; cases h2
    · obtain ⟨i, hi, e⟩ := List.mem_iff_getElem.1 ha
      have hi' : i < low ps k := by simp at hi; omega
      have hil : i < ps.length := by simp at hi; omega
      have hak : Key.lt a.1 k = true := low_lt hi' (by rw [List.getElem?_eq_getElem hil, ← e, List.getElem_take])
      rcases List.mem_cons.1 hb with rfl | hb
      · exact hak
      · obtain ⟨j, hj, e'⟩ := List.mem_iff_getElem.1 hb
        have hj' : low ps k + j < ps.length := by simp at hj; omega
        rw [List.pairwise_iff_getElem] at hs
        have := hs i (low ps k + j) hil hj' (by omega)
        rw [← e, ← e', List.getElem_take, List.getElem_drop]
        exact this
theorem put_len {ps : List (Pr κ)} (k : κ) (v : List Value) : (putK ps k v).length = if hasK ps k then ps.length else ps.length + 1 := by
  have := low_le ps k
  unfold putK
  split
  · rw [List.length_set]
  · rw [List.length_append, List.length_cons, List.length_take, List.length_drop]; omega
theorem pcells_len {sv : Nat} {ps : List (Pr κ)} (h : ∀ p ∈ ps, p.2.length = sv) : (pcells ps).length = ps.length * (1 + sv) := by
  unfold pcells
  induction ps with
  | nil => simp
  | cons p r ih =>
    simp only [List.map_cons, List.flatten_cons, List.length_append, List.length_cons, pcell]
    rw [ih (fun q hq => h q (by simp [hq])), h p (by simp), Nat.add_mul]
    omega
theorem pcells_append (a b : List (Pr κ)) : pcells (a ++ b) = pcells a ++ pcells b := by simp [pcells]
theorem pcells_take {sv : Nat} {ps : List (Pr κ)} (h : ∀ p ∈ ps, p.2.length = sv) (i : Nat) (hi : i ≤ ps.length) : (pcells ps).take (i * (1 + sv)) = pcells (ps.take i) ∧ (pcells ps).drop (i * (1 + sv)) = pcells (ps.drop i) := by
  have e : pcells ps = pcells (ps.take i) ++ pcells (ps.drop i) := by rw [← pcells_append, List.take_append_drop]
  have hl : (pcells (ps.take i)).length = i * (1 + sv) := by
    rw [pcells_len (sv := sv) (fun p hp => h p (List.mem_of_mem_take hp)), List.length_take, Nat.min_eq_left hi]
  rw [e, ← hl, List.take_left, List.drop_left]
  exact ⟨rfl, rfl⟩
/-- Values of so many cells, each a cell. -/
def OkP (sv : Nat) (ps : List (Pr κ)) : Prop := ∀ p ∈ ps, p.2.length = sv ∧ ∀ u ∈ p.2, u.oneCell' = true
omit [Key κ] in
theorem OkP.len {sv : Nat} {ps : List (Pr κ)} (h : OkP sv ps) : ∀ p ∈ ps, p.2.length = sv := fun p hp => (h p hp).1
theorem pcell_one {sv : Nat} {ps : List (Pr κ)} (h : OkP sv ps) : ∀ u ∈ pcells ps, u.oneCell' = true := by
  intro u hu
  obtain ⟨c, hc, hu⟩ := List.mem_flatten.1 hu
  obtain ⟨p, hp, rfl⟩ := List.mem_map.1 hc
  rcases List.mem_cons.1 hu with rfl | hu
  · exact Key.one _
  · exact (h p hp).2 u hu
theorem OkP.put {sv : Nat} {ps : List (Pr κ)} (h : OkP sv ps) {k : κ} {v : List Value} (hv : v.length = sv ∧ ∀ u ∈ v, u.oneCell' = true) : OkP sv (putK ps k v) := by
  unfold putK
  split
  · intro p hp
    rcases List.mem_or_eq_of_mem_set hp with hp | rfl
    · exact h p hp
    · exact hv
  · intro p hp
    rcases List.mem_append.1 hp with hp | hp
    · exact h p (List.mem_of_mem_take hp)
    · rcases List.mem_cons.1 hp with rfl | hp
      · exact hv
      · exact h p (List.mem_of_mem_drop hp)
/-- An order at m (TM: the type of orders, TP: of pairs). S: its blocks. -/
def MapAt (TM TP sv : Nat) (w : World) (m : Nat) (ps : List (Pr κ)) (S : List Nat) : Prop :=
  ∃ a c M, S = m :: M ∧ m ∉ M ∧ Blk w m #[.slice a ps.length c] TM (0, 0) ∧ Own w TP (1 + sv) a ps.length c (pcells ps) M ∧ OkP sv ps ∧ Sorted ps
theorem MapAt.ext {TM TP sv : Nat} {w w' : World} {m : Nat} {ps : List (Pr κ)} {S M' : List Nat} (h : MapAt TM TP sv w m ps S) (he : Ext M' w w') (hm : ∀ y ∈ S, y ∉ M') : MapAt TM TP sv w' m ps S := by
  obtain ⟨a, c, M, rfl, h0, h1, h2, h3, h4⟩ := h
  exact ⟨a, c, M, rfl, h0, h1.ext he (hm m (by simp)), h2.ext he (fun g hg => hm g (by simp [hg])), h3, h4⟩
theorem MapAt.ext0 {TM TP sv : Nat} {w w' : World} {m : Nat} {ps : List (Pr κ)} {S : List Nat} (h : MapAt TM TP sv w m ps S) (he : Ext [] w w') : MapAt TM TP sv w' m ps S := h.ext he (by simp)
theorem MapAt.lt {TM TP sv : Nat} {w : World} {m : Nat} {ps : List (Pr κ)} {S : List Nat} (h : MapAt TM TP sv w m ps S) : ∀ y ∈ S, y < w.heap.size := by
  obtain ⟨a, c, M, rfl, h0, h1, h2, h3, h4⟩ := h
  intro y hy
  rcases List.mem_cons.1 hy with rfl | hy
  · exact h1.lt
  · exact h2.lt y hy
theorem MapAt.still {TM TP sv : Nat} {w w' : World} {m : Nat} {ps : List (Pr κ)} {S : List Nat} (h : MapAt TM TP sv w m ps S) (hs : Still w w') : MapAt TM TP sv w' m ps S := by
  obtain ⟨a, c, M, rfl, h0, h1, h2, h3, h4⟩ := h
  exact ⟨a, c, M, rfl, h0, h1.still hs, h2.still hs, h3, h4⟩
theorem MapAt.sorted {TM TP sv : Nat} {w : World} {m : Nat} {ps : List (Pr κ)} {S : List Nat} (h : MapAt TM TP sv w m ps S) : Sorted ps := by
  obtain ⟨a, c, M, rfl, g0, g1, g2, g3, g4⟩ := h
  exact g4
theorem MapAt.ok {TM TP sv : Nat} {w : World} {m : Nat} {ps : List (Pr κ)} {S : List Nat} (h : MapAt TM TP sv w m ps S) : OkP sv ps := by
  obtain ⟨a, c, M, rfl, g0, g1, g2, g3, g4⟩ := h
  exact g3
end
section
variable {P : Program} {n : Fm} {ρ : Env} {w : World} {d : Nat} {ty : TypeId} {pos : String} {af : Array Edge} {gd : Option (Nat × Bool)}
end
theorem shr1 (a : Int) : a.fdiv (2 ^ (Min.min (1 : Int).toNat IntKind.u64.bits)) = a / 2 := Int.fdiv_eq_ediv_of_nonneg a (by decide)
section
variable {κ : Type} [Key κ]
def cmpF (x y : κ) : Int := if Key.lt x y then -1 else if Key.lt y x then 1 else 0
theorem cmpF_lt {x y : κ} (h : Key.lt x y = true) : cmpF x y = -1 := if_pos h
theorem cmpF_gt {x y : κ} (h : Key.lt x y = false) (h2 : Key.lt y x = true) : cmpF x y = 1 := by unfold cmpF; rw [if_neg (by simp [h]), if_pos h2]
theorem cmpF_eq {x y : κ} (h : Key.lt x y = false) (h2 : Key.lt y x = false) : cmpF x y = 0 := by unfold cmpF; rw [if_neg (by simp [h]), if_neg (by simp [h2])]
theorem cmpF_neg {x y : κ} : cmpF x y < 0 ↔ Key.lt x y = true := by
  unfold cmpF
  cases h : Key.lt x y
  · cases h2 : Key.lt y x <;> simp
  · simp
theorem cmpF_zero {x y : κ} (h : Key.lt x y = false) : cmpF x y = 0 ↔ Key.lt y x = false := by
  unfold cmpF
  rw [if_neg (by simp [h])]
  cases h2 : Key.lt y x <;> simp
theorem lt_low {ps : List (Pr κ)} (hs : Sorted ps) {k : κ} {i : Nat} {p : Pr κ} (hp : ps[i]? = some p) : (cmpF p.1 k < 0) ↔ i < low ps k := by
  rw [cmpF_neg]
  constructor
  · intro h
    rcases Nat.lt_or_ge i (low ps k) with h2 | h2
    · exact h2
    · rw [low_ge hs h2 hp] at h; cases h
  · exact fun h => low_lt h hp
theorem hasK_at {ps : List (Pr κ)} (hs : Sorted ps) {k : κ} {p : Pr κ} (hp : ps[low ps k]? = some p) : hasK ps k = decide (cmpF p.1 k = 0) := by
  unfold hasK
  rw [hp]
  have := cmpF_zero (low_ge hs (Nat.le_refl _) hp)
  cases h : Key.lt k p.1 <;> simp [h] at this ⊢ <;> simp [this]
theorem hasK_end {ps : List (Pr κ)} {k : κ} (h : ps.length ≤ low ps k) : hasK ps k = false := by
  unfold hasK
  rw [List.getElem?_eq_none h]
theorem Tab.pairs {w : World} {a : Option Addr} {n sv : Nat} {ps : List (Pr κ)} (h : Cells w a (pcells ps)) (hn : n = ps.length) (hok : OkP sv ps) : Tab w a n (1 + sv) (ps.map pcell) :=
  ⟨h, by rw [List.length_map]; exact hn, fun vs hv => by obtain ⟨p, hp, rfl⟩ := List.mem_map.1 hv; show p.2.length + 1 = _; rw [(hok p hp).1]; omega⟩
theorem Own.some {w : World} {E size : Nat} {a : Option Addr} {n cap : Nat} {xs : List Value} {M : List Nat} (h : Own w E size a n cap xs M) (hn : 0 < n) :
    ∃ g cur, a = Option.some ⟨g, 0, none⟩ ∧ M = [g] ∧ Blk w g cur E (0, 0) ∧ n ≤ cap ∧ cap ≤ maxLen ∧ cap * size ≤ cur.size ∧ cur.toList.take (n * size) = xs := by
  rcases h.2 with ⟨_, h2, _⟩ | h
  · omega
  · exact h
theorem over_grow {cur : Array Value} {X c1 c2 : List Value} {A s K : Nat} (hx : cur.toList.take A = X) (hA : A ≤ cur.size) (h1 : c1.length = s) (h2 : c2.length = K) (hr : A + s + K ≤ cur.size) : (Over (Over cur A c1) (A + s) c2).toList.take (A + s + K) = X ++ c1 ++ c2 ∧ (Over cur A c1).size = cur.size ∧ (Over (Over cur A c1) (A + s) c2).size = cur.size := by
  have s1 : (Over cur A c1).size = cur.size := Over.size (by omega)
  refine ⟨?_, s1, by rw [Over.size (by rw [s1]; omega), s1]⟩
  rw [← h2, Over.take (by rw [s1]; omega), ← h1, Over.take hA, hx]
theorem pcells_set {sv : Nat} {ps : List (Pr κ)} (h : OkP sv ps) {i : Nat} {k : κ} {u v : List Value} (hi : ps[i]? = some (k, u)) (hv : v.length = sv) :
    (pcells ps).take (i * (1 + sv) + 1) ++ v ++ (pcells ps).drop (i * (1 + sv) + 1 + v.length) = pcells (ps.set i (k, v)) := by
  have hlt : i < ps.length := (List.getElem?_eq_some_iff.1 hi).1
  have he : ps[i] = (k, u) := (List.getElem?_eq_some_iff.1 hi).2
  have e : ps = ps.take i ++ (k, u) :: ps.drop (i + 1) := by
    rw [← he, ← List.drop_eq_getElem_cons hlt, List.take_append_drop]
  have hu : u.length = sv := (h (k, u) (List.mem_of_getElem? hi)).1
  have hl : (pcells (ps.take i)).length = i * (1 + sv) := by rw [pcells_len (sv := sv) (fun p hp => (h p (List.mem_of_mem_take hp)).1), List.length_take, Nat.min_eq_left (by omega)]
  have e2 : pcells ps = (pcells (ps.take i) ++ [Key.val k]) ++ (u ++ pcells (ps.drop (i + 1))) := by
    conv => lhs; rw [e]
    rw [pcells_append]
    simp [pcells, pcell]
  have l2 : (pcells (ps.take i) ++ [Key.val k]).length = i * (1 + sv) + 1 := by rw [List.length_append, hl]; rfl
  have e3 : ps.set i (k, v) = ps.take i ++ (k, v) :: ps.drop (i + 1) := by rw [List.set_eq_take_append_cons_drop, if_pos hlt]
  rw [e3, pcells_append, e2, ← l2, List.take_left, List.drop_append, List.drop_of_length_le (by omega), List.nil_append, show (pcells (ps.take i) ++ [Key.val k]).length + v.length - (pcells (ps.take i) ++ [Key.val k]).length = u.length by omega, List.drop_left]
  simp [pcells, pcell]
theorem pcell1 {p : Pr κ} (h : ∀ u ∈ p.2, u.oneCell' = true) : ∀ u ∈ pcell p, u.oneCell' = true := by
  intro u hu
  rcases List.mem_cons.1 hu with rfl | hu
  · exact Key.one _
  · exact h u hu
omit [Key κ] in
theorem okIns {sv : Nat} {ps : List (Pr κ)} {i : Nat} {p : Pr κ} (h : OkP sv ps) (hp : p.2.length = sv ∧ ∀ u ∈ p.2, u.oneCell' = true) : OkP sv (ps.take i ++ p :: ps.drop i) := by
  intro q hq
  rcases List.mem_append.1 hq with hq | hq
  · exact h q (List.mem_of_mem_take hq)
  · rcases List.mem_cons.1 hq with rfl | hq
    · exact hp
    · exact h q (List.mem_of_mem_drop hq)
theorem pcells_ins {ps : List (Pr κ)} {i : Nat} {p : Pr κ} : pcells (ps.take i) ++ pcell p ++ pcells (ps.drop i) = pcells (ps.take i ++ p :: ps.drop i) := by simp [pcells]
end
theorem Over.one {cur : Array Value} {o : Nat} {v : Value} (h : o < cur.size) : cur.setIfInBounds o v = Over cur o [v] := by
  apply Array.toList_inj.1
  rw [Array.toList_setIfInBounds, List.set_eq_take_append_cons_drop, if_pos (by simpa using h)]
  simp [Over]
end Brv
/-
  Orders: what is got, put in place, deleted.
-/
set_option linter.unusedVariables false
namespace Brv
open Go
def gvA (z : Value) : Option (List Value) → Value
  | some u => .agg u.toArray
  | none => z
section
variable {κ : Type} [Key κ]
theorem getK_no {ps : List (Pr κ)} {k : κ} (h : hasK ps k = false) : getK ps k = none := by unfold getK; rw [h]; rfl
theorem getK_yes {ps : List (Pr κ)} {k : κ} {p : Pr κ} (h : hasK ps k = true) (hp : ps[low ps k]? = some p) : getK ps k = some p.2 := by unfold getK; rw [h, hp]; rfl
theorem hasK_lt {ps : List (Pr κ)} {k : κ} (h : hasK ps k = true) : low ps k < ps.length := by
  unfold hasK at h
  cases hq : ps[low ps k]? with
  | none => rw [hq] at h; cases h
  | some p => exact (List.getElem?_eq_some_iff.1 hq).1
theorem putK_yes {ps : List (Pr κ)} {k : κ} {v : List Value} (h : hasK ps k = true) : putK ps k v = ps.set (low ps k) (k, v) := if_pos h
theorem putK_no {ps : List (Pr κ)} {k : κ} {v : List Value} (h : hasK ps k = false) : putK ps k v = ps.take (low ps k) ++ (k, v) :: ps.drop (low ps k) := if_neg (by simp [h])
theorem pcells_at {sv : Nat} {ps : List (Pr κ)} (h : OkP sv ps) {i j : Nat} {p : Pr κ} {x : Value} (hi : ps[i]? = some p) (hj : (pcell p)[j]? = some x) : (pcells ps)[i * (1 + sv) + j]? = some x := by
  have hlt : i < ps.length := (List.getElem?_eq_some_iff.1 hi).1
  have he : ps[i] = p := (List.getElem?_eq_some_iff.1 hi).2
  have e : ps = ps.take i ++ p :: ps.drop (i + 1) := by
    rw [← he, ← List.drop_eq_getElem_cons hlt, List.take_append_drop]
  have hl : (pcells (ps.take i)).length = i * (1 + sv) := by rw [pcells_len (sv := sv) (fun p hp => (h p (List.mem_of_mem_take hp)).1), List.length_take, Nat.min_eq_left (by omega)]
  have e2 : pcells ps = pcells (ps.take i) ++ (pcell p ++ pcells (ps.drop (i + 1))) := by
    conv => lhs; rw [e]
    rw [pcells_append]
    simp [pcells]
  have hjl : j < (pcell p).length := (List.getElem?_eq_some_iff.1 hj).1
  rw [e2, ← hl, List.getElem?_append_right (Nat.le_add_right _ _), Nat.add_sub_cancel_left, List.getElem?_append_left hjl, hj]
theorem row_at {sv n : Nat} {cur : Array Value} {ps : List (Pr κ)} (ht : cur.toList.take (n * (1 + sv)) = pcells ps) (h : OkP sv ps) {i j : Nat} {p : Pr κ} {x : Value} (hi : ps[i]? = some p) (hj : (pcell p)[j]? = some x) : cur[i * (1 + sv) + j]? = some x := by
  have h1 := pcells_at h hi hj
  rw [← ht, List.getElem?_take] at h1
  split at h1
  · rw [← Array.getElem?_toList]; exact h1
  · cases h1
theorem MapAt.mk {TM TP sv : Nat} {w : World} {m n c : Nat} {a : Option Addr} {ps : List (Pr κ)} {M : List Nat} (hm : m ∉ M) (hb : Blk w m #[.slice a n c] TM (0, 0)) (hn : n = ps.length) (ho : Own w TP (1 + sv) a n c (pcells ps) M) (hok : OkP sv ps) (hs : Sorted ps) : MapAt TM TP sv w m ps (m :: M) := by
  subst hn; exact ⟨a, c, M, rfl, hm, hb, ho, hok, hs⟩
/-- A row in which a value was put. -/
theorem own_set {w' : World} {TP sv n c g : Nat} {cur : Array Value} {ps : List (Pr κ)} {k : κ} {v : List Value} (hn : n = ps.length) (hok : OkP sv ps) (hs : Sorted ps) (hk : hasK ps k = true) (hv : v.length = sv)
    (hnc : n ≤ c) (hcm : c ≤ maxLen) (hcs : c * (1 + sv) ≤ cur.size) (ht : cur.toList.take (n * (1 + sv)) = pcells ps)
    (hb : Blk w' g (cur.toList.take (low ps k * (1 + sv) + 1) ++ v ++ cur.toList.drop (low ps k * (1 + sv) + 1 + v.length)).toArray TP (0, 0)) : Own w' TP (1 + sv) (some ⟨g, 0, none⟩) n c (pcells (putK ps k v)) [g] := by
  have hlt := hasK_lt hk
  obtain ⟨u, hu⟩ := (hasK_iff hs).1 hk
  have hle : (low ps k + 1) * (1 + sv) ≤ n * (1 + sv) := Nat.mul_le_mul_right _ (by omega)
  rw [Nat.add_mul, Nat.one_mul] at hle
  have hnc' : n * (1 + sv) ≤ c * (1 + sv) := Nat.mul_le_mul_right _ hnc
  have hcl : cur.toList.length = cur.size := Array.length_toList
  have hset := pcells_set hok hu hv
  refine ⟨by rw [putK_yes hk, pcells_len (sv := sv) (fun q hq => by rw [← putK_yes hk] at hq; rcases (show q ∈ ps ∨ q = (k, v) by rw [putK_yes hk] at hq; exact List.mem_or_eq_of_mem_set hq) with h | rfl; exact (hok q h).1; exact hv), List.length_set, hn], .inr ⟨g, _, rfl, rfl, hb, hnc, hcm, ?_, ?_⟩⟩
  · simp only [List.size_toArray, List.length_append, List.length_take, List.length_drop, hcl]; omega
  · show List.take _ (_ ++ v ++ _) = _
    rw [putK_yes hk, ← hset, ← ht]
    have t1 : (cur.toList.take (low ps k * (1 + sv) + 1)).length = low ps k * (1 + sv) + 1 := by rw [List.length_take, hcl]; omega
    rw [List.take_take, Nat.min_eq_left (by omega), List.take_append, List.take_of_length_le (by rw [List.length_append, t1]; omega)]
    congr 1
    rw [List.length_append, t1, List.drop_take]
end
/-- One cell set in a list of cells. -/
theorem set_at {cur : Array Value} {o : Nat} {v : Value} (h : o < cur.size) : cur.setIfInBounds o v = (cur.toList.take o ++ [v] ++ cur.toList.drop (o + [v].length)).toArray := by
  apply Array.toList_inj.1
  rw [Array.toList_setIfInBounds, List.set_eq_take_append_cons_drop, if_pos (by simpa using h)]
  simp
section
variable {κ : Type} [Key κ]
/-- What an iterator over pairs yields: a number (or so) and a pair. -/
def prE (q : Nat → Option (Pr κ)) (k : Nat) (vs : List Value) (_ : World) : Prop := ∃ p v, q k = some p ∧ vs = [v, .agg (pcell p).toArray]
/-- What an iterator over an order yields: a key and a value. -/
def kvE (gv : List Value → Value) (q : Nat → Option (Pr κ)) (k : Nat) (vs : List Value) (_ : World) : Prop := ∃ p, q k = some p ∧ vs = [Key.val p.1, gv p.2]
end
theorem over_all {cs vs : Array Value} (h : cs.size = vs.size) : (cs.toList.take 0 ++ vs.toList ++ cs.toList.drop (0 + vs.size)).toArray = vs := by
  apply Array.toList_inj.1
  simp [h]
/-- Behind a walk over pairs: what the consumer keeps, and the function that is called. -/
def wkI (J : Nat → List Nat → World → Prop) (b2 TY : Nat) (y : Value) (k : Nat) (DD : List Nat) (W : World) : Prop := ∃ D, DD = b2 :: D ∧ b2 ∉ D ∧ J k D W ∧ Blk W b2 y.cells TY (0, 0)
def wkX (Jx : Nat → List Nat → World → Prop) (b2 : Nat) (c : Code) (k : Nat) (DD : List Nat) (W : World) : Prop := c = .ret ∧ ∃ D, DD = b2 :: D ∧ b2 ∉ D ∧ Jx k D W
section
variable {κ : Type} [Key κ]
end
end Brv
/-
  Orders: what is known of keys that are there; strings compared; slices of strings among the arguments.
-/
set_option linter.unusedVariables false
namespace Brv
open Go
section
variable {κ : Type} [Key κ]
end
section
variable {P : Program} {n : Fm} {ρ : Env} {w : World} {d : Nat} {ty : TypeId} {pos : String} {af : Array Edge} {gd : Option (Nat × Bool)}
end
end Brv
/-
  Orders, by definition: what the document's Put, Get, Delete and Floor come to, step by step.
-/
set_option linter.unusedVariables false
namespace Brv
open Go
section
variable {κ : Type} [Key κ]
end
end Brv
/-
  Tables by rising keys.
-/
set_option linter.unusedVariables false
set_option linter.unusedSimpArgs false
namespace Brv
open Go
section
variable {α β : Type}
def lowT (l : List (Int × α)) (k : Int) : Nat := (l.takeWhile fun p => decide (p.1 < k)).length
def hasT (l : List (Int × α)) (k : Int) : Bool := match l[lowT l k]? with
  | some p => !decide (k < p.1)
  | none => false
def putT (l : List (Int × α)) (k : Int) (v : α) : List (Int × α) := if hasT l k then l.set (lowT l k) (k, v) else l.take (lowT l k) ++ (k, v) :: l.drop (lowT l k)
def getT (l : List (Int × α)) (k : Int) : Option α := if hasT l k then (l[lowT l k]?).map Prod.snd else none
theorem lowT_eq (ps : List (Pr Int)) (k : Int) : lowT ps k = low ps k := rfl
theorem hasT_eq (ps : List (Pr Int)) (k : Int) : hasT ps k = hasK ps k := by
  unfold hasT hasK
  rw [lowT_eq]
  cases ps[low ps k]? <;> rfl
theorem putT_eq (ps : List (Pr Int)) (k : Int) (v : List Value) : putT ps k v = putK ps k v := by
  unfold putT putK
  rw [hasT_eq, lowT_eq]
theorem getT_eq (ps : List (Pr Int)) (k : Int) : getT ps k = getK ps k := by
  unfold getT getK
  rw [hasT_eq, lowT_eq]
def Srt (l : List (Int × α)) : Prop := l.Pairwise fun a b => a.1 < b.1
theorem lowT_at {l : List (Int × α)} (hs : Srt l) {i : Nat} {p : Int × α} (hp : l[i]? = some p) : lowT l p.1 = i := by
  unfold Srt at hs
  induction l generalizing i with
  | nil => simp at hp
  | cons q l ih =>
    rw [List.pairwise_cons] at hs
    unfold lowT
    cases i with
    | zero =>
      simp only [List.getElem?_cons_zero, Option.some.injEq] at hp
      subst hp
      rw [List.takeWhile_cons, if_neg (by simp)]; rfl
    | succ i =>
      simp only [List.getElem?_cons_succ] at hp
      have hlt := hs.1 p (List.mem_of_getElem? hp)
      have := ih hs.2 hp
      unfold lowT at this
      rw [List.takeWhile_cons, if_pos (by simpa using hlt), List.length_cons, this]
theorem hasT_at {l : List (Int × α)} (hs : Srt l) {i : Nat} {p : Int × α} (hp : l[i]? = some p) : hasT l p.1 = true := by
  unfold hasT; rw [lowT_at hs hp, hp]; simp
theorem getT_at {l : List (Int × α)} (hs : Srt l) {i : Nat} {p : Int × α} (hp : l[i]? = some p) : getT l p.1 = some p.2 := by
  unfold getT; rw [hasT_at hs hp, lowT_at hs hp, hp]; rfl
theorem hasT_mem {l : List (Int × α)} {k : Int} (h : hasT l k = true) : ∃ p, l[lowT l k]? = some p ∧ p.1 = k := by
  unfold hasT at h
  cases hl : l[lowT l k]? with
  | none => rw [hl] at h; cases h
  | some p =>
    rw [hl] at h
    refine ⟨p, rfl, ?_⟩
    have h1 : ¬ k < p.1 := by simpa using h
    have h2 : ¬ p.1 < k := by
      unfold lowT at hl
      clear h h1
      induction l with
      | nil => simp at hl
      | cons q l ih =>
        rw [List.takeWhile_cons] at hl
        split at hl
        · exact ih (by simpa using hl)
        · rename_i hq
          simp only [List.length_nil, List.getElem?_cons_zero, Option.some.injEq] at hl
          subst hl; simpa using hq
    omega
theorem getT_some {l : List (Int × α)} {k : Int} {v : α} (h : getT l k = some v) : (k, v) ∈ l := by
  unfold getT at h
  split at h
  · rename_i hh
    obtain ⟨p, hp, e⟩ := hasT_mem hh
    rw [hp] at h
    obtain ⟨a, b⟩ := p
    simp only [Option.map_some, Option.some.injEq] at h
    cases h; cases e
    exact List.mem_of_getElem? hp
  · cases h
/-- What is merged of writes. -/
theorem lowT_cons (p : Int × α) (l : List (Int × α)) (k : Int) : lowT (p :: l) k = if p.1 < k then lowT l k + 1 else 0 := by
  unfold lowT
  rw [List.takeWhile_cons]
  by_cases h : p.1 < k
  · rw [if_pos h, if_pos (by simpa using h)]; rfl
  · rw [if_neg h, if_neg (by simpa using h)]; rfl
theorem hasT_cons (p : Int × α) (l : List (Int × α)) (k : Int) : hasT (p :: l) k = if p.1 < k then hasT l k else !decide (k < p.1) := by
  unfold hasT
  rw [lowT_cons]
  by_cases h : p.1 < k
  · rw [if_pos h, if_pos h, List.getElem?_cons_succ]
  · rw [if_neg h, if_neg h]; rfl
def insT (k : Int) (v : α) : List (Int × α) → List (Int × α)
  | [] => [(k, v)]
  | p :: l => if p.1 < k then p :: insT k v l else if k < p.1 then (k, v) :: p :: l else (k, v) :: l
theorem putT_ins (l : List (Int × α)) (k : Int) (v : α) : putT l k v = insT k v l := by
  induction l with
  | nil => rfl
  | cons p l ih =>
    unfold putT at ih ⊢
    rw [hasT_cons, lowT_cons, insT]
    by_cases h : p.1 < k
    · rw [if_pos h, if_pos h, if_pos h, ← ih]
      by_cases h2 : hasT l k = true
      · rw [if_pos h2, if_pos h2]; rfl
      · rw [if_neg h2, if_neg h2]; rfl
    · rw [if_neg h, if_neg h, if_neg h]
      by_cases h2 : k < p.1
      · rw [if_pos h2]; simp [h2]
      · rw [if_neg h2]; simp [h2]
theorem mem_ins {l : List (Int × α)} (hs : Srt l) {k : Int} {v : α} {q : Int × α} : q ∈ insT k v l ↔ q = (k, v) ∨ (q ∈ l ∧ q.1 ≠ k) := by
  unfold Srt at hs
  induction l with
  | nil => simp [insT]
  | cons p l ih =>
    rw [List.pairwise_cons] at hs
    rw [insT]
    by_cases h : p.1 < k
    · rw [if_pos h, List.mem_cons, ih hs.2, List.mem_cons]
      constructor
      · rintro (rfl | rfl | ⟨h1, h2⟩)
        · exact .inr ⟨.inl rfl, by omega⟩
        · exact .inl rfl
        · exact .inr ⟨.inr h1, h2⟩
      · rintro (rfl | ⟨rfl | h1, h2⟩)
        · exact .inr (.inl rfl)
        · exact .inl rfl
        · exact .inr (.inr ⟨h1, h2⟩)
    · rw [if_neg h]
      by_cases h2 : k < p.1
      · rw [if_pos h2, List.mem_cons]
        constructor
        · rintro (rfl | h1)
          · exact .inl rfl
          · refine .inr ⟨h1, ?_⟩
            rcases List.mem_cons.1 h1 with rfl | h1
            · omega
            · have := hs.1 q h1; omega
        · rintro (rfl | ⟨h1, _⟩)
          · exact .inl rfl
          · exact .inr h1
      · rw [if_neg h2, List.mem_cons]
        constructor
        · rintro (rfl | h1)
          · exact .inl rfl
          · exact .inr ⟨List.mem_cons_of_mem _ h1, by have := hs.1 q h1; omega⟩
        · rintro (rfl | ⟨h1, h3⟩)
          · exact .inl rfl
          · rcases List.mem_cons.1 h1 with rfl | h1
            · omega
            · exact .inr h1
theorem srt_ins {l : List (Int × α)} (hs : Srt l) (k : Int) (v : α) : Srt (insT k v l) := by
  have hs0 := hs
  unfold Srt at hs ⊢
  induction l with
  | nil => simp [insT]
  | cons p l ih =>
    rw [List.pairwise_cons] at hs
    rw [insT]
    by_cases h : p.1 < k
    · rw [if_pos h, List.pairwise_cons]
      refine ⟨fun q hq => ?_, ih hs.2 hs.2⟩
      rcases (mem_ins hs.2).1 hq with rfl | ⟨h1, _⟩
      · exact h
      · exact hs.1 q h1
    · rw [if_neg h]
      by_cases h2 : k < p.1
      · rw [if_pos h2, List.pairwise_cons, List.pairwise_cons]
        refine ⟨fun q hq => ?_, hs⟩
        rcases List.mem_cons.1 hq with rfl | hq
        · exact h2
        · have := hs.1 q hq; show k < q.1; omega
      · rw [if_neg h2, List.pairwise_cons]
        exact ⟨fun q hq => by have := hs.1 q hq; show k < q.1; omega, hs.2⟩
theorem srt_put {l : List (Int × α)} (hs : Srt l) (k : Int) (v : α) : Srt (putT l k v) := by rw [putT_ins]; exact srt_ins hs k v
theorem mem_put2 {l : List (Int × α)} (hs : Srt l) {k : Int} {v : α} {q : Int × α} : q ∈ putT l k v ↔ q = (k, v) ∨ (q ∈ l ∧ q.1 ≠ k) := by rw [putT_ins]; exact mem_ins hs
theorem getT_iff {l : List (Int × α)} (hs : Srt l) {k : Int} {v : α} : getT l k = some v ↔ (k, v) ∈ l :=
  ⟨getT_some, fun h => let ⟨i, hi⟩ := List.getElem?_of_mem h; getT_at hs hi⟩
theorem getT_put {l : List (Int × α)} (hs : Srt l) (k : Int) (v : α) (j : Int) : getT (putT l k v) j = if j = k then some v else getT l j := by
  refine Option.ext fun a => ?_
  rw [getT_iff (srt_put hs k v), mem_put2 hs]
  by_cases h : j = k
  · subst h
    rw [if_pos rfl]
    constructor
    · rintro (h | ⟨_, h⟩)
      · cases h; rfl
      · exact (h rfl).elim
    · intro h; cases h; exact .inl rfl
  · rw [if_neg h, getT_iff hs]
    constructor
    · rintro (h1 | ⟨h1, _⟩)
      · cases h1; exact (h rfl).elim
      · exact h1
    · exact fun h1 => .inr ⟨h1, h⟩
end
end Brv
/-
  Plain laws on package stats: what is added up by keys.
-/
set_option linter.unusedVariables false
set_option linter.unusedSimpArgs false
namespace Brv.Stats
open Go Brv
def wr (x : Int) : Int := IntKind.i64.wrap x
theorem wr_eq (x : Int) : wr x = (x + 9223372036854775808) % 18446744073709551616 - 9223372036854775808 := by
  unfold wr
  simp only [IntKind.wrap, IntKind.bits, IntKind.signed]
  simp
  omega
theorem wr_l (x y : Int) : wr (wr x + y) = wr (x + y) := by simp only [wr_eq]; omega
theorem wr_r (x y : Int) : wr (x + wr y) = wr (x + y) := by simp only [wr_eq]; omega
theorem wr_w (x : Int) : wr (wr x) = wr x := by simp only [wr_eq]; omega
abbrev V3 := Int × Int × Int
def addV (u v : V3) : V3 := (wr (u.1 + v.1), wr (u.2.1 + v.2.1), wr (u.2.2 + v.2.2))
def zV : V3 := (0, 0, 0)
def stepT (T : List (Int × V3)) (r : Int × V3) : List (Int × V3) := putT T r.1 (addV ((getT T r.1).getD zV) r.2)
def accT (T rows : List (Int × V3)) : List (Int × V3) := rows.foldl stepT T
theorem accT_snoc (T rows : List (Int × V3)) (r : Int × V3) : accT T (rows ++ [r]) = stepT (accT T rows) r := by simp [accT]
theorem accT_take {T rows : List (Int × V3)} {k : Nat} {r : Int × V3} (h : rows[k]? = some r) : accT T (rows.take (k + 1)) = stepT (accT T (rows.take k)) r := by
  rw [List.take_add_one, h]; exact accT_snoc _ _ _
def sumS (k : Int) (o : Option V3) (r : Int × V3) : Option V3 := if r.1 = k then some (addV (o.getD zV) r.2) else o
def sumK (k : Int) (rows : List (Int × V3)) (o : Option V3) : Option V3 := rows.foldl (sumS k) o
theorem accT_srt {rows : List (Int × V3)} : ∀ {T : List (Int × V3)}, Srt T → Srt (accT T rows) := by
  induction rows with
  | nil => exact fun h => h
  | cons r rows ih => exact fun h => ih (srt_put h _ _)
theorem accT_get (k : Int) {rows : List (Int × V3)} : ∀ {T : List (Int × V3)}, Srt T → getT (accT T rows) k = sumK k rows (getT T k) := by
  induction rows with
  | nil => exact fun h => rfl
  | cons r rows ih =>
    intro T h
    show getT (accT (stepT T r) rows) k = sumK k rows (sumS k (getT T k) r)
    rw [ih (T := stepT T r) (srt_put h _ _)]
    congr 1
    unfold stepT sumS
    rw [getT_put h]
    by_cases e : k = r.1
    · subst e; simp
    · rw [if_neg e, if_neg (fun h => e h.symm)]
theorem putT_len3 {α : Type} (l : List (Int × α)) (k : Int) (v : α) : (putT l k v).length ≤ l.length + 1 := by
  unfold putT
  split
  · rw [List.length_set]; omega
  · rw [List.length_append, List.length_cons, List.length_take, List.length_drop]; omega
theorem accT_len {rows : List (Int × V3)} : ∀ {T : List (Int × V3)}, (accT T rows).length ≤ T.length + rows.length := by
  induction rows with
  | nil => intro T; exact Nat.le_refl _
  | cons r rows ih =>
    intro T
    have h1 := ih (T := stepT T r)
    have h2 : (stepT T r).length ≤ T.length + 1 := putT_len3 _ _ _
    show (accT (stepT T r) rows).length ≤ _
    rw [List.length_cons]; omega
end Brv.Stats
/-
  Assertions that own blocks, apart from one another, and what they say of a world.
-/
set_option linter.unusedVariables false
set_option linter.unusedSimpArgs false
namespace Brv
open Go

def Apart (X Y : List Nat) : Prop := ∀ b ∈ X, b ∉ Y
theorem Apart.symm {X Y : List Nat} (h : Apart X Y) : Apart Y X := fun b hb hx => h b hx hb
theorem Apart.nilL (Y : List Nat) : Apart [] Y := fun _ h => by cases h
theorem Apart.nilR (X : List Nat) : Apart X [] := fun _ _ h => by cases h
theorem Apart.mono {X Y X' Y' : List Nat} (h : Apart X Y) (hx : X' ⊆ X) (hy : Y' ⊆ Y) : Apart X' Y' := fun b hb hb' => h b (hx hb) (hy hb')
theorem Apart.appL {X Y Z : List Nat} (h : Apart X Z) (k : Apart Y Z) : Apart (X ++ Y) Z := fun b hb => (List.mem_append.1 hb).elim (h b) (k b)
theorem Apart.appR {X Y Z : List Nat} (h : Apart X Y) (k : Apart X Z) : Apart X (Y ++ Z) := (h.symm.appL k.symm).symm

/-- An assertion: what it says, of the blocks that it owns and of those that it shares. -/
structure Asn where
  P : List Nat → List Nat → World → Prop
  ext : ∀ F S M w w', P F S w → Ext M w w' → Apart F M → Apart S M → P F S w'
/-- An assertion that owns nothing. -/
class Pers (A : Asn) : Prop where
  h : ∀ F S w, A.P F S w → A.P [] S w

def Sep : List Asn → List Nat → List Nat → World → Prop
  | [], _, _, _ => True
  | A :: H, F, S, w => ∃ F1 S1 F2 S2, (F1 ⊆ F ∧ F2 ⊆ F ∧ S1 ⊆ S ∧ S2 ⊆ S) ∧ (Apart F1 F2 ∧ Apart F1 S2 ∧ Apart S1 F2) ∧ A.P F1 S1 w ∧ Sep H F2 S2 w

theorem subL {X Y Z : List Nat} (h : X ⊆ Z) (k : Y ⊆ Z) : X ++ Y ⊆ Z := fun b hb => (List.mem_append.1 hb).elim (fun x => h x) (fun x => k x)
theorem inL (X Y : List Nat) : X ⊆ X ++ Y := fun _ h => List.mem_append_left _ h
theorem inR (X Y : List Nat) : Y ⊆ X ++ Y := fun _ h => List.mem_append_right _ h
theorem subT {X Y Z : List Nat} (h : X ⊆ Y) (k : Y ⊆ Z) : X ⊆ Z := fun _ hb => k (h hb)
theorem subR (X : List Nat) : X ⊆ X := fun _ h => h

theorem Sep.mono {H : List Asn} {F S F' S' : List Nat} {w : World} (h : Sep H F S w) (hf : F ⊆ F') (hs : S ⊆ S') : Sep H F' S' w := by
  cases H with
  | nil => trivial
  | cons A H =>
    obtain ⟨F1, S1, F2, S2, ⟨a, b, c, d⟩, hd, hA, hH⟩ := h
    exact ⟨F1, S1, F2, S2, ⟨subT a hf, subT b hf, subT c hs, subT d hs⟩, hd, hA, hH⟩
theorem Sep.ext : ∀ {H : List Asn} {F S M : List Nat} {w w' : World}, Sep H F S w → Ext M w w' → Apart F M → Apart S M → Sep H F S w'
  | [], _, _, _, _, _, _, _, _, _ => trivial
  | A :: H, F, S, M, w, w', ⟨F1, S1, F2, S2, ⟨a, b, c, d⟩, hd, hA, hH⟩, he, hF, hS =>
    ⟨F1, S1, F2, S2, ⟨a, b, c, d⟩, hd, A.ext _ _ _ _ _ hA he (hF.mono a (subR _)) (hS.mono c (subR _)), Sep.ext hH he (hF.mono b (subR _)) (hS.mono d (subR _))⟩
theorem Sep.swap {A B : Asn} {H : List Asn} {F S : List Nat} {w : World} (h : Sep (A :: B :: H) F S w) : Sep (B :: A :: H) F S w := by
  obtain ⟨F1, S1, F2, S2, ⟨a, b, c, d⟩, ⟨p, q, r⟩, hA, F3, S3, F4, S4, ⟨a', b', c', d'⟩, ⟨p', q', r'⟩, hB, hH⟩ := h
  refine ⟨F3, S3, F1 ++ F4, S1 ++ S4, ⟨subT a' b, subL a (subT b' b), subT c' d, subL c (subT d' d)⟩, ⟨?_, ?_, ?_⟩, hB, F1, S1, F4, S4, ⟨inL _ _, inR _ _, inL _ _, inR _ _⟩, ⟨?_, ?_, ?_⟩, hA, hH⟩
  · exact Apart.appR (p.mono (subR _) a').symm p'
  · exact Apart.appR (r.mono (subR _) a').symm q'
  · exact Apart.appR (q.mono (subR _) c').symm r'
  · exact p.mono (subR _) b'
  · exact q.mono (subR _) d'
  · exact r.mono (subR _) b'
theorem Sep.dup {A : Asn} [t : Pers A] {H : List Asn} {F S : List Nat} {w : World} (h : Sep (A :: H) F S w) : Sep (A :: A :: H) F S w := by
  obtain ⟨F1, S1, F2, S2, ⟨a, b, c, d⟩, ⟨p, q, r⟩, hA, hH⟩ := h
  have hA' := t.h _ _ _ hA
  exact ⟨[], S1, F2, S1 ++ S2, ⟨by simp, b, c, subL c d⟩, ⟨Apart.nilL _, Apart.nilL _, r⟩, hA', [], S1, F2, S2, ⟨by simp, subR _, inL _ _, inR _ _⟩, ⟨Apart.nilL _, Apart.nilL _, r⟩, hA', hH⟩

/-- An assertion out of a list, and what is left. One that owns nothing stays. -/
inductive Sel : List Asn → Asn → List Asn → Prop
  | keep {A : Asn} {H : List Asn} [Pers A] : Sel (A :: H) A (A :: H)
  | here {A : Asn} {H : List Asn} : Sel (A :: H) A H
  | there {A B : Asn} {H H' : List Asn} : Sel H A H' → Sel (B :: H) A (B :: H')
inductive Sels : List Asn → List Asn → List Asn → Prop
  | nil {H : List Asn} : Sels H [] H
  | cons {A : Asn} {H H' H0 H1 : List Asn} : Sel H A H' → Sels H' H0 H1 → Sels H (A :: H0) H1
theorem Sel.sep {H : List Asn} {A : Asn} {H' : List Asn} (h : Sel H A H') : ∀ {F S : List Nat} {w : World}, Sep H F S w → Sep (A :: H') F S w := by
  induction h with
  | keep => exact fun h => h.dup
  | here => exact fun h => h
  | there _ ih =>
    rintro F S w ⟨F1, S1, F2, S2, hs, hd, hB, hH⟩
    exact Sep.swap ⟨F1, S1, F2, S2, hs, hd, hB, ih hH⟩
/-- Two lists, apart. -/
def Sep2 (H0 H1 : List Asn) (F S : List Nat) (w : World) : Prop := ∃ F1 S1 F2 S2, (F1 ⊆ F ∧ F2 ⊆ F ∧ S1 ⊆ S ∧ S2 ⊆ S) ∧ (Apart F1 F2 ∧ Apart F1 S2 ∧ Apart S1 F2) ∧ Sep H0 F1 S1 w ∧ Sep H1 F2 S2 w
theorem Sels.split {H H0 H1 : List Asn} (h : Sels H H0 H1) : ∀ {F S : List Nat} {w : World}, Sep H F S w → Sep2 H0 H1 F S w := by
  induction h with
  | nil => exact fun {F S w} h => ⟨[], [], F, S, ⟨by simp, subR _, by simp, subR _⟩, ⟨Apart.nilL _, Apart.nilL _, Apart.nilL _⟩, trivial, h⟩
  | cons h _ ih =>
    intro F S w hs
    obtain ⟨F1, S1, F2, S2, ⟨a, b, c, d⟩, ⟨p, q, r⟩, hA, hH⟩ := h.sep hs
    obtain ⟨F3, S3, F4, S4, ⟨a', b', c', d'⟩, ⟨p', q', r'⟩, h0, h1⟩ := ih hH
    refine ⟨F1 ++ F3, S1 ++ S3, F4, S4, ⟨subL a (subT a' b), subT b' b, subL c (subT c' d), subT d' d⟩, ⟨?_, ?_, ?_⟩, ⟨F1, S1, F3, S3, ⟨inL _ _, inR _ _, inL _ _, inR _ _⟩, ⟨p.mono (subR _) a', q.mono (subR _) c', r.mono (subR _) a'⟩, hA, h0⟩, h1⟩
    · exact Apart.appL (p.mono (subR _) b') p'
    · exact Apart.appL (q.mono (subR _) d') q'
    · exact Apart.appL (r.mono (subR _) b') r'
theorem Sep.join : ∀ {H0 H1 : List Asn} {F S : List Nat} {w : World}, Sep2 H0 H1 F S w → Sep (H0 ++ H1) F S w
  | [], H1, F, S, w, ⟨F1, S1, F2, S2, ⟨_, b, _, d⟩, _, _, h1⟩ => h1.mono b d
  | A :: H0, H1, F, S, w, ⟨F1, S1, F2, S2, ⟨a, b, c, d⟩, ⟨p, q, r⟩, ⟨F3, S3, F4, S4, ⟨a', b', c', d'⟩, ⟨p', q', r'⟩, hA, h0⟩, h1⟩ =>
    ⟨F3, S3, F4 ++ F2, S4 ++ S2, ⟨subT a' a, subL (subT b' a) b, subT c' c, subL (subT d' c) d⟩,
      ⟨Apart.appR p' (p.mono a' (subR _)), Apart.appR q' (q.mono a' (subR _)), Apart.appR r' (r.mono c' (subR _))⟩, hA,
      Sep.join ⟨F4, S4, F2, S2, ⟨inL _ _, inR _ _, inL _ _, inR _ _⟩, ⟨p.mono b' (subR _), q.mono b' (subR _), r.mono d' (subR _)⟩, h0, h1⟩⟩
theorem Sels.all : ∀ (H : List Asn), Sels H H []
  | [] => .nil
  | _ :: H => .cons .here (Sels.all H)

/-- A world, of which a list of assertions holds. -/
structure St (H : List Asn) (F S : List Nat) (w : World) : Prop where
  sep : Sep H F S w
  ltF : ∀ b ∈ F, b < w.heap.size
  ltS : ∀ b ∈ S, b < w.heap.size
/-- Where a piece of code began. -/
structure Org where
  w : World
  F : List Nat
  S : List Nat
structure From (o : Org) (w : World) (F S : List Nat) : Prop where
  ext : Ext o.F o.w w
  fF : ∀ b ∈ F, b ∈ o.F ∨ o.w.heap.size ≤ b
  fS : ∀ b ∈ S, b ∈ o.S ∨ b ∈ o.F ∨ o.w.heap.size ≤ b
theorem From.refl (w : World) (F S : List Nat) : From ⟨w, F, S⟩ w F S := ⟨Ext.refl _ _, fun _ h => .inl h, fun _ h => .inl h⟩
theorem From.trans {o : Org} {w w' : World} {F S F' S' : List Nat} (h : From o w F S) (k : From ⟨w, F, S⟩ w' F' S') : From o w' F' S' :=
  ⟨h.ext.transN k.ext h.fF, fun b hb => (k.fF b hb).elim (h.fF b) (fun q => .inr (Nat.le_trans h.ext.size q)),
   fun b hb => (k.fS b hb).elim (h.fS b) (fun q => q.elim (fun q => .inr (h.fF b q)) (fun q => .inr (.inr (Nat.le_trans h.ext.size q))))⟩
theorem From.sub {o : Org} {w : World} {F S F' S' : List Nat} (h : From o w F S) (hf : F' ⊆ F) (hs : S' ⊆ S) : From o w F' S' := ⟨h.ext, fun b hb => h.fF b (hf hb), fun b hb => h.fS b (hs hb)⟩
def PostS (o : Org) (Φ : Value → List Asn → Prop) (v : Value) (w' : World) : Prop := ∃ H' F' S', Φ v H' ∧ St H' F' S' w' ∧ From o w' F' S'
theorem PostS.mono {o : Org} {Φ Φ' : Value → List Asn → Prop} {v : Value} {w' : World} (h : PostS o Φ v w') (hm : ∀ v H, Φ v H → Φ' v H) : PostS o Φ' v w' := let ⟨H, F, S, a, b, c⟩ := h; ⟨H, F, S, hm _ _ a, b, c⟩

theorem St.take {H H0 H1 : List Asn} {F S : List Nat} {w : World} (s : St H F S w) (h : Sels H H0 H1) :
    ∃ F1 S1, St H0 F1 S1 w ∧ ∀ H' w' F' S', St H' F' S' w' → From ⟨w, F1, S1⟩ w' F' S' → ∃ F'' S'', St (H' ++ H1) F'' S'' w' ∧ From ⟨w, F, S⟩ w' F'' S'' := by
  obtain ⟨F1, S1, F2, S2, ⟨a, b, c, d⟩, ⟨p, q, r⟩, h0, h1⟩ := h.split s.sep
  refine ⟨F1, S1, ⟨h0, fun x hx => s.ltF x (a hx), fun x hx => s.ltS x (c hx)⟩, ?_⟩
  intro H' w' F' S' s' f
  have hsz := f.ext.size
  have h1' := h1.ext f.ext p.symm q.symm
  refine ⟨F' ++ F2, S' ++ S2, ⟨Sep.join ⟨F', S', F2, S2, ⟨inL _ _, inR _ _, inL _ _, inR _ _⟩, ⟨?_, ?_, ?_⟩, s'.sep, h1'⟩, ?_, ?_⟩, ⟨?_, ?_, ?_⟩⟩
  · intro x hx hx2
    exact (f.fF x hx).elim (fun h => p x h hx2) (fun h => by have := s.ltF x (b hx2); simp only at h; omega)
  · intro x hx hx2
    exact (f.fF x hx).elim (fun h => q x h hx2) (fun h => by have := s.ltS x (d hx2); simp only at h; omega)
  · intro x hx hx2
    exact (f.fS x hx).elim (fun h => r x h hx2) (fun h => h.elim (fun h => p x h hx2) (fun h => by have := s.ltF x (b hx2); simp only at h; omega))
  · intro x hx
    exact (List.mem_append.1 hx).elim (s'.ltF x) (fun h => Nat.lt_of_lt_of_le (s.ltF x (b h)) hsz)
  · intro x hx
    exact (List.mem_append.1 hx).elim (s'.ltS x) (fun h => Nat.lt_of_lt_of_le (s.ltS x (d h)) hsz)
  · exact f.ext.mono (fun x hx => .inl (a hx))
  · intro x hx
    exact (List.mem_append.1 hx).elim (fun h => (f.fF x h).elim (fun h => .inl (a h)) .inr) (fun h => .inl (b h))
  · intro x hx
    exact (List.mem_append.1 hx).elim (fun h => (f.fS x h).elim (fun h => .inl (c h)) (fun h => h.elim (fun h => .inr (.inl (a h))) (fun h => .inr (.inr h)))) (fun h => .inl (d h))
theorem St.sels {H H0 H1 : List Asn} {F S : List Nat} {w : World} (s : St H F S w) (h : Sels H H0 H1) : ∃ F1 S1, (F1 ⊆ F ∧ S1 ⊆ S) ∧ St H0 F1 S1 w := by
  obtain ⟨F1, S1, F2, S2, ⟨a, b, c, d⟩, _, h0, _⟩ := h.split s.sep
  exact ⟨F1, S1, ⟨a, c⟩, h0, fun x hx => s.ltF x (a hx), fun x hx => s.ltS x (c hx)⟩
theorem St.sel {H H' : List Asn} {A : Asn} {F S : List Nat} {w : World} (s : St H F S w) (h : Sel H A H') : ∃ F1 S1, (F1 ⊆ F ∧ S1 ⊆ S) ∧ A.P F1 S1 w := by
  obtain ⟨F1, S1, F2, S2, ⟨a, b, c, d⟩, _, hA, _⟩ := h.sep s.sep
  exact ⟨F1, S1, ⟨a, c⟩, hA⟩
/-- A list that follows. -/
def Imp (H H' : List Asn) : Prop := ∀ F S w, St H F S w → ∃ F' S', St H' F' S' w ∧ From ⟨w, F, S⟩ w F' S'
theorem Imp.refl (H : List Asn) : Imp H H := fun F S w h => ⟨F, S, h, From.refl _ _ _⟩
theorem Imp.trans {H H' H'' : List Asn} (h : Imp H H') (k : Imp H' H'') : Imp H H'' := fun F S w s =>
  let ⟨F', S', s', f'⟩ := h F S w s
  let ⟨F'', S'', s'', f''⟩ := k F' S' w s'
  ⟨F'', S'', s'', f'.trans f''⟩
theorem Imp.sels {H H0 H1 : List Asn} (h : Sels H H0 H1) : Imp H H0 := fun F S w s =>
  let ⟨F1, S1, hs, s1⟩ := s.sels h
  ⟨F1, S1, s1, (From.refl w F S).sub hs.1 hs.2⟩
theorem Imp.at {H H' : List Asn} {F S : List Nat} {w : World} {o : Org} (h : Imp H H') (s : St H F S w) (f : From o w F S) : ∃ F' S', St H' F' S' w ∧ From o w F' S' :=
  let ⟨F', S', s', f'⟩ := h F S w s
  ⟨F', S', s', f.trans f'⟩
/-- What holds of any world that keeps the shared blocks. -/
def sh (p : World → Prop) : Asn where
  P := fun _ S w => ∀ M w', Ext M w w' → Apart S M → p w'
  ext := fun F S M w w' h he _ hS M' w'' he' hS' => h (M ++ M') w'' ((he.mono (fun x hx => .inl (List.mem_append_left _ hx))).transN he' (fun x hx => .inl (List.mem_append_right _ hx))) (Apart.appR hS hS')
instance instPersSh (p : World → Prop) : Pers (sh p) := ⟨fun _ _ _ h => h⟩
theorem St.sh {H H' : List Asn} {p : World → Prop} {F S : List Nat} {w : World} (s : St H F S w) (h : Sel H (sh p) H') : p w := by
  obtain ⟨F1, S1, _, hA⟩ := s.sel h
  exact hA [] w (Ext.refl _ _) (Apart.nilR _)
/-- What was true of the old blocks. -/
theorem sh_old {p : World → Prop} {w : World} (h : ∀ w', Ext [] w w' → p w') (F : List Nat) : (sh p).P F (List.range w.heap.size) w := fun M w' he hM =>
  h w' (he.mono (fun x hx => by
    rcases Nat.lt_or_ge x w.heap.size with hlt | hge
    · exact absurd hx (hM x (List.mem_range.2 hlt))
    · exact .inr hge))
/-- A block of its own. -/
def blk (b : Nat) (cs : List Value) (T : TypeId) : Asn where
  P := fun F _ w => F = [b] ∧ Blk w b cs.toArray T (0, 0)
  ext := fun F S M w w' h he hF _ => ⟨h.1, h.2.ext he (hF b (by rw [h.1]; simp))⟩
theorem St.blk {H H' : List Asn} {b : Nat} {cs : List Value} {T : TypeId} {F S : List Nat} {w : World} (s : St H F S w) (h : Sel H (blk b cs T) H') : Blk w b cs.toArray T (0, 0) := (s.sel h).elim fun _ h => h.elim fun _ h => h.2.2
/-- A row that a slice owns. -/
def own (E size : Nat) (a : Option Addr) (n c : Nat) (xs : List Value) : Asn where
  P := fun F _ w => Own w E size a n c xs F
  ext := fun F S M w w' h he hF _ => h.ext he hF
theorem St.own {H H' : List Asn} {E size : Nat} {a : Option Addr} {n c : Nat} {xs : List Value} {F S : List Nat} {w : World} (s : St H F S w) (h : Sel H (own E size a n c xs) H') : ∃ M, Own w E size a n c xs M := (s.sel h).elim fun F1 h => h.elim fun _ h => ⟨F1, h.2⟩
theorem St.ownC {H H' : List Asn} {E size : Nat} {a : Option Addr} {n c : Nat} {xs : List Value} {F S : List Nat} {w : World} (s : St H F S w) (h : Sel H (Brv.own E size a n c xs) H') : Cells w a xs := (s.own h).elim fun _ h => h.cells
/-- One assertion is told otherwise: (it may give up blocks to be shared). -/
theorem Imp.turn {H H' : List Asn} {A B : Asn} (h : Sel H A H') (hp : ∀ F S w, A.P F S w → ∃ F' S', B.P F' S' w ∧ F' ⊆ F ∧ S' ⊆ F ++ S ∧ Apart F' S' ∨ B.P F S w) : Imp H (B :: H') := fun F S w s => by
  obtain ⟨F1, S1, F2, S2, ⟨a, b, c, d⟩, ⟨p, q, r⟩, hA, hH⟩ := h.sep s.sep
  rcases hp _ _ _ hA with ⟨F', S', ⟨hB, hF, hS, _⟩ | hB⟩
  · refine ⟨F' ++ F2, S' ++ S2, ⟨⟨F', S', F2, S2, ⟨inL _ _, inR _ _, inL _ _, inR _ _⟩, ⟨p.mono hF (subR _), q.mono hF (subR _), fun x hx => (List.mem_append.1 (hS hx)).elim (p x) (r x)⟩, hB, hH⟩, ?_, ?_⟩, ⟨Ext.refl _ _, ?_, ?_⟩⟩
    · intro x hx
      exact (List.mem_append.1 hx).elim (fun h => s.ltF x (a (hF h))) (fun h => s.ltF x (b h))
    · intro x hx
      exact (List.mem_append.1 hx).elim (fun h => (List.mem_append.1 (hS h)).elim (fun h => s.ltF x (a h)) (fun h => s.ltS x (c h))) (fun h => s.ltS x (d h))
    · intro x hx
      exact .inl ((List.mem_append.1 hx).elim (fun h => a (hF h)) (fun h => b h))
    · intro x hx
      exact (List.mem_append.1 hx).elim (fun h => (List.mem_append.1 (hS h)).elim (fun h => .inr (.inl (a h))) (fun h => .inl (c h))) (fun h => .inl (d h))
  · exact ⟨F, S, ⟨⟨F1, S1, F2, S2, ⟨a, b, c, d⟩, ⟨p, q, r⟩, hB, hH⟩, s.ltF, s.ltS⟩, From.refl _ _ _⟩
/-- Frozen: it is only read from here on. -/
theorem Imp.freeze {H H' : List Asn} {A : Asn} {p : World → Prop} (h : Sel H A H') (hp : ∀ F S w, A.P F S w → p w) : Imp H (Brv.sh p :: H') :=
  Imp.turn h fun F S w hA => ⟨[], F ++ S, .inl ⟨fun M w' he hS => hp F S w' (A.ext _ _ _ _ _ hA he (hS.mono (inL _ _) (subR _)) (hS.mono (inR _ _) (subR _))), by simp, subR _, Apart.nilL _⟩⟩
theorem Imp.weak {H H' : List Asn} {p q : World → Prop} (h : Sel H (Brv.sh p) H') (hp : ∀ w, p w → q w) : Imp H (Brv.sh q :: H') :=
  Imp.turn h fun F S w hA => ⟨F, S, .inr (fun M w' he hS => hp _ (hA M w' he hS))⟩
theorem Imp.same {H H' : List Asn} {A B : Asn} (h : Sel H A H') (hp : ∀ F S w, A.P F S w → B.P F S w) : Imp H (B :: H') :=
  Imp.turn h fun F S w hA => ⟨F, S, .inr (hp F S w hA)⟩

/-! ## What an operation does -/
section
variable (P : Program) (n : Fm)
/-- The operation runs, or calls a function that returns, and Φ holds of what it gives. -/
def Acts (ρ : Env) (w : World) (o : Oper) (Φ : Value → World → Prop) : Prop :=
  (∃ v w', Runs P n ρ w o v w' ∧ Φ v w') ∨ (o.dst = none ∧ ∃ w', (∀ a, Fr n ρ a → (execOp a.eval o).run P w = .ok .skip w') ∧ Φ undef w') ∨
  (∃ f vs, (∀ a, Fr n ρ a → (execOp a.eval o).run P w = .ok (.enter f vs) w) ∧ Calls P f vs w (Ret Φ)) ∨
  (∃ l fn tmps assign body, (∀ a, Fr n ρ a → (execOp a.eval o).run P w = .ok (.round l fn tmps assign body) w) ∧ RoundIn Fence.wide 0 P l fn tmps assign body w (Ret Φ))
/-- One step of code, from one list of assertions to another one. -/
def CS (o : Org) (ρ : Env) (H : List Asn) (op : Oper) (Ψ : Value → List Asn → Prop) : Prop := ∀ w F S, St H F S w → From o w F S → Acts P n ρ w op (PostS o Ψ)
end
section
variable {P : Program} {n : Fm}
theorem Ret.mono {Φ Φ' : Value → World → Prop} (hm : ∀ v w', Φ v w' → Φ' v w') (e : Ending) (w : World) (h : Ret Φ e w) : Ret Φ' e w := by
  cases e <;> first | exact hm _ _ h | exact h
theorem Acts.mono {ρ : Env} {w : World} {o : Oper} {Φ Φ' : Value → World → Prop} (h : Acts P n ρ w o Φ) (hm : ∀ v w', Φ v w' → Φ' v w') : Acts P n ρ w o Φ' := by
  rcases h with ⟨v, w', h, k⟩ | ⟨hd, w', h, k⟩ | ⟨f, vs, h, k⟩ | ⟨l, fn, tmps, asv, body, h, k⟩
  · exact .inl ⟨v, w', h, hm _ _ k⟩
  · exact .inr (.inl ⟨hd, w', h, hm _ _ k⟩)
  · exact .inr (.inr (.inl ⟨f, vs, h, Calls.mono k (Ret.mono hm)⟩))
  · exact .inr (.inr (.inr ⟨l, fn, tmps, asv, body, h, RoundIn.mono k (Ret.mono hm)⟩))
theorem Acts.wp {ρ : Env} {w : World} {o : Oper} {Φ : Value → World → Prop} {Q : Exit → Act → World → Prop} (h : Acts P n ρ w o Φ) (hdf : isDefer o.op = false) {a a₀ : Act} (ha : Fr n ρ a₀) (he : execOp a.eval o = execOp a₀.eval o) :
    o.wpIn (fen n.ro) 0 P a w (fun a' w' => ∃ v, a' = a.put o.dst v ∧ Φ v w') Q := by
  have hcg : ∀ {r}, (execOp a₀.eval o).run P w = r → (execOp a.eval o).run P w = r := fun h => (congrArg (fun s => s.run P w) he).trans h
  rcases h with ⟨v, w', h, k⟩ | ⟨hd, w', h, k⟩ | ⟨f, vs, h, k⟩ | ⟨l, fn, tmps, asv, body, h, k⟩
  · exact wpIn_run hdf (hcg (h a₀ ha)) ⟨v, rfl, k⟩
  · exact wpIn_run hdf (hcg (h a₀ ha)) ⟨undef, hd ▸ rfl, k⟩
  · refine wpIn_run hdf (hcg (h a₀ ha)) ⟨fun h => (by rw [fen_depth] at h; cases h), fen_calls ?_⟩
    refine Calls.mono k ?_
    intro e w' he
    cases e with
    | returned v => exact ⟨v, rfl, he⟩
    | panicked c => exact he.elim
    | outgrown => exact he.elim
  · refine wpIn_run hdf (hcg (h a₀ ha)) ⟨fun h => (by rw [fen_depth] at h; cases h), ?_⟩
    have hr2 : RoundIn (fen n.ro) 0 P l fn tmps asv body w (Ret Φ) := by
      cases n.ro
      · exact k
      · exact k
    refine RoundIn.mono hr2 ?_
    intro e w' he
    cases e with
    | returned v => exact ⟨v, rfl, he⟩
    | panicked c => exact he.elim
    | outgrown => exact he.elim
theorem CS.of {o : Org} {ρ : Env} {H H0 H1 : List Asn} {op : Oper} {Φ : Value → List Asn → Prop} (sel : Sels H H0 H1) (h : ∀ w F S F1 S1, St H F S w → St H0 F1 S1 w → Acts P n ρ w op (PostS ⟨w, F1, S1⟩ Φ)) :
    CS P n o ρ H op (fun v H' => ∃ H'', Φ v H'' ∧ H' = H'' ++ H1) := by
  intro w F S s f
  obtain ⟨F1, S1, s1, hj⟩ := s.take sel
  refine (h w F S F1 S1 s s1).mono ?_
  rintro v w' ⟨H', F', S', hΦ, s', f'⟩
  obtain ⟨F'', S'', s'', f''⟩ := hj H' w' F' S' s' f'
  exact ⟨H' ++ H1, F'', S'', ⟨H', hΦ, rfl⟩, s'', f.trans f''⟩
theorem CS.mono {o : Org} {ρ : Env} {H : List Asn} {op : Oper} {Ψ Ψ' : Value → List Asn → Prop} (h : CS P n o ρ H op Ψ) (hm : ∀ v H', Ψ v H' → Ψ' v H') : CS P n o ρ H op Ψ' := fun w F S s f => (h w F S s f).mono fun _ _ k => k.mono hm
theorem CS.imp {o : Org} {ρ : Env} {H K : List Asn} {op : Oper} {Ψ : Value → List Asn → Prop} (i : Imp H K) (h : CS P n o ρ K op Ψ) : CS P n o ρ H op Ψ := fun w F S s f =>
  let ⟨F', S', s', f'⟩ := i.at s f
  h w F' S' s' f'
/-- A function's contract. -/
def SpecS (P : Program) (f : FuncId) (vs : List Value) (H : List Asn) (Φ : Value → List Asn → Prop) : Prop := ∀ w F S, St H F S w → Meets P f vs w (PostS ⟨w, F, S⟩ Φ)
theorem SpecS.mono {f : FuncId} {vs : List Value} {H : List Asn} {Φ Φ' : Value → List Asn → Prop} (h : SpecS P f vs H Φ) (hm : ∀ v H', Φ v H' → Φ' v H') : SpecS P f vs H Φ' := fun w F S s => (h w F S s).mono fun _ _ k => k.mono hm
theorem Acts.callV {ρ : Env} {w : World} {d : Option Nat} {x : Operand} {f : FuncId} {first cap : Array Value} {args : Array Operand} {ats : Array TypeId} {ty : TypeId} {pos : String} {af : Array Edge} {gd : Option (Nat × Bool)} {asv vs : List Value} {Φ : Value → World → Prop}
    (hx : ev ρ x = some (.func (.func f) first cap)) (hargs : evs ρ args.toList = some asv) (hvs : first.toList ++ asv ++ cap.toList = vs) (hc : ∀ (vs : Array Value) w, (callFunc f vs).run P w = .ok (.enter f vs) w) (hf : Meets P f vs w Φ) :
    Acts P n ρ w ⟨d, .call ⟨.value x, args, ats⟩, ty, pos, af, gd⟩ Φ :=
  .inr (.inr (.inl ⟨f, vs.toArray, fun a ha => run_callV (ha.eval hx) (ha.evals hargs) hvs (hc _) w, hf⟩))
/-- A call of the function that an iterator was handed. -/
theorem Acts.ycall {ρ : Env} {w : World} {d : Option Nat} {x : Operand} {y : Value} {args : Array Operand} {ats : Array TypeId} {ty : TypeId} {pos : String} {af : Array Edge} {gd : Option (Nat × Bool)} {vs : List Value} {R : Bool → World → Prop}
    (hx : ev ρ x = some y) (hargs : evs ρ args.toList = some vs) (hY : YCall P y vs w R) : Acts P n ρ w ⟨d, .call ⟨.value x, args, ats⟩, ty, pos, af, gd⟩ (fun v w' => ∃ b, v = .bool b ∧ R b w') := by
  rcases hY with ⟨l, rfl, fn, tmps, assign, body, hrun, hround⟩ | ⟨f, first, cap, rfl, hc, hf⟩
  · refine .inr (.inr (.inr ⟨l, fn, tmps, assign, body, fun a ha => run_callY (ha.eval hx) (ha.evals hargs) w hrun, RoundIn.mono hround ?_⟩))
    rintro e w' ⟨b, rfl, hR⟩
    exact ⟨b, rfl, hR⟩
  · exact Acts.callV hx hargs rfl hc hf
/-- What a call of a consumer does. -/
def YSpec (P : Program) (y : Value) (vs : List Value) (H : List Asn) (Ψ : Bool → List Asn → Prop) : Prop := ∀ w F S, St H F S w → YCall P y vs w (fun b w' => PostS ⟨w, F, S⟩ (fun _ H' => Ψ b H') undef w')
section
variable {o : Org} {ρ : Env} {H H0 H1 : List Asn} {d : Option Nat} {ty : TypeId} {pos : String} {af : Array Edge} {gd : Option (Nat × Bool)}
theorem CS.callV {x : Operand} {f : FuncId} {first cap : Array Value} {args : Array Operand} {ats : Array TypeId} {asv vs : List Value} {Φ : Value → List Asn → Prop}
    (hx : ev ρ x = some (.func (.func f) first cap)) (hargs : evs ρ args.toList = some asv) (hvs : first.toList ++ asv ++ cap.toList = vs) (hc : ∀ (vs : Array Value) w, (callFunc f vs).run P w = .ok (.enter f vs) w)
    (hf : SpecS P f vs H0 Φ) (sel : Sels H H0 H1) : CS P n o ρ H ⟨d, .call ⟨.value x, args, ats⟩, ty, pos, af, gd⟩ (fun v H' => ∃ H'', Φ v H'' ∧ H' = H'' ++ H1) :=
  CS.of sel fun w F S F1 S1 _ s1 => Acts.callV hx hargs hvs hc (hf w F1 S1 s1)
theorem CS.call {f : FuncId} {args : Array Operand} {ats : Array TypeId} {vs : List Value} {Φ : Value → List Asn → Prop}
    (hargs : evs ρ args.toList = some vs) (hc : ∀ (vs : Array Value) w, (callFunc f vs).run P w = .ok (.enter f vs) w)
    (hf : SpecS P f vs H0 Φ) (sel : Sels H H0 H1) : CS P n o ρ H ⟨d, .call ⟨.value (.func f), args, ats⟩, ty, pos, af, gd⟩ (fun v H' => ∃ H'', Φ v H'' ∧ H' = H'' ++ H1) :=
  CS.callV (x := .func f) (first := #[]) (cap := #[]) rfl hargs (by simp) hc hf sel
/-- A call that changes nothing, by facts of the whole. -/
theorem CS.callR {f : FuncId} {args : Array Operand} {ats : Array TypeId} {vs : List Value} {φ : Value → Prop}
    (hargs : evs ρ args.toList = some vs) (hc : ∀ (vs : Array Value) w, (callFunc f vs).run P w = .ok (.enter f vs) w)
    (hf : ∀ w F S, St H F S w → Meets P f vs w (fun v w' => φ v ∧ Ext [] w w')) : CS P n o ρ H ⟨d, .call ⟨.value (.func f), args, ats⟩, ty, pos, af, gd⟩ (fun v H' => φ v ∧ H' = H) :=
  fun w F S s fr => Acts.callV (x := .func f) (first := #[]) (cap := #[]) rfl hargs (by simp) hc ((hf w F S s).mono fun v w' hv =>
    ⟨H, F, S, ⟨hv.1, rfl⟩, ⟨s.sep.ext hv.2 (Apart.nilR _) (Apart.nilR _), fun b hb => Nat.lt_of_lt_of_le (s.ltF b hb) hv.2.size, fun b hb => Nat.lt_of_lt_of_le (s.ltS b hb) hv.2.size⟩, ⟨fr.ext.trans0 hv.2, fr.fF, fr.fS⟩⟩)
theorem CS.yield {x : Operand} {y : Value} {args : Array Operand} {ats : Array TypeId} {vs : List Value} {Ψ : Bool → List Asn → Prop} (hx : ev ρ x = some y) (hargs : evs ρ args.toList = some vs) (hY : YSpec P y vs H0 Ψ) (sel : Sels H H0 H1) :
    CS P n o ρ H ⟨d, .call ⟨.value x, args, ats⟩, ty, pos, af, gd⟩ (fun v H' => ∃ H'', (∃ b, v = .bool b ∧ Ψ b H'') ∧ H' = H'' ++ H1) :=
  CS.of sel fun w F S F1 S1 _ s1 => (Acts.ycall hx hargs (hY w F1 S1 s1)).mono (by rintro v w' ⟨b, rfl, H', F', S', h1, h2, h3⟩; exact ⟨H', F', S', ⟨b, rfl, h1⟩, h2, h3⟩)
/-- New blocks. -/
theorem St.grow {F S : List Nat} {w w' : World} {A : Asn} {F' S' : List Nat} (s : St H F S w) (fr : From o w F S) (he : Ext [] w w') (hF : ∀ b ∈ F', w.heap.size ≤ b ∧ b < w'.heap.size) (hS : ∀ b ∈ S', b < w'.heap.size ∧ (w.heap.size ≤ b ∨ b ∈ S)) (hA : A.P F' S' w') (hFS : Apart S' F) :
    ∃ F'' S'', St (A :: H) F'' S'' w' ∧ From o w' F'' S'' := by
  have hsz := he.size
  refine ⟨F' ++ F, S' ++ S, ⟨⟨F', S', F, S, ⟨inL _ _, inR _ _, inL _ _, inR _ _⟩, ⟨fun x hx hy => ?_, fun x hx hy => ?_, hFS⟩, hA, s.sep.ext he (Apart.nilR _) (Apart.nilR _)⟩, ?_, ?_⟩, ⟨fr.ext.trans0 he, ?_, ?_⟩⟩
  · have := (hF x hx).1; have := s.ltF x hy; omega
  · have := (hF x hx).1; have := s.ltS x hy; omega
  · intro x hx; exact (List.mem_append.1 hx).elim (fun h => (hF x h).2) (fun h => Nat.lt_of_lt_of_le (s.ltF x h) hsz)
  · intro x hx; exact (List.mem_append.1 hx).elim (fun h => (hS x h).1) (fun h => Nat.lt_of_lt_of_le (s.ltS x h) hsz)
  · intro x hx; exact (List.mem_append.1 hx).elim (fun h => .inr (Nat.le_trans fr.ext.size (hF x h).1)) (fr.fF x)
  · intro x hx; exact (List.mem_append.1 hx).elim (fun h => (hS x h).2.elim (fun h => .inr (.inr (Nat.le_trans fr.ext.size h))) (fr.fS x)) (fr.fS x)
theorem CS.new {op : Oper} {cs : List Value} {T : TypeId} {φ : Value → Nat → Prop} (h : ∀ w F S, St H F S w → ∃ v w', Runs P n ρ w op v w' ∧ ∃ b, φ v b ∧ w.heap.size = b ∧ w'.heap.size = b + 1 ∧ Ext [] w w' ∧ Blk w' b cs.toArray T (0, 0)) :
    CS P n o ρ H op (fun v H' => ∃ b, φ v b ∧ H' = blk b cs T :: H) := fun w F S s fr => by
  obtain ⟨v, w', hr, b, hφ, hb, hs, he, hB⟩ := h w F S s
  obtain ⟨F', S', s', f'⟩ := s.grow fr he (A := blk b cs T) (F' := [b]) (S' := []) (fun x hx => by rw [List.mem_singleton.1 hx]; omega) (fun x hx => by cases hx) ⟨rfl, hB⟩ (Apart.nilL _)
  exact .inl ⟨v, w', hr, _, F', S', ⟨b, hφ, rfl⟩, s', f'⟩
theorem CS.alloc {T : TypeId} {z : Value} [t : TyZero P T z] {d : Nat} (cs : List Value) (hz : z.cells.toList = cs) : CS P n o ρ H ⟨some d, .alloc T, ty, pos, af, gd⟩ (fun v H' => ∃ b, v = .pointer (some ⟨b, 0, none⟩) ∧ H' = blk b cs T :: H) :=
  CS.new fun w F S s => by
    obtain ⟨v, w', hr, b, h1, h2, h3, h4, h5⟩ := R.alloc (P := P) (n := n) (ρ := ρ) (w := w) (d := d) (ty := ty) (pos := pos) (af := af) (gd := gd) (T := T) (z := z)
    exact ⟨v, w', hr, b, h1, h2, h3, h4, by rw [← hz]; exact h5⟩
theorem CS.box {T : TypeId} {x : Operand} {v : Value} {d : Nat} (hx : ev ρ x = some v) (cs : List Value) (hz : v.cells.toList = cs) : CS P n o ρ H ⟨some d, .box T x, ty, pos, af, gd⟩ (fun v H' => ∃ b, v = .pointer (some ⟨b, 0, none⟩) ∧ H' = blk b cs T :: H) :=
  CS.new fun w F S s => by
    obtain ⟨v, w', hr, b, h1, h2, h3, h4, h5⟩ := R.box (P := P) (n := n) (w := w) (d := d) (ty := ty) (pos := pos) (af := af) (gd := gd) (T := T) hx
    exact ⟨v, w', hr, b, h1, h2, h3, h4, by rw [← hz]; exact h5⟩
/-- A new block, however it is made. -/
theorem CS.mk {op : Oper} {cs : List Value} {E : TypeId} {len cap : Nat} {A : Array Value} (h : ∀ w, Does P n ρ w op (NewS w A E len cap)) (hA : A.toList = cs) : CS P n o ρ H op (fun v H' => ∃ b, v = .slice (some ⟨b, 0, none⟩) len cap ∧ H' = blk b cs E :: H) :=
  CS.new fun w F S s => by
    obtain ⟨v, w', hr, b, h1, h2, h3, h4, h5⟩ := h w
    exact ⟨v, w', hr, b, h1, h2, h3, h4, by rw [← hA]; exact h5⟩
/-- A cell of a block is written. -/
inductive SetAt : List Value → Nat → Value → List Value → Prop
  | here {v x : Value} {l : List Value} : SetAt (x :: l) 0 v (v :: l)
  | there {v x : Value} {l l' : List Value} {k : Nat} : SetAt l k v l' → SetAt (x :: l) (k + 1) v (x :: l')
theorem SetAt.eq {l l' : List Value} {k : Nat} {v : Value} (h : SetAt l k v l') : k < l.length ∧ l' = l.set k v := by
  induction h with
  | here => exact ⟨by simp, rfl⟩
  | there _ ih => exact ⟨by simpa using ih.1, by rw [ih.2]; rfl⟩
/-- One assertion in the place of another one. -/
inductive Upd : List Asn → Asn → Asn → List Asn → Prop
  | here {A B : Asn} {H : List Asn} : Upd (A :: H) A B (B :: H)
  | there {A B C : Asn} {H H' : List Asn} : Upd H A B H' → Upd (C :: H) A B (C :: H')
theorem Upd.sel {H : List Asn} {A B : Asn} {H' : List Asn} (h : Upd H A B H') : ∃ H1, Sel H A H1 ∧ ∀ F S w, Sep (B :: H1) F S w → Sep H' F S w := by
  induction h with
  | here => exact ⟨_, .here, fun _ _ _ h => h⟩
  | there _ ih =>
    obtain ⟨H1, h1, h2⟩ := ih
    refine ⟨_, .there h1, fun F S w h => ?_⟩
    obtain ⟨F1, S1, F2, S2, a, b, hC, hH⟩ := h.swap
    exact ⟨F1, S1, F2, S2, a, b, hC, h2 _ _ _ hH⟩
theorem CS.upd {op : Oper} {A : Asn} {φ : Value → Asn → Prop} {H1 : List Asn} (sel : Sel H A H1) (h : ∀ w F S F1 S1, St H F S w → A.P F1 S1 w → (∀ b ∈ F1, b < w.heap.size) → Acts P n ρ w op (fun v w' => ∃ A' F' S', φ v A' ∧ A'.P F' S' w' ∧ (∀ b ∈ F', b < w'.heap.size) ∧ (∀ b ∈ S', b < w'.heap.size) ∧ From ⟨w, F1, S1⟩ w' F' S')) :
    CS P n o ρ H op (fun v H' => ∃ A', φ v A' ∧ H' = A' :: H1) := by
  refine CS.mono (CS.of (Sels.cons sel .nil) (Φ := fun v H' => ∃ A', φ v A' ∧ H' = [A']) fun w F S F1 S1 s s1 => ?_) ?_
  · obtain ⟨Fa, Sa, Fb, Sb, ⟨a, b, c, d⟩, _, hA, _⟩ := s1.sep
    refine (h w F S Fa Sa s hA (fun x hx => s1.ltF x (a hx))).mono ?_
    rintro v w' ⟨A', F', S', h1, h2, h3, h4, f⟩
    refine ⟨[A'], F', S', ⟨A', h1, rfl⟩, ⟨⟨F', S', [], [], ⟨subR _, by simp, subR _, by simp⟩, ⟨Apart.nilR _, Apart.nilR _, Apart.nilR _⟩, h2, trivial⟩, h3, h4⟩, ⟨f.ext.mono (fun x hx => .inl (a hx)), fun x hx => (f.fF x hx).imp (fun h => a h) id, fun x hx => (f.fS x hx).imp (fun h => c h) (fun h => h.imp (fun h => a h) id)⟩⟩
  · rintro v H' ⟨_, ⟨A', h1, rfl⟩, rfl⟩
    exact ⟨A', h1, rfl⟩
theorem CS.st {T : TypeId} [t : TyOne P T] {x y : Operand} {b k : Nat} {cs cs' : List Value} {U : TypeId} {v : Value} {H1 : List Asn} (hx : ev ρ x = some (.pointer (some ⟨b, k, none⟩))) (hy : ev ρ y = some v) (sel : Sel H (blk b cs U) H1) (hs : SetAt cs k v cs') (h1 : v.oneCell' = true) :
    CS P n o ρ H ⟨none, .store T x y, ty, pos, af, gd⟩ (fun _ H' => H' = blk b cs' U :: H1) := by
  refine CS.mono (CS.upd sel (φ := fun _ A' => A' = blk b cs' U) fun w F S F1 S1 s hA hlt => ?_) (by rintro v H' ⟨_, rfl, rfl⟩; rfl)
  obtain ⟨rfl, hB⟩ := hA
  obtain ⟨w', hr, he, hsz, hB'⟩ := R.st (P := P) (n := n) (T := T) (ty := ty) (pos := pos) (af := af) (gd := gd) hx hy hB (by simpa using hs.eq.1) h1
  refine .inr (.inl ⟨rfl, w', hr, _, [b], [], rfl, ⟨rfl, by rw [hs.eq.2]; simpa using hB'⟩, fun x hx => by have := hlt x hx; omega, by simp, ⟨he, fun x hx => .inl hx, by simp⟩⟩)
end
end
end Brv
/-
  Walks over assertions: the goals carry what is known of the world.
-/
set_option linter.unusedVariables false
set_option linter.unusedSimpArgs false
namespace Brv
open Go
section
variable (P : Program) (B : Exit → Act → World → Prop) (n : Fm) (o : Org)
def SG (ks : List K) (ρ : Env) (H : List Asn) (c : Code) : Prop := ∀ w F S, St H F S w → From o w F S → G P B n ks ρ w c
def SN (ks : List K) (ρ : Env) (H : List Asn) : Prop := ∀ w F S, St H F S w → From o w F S → N P B n ks ρ w
def SL (ops : List Oper) (ks : List K) (ρ : Env) (H : List Asn) (l : List Oper) : Prop := ∀ w F S, St H F S w → From o w F S → L P B n ops ks ρ w l
end
section
variable {P : Program} {B : Exit → Act → World → Prop} {n : Fm} {o : Org} {ks : List K} {ρ : Env} {H : List Asn}
theorem SG.sub {c : Code} (ρ' : Env) (hs : Sub ρ' ρ) (h : SG P B n o ks ρ' H c) : SG P B n o ks ρ H c := fun w F S s f => G.sub ρ' hs (h w F S s f)
theorem SN.sub (ρ' : Env) (hs : Sub ρ' ρ) (h : SN P B n o ks ρ' H) : SN P B n o ks ρ H := fun w F S s f => N.sub ρ' hs (h w F S s f)
theorem SG.imp {c : Code} {H' : List Asn} (i : Imp H H') (h : SG P B n o ks ρ H' c) : SG P B n o ks ρ H c := fun w F S s f => let ⟨F', S', s', f'⟩ := i.at s f; h w F' S' s' f'
theorem SN.imp {H' : List Asn} (i : Imp H H') (h : SN P B n o ks ρ H') : SN P B n o ks ρ H := fun w F S s f => let ⟨F', S', s', f'⟩ := i.at s f; h w F' S' s' f'
theorem SG.seq {x y : Code} (h : SG P B n o (.seq y :: ks) ρ H x) : SG P B n o ks ρ H (.seq x y) := fun w F S s f => G.seq (h w F S s f)
theorem SG.block {id : Nat} {c : Code} (h : SG P B n o (.block id :: ks) ρ H c) : SG P B n o ks ρ H (.block id c) := fun w F S s f => G.block (h w F S s f)
theorem SG.skip (h : SN P B n o ks ρ H) : SG P B n o ks ρ H .skip := fun w F S s f => G.skip (h w F S s f)
theorem SG.region {id : Nat} {l : List Oper} (h : SL P B n o l ks ρ H l) : SG P B n o ks ρ H (.region id l.toArray false) := fun w F S s f => G.region (h w F S s f)
theorem SN.seq {y : Code} (h : SG P B n o ks ρ H y) : SN P B n o (.seq y :: ks) ρ H := fun w F S s f => N.seq (h w F S s f)
theorem SN.block {id : Nat} (h : SN P B n o ks ρ H) : SN P B n o (.block id :: ks) ρ H := fun w F S s f => N.block (h w F S s f)
theorem SG.exit {id : Nat} (ks' : List K) (h : popTo id ks = some ks') (hn : SN P B n o ks' ρ H) : SG P B n o ks ρ H (.exit id) := fun w F S s f => G.exit ks' h (hn w F S s f)
theorem SG.condT {c : Operand} {x y : Code} (hc : ev ρ c = some (.bool true)) (h : SG P B n o ks ρ H x) : SG P B n o ks ρ H (.cond c x y) := fun w F S s f => G.condT hc (h w F S s f)
theorem SG.condF {c : Operand} {x y : Code} (hc : ev ρ c = some (.bool false)) (h : SG P B n o ks ρ H y) : SG P B n o ks ρ H (.cond c x y) := fun w F S s f => G.condF hc (h w F S s f)
theorem SG.condB {c : Operand} {x y : Code} {b : Bool} (hc : ev ρ c = some (.bool b)) (ht : b = true → SG P B n o ks ρ H x) (hf : b = false → SG P B n o ks ρ H y) : SG P B n o ks ρ H (.cond c x y) :=
  fun w F S s f => G.condB hc (fun h => ht h w F S s f) (fun h => hf h w F S s f)
theorem SG.condP {c : Operand} {x y : Code} {p : Prop} {dp : Decidable p} (hc : ev ρ c = some (.bool (@decide p dp))) (ht : p → SG P B n o ks ρ H x) (hf : ¬ p → SG P B n o ks ρ H y) : SG P B n o ks ρ H (.cond c x y) :=
  fun w F S s f => G.condP hc (fun h => ht h w F S s f) (fun h => hf h w F S s f)
theorem SG.be {v v' : Value} {c : Code} (d : Nat) (hv : look ρ d = some v) (e : v = v') (h : SG P B n o ks ((d, v') :: ρ) H c) : SG P B n o ks ρ H c := fun w F S s f => G.be d hv e (h w F S s f)
/-- The ways meet again. -/
theorem SG.cut {X : Type} (ρJ : X → Env) (HJ : X → List Asn) (J : X → Prop) {c : Code}
    (h : SG P B n o (.hand (fun a' w' => ∃ x, Fr n (ρJ x) a' ∧ J x ∧ ∃ F S, St (HJ x) F S w' ∧ From o w' F S) :: ks) ρ H c) (hn : ∀ x, J x → SN P B n o ks (ρJ x) (HJ x)) : SG P B n o ks ρ H c :=
  fun w F S s f => G.cut ρJ (fun x w' => J x ∧ ∃ F S, St (HJ x) F S w' ∧ From o w' F S) (h w F S s f) (fun x w' ⟨hj, F', S', s', f'⟩ => hn x hj w' F' S' s' f')
theorem SN.handX {X : Type} {ρJ : X → Env} {HJ : X → List Asn} {J : X → Prop} (x : X) (hs : Sub (ρJ x) ρ) (i : Imp H (HJ x)) (h : J x) :
    SN P B n o (.hand (fun a' w' => ∃ x, Fr n (ρJ x) a' ∧ J x ∧ ∃ F S, St (HJ x) F S w' ∧ From o w' F S) :: ks) ρ H :=
  fun _ _ _ s f => N.hand fun _ ha => ⟨x, ha.sub hs, h, i.at s f⟩
theorem SG.loop {X : Type} (ρI : X → Env) (HI : X → List Asn) (I : X → Prop) (μ : X → Nat) (x₀ : X) {c : Code} (hs : Sub (ρI x₀) ρ) (i : Imp H (HI x₀)) (h₀ : I x₀)
    (round : ∀ x, I x → SG P B n o (.hand (fun a' w' => ∃ x', μ x' < μ x ∧ Fr n (ρI x') a' ∧ I x' ∧ ∃ F S, St (HI x') F S w' ∧ From o w' F S) :: ks) (ρI x) (HI x) c) : SG P B n o ks ρ H (.loop c) :=
  fun w F S s f => G.loop ρI (fun x w' => I x ∧ ∃ F S, St (HI x) F S w' ∧ From o w' F S) μ x₀ hs ⟨h₀, i.at s f⟩ (fun x w' ⟨hi, F', S', s', f'⟩ => round x hi w' F' S' s' f')
theorem SN.again {X : Type} {ρI : X → Env} {HI : X → List Asn} {I : X → Prop} {μ : X → Nat} {x : X} (x' : X) (hlt : μ x' < μ x) (hs : Sub (ρI x') ρ) (i : Imp H (HI x')) (h : I x') :
    SN P B n o (.hand (fun a' w' => ∃ x', μ x' < μ x ∧ Fr n (ρI x') a' ∧ I x' ∧ ∃ F S, St (HI x') F S w' ∧ From o w' F S) :: ks) ρ H :=
  fun _ _ _ s f => N.hand fun _ ha => ⟨x', hlt, ha.sub hs, h, i.at s f⟩
end
section
variable {P : Program} {n : Nat} {o : Org} {ks : List K} {ρ : Env} {H H' : List Asn} {fn : Func} {Φ : Value → List Asn → Prop}
theorem post_of {w : World} {F S : List Nat} {v : Value} (i : Imp H H') (h : Φ v H') (s : St H F S w) (f : From o w F S) : PostS o Φ v w := let ⟨F', S', s', f'⟩ := i.at s f; ⟨H', F', S', h, s', f'⟩
theorem SG.ret1 {t : Nat} {v : Value} (hr : fn.results = #[.tmp t]) (hv : look ρ t = some v) (i : Imp H H') (h : Φ v H') : SG P (Func.base P fn (PostS o Φ)) ⟨n, [], none⟩ o ks ρ H .ret := fun _ _ _ s f => G.ret1 hr hv (post_of i h s f)
theorem SG.ret2 {t u : Nat} {v x : Value} (hr : fn.results = #[.tmp t, .tmp u]) (hv : look ρ t = some v) (hx : look ρ u = some x) (i : Imp H H') (h : Φ (.tuple #[v, x]) H') : SG P (Func.base P fn (PostS o Φ)) ⟨n, [], none⟩ o ks ρ H .ret := fun _ _ _ s f => G.ret2 hr hv hx (post_of i h s f)
theorem SG.ret3 {t u r : Nat} {v x y : Value} (hr : fn.results = #[.tmp t, .tmp u, .tmp r]) (hv : look ρ t = some v) (hx : look ρ u = some x) (hy : look ρ r = some y) (i : Imp H H') (h : Φ (.tuple #[v, x, y]) H') : SG P (Func.base P fn (PostS o Φ)) ⟨n, [], none⟩ o ks ρ H .ret := fun _ _ _ s f => G.ret3 hr hv hx hy (post_of i h s f)
theorem SG.ret0 (hr : fn.results = #[]) (i : Imp H H') (h : Φ (.tuple #[]) H') : SG P (Func.base P fn (PostS o Φ)) ⟨n, [], none⟩ o ks ρ H .ret := fun _ _ _ s f => G.ret0 hr (post_of i h s f)
theorem SN.end0 (hr : fn.results = #[]) (i : Imp H H') (h : Φ (.tuple #[]) H') : SN P (Func.base P fn (PostS o Φ)) ⟨n, [], none⟩ o [] ρ H := fun _ _ _ s f => N.end0 hr (post_of i h s f)
theorem SpecS.enter {f : FuncId} {c : Code} {args : List Value} (hf : P.funcs[f]? = some fn) (hb : fn.body = some c) (n : Nat) (hn : fn.ntmps = n) (hl : args.length ≤ n)
    (h : ∀ o, SG P (Func.base P fn (PostS o Φ)) ⟨n, [], none⟩ o [] (argEnv 0 args) H c) : SpecS P f args H Φ := fun w F S s => Meets.enter hf hb n hn hl (h ⟨w, F, S⟩ w F S s (From.refl w F S))
end
section
variable {P : Program} {B : Exit → Act → World → Prop} {n : Fm} {o : Org} {ops : List Oper} {ks : List K} {ρ : Env} {H : List Asn} {rest : List Oper}
theorem SL.nil (h : SN P B n o ks ρ H) : SL P B n o ops ks ρ H [] := fun w F S s f => L.nil (h w F S s f)
theorem SL.imp {l : List Oper} {H' : List Asn} (i : Imp H H') (h : SL P B n o ops ks ρ H' l) : SL P B n o ops ks ρ H l := fun w F S s f => let ⟨F', S', s', f'⟩ := i.at s f; h w F' S' s' f'
theorem SL.sub {l : List Oper} (ρ' : Env) (hs : Sub ρ' ρ) (h : SL P B n o ops ks ρ' H l) : SL P B n o ops ks ρ H l := fun w F S s f => L.sub ρ' hs (h w F S s f)
theorem SL.step {d : Nat} {op : Op} {ty : TypeId} {pos : String} {af : Array Edge} {gd : Option (Nat × Bool)} {Ψ : Value → List Asn → Prop} (hg : wants ops ρ gd = some true) (hd : Nat.blt d n = true)
    (h : CS P n o ρ H ⟨some d, op, ty, pos, af, gd⟩ Ψ) (k : ∀ v H', Ψ v H' → SL P B n o ops ks ((d, v) :: ρ) H' rest) (hdf : isDefer op = false := by rfl) : SL P B n o ops ks ρ H (⟨some d, op, ty, pos, af, gd⟩ :: rest) := by
  intro w F S s f a ha
  have hd' : d < n := by simpa [Nat.blt_eq] using hd
  unfold wpListIn
  rw [if_pos (wants_spec ha hg)]
  refine Oper.wpIn_mono ?_ ((h w F S s f).wp hdf ha rfl)
  rintro a' w' ⟨v, rfl, H', F', S', hΨ, s', f'⟩
  exact k v H' hΨ w' F' S' s' f' _ (ha.put hd' v)
theorem SL.step0 {op : Op} {ty : TypeId} {pos : String} {af : Array Edge} {gd : Option (Nat × Bool)} {Ψ : Value → List Asn → Prop} (hg : wants ops ρ gd = some true)
    (h : CS P n o ρ H ⟨none, op, ty, pos, af, gd⟩ Ψ) (k : ∀ v H', Ψ v H' → SL P B n o ops ks ρ H' rest) (hdf : isDefer op = false := by rfl) : SL P B n o ops ks ρ H (⟨none, op, ty, pos, af, gd⟩ :: rest) := by
  intro w F S s f a ha
  unfold wpListIn
  rw [if_pos (wants_spec ha hg)]
  refine Oper.wpIn_mono ?_ ((h w F S s f).wp hdf ha rfl)
  rintro a' w' ⟨v, rfl, H', F', S', hΨ, s', f'⟩
  exact k v H' hΨ w' F' S' s' f' _ ha
theorem SL.val {d : Nat} {op : Op} {ty : TypeId} {pos : String} {af : Array Edge} {gd : Option (Nat × Bool)} {v : Value} (hg : wants ops ρ gd = some true) (hd : Nat.blt d n = true)
    (hrun : ∀ w F S, St H F S w → Runs P n ρ w ⟨some d, op, ty, pos, af, gd⟩ v w) (h : SL P B n o ops ks ((d, v) :: ρ) H rest) (hdf : isDefer op = false := by rfl) : SL P B n o ops ks ρ H (⟨some d, op, ty, pos, af, gd⟩ :: rest) :=
  fun w F S s f => L.val hg hd (hrun w F S s) (h w F S s f) hdf
theorem SL.pass {d : Nat} {op : Op} {ty : TypeId} {pos : String} {af : Array Edge} {gd : Option (Nat × Bool)} (hg : wants ops ρ gd = some false) (hd : Nat.blt d n = true)
    (h : SL P B n o ops ks ((d, undef) :: ρ) H rest) : SL P B n o ops ks ρ H (⟨some d, op, ty, pos, af, gd⟩ :: rest) := fun w F S s f => L.pass hg hd (h w F S s f)
theorem SL.pass0 {op : Op} {ty : TypeId} {pos : String} {af : Array Edge} {gd : Option (Nat × Bool)} (hg : wants ops ρ gd = some false)
    (h : SL P B n o ops ks ρ H rest) : SL P B n o ops ks ρ H (⟨none, op, ty, pos, af, gd⟩ :: rest) := fun w F S s f => L.pass0 hg (h w F S s f)
theorem SL.caseB {b : Bool} (d : Nat) (hv : look ρ d = some (.bool b)) (ht : b = true → SL P B n o ops ks ((d, .bool true) :: ρ) H rest) (hf : b = false → SL P B n o ops ks ((d, .bool false) :: ρ) H rest) : SL P B n o ops ks ρ H rest :=
  fun w F S s f => L.caseB d hv (fun h => ht h w F S s f) (fun h => hf h w F S s f)
theorem SL.caseP {p : Prop} {dp : Decidable p} (d : Nat) (hv : look ρ d = some (.bool (@decide p dp))) (ht : p → SL P B n o ops ks ((d, .bool true) :: ρ) H rest) (hf : ¬ p → SL P B n o ops ks ((d, .bool false) :: ρ) H rest) : SL P B n o ops ks ρ H rest :=
  SL.caseB d hv (fun h => ht (of_decide_eq_true h)) (fun h => hf (of_decide_eq_false h))
theorem SL.isT {b : Bool} (d : Nat) (hv : look ρ d = some (.bool b)) (e : b = true) (h : SL P B n o ops ks ((d, .bool true) :: ρ) H rest) : SL P B n o ops ks ρ H rest := SL.caseB d hv (fun _ => h) (fun h' => by rw [e] at h'; cases h')
theorem SL.isF {b : Bool} (d : Nat) (hv : look ρ d = some (.bool b)) (e : b = false) (h : SL P B n o ops ks ((d, .bool false) :: ρ) H rest) : SL P B n o ops ks ρ H rest := SL.caseB d hv (fun h' => by rw [e] at h'; cases h') (fun _ => h)
theorem SL.be {v v' : Value} (d : Nat) (hv : look ρ d = some v) (e : v = v') (h : SL P B n o ops ks ((d, v') :: ρ) H rest) : SL P B n o ops ks ρ H rest := fun w F S s f => L.be d hv e (h w F S s f)
theorem SL.fact {l : List Oper} {φ : Prop} (hφ : ∀ w F S, St H F S w → φ) (h : φ → SL P B n o ops ks ρ H l) : SL P B n o ops ks ρ H l := fun w F S s f => h (hφ w F S s) w F S s f
theorem SG.fact {c : Code} {φ : Prop} (hφ : ∀ w F S, St H F S w → φ) (h : φ → SG P B n o ks ρ H c) : SG P B n o ks ρ H c := fun w F S s f => h (hφ w F S s) w F S s f
theorem SN.fact {φ : Prop} (hφ : ∀ w F S, St H F S w → φ) (h : φ → SN P B n o ks ρ H) : SN P B n o ks ρ H := fun w F S s f => h (hφ w F S s) w F S s f
end
end Brv
/-
  Regions that draw their order: those operations that turn the world stand in a chain, the others read, and what they read stays while they may run. One walk serves every order.
-/
set_option linter.unusedVariables false
set_option linter.unusedSimpArgs false
namespace Brv
open Go

def extE : Option Nat → Value → Env → Env
  | some d, v, ρ => (d, v) :: ρ
  | none, _, ρ => ρ
abbrev Pend := List (Nat × (List Asn → Prop))
def piOf (ops : List Oper) : List Nat → List (Nat × Oper)
  | [] => []
  | i :: r => match ops[i]? with
    | some o => (i, o) :: piOf ops r
    | none => piOf ops r
def Obl (ops : List Oper) (i : Nat) : Pend → List Asn → Prop
  | [], _ => True
  | (j, g) :: r, H => (reachIn (masks ops ops.length) i j = true ∨ g H) ∧ Obl ops i r H
theorem Obl.all {ops : List Oper} {i : Nat} {H : List Asn} : ∀ {p : Pend}, Obl ops i p H → ∀ j g, (j, g) ∈ p → reachIn (masks ops ops.length) i j = true ∨ g H
  | [], _, j, g, h => by cases h
  | (j', g') :: r, ⟨h1, h2⟩, j, g, h => by
    rcases List.mem_cons.1 h with h | h
    · cases h; exact h1
    · exact Obl.all h2 j g h

section
variable (P : Program) (n : Fm) (ops : List Oper) (Q : Exit → Act → World → Prop) (o : Org) (σ : List Nat)
/-- An operation that only reads. -/
def Fl (ρ : Env) (w : World) (op : Oper) (v : Value) : Prop := (wants ops ρ op.guard = some true ∧ Runs P n ρ w op v w) ∨ (wants ops ρ op.guard = some false ∧ v = undef)
def SW : List (Nat × Oper) → Pend → Env → List Asn → Prop
  | [], _, ρ, H => ∀ w F S, St H F S w → From o w F S → ∀ a, Fr n ρ a → Q .normal a w
  | (i, op) :: π, pend, ρ, H => (∃ w F S, St H F S w ∧ From o w F S) → isSelect op.op = false ∧ (∀ d, op.dst = some d → d < n.n) ∧
    ((σ.any (Nat.beq i) = true ∧ ∃ Ψ : Value → List Asn → Prop, ((wants ops ρ op.guard = some true ∧ CS P n o ρ H op Ψ) ∨ (wants ops ρ op.guard = some false ∧ Ψ = fun v H' => v = undef ∧ H' = H)) ∧
        ∀ v H', Ψ v H' → Obl ops i pend H' ∧ SW π pend (extE op.dst v ρ) H') ∨
     (σ.any (Nat.beq i) = false ∧ ∃ v, op.dst ≠ none ∧ ((∀ w, Fl P n ops ρ w op v) ∧ SW π pend (extE op.dst v ρ) H ∨
        ∃ g : List Asn → Prop, g H ∧ (∀ H w F S, g H → St H F S w → From o w F S → Fl P n ops ρ w op v) ∧ SW π ((i, g) :: pend) (extE op.dst v ρ) H)))
end

/-- Is the order told one in which the others run as early as they may? -/
def chkOrd (ops : List Oper) (σ : List Nat) : List Nat → List Nat → List Nat → Bool
  | _, _, [] => true
  | done, ch, i :: r => Nat.blt i ops.length && !done.any (Nat.beq i) && (afters ops i).all (fun k => done.any (Nat.beq k)) && ch.all (fun c => reachIn (masks ops ops.length) i c) && chkOrd ops σ (i :: done) (if σ.any (Nat.beq i) then i :: ch else ch) r
def chkPi (ops : List Oper) (σ π : List Nat) : Bool := chk ops [] && (List.range ops.length).all (fun i => π.any (Nat.beq i)) && chkOrd ops σ [] [] π

section
variable {P : Program} {n : Fm} {ops : List Oper} {Q : Exit → Act → World → Prop} {o : Org} {σ : List Nat}

def envOf (ops : List Oper) (val : Nat → Value) (ρ₀ : Env) : List Nat → Env
  | [] => ρ₀
  | i :: d => extE ((ops[i]?).bind (·.dst)) (val i) (envOf ops val ρ₀ d)
/-- The environment that operation i was walked in. -/
def envB (ops : List Oper) (val : Nat → Value) (ρ₀ : Env) (i : Nat) : List Nat → Env
  | [] => ρ₀
  | j :: d => if j = i then envOf ops val ρ₀ d else envB ops val ρ₀ i d
def DoneOk (ops : List Oper) : List Nat → Prop
  | [] => True
  | i :: d => i ∉ d ∧ i < ops.length ∧ (∀ k ∈ afters ops i, k ∈ d) ∧ DoneOk ops d
theorem look_envOf {val : Nat → Value} {ρ₀ : Env} {t : Nat} {u : Value} : ∀ {d : List Nat}, look (envOf ops val ρ₀ d) t = some u → (∃ j op, j ∈ d ∧ ops[j]? = some op ∧ op.dst = some t ∧ u = val j) ∨ (look ρ₀ t = some u ∧ ∀ j op, j ∈ d → ops[j]? = some op → op.dst ≠ some t)
  | [], h => .inr ⟨h, fun j op hj => by cases hj⟩
  | i :: d, h => by
    simp only [envOf] at h
    cases ho : ops[i]? with
    | none =>
      rw [ho] at h
      rcases look_envOf h with ⟨j, op, h1, h2⟩ | ⟨h1, h2⟩
      · exact .inl ⟨j, op, by simp [h1], h2⟩
      · refine .inr ⟨h1, fun j op hj hop => ?_⟩
        rcases List.mem_cons.1 hj with rfl | hj
        · rw [ho] at hop; cases hop
        · exact h2 j op hj hop
    | some op =>
      rw [ho] at h
      simp only [Option.bind_some] at h
      cases hd : op.dst with
      | none =>
        rw [hd] at h
        rcases look_envOf h with ⟨j, op, h1, h2⟩ | ⟨h1, h2⟩
        · exact .inl ⟨j, op, by simp [h1], h2⟩
        · refine .inr ⟨h1, fun j op' hj hop => ?_⟩
          rcases List.mem_cons.1 hj with rfl | hj
          · rw [ho] at hop; cases hop; rw [hd]; simp
          · exact h2 j op' hj hop
      | some s =>
        rw [hd] at h
        simp only [extE] at h
        rw [look_cons] at h
        split at h
        · rename_i e; subst e; cases h
          exact .inl ⟨i, op, by simp, ho, hd, rfl⟩
        · rename_i e
          rcases look_envOf h with ⟨j, op, h1, h2⟩ | ⟨h1, h2⟩
          · exact .inl ⟨j, op, by simp [h1], h2⟩
          · refine .inr ⟨h1, fun j op' hj hop => ?_⟩
            rcases List.mem_cons.1 hj with rfl | hj
            · rw [ho] at hop; cases hop; rw [hd]; simpa using e
            · exact h2 j op' hj hop
theorem envB_of {val : Nat → Value} {ρ₀ : Env} {i : Nat} : ∀ {d : List Nat}, DoneOk ops d → i ∈ d → ∃ d', envB ops val ρ₀ i d = envOf ops val ρ₀ d' ∧ (∀ k ∈ afters ops i, k ∈ d') ∧ i ∉ d' ∧ DoneOk ops d' ∧ ∀ x ∈ d', x ∈ d
  | j :: d, ⟨h1, h2, h3, h4⟩, hi => by
    simp only [envB]
    split
    · rename_i e; subst e; exact ⟨d, rfl, h3, h1, h4, fun x hx => List.mem_cons_of_mem _ hx⟩
    · rename_i e
      obtain ⟨d', q1, q2, q3, q4, q5⟩ := envB_of h4 ((List.mem_cons.1 hi).resolve_left (fun q => e q.symm))
      exact ⟨d', q1, q2, q3, q4, fun x hx => List.mem_cons_of_mem _ (q5 x hx)⟩
theorem envOf_congr {val val' : Nat → Value} {ρ₀ : Env} : ∀ {d : List Nat}, (∀ j ∈ d, val j = val' j) → envOf ops val ρ₀ d = envOf ops val' ρ₀ d
  | [], _ => rfl
  | i :: d, h => by simp only [envOf]; rw [h i (by simp), envOf_congr (fun j hj => h j (by simp [hj]))]
theorem envB_congr {val val' : Nat → Value} {ρ₀ : Env} {i : Nat} : ∀ {d : List Nat}, (∀ j ∈ d, val j = val' j) → envB ops val ρ₀ i d = envB ops val' ρ₀ i d
  | [], _ => rfl
  | j :: d, h => by
    simp only [envB]
    rw [envOf_congr (fun k hk => h k (by simp [hk])), envB_congr (fun k hk => h k (by simp [hk]))]
theorem DoneOk.back : ∀ {d : List Nat} {j k : Nat}, DoneOk ops d → j ∈ d → k ∈ afters ops j → k ∈ d
  | i :: d, j, k, ⟨_, _, h3, h4⟩, hj, hk => by
    rcases List.mem_cons.1 hj with rfl | hj
    · exact List.mem_cons_of_mem _ (h3 k hk)
    · exact List.mem_cons_of_mem _ (DoneOk.back h4 hj hk)

/-- What is so while the region runs. -/
structure SInv (P : Program) (n : Fm) (ops : List Oper) (Q : Exit → Act → World → Prop) (o : Org) (σ : List Nat) (ρ₀ : Env) (listed : Array Bool) (a : Act) (w : World) (done rest ch : List Nat) (pend : Pend) (H : List Asn) (F S : List Nat) (val : Nat → Value) : Prop where
  lsz : listed.size = ops.length
  tsz : a.tmps.size = n.n
  tdf : a.defers = n.df
  closed : Closed ops (fun i => listed[i]? = some true)
  ok : DoneOk ops done
  ord : chkOrd ops σ done ch rest = true
  chs : ∀ c ∈ ch, c ∈ done
  cover : ∀ i, i < ops.length → i ∈ done ∨ i ∈ rest
  sw : SW P n ops Q o σ (piOf ops rest) pend (envOf ops val ρ₀ done) H
  st : St H F S w
  fr : From o w F S
  ldone : ∀ i, listed[i]? = some true → i ∈ done
  cdone : ∀ i ∈ done, σ.any (Nat.beq i) = true → listed[i]? = some true
  pok : ∀ (i : Nat) (op : Oper), i ∈ done → listed[i]? ≠ some true → ops[i]? = some op → isSelect op.op = false ∧ (∀ d, op.dst = some d → d < n.n) ∧ op.dst ≠ none ∧ ((∀ w, Fl P n ops (envB ops val ρ₀ i done) w op (val i)) ∨ ∃ g : List Asn → Prop, (i, g) ∈ pend ∧ g H ∧ ∀ H w F S, g H → St H F S w → From o w F S → Fl P n ops (envB ops val ρ₀ i done) w op (val i))
  d1 : ∀ (i : Nat) (op : Oper) (d : Nat), listed[i]? = some true → ops[i]? = some op → op.dst = some d → a.tmps[d]? = some (val i)
  d2 : ∀ t v, look ρ₀ t = some v → (∀ (i : Nat) (op : Oper), listed[i]? = some true → ops[i]? = some op → op.dst ≠ some t) → a.tmps[t]? = some v
  lt0 : ∀ t v, look ρ₀ t = some v → t < n.n
  ltd : ∀ (i : Nat) (op : Oper) (d : Nat), i ∈ done → ops[i]? = some op → op.dst = some d → d < n.n

/-- The slots that an operation looks at are as its environment has them. -/
theorem SInv.slots {ρ₀ : Env} {listed : Array Bool} {a : Act} {w : World} {done rest ch : List Nat} {pend : Pend} {H : List Asn} {F S : List Nat} {val : Nat → Value} (C : Chk ops []) (I : SInv P n ops Q o σ ρ₀ listed a w done rest ch pend H F S val)
    {i : Nat} {op : Oper} (hi : ops[i]? = some op) (hnl : listed[i]? ≠ some true) (haft : ∀ k ∈ afters ops i, listed[k]? = some true) {d : List Nat} (hd : DoneOk ops d) (hda : ∀ k ∈ afters ops i, k ∈ d) (hid : i ∉ d) :
    ∀ t ∈ slots ops op, ∀ u, look (envOf ops val ρ₀ d) t = some u → a.tmps[t]? = some u := by
  intro t ht u hu
  rcases look_envOf hu with ⟨j, oj, hj, hoj, hdj, rfl⟩ | ⟨h0, hno⟩
  · rcases C.share i op hi t ht j oj hoj hdj with e | e | e
    · exact absurd (e ▸ hj) hid
    · exact I.d1 j oj t (haft j e) hoj hdj
    · exact absurd (hd.back hj e) hid
  · refine I.d2 t u h0 (fun j oj hlj hoj hdj => ?_)
    rcases C.share i op hi t ht j oj hoj hdj with e | e | e
    · exact hnl (e ▸ hlj)
    · exact hno j oj (hda j e) hoj hdj
    · exact hnl (I.closed j hlj i e)
/-- A frame that has all of an environment, and the slots that an operation looks at as they are. -/
theorem frame_for {ρ : Env} {a : Act} (hsz : a.tmps.size = n.n) (hlt : ∀ t v, look ρ t = some v → t < n.n) (op : Oper) (hs : ∀ t ∈ slots ops op, ∀ u, look ρ t = some u → a.tmps[t]? = some u) :
    ∃ a₀, Fr n ρ a₀ ∧ ∀ t ∈ slots ops op, a.tmps.getD t undef = a₀.tmps.getD t undef ∧ a.tmps[t]? = a₀.tmps[t]? := by
  refine ⟨{ tmps := Array.ofFn (n := n.n) fun t => match look ρ t.1 with | some v => v | none => a.tmps.getD t.1 undef, defers := n.df }, ⟨by simp, rfl, ?_⟩, ?_⟩
  · intro t v hv
    have := hlt t v hv
    simp [this, hv]
  · intro t ht
    have key : a.tmps[t]? = (Array.ofFn (n := n.n) fun t => match look ρ t.1 with | some v => v | none => a.tmps.getD t.1 undef)[t]? := by
      rcases Nat.lt_or_ge t n.n with hlt' | hge
      · rw [Array.getElem?_ofFn, dif_pos hlt']
        cases hv : look ρ t with
        | some v => rw [hs t ht v hv]
        | none =>
          simp only []
          have : t < a.tmps.size := by omega
          rw [Array.getElem?_eq_getElem this, Array.getD_eq_getD_getElem?, Array.getElem?_eq_getElem this]
          rfl
      · rw [Array.getElem?_eq_none (by omega), Array.getElem?_eq_none (by simp; omega)]
    exact ⟨by rw [Array.getD_eq_getD_getElem?, Array.getD_eq_getD_getElem?, key], key⟩
theorem wanted_for {ρ : Env} {a a₀ : Act} {op : Oper} {b : Bool} (hg : wants ops ρ op.guard = some b) (ha : Fr n ρ a₀) (hag : ∀ t ∈ slots ops op, a.tmps.getD t undef = a₀.tmps.getD t undef ∧ a.tmps[t]? = a₀.tmps[t]?) : Region.wanted op (yielded ops.toArray a.tmps) = b :=
  wanted_virtual (ρ := ρ) hg ha hag (fun _ _ _ h => h)
theorem piOf_cons {i : Nat} {r : List Nat} {op : Oper} (h : ops[i]? = some op) : piOf ops (i :: r) = (i, op) :: piOf ops r := by simp [piOf, h]
theorem lt_env {val : Nat → Value} {ρ₀ : Env} {d : List Nat} (h0 : ∀ t v, look ρ₀ t = some v → t < n.n) (hd : ∀ i op t, i ∈ d → ops[i]? = some op → op.dst = some t → t < n.n) : ∀ t v, look (envOf ops val ρ₀ d) t = some v → t < n.n := by
  intro t v h
  rcases look_envOf h with ⟨j, op, h1, h2, h3, _⟩ | ⟨h1, _⟩
  · exact hd j op t h1 h2 h3
  · exact h0 t v h1

/-- The walk goes on over all that only read. -/
theorem SInv.adv {ρ₀ : Env} {listed : Array Bool} {a : Act} {w : World} : ∀ {rest done ch : List Nat} {pend : Pend} {H : List Asn} {F S : List Nat} {val : Nat → Value}, SInv P n ops Q o σ ρ₀ listed a w done rest ch pend H F S val →
    ∃ done' rest' ch' pend' val', SInv P n ops Q o σ ρ₀ listed a w done' rest' ch' pend' H F S val' ∧ (rest' = [] ∨ ∃ c r, rest' = c :: r ∧ σ.any (Nat.beq c) = true)
  | [], done, ch, pend, H, F, S, val, I => ⟨done, [], ch, pend, val, I, .inl rfl⟩
  | i :: r, done, ch, pend, H, F, S, val, I => by
    cases hc : σ.any (Nat.beq i) with
    | true => exact ⟨done, i :: r, ch, pend, val, I, .inr ⟨i, r, rfl, hc⟩⟩
    | false =>
      have ho := I.ord
      simp only [chkOrd, Bool.and_eq_true, hc, Bool.not_eq_true', Nat.blt_eq] at ho
      obtain ⟨⟨⟨⟨h1, h2⟩, h3⟩, h4⟩, h5⟩ := ho
      have hid : i ∉ done := fun h => by have := any_beq.2 h; rw [h2] at this; cases this
      have hia : ∀ k ∈ afters ops i, k ∈ done := fun k hk => any_beq.1 (List.all_eq_true.1 h3 k hk)
      have hop : ops[i]? = some ops[i] := List.getElem?_eq_getElem h1
      have hsw := I.sw
      rw [piOf_cons hop] at hsw
      obtain ⟨q1, q2, q⟩ := hsw ⟨w, F, S, I.st, I.fr⟩
      rcases q with ⟨q, _⟩ | ⟨_, v, q3, q⟩
      · rw [hc] at q; cases q
      have hnl : listed[i]? ≠ some true := fun h => hid (I.ldone i h)
      obtain ⟨val', hv'⟩ : ∃ val' : Nat → Value, val' = fun j => if j = i then v else val j := ⟨_, rfl⟩
      have hvi : val' i = v := by rw [hv']; simp
      have hvd : ∀ j ∈ done, val j = val' j := fun j hj => by rw [hv']; simp only [if_neg (fun e : j = i => hid (e ▸ hj))]
      have hE : envOf ops val' ρ₀ (i :: done) = extE ops[i].dst v (envOf ops val ρ₀ done) := by
        simp only [envOf, hop, Option.bind_some, hvi]
        rw [envOf_congr (fun j hj => (hvd j hj).symm)]
      have hB : envB ops val' ρ₀ i (i :: done) = envOf ops val ρ₀ done := by simp only [envB, if_true]; exact envOf_congr (fun j hj => (hvd j hj).symm)
      have hB2 : ∀ j, j ∈ done → envB ops val' ρ₀ j (i :: done) = envB ops val ρ₀ j done := fun j hj => by
        simp only [envB]
        rw [if_neg (fun e : i = j => hid (e ▸ hj))]
        exact envB_congr (fun j hj => (hvd j hj).symm)
      have hcover : ∀ j, j < ops.length → j ∈ i :: done ∨ j ∈ r := fun j hj => (I.cover j hj).elim (fun h => .inl (by simp [h])) (fun h => (List.mem_cons.1 h).elim (fun e => .inl (by simp [e])) .inr)
      have hd1 : ∀ j op d, listed[j]? = some true → ops[j]? = some op → op.dst = some d → a.tmps[d]? = some (val' j) := fun j op d h1 h2 h3 => by rw [← hvd j (I.ldone j h1)]; exact I.d1 j op d h1 h2 h3
      have hltd : ∀ j op d, j ∈ i :: done → ops[j]? = some op → op.dst = some d → d < n.n := fun j op d hj hoj hdj => by
        rcases List.mem_cons.1 hj with rfl | hj
        · rw [hop] at hoj; cases hoj; exact q2 d hdj
        · exact I.ltd j op d hj hoj hdj
      have hcd : ∀ j ∈ i :: done, σ.any (Nat.beq j) = true → listed[j]? = some true := fun j hj hs => by
        rcases List.mem_cons.1 hj with rfl | hj
        · rw [hc] at hs; cases hs
        · exact I.cdone j hj hs
      rcases q with ⟨q4, q5⟩ | ⟨g, q4, q5, q6⟩
      · exact SInv.adv (rest := r) (done := i :: done) (ch := ch) (pend := pend) (H := H) (F := F) (S := S) (val := val') ⟨I.lsz, I.tsz, I.tdf, I.closed, ⟨hid, h1, hia, I.ok⟩, by simpa [hc] using h5, fun c hc => by simp [I.chs c hc], hcover, by rw [hE]; exact q5, I.st, I.fr, fun j hj => by simp [I.ldone j hj], hcd,
          fun j op hj hnj hoj => by
            rcases List.mem_cons.1 hj with rfl | hj
            · rw [hop] at hoj; cases hoj
              exact ⟨q1, q2, q3, .inl (by rw [hB, hvi]; exact q4)⟩
            · rw [hB2 j hj, ← hvd j hj]
              exact I.pok j op hj hnj hoj, hd1, I.d2, I.lt0, hltd⟩
      · exact SInv.adv (rest := r) (done := i :: done) (ch := ch) (pend := (i, g) :: pend) (H := H) (F := F) (S := S) (val := val') ⟨I.lsz, I.tsz, I.tdf, I.closed, ⟨hid, h1, hia, I.ok⟩, by simpa [hc] using h5, fun c hc => by simp [I.chs c hc], hcover, by rw [hE]; exact q6, I.st, I.fr, fun j hj => by simp [I.ldone j hj], hcd,
          fun j op hj hnj hoj => by
            rcases List.mem_cons.1 hj with rfl | hj
            · rw [hop] at hoj; cases hoj
              exact ⟨q1, q2, q3, .inr ⟨g, by simp, q4, by rw [hB, hvi]; exact q5⟩⟩
            · rw [hB2 j hj, ← hvd j hj]
              obtain ⟨k1, k2, k3, k4⟩ := I.pok j op hj hnj hoj
              exact ⟨k1, k2, k3, k4.imp id (fun ⟨g', m1, m2⟩ => ⟨g', by simp [m1], m2⟩)⟩, hd1, I.d2, I.lt0, hltd⟩

theorem listed_set {listed : Array Bool} {i j : Nat} (hi : i < listed.size) : (listed.setIfInBounds i true)[j]? = some true ↔ j = i ∨ listed[j]? = some true := by
  rw [Array.getElem?_setIfInBounds]
  by_cases e : i = j
  · subst e; simp [hi]
  · simp only [if_neg e]
    exact ⟨.inr, fun h => h.resolve_left (fun q => e q.symm)⟩
/-- One operation is done, which was walked over. -/
theorem SInv.float {ρ₀ : Env} {listed : Array Bool} {a : Act} {w : World} {done rest ch : List Nat} {pend : Pend} {H : List Asn} {F S : List Nat} {val : Nat → Value} (C : Chk ops []) (I : SInv P n ops Q o σ ρ₀ listed a w done rest ch pend H F S val)
    {i : Nat} {op : Oper} (hi : ops[i]? = some op) (hid : i ∈ done) (hnl : listed[i]? ≠ some true) (haft : ∀ k ∈ afters ops i, listed[k]? = some true) (hcs : σ.any (Nat.beq i) = false) :
    SInv P n ops Q o σ ρ₀ (listed.setIfInBounds i true) (a.put op.dst (val i)) w done rest ch pend H F S val := by
  have hlt : i < listed.size := by rw [I.lsz]; exact (List.getElem?_eq_some_iff.1 hi).1
  obtain ⟨d, hd⟩ : ∃ d, op.dst = some d := by
    have := (I.pok i op hid hnl hi).2.2.1
    cases h : op.dst with
    | none => exact absurd h this
    | some d => exact ⟨d, rfl⟩
  have hdn : d < a.tmps.size := by rw [I.tsz]; exact (I.pok i op hid hnl hi).2.1 d hd
  refine ⟨by simpa using I.lsz, by rw [hd]; simpa [Act.put] using I.tsz, by rw [hd]; simpa [Act.put] using I.tdf, ?_, I.ok, I.ord, I.chs, I.cover, I.sw, I.st, I.fr, ?_, ?_, ?_, ?_, ?_, I.lt0, I.ltd⟩
  · intro x hx y hy
    rw [listed_set hlt] at hx ⊢
    rcases hx with rfl | hx
    · exact .inr (haft y hy)
    · exact .inr (I.closed x hx y hy)
  · intro x hx
    rcases (listed_set hlt).1 hx with rfl | hx
    · exact hid
    · exact I.ldone x hx
  · intro x hx hs
    exact (listed_set hlt).2 (.inr (I.cdone x hx hs))
  · intro x ox hx hnx hox
    exact I.pok x ox hx (fun h => hnx ((listed_set hlt).2 (.inr h))) hox
  · intro x ox dx hx hox hdx
    rw [hd]
    simp only [Act.put]
    rcases (listed_set hlt).1 hx with rfl | hx
    · rw [hi] at hox; cases hox
      rw [hd] at hdx; cases hdx
      rw [Array.getElem?_setIfInBounds]; simp [hdn]
    · have hne : d ≠ dx := by
        intro e; subst e
        have := C.apart x ox d hox hdx i op hi hd
        exact hnl (this ▸ hx)
      rw [Array.getElem?_setIfInBounds_ne hne]
      exact I.d1 x ox dx hx hox hdx
  · intro t v hv hno
    have hne : d ≠ t := fun e => hno i op ((listed_set hlt).2 (.inl rfl)) hi (by rw [hd, e])
    rw [hd]
    simp only [Act.put]
    rw [Array.getElem?_setIfInBounds_ne hne]
    exact I.d2 t v hv (fun j oj hj => hno j oj ((listed_set hlt).2 (.inr hj)))

/-- The next one of the chain is done. -/
theorem SInv.chain {ρ₀ : Env} {listed : Array Bool} {a : Act} {w : World} {done r ch : List Nat} {pend : Pend} {H : List Asn} {F S : List Nat} {val : Nat → Value} (C : Chk ops []) {i : Nat} {op : Oper} (I : SInv P n ops Q o σ ρ₀ listed a w done (i :: r) ch pend H F S val)
    (hi : ops[i]? = some op) (hnl : listed[i]? ≠ some true) (haft : ∀ k ∈ afters ops i, listed[k]? = some true) (hid : i ∉ done) (hia : ∀ k ∈ afters ops i, k ∈ done) (hcs : σ.any (Nat.beq i) = true) (hdn : ∀ d, op.dst = some d → d < n.n) (hord : chkOrd ops σ (i :: done) (i :: ch) r = true)
    {v : Value} {H' : List Asn} {F' S' : List Nat} {w' : World} (hob : Obl ops i pend H') (hsw : SW P n ops Q o σ (piOf ops r) pend (extE op.dst v (envOf ops val ρ₀ done)) H') (s' : St H' F' S' w') (f' : From o w' F' S') :
    SInv P n ops Q o σ ρ₀ (listed.setIfInBounds i true) (a.put op.dst v) w' (i :: done) r (i :: ch) pend H' F' S' (fun j => if j = i then v else val j) := by
  have hll := (List.getElem?_eq_some_iff.1 hi).1
  have hlt : i < listed.size := by rw [I.lsz]; exact hll
  obtain ⟨val', hv'⟩ : ∃ val' : Nat → Value, val' = fun j => if j = i then v else val j := ⟨_, rfl⟩
  rw [← hv']
  have hvi : val' i = v := by rw [hv']; simp
  have hvd : ∀ j ∈ done, val j = val' j := fun j hj => by rw [hv']; simp only [if_neg (fun e : j = i => hid (e ▸ hj))]
  have hE : envOf ops val' ρ₀ (i :: done) = extE op.dst v (envOf ops val ρ₀ done) := by
    simp only [envOf, hi, Option.bind_some, hvi]
    rw [envOf_congr (fun j hj => (hvd j hj).symm)]
  have hB2 : ∀ j, j ∈ done → envB ops val' ρ₀ j (i :: done) = envB ops val ρ₀ j done := fun j hj => by
    simp only [envB]
    rw [if_neg (fun e : i = j => hid (e ▸ hj))]
    exact envB_congr (fun j hj => (hvd j hj).symm)
  refine ⟨by simpa using I.lsz, ?_, ?_, ?_, ⟨hid, hll, hia, I.ok⟩, hord, ?_, ?_, by rw [hE]; exact hsw, s', f', ?_, ?_, ?_, ?_, ?_, I.lt0, ?_⟩
  · cases hd : op.dst <;> simp [Act.put, I.tsz]
  · cases hd : op.dst <;> simp [Act.put, I.tdf]
  · intro x hx y hy
    rw [listed_set hlt] at hx ⊢
    rcases hx with rfl | hx
    · exact .inr (haft y hy)
    · exact .inr (I.closed x hx y hy)
  · intro c hc
    rcases List.mem_cons.1 hc with rfl | hc
    · simp
    · simp [I.chs c hc]
  · intro j hj
    rcases I.cover j hj with h | h
    · exact .inl (by simp [h])
    · rcases List.mem_cons.1 h with rfl | h
      · exact .inl (by simp)
      · exact .inr h
  · intro x hx
    rcases (listed_set hlt).1 hx with rfl | hx
    · simp
    · simp [I.ldone x hx]
  · intro x hx hs
    rcases List.mem_cons.1 hx with rfl | hx
    · exact (listed_set hlt).2 (.inl rfl)
    · exact (listed_set hlt).2 (.inr (I.cdone x hx hs))
  · intro x ox hx hnx hox
    have hxi : x ≠ i := fun e => hnx ((listed_set hlt).2 (.inl e))
    have hxd := (List.mem_cons.1 hx).resolve_left hxi
    have hnx' : listed[x]? ≠ some true := fun h => hnx ((listed_set hlt).2 (.inr h))
    obtain ⟨k1, k2, k3, k4⟩ := I.pok x ox hxd hnx' hox
    rw [hB2 x hxd, ← hvd x hxd]
    refine ⟨k1, k2, k3, k4.imp id (fun ⟨g, m1, m2, m3⟩ => ⟨g, m1, ?_, m3⟩)⟩
    rcases hob.all x g m1 with hr | hg
    · exact absurd (masks_spec _ _ _ hr (fun y => listed[y]? = some true) I.closed haft) hnx'
    · exact hg
  · intro x ox dx hx hox hdx
    rcases (listed_set hlt).1 hx with rfl | hx
    · rw [hi] at hox; cases hox
      rw [hdx, hvi]
      simp only [Act.put]
      rw [Array.getElem?_setIfInBounds]; simp [I.tsz, hdn dx hdx]
    · rw [← hvd x (I.ldone x hx)]
      have := I.d1 x ox dx hx hox hdx
      cases hd : op.dst with
      | none => exact this
      | some d =>
        simp only [Act.put]
        have hne : d ≠ dx := by
          intro e; subst e
          have := C.apart x ox d hox hdx i op hi hd
          exact hnl (this ▸ hx)
        rw [Array.getElem?_setIfInBounds_ne hne]
        exact this
  · intro t u hu hno
    have h2 := I.d2 t u hu (fun j oj hj => hno j oj ((listed_set hlt).2 (.inr hj)))
    cases hd : op.dst with
    | none => exact h2
    | some d =>
      have hne : d ≠ t := fun e => hno i op ((listed_set hlt).2 (.inl rfl)) hi (by rw [hd, e])
      simp only [Act.put]
      rw [Array.getElem?_setIfInBounds_ne hne]
      exact h2
  · intro j oj dj hj hoj hdj
    rcases List.mem_cons.1 hj with rfl | hj
    · rw [hi] at hoj; cases hoj; exact hdn dj hdj
    · exact I.ltd j oj dj hj hoj hdj
theorem chkOrd_reach : ∀ {r done ch : List Nat}, chkOrd ops σ done ch r = true → ∀ i ∈ r, ∀ c ∈ ch, reachIn (masks ops ops.length) i c = true
  | j :: r, done, ch, h, i, hi, c, hc => by
    simp only [chkOrd, Bool.and_eq_true] at h
    obtain ⟨⟨_, h4⟩, h5⟩ := h
    rcases List.mem_cons.1 hi with rfl | hi
    · exact List.all_eq_true.1 h4 c hc
    · refine chkOrd_reach h5 i hi c ?_
      split
      · simp [hc]
      · exact hc

theorem SW.sound {ρ₀ : Env} {π : List Nat} {H : List Asn} {F S : List Nat} (hchk : chkPi ops σ π = true) (hn : ∀ t v, look ρ₀ t = some v → t < n.n) (h : SW P n ops Q o σ (piOf ops π) [] ρ₀ H)
    {a : Act} {w : World} (s : St H F S w) (fr : From o w F S) (ha : Fr n ρ₀ a) : wpAnyIn (fen n.ro) 0 P .any ops.toArray Q ops.length (Array.replicate ops.length false) a w := by
  simp only [chkPi, Bool.and_eq_true] at hchk
  obtain ⟨⟨hc1, hc2⟩, hc3⟩ := hchk
  have C := chk_spec hc1
  have hready : ∀ (listed : Array Bool) (i : Nat), i ∈ Region.ready .any ops.toArray listed → i < ops.length ∧ listed[i]? ≠ some true ∧ ∀ k ∈ afters ops i, listed[k]? = some true := by
    intro listed i hi
    simp only [Region.ready, List.mem_filter, List.mem_range, Bool.and_eq_true] at hi
    obtain ⟨h1, h2, h3⟩ := hi
    have h1' : i < ops.length := by simpa using h1
    refine ⟨h1', ?_, ?_⟩
    · intro e
      simp [Array.getD_eq_getD_getElem?, e] at h2
    · intro k hk
      rw [List.getElem?_toArray, List.getElem?_eq_getElem h1'] at h3
      simp only [Option.map_some, Option.getD_some] at h3
      simp only [afters, List.getElem?_eq_getElem h1'] at hk
      simp only [List.mem_map, List.mem_filter] at hk
      obtain ⟨e, ⟨he, hb⟩, rfl⟩ := hk
      have := (Array.all_eq_true_iff_forall_mem.1 h3) e (by simpa using he)
      simp only [bindsAny] at hb
      simp only [hb, Bool.not_true, Bool.false_or] at this
      simp only [Array.getD_eq_getD_getElem?] at this
      cases hq : listed[e.on]? with
      | none => simp [hq] at this
      | some b => simp [hq] at this; subst this; rfl
  have allReady : ∀ (listed : Array Bool), listed.size = ops.length → Closed ops (fun i => listed[i]? = some true) → (∀ m, m < ops.length → listed[m]? ≠ some true → ∃ i, i ∈ Region.ready .any ops.toArray listed) := by
    intro listed hsz hcl m
    induction m using Nat.strongRecOn with
    | _ m ih =>
      intro hm hne
      by_cases hall : ∀ k ∈ afters ops m, listed[k]? = some true
      · refine ⟨m, ?_⟩
        simp only [Region.ready, List.mem_filter, List.mem_range, Bool.and_eq_true]
        refine ⟨by simpa using hm, ?_, ?_⟩
        · have hlt : m < listed.size := by omega
          rw [Array.getD_eq_getD_getElem?, Array.getElem?_eq_getElem hlt]
          rw [Array.getElem?_eq_getElem hlt] at hne
          cases hv : listed[m] with
          | true => rw [hv] at hne; exact absurd rfl hne
          | false => rfl
        · rw [List.getElem?_toArray, List.getElem?_eq_getElem hm]
          simp only [Option.map_some, Option.getD_some]
          rw [Array.all_eq_true_iff_forall_mem]
          intro e he
          cases hb : Region.binds .any e with
          | false => rfl
          | true =>
            have := hall e.on (by
              simp only [afters, List.getElem?_eq_getElem hm, List.mem_map, List.mem_filter]
              exact ⟨e, ⟨by simpa using he, hb⟩, rfl⟩)
            simp [Array.getD_eq_getD_getElem?, this]
      · have hex : ∃ k, k ∈ afters ops m ∧ ¬ listed[k]? = some true := Classical.byContradiction fun hno => hall fun k hk => Classical.byContradiction fun hk' => hno ⟨k, hk, hk'⟩
        obtain ⟨k, hk, hk'⟩ := hex
        have hlt := C.back m _ (List.getElem?_eq_getElem hm) k hk
        exact ih k hlt (by omega) hk'
  have key : ∀ (fuel : Nat) (listed : Array Bool) (a : Act) (w : World) (done rest ch : List Nat) (pend : Pend) (H : List Asn) (F S : List Nat) (val : Nat → Value), ((List.range ops.length).filter (fun i => listed[i]? ≠ some true)).length ≤ fuel →
      SInv P n ops Q o σ ρ₀ listed a w done rest ch pend H F S val → wpAnyIn (fen n.ro) 0 P .any ops.toArray Q fuel listed a w := by
    intro fuel
    have finish : ∀ (listed : Array Bool) (a : Act) (w : World) (done rest ch : List Nat) (pend : Pend) (H : List Asn) (F S : List Nat) (val : Nat → Value), SInv P n ops Q o σ ρ₀ listed a w done rest ch pend H F S val → (∀ i, i < ops.length → listed[i]? = some true) → Q .normal a w := by
      intro listed a w done rest ch pend H F S val I hall
      obtain ⟨done, rest, ch, pend, val, I, hr⟩ := I.adv
      rcases hr with rfl | ⟨c, r, rfl, hcs⟩
      · refine I.sw w F S I.st I.fr a ⟨I.tsz, I.tdf, fun t v hv => ?_⟩
        rcases look_envOf hv with ⟨j, op, h1, h2, h3, rfl⟩ | ⟨h1, h2⟩
        · exact I.d1 j op t (hall j (List.getElem?_eq_some_iff.1 h2).1) h2 h3
        · exact I.d2 t v h1 (fun j op hj hop => h2 j op (I.ldone j hj) hop)
      · exfalso
        have ho := I.ord
        simp only [chkOrd, Bool.and_eq_true, Bool.not_eq_true', Nat.blt_eq] at ho
        have := any_beq.2 (I.ldone c (hall c ho.1.1.1.1))
        rw [ho.1.1.1.2] at this; cases this
    induction fuel with
    | zero =>
      intro listed a w done rest ch pend H F S val hcnt I
      have hall : ∀ i, i < ops.length → listed[i]? = some true := by
        intro i hi
        refine Classical.byContradiction fun hne => ?_
        have hmem : i ∈ (List.range ops.length).filter (fun i => listed[i]? ≠ some true) := by
          rw [List.mem_filter]; exact ⟨List.mem_range.2 hi, by simpa using hne⟩
        have : (List.range ops.length).filter (fun i => listed[i]? ≠ some true) = [] := List.eq_nil_of_length_eq_zero (by omega)
        rw [this] at hmem; cases hmem
      refine ⟨?_, finish listed a w done rest ch pend H F S val I hall⟩
      apply List.eq_nil_iff_forall_not_mem.2
      intro i hi
      have := hready listed i hi
      exact this.2.1 (hall i this.1)
    | succ fuel ih =>
      intro listed a w done rest ch pend H F S val hcnt I
      refine ⟨fun hnil => ?_, fun i hi => ?_⟩
      · refine finish listed a w done rest ch pend H F S val I (fun i hi => Classical.byContradiction fun hne => ?_)
        obtain ⟨x, hx⟩ := allReady listed I.lsz I.closed i hi hne
        rw [hnil] at hx; cases hx
      · obtain ⟨hlt, hnl, haft⟩ := hready listed i hi
        obtain ⟨done, rest, ch, pend, val, I, hr⟩ := I.adv
        have hoi : ops[i]? = some ops[i] := List.getElem?_eq_getElem hlt
        have hlz : i < listed.size := by rw [I.lsz]; exact hlt
        have hless : ((List.range ops.length).filter (fun j => (listed.setIfInBounds i true)[j]? ≠ some true)).length ≤ fuel := by
          have gen : ∀ (l : List Nat), l.Nodup → ((i ∈ l → (l.filter (fun j => (listed.setIfInBounds i true)[j]? ≠ some true)).length + 1 ≤ (l.filter (fun j => listed[j]? ≠ some true)).length) ∧ (l.filter (fun j => (listed.setIfInBounds i true)[j]? ≠ some true)).length ≤ (l.filter (fun j => listed[j]? ≠ some true)).length) := by
            intro l
            induction l with
            | nil => exact fun _ => ⟨fun h => (by cases h), Nat.le_refl _⟩
            | cons x r ihl =>
              intro hnd
              have hnd' := List.nodup_cons.1 hnd
              obtain ⟨k1, k2⟩ := ihl hnd'.2
              by_cases hxi : x = i
              · subst hxi
                have e1 : (decide ((listed.setIfInBounds x true)[x]? ≠ some true)) = false := by simp [listed_set hlz]
                have e2 : (decide (listed[x]? ≠ some true)) = true := by simpa using hnl
                simp only [List.filter_cons, e1, e2, if_true, List.length_cons]
                simp only [Bool.false_eq_true, if_false]
                exact ⟨fun _ => Nat.succ_le_succ k2, Nat.le_succ_of_le k2⟩
              · have e1 : (decide ((listed.setIfInBounds i true)[x]? ≠ some true)) = (decide (listed[x]? ≠ some true)) := by
                  rw [decide_eq_decide]; simp [listed_set hlz, hxi]
                simp only [List.filter_cons, e1]
                split
                · simp only [List.length_cons]
                  exact ⟨fun h => Nat.succ_le_succ (k1 ((List.mem_cons.1 h).resolve_left (fun e => hxi e.symm))), Nat.succ_le_succ k2⟩
                · exact ⟨fun h => k1 ((List.mem_cons.1 h).resolve_left (fun e => hxi e.symm)), k2⟩
          have := (gen _ List.nodup_range).1 (List.mem_range.2 hlt)
          omega
        by_cases hid : i ∈ done
        · have hcs : σ.any (Nat.beq i) = false := by
            cases h : σ.any (Nat.beq i) with
            | false => rfl
            | true => exact absurd (I.cdone i hid h) hnl
          obtain ⟨p1, p2, p3, p4⟩ := I.pok i _ hid hnl hoi
          have hfl : Fl P n ops (envB ops val ρ₀ i done) w ops[i] (val i) := p4.elim (fun h => h w) (fun ⟨g, _, h1, h2⟩ => h2 H w F S h1 I.st I.fr)
          obtain ⟨d', hd1, hd2, hd3, hd4, hd5⟩ := envB_of (val := val) (ρ₀ := ρ₀) I.ok hid
          rw [hd1] at hfl
          have hsl := I.slots C hoi hnl haft hd4 hd2 hd3
          have hltE := lt_env (ops := ops) (n := n) (val := val) I.lt0 (fun j op t hj => I.ltd j op t (hd5 j hj))
          obtain ⟨a₀, hfr, hag⟩ := frame_for I.tsz hltE ops[i] hsl
          have hwp : wpo P n ops Q ops[i] (fun a' w' => a' = a.put ops[i].dst (val i) ∧ w' = w) a w := by
            unfold wpo
            rcases hfl with ⟨hg, hrun⟩ | ⟨hg, hv⟩
            · rw [wanted_for hg hfr hag]
              simp only [if_true]
              refine wpIn_run (nodef p1) ((congrArg (fun s => s.run P w) (eval_virtual hag (nosel p1))).trans (hrun a₀ hfr)) ?_
              exact ⟨rfl, rfl⟩
            · rw [wanted_for hg hfr hag]
              simp only [Bool.false_eq_true, if_false]
              rw [hv]; exact ⟨rfl, trivial⟩
          refine wpo_wpOp hoi hwp ?_
          rintro a' w' ⟨rfl, rfl⟩
          exact ih _ _ _ done rest ch pend H F S val hless (I.float C hoi hid hnl haft hcs)
        · have hir := (I.cover i hlt).resolve_left hid
          rcases hr with rfl | ⟨c, r, rfl, hcs⟩
          · cases hir
          · have ho := I.ord
            simp only [chkOrd, Bool.and_eq_true, Bool.not_eq_true', Nat.blt_eq, hcs, if_true] at ho
            obtain ⟨⟨⟨⟨h1, h2⟩, h3⟩, h4⟩, h5⟩ := ho
            by_cases hic : i = c
            · subst hic
              have hia : ∀ k ∈ afters ops i, k ∈ done := fun k hk => any_beq.1 (List.all_eq_true.1 h3 k hk)
              have hsw := I.sw
              rw [piOf_cons hoi] at hsw
              obtain ⟨q1, q2, q⟩ := hsw ⟨w, F, S, I.st, I.fr⟩
              rcases q with ⟨_, Ψ, hΨ, hk⟩ | ⟨q, _⟩
              · have hsl := I.slots C hoi hnl haft I.ok hia hid
                have hltE := lt_env (ops := ops) (n := n) (val := val) I.lt0 (fun j op t hj => I.ltd j op t hj)
                obtain ⟨a₀, hfr, hag⟩ := frame_for I.tsz hltE ops[i] hsl
                have hwp : wpo P n ops Q ops[i] (fun a' w' => ∃ v, a' = a.put ops[i].dst v ∧ PostS o Ψ v w') a w := by
                  unfold wpo
                  rcases hΨ with ⟨hg, hrun⟩ | ⟨hg, hv⟩
                  · rw [wanted_for hg hfr hag]
                    simp only [if_true]
                    exact (hrun w F S I.st I.fr).wp (nodef q1) hfr (eval_virtual hag (nosel q1))
                  · rw [wanted_for hg hfr hag]
                    simp only [Bool.false_eq_true, if_false]
                    exact ⟨undef, rfl, H, F, S, by rw [hv]; exact ⟨rfl, rfl⟩, I.st, I.fr⟩
                refine wpo_wpOp hoi hwp ?_
                rintro a' w' ⟨v, rfl, H', F', S', hv, s', f'⟩
                obtain ⟨k1, k2⟩ := hk v H' hv
                exact ih _ _ _ (i :: done) r (i :: ch) pend H' F' S' _ hless (I.chain C hoi hnl haft hid hia hcs q2 h5 k1 k2 s' f')
              · rw [hcs] at q; cases q
            · exfalso
              have hir' := (List.mem_cons.1 hir).resolve_left hic
              have hb := masks_spec _ _ _ (chkOrd_reach h5 i hir' c (by simp)) (fun x => listed[x]? = some true) I.closed haft
              have := any_beq.2 (I.ldone c hb)
              rw [h2] at this; cases this
  refine key _ _ a w [] π [] [] H F S (fun _ => undef) (Nat.le_trans (List.length_filter_le _ _) (by simp)) ⟨by simp, ha.size, ha.defers, ?_, trivial, hc3, by simp, ?_, h, s, fr, ?_, by simp, by simp, ?_, fun t v hv _ => ha.vals t v hv, hn, by simp⟩
  · intro x hx
    simp [Array.getElem?_replicate] at hx
  · intro i hi
    exact .inr (any_beq.1 (List.all_eq_true.1 hc2 i (List.mem_range.2 hi)))
  · intro i hi
    simp [Array.getElem?_replicate] at hi
  · intro j o d hj
    simp [Array.getElem?_replicate] at hj

/-! ### the rules -/
def Rd1 (P : Program) (n : Fm) (o : Org) (ρ : Env) (op : Oper) (v : Value) (H : List Asn) : Prop := ∀ w F S, St H F S w → Runs P n ρ w op v w
theorem SG.draw [hm : Mixed P] {B : Exit → Act → World → Prop} {ks : List K} {ρ : Env} {H : List Asn} {id : Nat} (σ π : List Nat) (hchk : chkPi ops σ π = true) (hlt : ρ.all (fun p => Nat.blt p.1 n) = true) (h : SW P n ops (sem P n.ro B ks) o σ (piOf ops π) [] ρ H) :
    SG P B n o ks ρ H (.region id ops.toArray true) := by
  intro w F S s f a ha
  refine wpIn_region_any hm.h ?_
  have hd := Ext.drawn w
  have := SW.sound (P := P) (n := n) (a := a) (w := { w with drawn := w.drawn + 1 }) hchk (fun t v hv => by
      have hmem : ∀ (r : Env) t v, look r t = some v → (t, v) ∈ r := by
        intro r
        induction r with
        | nil => intro t v h; cases h
        | cons p r ih =>
          obtain ⟨s, u⟩ := p
          intro t v h
          rw [look_cons] at h
          split at h
          · rename_i e; subst e; cases h; simp
          · exact List.mem_cons_of_mem _ (ih t v h)
      have := List.all_eq_true.1 hlt (t, v) (hmem ρ t v hv)
      simpa [Nat.blt_eq] using this) h ⟨s.sep.ext hd (Apart.nilR _) (Apart.nilR _), fun b hb => Nat.lt_of_lt_of_le (s.ltF b hb) hd.size, fun b hb => Nat.lt_of_lt_of_le (s.ltS b hb) hd.size⟩ ⟨f.ext.trans0 hd, f.fF, f.fS⟩ ha
  simpa using this
section
variable {π : List (Nat × Oper)} {pend : Pend} {ρ : Env} {H : List Asn} {i d : Nat} {op : Op} {ty : TypeId} {pos : String} {af : Array Edge} {gd : Option (Nat × Bool)}
theorem SW.pure {v : Value} (hc : σ.any (Nat.beq i) = false) (hg : wants ops ρ gd = some true) (hd : Nat.blt d n = true) (hs : isSelect op = false) (hrun : ∀ w, Runs P n ρ w ⟨some d, op, ty, pos, af, gd⟩ v w) (h : SW P n ops Q o σ π pend ((d, v) :: ρ) H) :
    SW P n ops Q o σ ((i, ⟨some d, op, ty, pos, af, gd⟩) :: π) pend ρ H :=
  fun _ => ⟨hs, fun d' e => by cases e; simpa [Nat.blt_eq] using hd, .inr ⟨hc, v, by simp, .inl ⟨fun w => .inl ⟨hg, hrun w⟩, h⟩⟩⟩
theorem SW.pass {hd : Nat.blt d n = true} (hc : σ.any (Nat.beq i) = false) (hg : wants ops ρ gd = some false) (hs : isSelect op = false) (h : SW P n ops Q o σ π pend ((d, undef) :: ρ) H) :
    SW P n ops Q o σ ((i, ⟨some d, op, ty, pos, af, gd⟩) :: π) pend ρ H :=
  fun _ => ⟨hs, fun d' e => by cases e; simpa [Nat.blt_eq] using hd, .inr ⟨hc, undef, by simp, .inl ⟨fun w => .inr ⟨hg, rfl⟩, h⟩⟩⟩
theorem SW.read {v : Value} (hc : σ.any (Nat.beq i) = false) (hg : wants ops ρ gd = some true) (hd : Nat.blt d n = true) (hs : isSelect op = false) (hrun : Rd1 P n o ρ ⟨some d, op, ty, pos, af, gd⟩ v H) (h : SW P n ops Q o σ π ((i, Rd1 P n o ρ ⟨some d, op, ty, pos, af, gd⟩ v) :: pend) ((d, v) :: ρ) H) :
    SW P n ops Q o σ ((i, ⟨some d, op, ty, pos, af, gd⟩) :: π) pend ρ H :=
  fun _ => ⟨hs, fun d' e => by cases e; simpa [Nat.blt_eq] using hd, .inr ⟨hc, v, by simp, .inr ⟨_, hrun, fun H w F S h s f => .inl ⟨hg, h w F S s⟩, h⟩⟩⟩
theorem SW.step {Ψ : Value → List Asn → Prop} (hc : σ.any (Nat.beq i) = true) (hg : wants ops ρ gd = some true) (hd : Nat.blt d n = true) (hs : isSelect op = false) (h : CS P n o ρ H ⟨some d, op, ty, pos, af, gd⟩ Ψ)
    (k : ∀ v H', Ψ v H' → Obl ops i pend H' ∧ SW P n ops Q o σ π pend ((d, v) :: ρ) H') : SW P n ops Q o σ ((i, ⟨some d, op, ty, pos, af, gd⟩) :: π) pend ρ H :=
  fun _ => ⟨hs, fun d' e => by cases e; simpa [Nat.blt_eq] using hd, .inl ⟨hc, Ψ, .inl ⟨hg, h⟩, k⟩⟩
theorem SW.step0 {Ψ : Value → List Asn → Prop} (hc : σ.any (Nat.beq i) = true) (hg : wants ops ρ gd = some true) (hs : isSelect op = false) (h : CS P n o ρ H ⟨none, op, ty, pos, af, gd⟩ Ψ)
    (k : ∀ v H', Ψ v H' → Obl ops i pend H' ∧ SW P n ops Q o σ π pend ρ H') : SW P n ops Q o σ ((i, ⟨none, op, ty, pos, af, gd⟩) :: π) pend ρ H :=
  fun _ => ⟨hs, fun d' e => (by cases e), .inl ⟨hc, Ψ, .inl ⟨hg, h⟩, k⟩⟩
theorem SW.passS (hc : σ.any (Nat.beq i) = true) (hg : wants ops ρ gd = some false) (hd : Nat.blt d n = true) (hs : isSelect op = false) (k : Obl ops i pend H ∧ SW P n ops Q o σ π pend ((d, undef) :: ρ) H) :
    SW P n ops Q o σ ((i, ⟨some d, op, ty, pos, af, gd⟩) :: π) pend ρ H :=
  fun _ => ⟨hs, fun d' e => by cases e; simpa [Nat.blt_eq] using hd, .inl ⟨hc, _, .inr ⟨hg, rfl⟩, by rintro v H' ⟨rfl, rfl⟩; exact k⟩⟩
theorem SW.fact {φ : Prop} (hφ : ∀ w F S, St H F S w → φ) (h : φ → SW P n ops Q o σ π pend ρ H) : SW P n ops Q o σ π pend ρ H := by
  cases π with
  | nil => exact fun w F S s f => h (hφ w F S s) w F S s f
  | cons p π => exact fun ⟨w, F, S, s, f⟩ => h (hφ w F S s) ⟨w, F, S, s, f⟩
theorem wants_congr {ρ ρ' : Env} (hl : ∀ t, look ρ t = look ρ' t) (g : Option (Nat × Bool)) : wants ops ρ g = wants ops ρ' g := by
  unfold wants
  split
  · rfl
  · split
    · rw [hl]
    · rfl
theorem Fr.congr {ρ ρ' : Env} {a : Act} (hl : ∀ t, look ρ t = look ρ' t) (h : Fr n ρ' a) : Fr n ρ a := ⟨h.size, h.defers, fun t v hv => h.vals t v (by rw [← hl]; exact hv)⟩
theorem Acts.congr {ρ ρ' : Env} {w : World} {op : Oper} {Φ : Value → World → Prop} (hl : ∀ t, look ρ t = look ρ' t) (h : Acts P n ρ w op Φ) : Acts P n ρ' w op Φ := by
  rcases h with ⟨v, w', h, k⟩ | ⟨hd, w', h, k⟩ | ⟨f, vs, h, k⟩ | ⟨l, fn, tmps, asv, body, h, k⟩
  · exact .inl ⟨v, w', fun a ha => h a (ha.congr hl), k⟩
  · exact .inr (.inl ⟨hd, w', fun a ha => h a (ha.congr hl), k⟩)
  · exact .inr (.inr (.inl ⟨f, vs, fun a ha => h a (ha.congr hl), k⟩))
  · exact .inr (.inr (.inr ⟨l, fn, tmps, asv, body, fun a ha => h a (ha.congr hl), k⟩))
theorem Fl.congr {ρ ρ' : Env} {w : World} {op : Oper} {v : Value} (hl : ∀ t, look ρ t = look ρ' t) (h : Fl P n ops ρ w op v) : Fl P n ops ρ' w op v := by
  unfold Fl at h ⊢
  rw [← wants_congr hl]
  exact h.imp (fun ⟨a, b⟩ => ⟨a, fun x hx => b x (hx.congr hl)⟩) id
theorem extE_congr {ρ ρ' : Env} (hl : ∀ t, look ρ t = look ρ' t) (d : Option Nat) (v : Value) (t : Nat) : look (extE d v ρ) t = look (extE d v ρ') t := by
  cases d with
  | none => exact hl t
  | some d => simp only [extE]; rw [look_cons, look_cons, hl]
theorem SW.congr : ∀ {π : List (Nat × Oper)} {pend : Pend} {ρ ρ' : Env} {H : List Asn}, (∀ t, look ρ t = look ρ' t) → SW P n ops Q o σ π pend ρ H → SW P n ops Q o σ π pend ρ' H
  | [], _, _, _, _, hl, h => fun w F S s f a ha => h w F S s f a (ha.congr hl)
  | (i, op) :: π, pend, ρ, ρ', H, hl, h => fun he => by
    obtain ⟨q1, q2, q⟩ := h he
    refine ⟨q1, q2, ?_⟩
    rcases q with ⟨c, Ψ, hΨ, hk⟩ | ⟨c, v, hn, q⟩
    · refine .inl ⟨c, Ψ, ?_, fun v H' hv => ⟨(hk v H' hv).1, SW.congr (extE_congr hl _ _) (hk v H' hv).2⟩⟩
      rw [← wants_congr hl]
      exact hΨ.imp (fun ⟨a, b⟩ => ⟨a, fun w F S s f => (b w F S s f).congr hl⟩) id
    · refine .inr ⟨c, v, hn, ?_⟩
      rcases q with ⟨h1, h2⟩ | ⟨g, h1, h2, h3⟩
      · exact .inl ⟨fun w => (h1 w).congr hl, SW.congr (extE_congr hl _ _) h2⟩
      · exact .inr ⟨g, h1, fun H w F S a b c => (h2 H w F S a b c).congr hl, SW.congr (extE_congr hl _ _) h3⟩
theorem SW.be {v v' : Value} (d : Nat) (hv : look ρ d = some v) (e : v = v') (h : SW P n ops Q o σ π pend ((d, v') :: ρ) H) : SW P n ops Q o σ π pend ρ H := by
  subst e
  refine h.congr (fun t => ?_)
  rw [look_cons]
  split
  · rename_i e; subst e; exact hv.symm
  · rfl
theorem SW.caseB {b : Bool} (d : Nat) (hv : look ρ d = some (.bool b)) (ht : b = true → SW P n ops Q o σ π pend ((d, .bool true) :: ρ) H) (hf : b = false → SW P n ops Q o σ π pend ((d, .bool false) :: ρ) H) : SW P n ops Q o σ π pend ρ H := by
  cases b
  · exact SW.be d hv rfl (hf rfl)
  · exact SW.be d hv rfl (ht rfl)
theorem SW.caseP {p : Prop} {dp : Decidable p} (d : Nat) (hv : look ρ d = some (.bool (@decide p dp))) (ht : p → SW P n ops Q o σ π pend ((d, .bool true) :: ρ) H) (hf : ¬ p → SW P n ops Q o σ π pend ((d, .bool false) :: ρ) H) : SW P n ops Q o σ π pend ρ H :=
  SW.caseB d hv (fun h => ht (of_decide_eq_true h)) (fun h => hf (of_decide_eq_false h))
theorem SW.isT {b : Bool} (d : Nat) (hv : look ρ d = some (.bool b)) (e : b = true) (h : SW P n ops Q o σ π pend ((d, .bool true) :: ρ) H) : SW P n ops Q o σ π pend ρ H := SW.be d hv (congrArg Value.bool e) h
theorem SW.isF {b : Bool} (d : Nat) (hv : look ρ d = some (.bool b)) (e : b = false) (h : SW P n ops Q o σ π pend ((d, .bool false) :: ρ) H) : SW P n ops Q o σ π pend ρ H := SW.be d hv (congrArg Value.bool e) h
theorem SW.nil {B : Exit → Act → World → Prop} {ks : List K} (h : SN P B n o ks ρ H) : SW P n ops (sem P n.ro B ks) o σ [] pend ρ H := fun w F S s f a ha => h w F S s f a ha
end
end
end Brv
/-
  A return of a struct that lives in a block.
-/
set_option linter.unusedVariables false
namespace Brv
open Go
section
variable {P : Program} {n : Nat} {ks : List K} {ρ : Env} {w : World} {fn : Func} {Φ : Value → World → Prop}
theorem G.retC {t : Nat} {T : TypeId} {s b : Nat} [ta : TyAgg P T s] {cs : Array Value} {U : TypeId} {fz : Nat × Nat} (hr : fn.results = #[.cell t T]) (hv : look ρ t = some (.pointer (some ⟨b, 0, none⟩)))
    (hb : Blk w b cs U fz) (hs : cs.size = s) (h : Φ (.agg cs) w) : G P (Func.base P fn Φ) ⟨n, [], none⟩ ks ρ w .ret := by
  refine G.retM (n := ⟨n, [], none⟩) rfl (fun a ha => ?_) h
  have h1 := ha.vals t _ hv
  have hl := run_loadN (P := P) (T := T) (s := s) (w := w) (p := ⟨b, 0, none⟩) (vs := cs.toList) hb.cellsAll (by simpa using hs)
  simp only [Instr.loadAt, Instr.sureAddr] at hl
  simp [results, hr, h1, asAddr] at hl ⊢
  simp [hl]
end
end Brv
/-
  Operations on rows that are owned.
-/
set_option linter.unusedVariables false
set_option linter.unusedSimpArgs false
namespace Brv
open Go
/-- Bytes that stay. -/
def bs (a : Option Addr) (n : Nat) (l : List UInt8) : Asn := sh (fun w => Bs w a n l)
instance (a : Option Addr) (n : Nat) (l : List UInt8) : Pers (bs a n l) := ⟨fun _ _ _ h => h⟩
theorem St.bs {H H' : List Asn} {a : Option Addr} {n : Nat} {l : List UInt8} {F S : List Nat} {w : World} (s : St H F S w) (h : Sel H (Brv.bs a n l) H') : Bs w a n l := s.sh h
theorem Imp.add {H : List Asn} {A : Asn} (h : ∀ w, A.P [] [] w) : Imp H (A :: H) := fun F S w s =>
  ⟨F, S, ⟨⟨[], [], F, S, ⟨by simp, subR _, by simp, subR _⟩, ⟨Apart.nilL _, Apart.nilL _, Apart.nilL _⟩, h w, s.sep⟩, s.ltF, s.ltS⟩, From.refl _ _ _⟩
theorem Imp.ownNil {H : List Asn} (E size : Nat) : Imp H (own E size none 0 0 [] :: H) := Imp.add fun w => Own.nil w E size
theorem Imp.ownBlk {H H' : List Asn} {E size b k : Nat} {cs : List Value} (h : Sel H (blk b cs E) H') (hk : cs.length = k * size) (hm : k ≤ maxLen) : Imp H (own E size (some ⟨b, 0, none⟩) k k cs :: H') :=
  Imp.same h fun F S w hA => by
    obtain ⟨rfl, hB⟩ := hA
    have := Own.blk (size := size) hB (by simpa using hk) hm
    rw [List.toList_toArray] at this
    exact this
theorem Imp.ownSh {H H' : List Asn} {E size k c : Nat} {a : Option Addr} {xs : List Value} {p : World → Prop} (h : Sel H (own E size a k c xs) H') (hp : ∀ w, Cells w a xs → p w) : Imp H (sh p :: H') := Imp.freeze h fun F S w hA => hp w hA.cells
theorem Imp.blkSh {H H' : List Asn} {b : Nat} {cs : List Value} {T : TypeId} {p : World → Prop} (h : Sel H (blk b cs T) H') (hp : ∀ w, Blk w b cs.toArray T (0, 0) → p w) : Imp H (sh p :: H') := Imp.freeze h fun F S w hA => hp w hA.2
/-- Two facts that stay are one. -/
theorem Imp.both {H H' H'' : List Asn} {p q : World → Prop} (h : Sel H (sh p) H') (k : Sel H' (sh q) H'') : Imp H (sh (fun w => p w ∧ q w) :: H'') := fun F S w s => by
  obtain ⟨F1, S1, F2, S2, ⟨a, b, c, d⟩, ⟨e, f, g⟩, hA, hH⟩ := h.sep s.sep
  obtain ⟨F3, S3, F4, S4, ⟨a', b', c', d'⟩, ⟨e', f', g'⟩, hB, hH'⟩ := k.sep hH
  exact ⟨F, S, ⟨⟨[], S1 ++ S3, F4, S4, ⟨by simp, subT b' b, subL c (subT c' d), subT d' d⟩, ⟨Apart.nilL _, Apart.nilL _, Apart.appL (g.mono (subR _) b') g'⟩,
    fun M w' he hM => ⟨hA M w' he (hM.mono (inL _ _) (subR _)), hB M w' he (hM.mono (inR _ _) (subR _))⟩, hH'⟩, s.ltF, s.ltS⟩, From.refl _ _ _⟩
theorem Imp.pure {H : List Asn} {p : World → Prop} (h : ∀ w, p w) : Imp H (sh p :: H) := Imp.add fun w M w' _ _ => h w'
theorem Imp.under {H H' : List Asn} {A : Asn} (h : Imp H H') : Imp (A :: H) (A :: H') := fun F S w s => by
  obtain ⟨F1, S1, F2, S2, ⟨a, b, c, d⟩, ⟨e, f, g⟩, hA, hH⟩ := s.sep
  obtain ⟨F', S', s', f'⟩ := h F2 S2 w ⟨hH, fun x hx => s.ltF x (b hx), fun x hx => s.ltS x (d hx)⟩
  have hF : ∀ x ∈ F', x ∈ F2 := fun x hx => (f'.fF x hx).elim id (fun h => absurd (s'.ltF x hx) (by simp only at h; omega))
  have hS : ∀ x ∈ S', x ∈ S2 ∨ x ∈ F2 := fun x hx => (f'.fS x hx).elim .inl (fun h => h.elim .inr (fun h => absurd (s'.ltS x hx) (by simp only at h; omega)))
  refine ⟨F1 ++ F', S1 ++ S', ⟨⟨F1, S1, F', S', ⟨inL _ _, inR _ _, inL _ _, inR _ _⟩, ⟨fun x hx hy => e x hx (hF x hy), fun x hx hy => (hS x hy).elim (f x hx) (e x hx), fun x hx hy => g x hx (hF x hy)⟩, hA, s'.sep⟩, ?_, ?_⟩, ⟨Ext.refl _ _, ?_, ?_⟩⟩
  · intro x hx; exact (List.mem_append.1 hx).elim (fun h => s.ltF x (a h)) (fun h => s'.ltF x h)
  · intro x hx; exact (List.mem_append.1 hx).elim (fun h => s.ltS x (c h)) (fun h => s'.ltS x h)
  · intro x hx; exact (List.mem_append.1 hx).elim (fun h => .inl (a h)) (fun h => .inl (b (hF x h)))
  · intro x hx; exact (List.mem_append.1 hx).elim (fun h => .inl (c h)) (fun h => (hS x h).elim (fun h => .inl (d h)) (fun h => .inr (.inl (b h))))
/-- A list in a new order, some left out. -/
theorem Imp.pick {H H0 H1 : List Asn} (h : Sels H H0 H1) : Imp H H0 := Imp.sels h
theorem St.ownG {H H' : List Asn} {E size : Nat} {a : Option Addr} {n c : Nat} {xs : List Value} {F S : List Nat} {w : World} (s : St H F S w) (h : Sel H (Brv.own E size a n c xs) H') (hn : 0 < n) : ∃ g, a = some ⟨g, 0, none⟩ := by
  obtain ⟨M, hM⟩ := s.own h
  rcases hM.2 with ⟨_, rfl, _⟩ | ⟨g, cur, rfl, _⟩
  · omega
  · exact ⟨g, rfl⟩
theorem St.ownL {H H' : List Asn} {E size : Nat} {a : Option Addr} {n c : Nat} {xs : List Value} {F S : List Nat} {w : World} (s : St H F S w) (h : Sel H (Brv.own E size a n c xs) H') : xs.length = n * size ∧ n ≤ c := by
  obtain ⟨M, hM⟩ := s.own h
  exact ⟨hM.len, hM.le⟩
section
variable {P : Program} {n : Fm} {o : Org} {ρ : Env} {H H0 H1 : List Asn} {d : Option Nat} {ty : TypeId} {pos : String} {af : Array Edge} {gd : Option (Nat × Bool)}
theorem CS.app {T E size bytes : Nat} {z : Value} [t : TySlice P T E size bytes z] {d : Nat} {s x : Operand} {a : Option Addr} {m0 cap : Nat} {xs : List Value} {b : Option Addr} {m c : Nat} {news : List Value}
    (hs : ev ρ s = some (.slice a m0 cap)) (hx : ev ρ x = some (.slice b m c)) (sel : Sel H (own E size a m0 cap xs) H1) (hnews : ∀ w F S, St H F S w → Cells w b news) (hl : news.length = m * size) (h1 : ∀ u ∈ news, u.oneCell' = true) (h63 : m0 + m ≤ maxLen) (hby : (m0 + m) * bytes ≤ 140737488355328) :
    CS P n o ρ H ⟨some d, .call ⟨.builtin .append, #[s, x], #[T, T]⟩, ty, pos, af, gd⟩ (fun v H' => ∃ a' c', v = .slice a' (m0 + m) c' ∧ H' = own E size a' (m0 + m) c' (xs ++ news) :: H1) := by
  refine CS.mono (CS.upd sel (φ := fun v A' => ∃ a' c', v = .slice a' (m0 + m) c' ∧ A' = own E size a' (m0 + m) c' (xs ++ news)) fun w F S F1 S1 st hA hlt => ?_) (by rintro v H' ⟨_, ⟨a', c', rfl, rfl⟩, rfl⟩; exact ⟨a', c', rfl, rfl⟩)
  obtain ⟨v, w', hr, a', c', M', rfl, he, hM, ho⟩ := R.app (P := P) (n := n) (d := d) (ty := ty) (pos := pos) (af := af) (gd := gd) (T := T) hs hx hA (hnews w F S st) hl h1 h63 hby
  exact .inl ⟨_, w', hr, _, M', [], ⟨a', c', rfl, rfl⟩, ho, ho.lt, by simp, ⟨he, hM, by simp⟩⟩
theorem CS.strBytes {S T E : TypeId} [s : TyStr P S] [t : TyBytes P T E] {d : Nat} {x : Operand} {l : List UInt8} (hx : ev ρ x = some (.string (str l))) :
    CS P n o ρ H ⟨some d, .convert S T x, ty, pos, af, gd⟩ (fun v H' => ∃ a c, v = .slice a l.length c ∧ l.length ≤ c ∧ H' = bs a l.length l :: H) := fun w F Sh st fr => by
  obtain ⟨v, w', hr, b, cap, rfl, hb, hlt, hc, he, hcl⟩ := R.strBytes (P := P) (n := n) (d := d) (ty := ty) (pos := pos) (af := af) (gd := gd) (S := S) (T := T) (E := E) (w := w) hx
  obtain ⟨F', S', s', f'⟩ := st.grow fr he (A := bs (some ⟨b, 0, none⟩) l.length l) (F' := []) (S' := [b]) (by simp) (fun x hx => by rw [List.mem_singleton.1 hx]; exact ⟨hlt, .inl (by omega)⟩)
    (fun M w'' he' hM => ⟨hcl.ext he' (fun p hp => by cases hp; exact hM b (by simp)), rfl⟩) (fun x hx hy => by rw [List.mem_singleton.1 hx] at hy; have := st.ltF b hy; omega)
  exact .inl ⟨_, w', hr, _, F', S', ⟨_, cap, rfl, hc, rfl⟩, s', f'⟩
theorem CS.make {T E size bytes : Nat} {z : Value} [t : TySlice P T E size bytes z] {d : Nat} {x y : Operand} {k k' : IntKind} {l c : Int} (hx : ev ρ x = some (.int k l)) (hy : ev ρ y = some (.int k' c)) (h0 : 0 ≤ l) (h1 : l ≤ c) (h2 : (bytes : Int) * c ≤ 281474976710656) (h3 : c ≤ 9223372036854775807) (cs : List Value) (hcs : (madeCells z.cells (c.toNat * size)).toList = cs) :
    CS P n o ρ H ⟨some d, .makeSlice T x y, ty, pos, af, gd⟩ (fun v H' => ∃ b, v = .slice (some ⟨b, 0, none⟩) l.toNat c.toNat ∧ H' = blk b cs E :: H) :=
  CS.mk (fun w => R.make hx hy h0 h1 h2 h3) hcs
theorem CS.buildS {T E size bytes : Nat} {z : Value} [t : TySlice P T E size bytes z] {d len : Nat} {parts : Array (Nat × Operand)} {vs : List (Nat × Value)} {A : Array Value} (hp : evps ρ parts.toList = some vs) (hl : len * size ≤ 16777216)
    (hf : Instr.fill (fun i => some (i * size, size)) ((Array.range (len * size)).map (fun i => z.cells[i % z.cells.size]!)) vs = some A) (cs : List Value) (hcs : A.toList = cs) :
    CS P n o ρ H ⟨some d, .buildSlice T len parts, ty, pos, af, gd⟩ (fun v H' => ∃ b, v = .slice (some ⟨b, 0, none⟩) len len ∧ H' = blk b cs E :: H) :=
  CS.mk (fun w => R.buildS hp hl hf) hcs
/-- A struct is stored over a part of a block. -/
theorem CS.stN {T : TypeId} {s : Nat} [t : TyAgg P T s] {x y : Operand} {b k : Nat} {cs cs' vs : List Value} {U : TypeId} (hx : ev ρ x = some (.pointer (some ⟨b, k, none⟩))) (hy : ev ρ y = some (.agg vs.toArray)) (sel : Sel H (blk b cs U) H1) (hs : vs.length = s) (ho : k + vs.length ≤ cs.length) (h1 : ∀ u ∈ vs, u.oneCell' = true) (hcs : cs.take k ++ vs ++ cs.drop (k + vs.length) = cs') :
    CS P n o ρ H ⟨none, .store T x y, ty, pos, af, gd⟩ (fun _ H' => H' = blk b cs' U :: H1) := by
  refine CS.mono (CS.upd sel (φ := fun _ A' => A' = blk b cs' U) fun w F S F1 S1 st hA hlt => ?_) (by rintro v H' ⟨_, rfl, rfl⟩; rfl)
  obtain ⟨rfl, hB⟩ := hA
  obtain ⟨w', hr, he, hsz, hB'⟩ := R.stN (P := P) (n := n) (T := T) (ty := ty) (pos := pos) (af := af) (gd := gd) hx hy hB (by simpa using hs) (by simpa using ho) (by simpa using h1)
  refine .inr (.inl ⟨rfl, w', hr, _, [b], [], rfl, ⟨rfl, by rw [← hcs]; simpa using hB'⟩, fun x hx => by have := hlt x hx; omega, by simp, ⟨he, fun x hx => .inl hx, by simp⟩⟩)
/-- A struct is stored over a whole block. -/
theorem CS.stA {T : TypeId} {s : Nat} [t : TyAgg P T s] {x y : Operand} {b : Nat} {cs vs : List Value} {U : TypeId} (hx : ev ρ x = some (.pointer (some ⟨b, 0, none⟩))) (hy : ev ρ y = some (.agg vs.toArray)) (sel : Sel H (blk b cs U) H1) (hs : vs.length = s) (ho : cs.length = s) (h1 : ∀ u ∈ vs, u.oneCell' = true) :
    CS P n o ρ H ⟨none, .store T x y, ty, pos, af, gd⟩ (fun _ H' => H' = blk b vs U :: H1) :=
  CS.stN hx hy sel hs (by omega) h1 (by rw [List.take_zero, List.nil_append, Nat.zero_add, List.drop_eq_nil_of_le (by omega), List.append_nil])
/-- A cell of a row that is owned is written. -/
theorem CS.stO {T : TypeId} [t : TyOne P T] {x y : Operand} {E size g j k c : Nat} {xs : List Value} {v : Value} (hx : ev ρ x = some (.pointer (some ⟨g, j, none⟩))) (hy : ev ρ y = some v) (sel : Sel H (own E size (some ⟨g, 0, none⟩) k c xs) H1) (hj : j < k * size) (h1 : v.oneCell' = true) :
    CS P n o ρ H ⟨none, .store T x y, ty, pos, af, gd⟩ (fun _ H' => H' = own E size (some ⟨g, 0, none⟩) k c (xs.set j v) :: H1) := by
  refine CS.mono (CS.upd sel (φ := fun _ A' => A' = own E size (some ⟨g, 0, none⟩) k c (xs.set j v)) fun w F S F1 S1 st hA hlt => ?_) (by rintro v H' ⟨_, rfl, rfl⟩; rfl)
  rcases hA with ⟨hlen, ⟨h, _⟩ | ⟨g', cur, hg, hF, hB, hkc, hcm, hcs, ht⟩⟩
  · cases h
  · cases hg
    subst hF
    have hsz : j < cur.size := by have := Nat.mul_le_mul_right size hkc; omega
    obtain ⟨w', hr, he, hsz', hB'⟩ := R.st (P := P) (n := n) (T := T) (ty := ty) (pos := pos) (af := af) (gd := gd) hx hy hB hsz h1
    refine .inr (.inl ⟨rfl, w', hr, _, [g], [], rfl, ⟨by simpa using hlen, .inr ⟨g, _, rfl, rfl, hB', hkc, hcm, by simpa using hcs, ?_⟩⟩, fun x hx => by have := hlt x hx; omega, by simp, ⟨he, fun x hx => .inl hx, by simp⟩⟩)
    rw [Array.toList_setIfInBounds, List.take_set, ht]
end
section
variable {P : Program} {n : Nat} {o : Org} {ks : List K} {ρ : Env} {H H' : List Asn} {fn : Func} {Φ : Value → List Asn → Prop}
theorem SG.retC {t : Nat} {T : TypeId} {s b : Nat} [ta : TyAgg P T s] {cs : List Value} {U : TypeId} {H1 : List Asn} (hr : fn.results = #[.cell t T]) (hv : look ρ t = some (.pointer (some ⟨b, 0, none⟩))) (hb : Sel H (blk b cs U) H1) (hl : cs.length = s) (i : Imp H H') (h : Φ (.agg cs.toArray) H') :
    SG P (Func.base P fn (PostS o Φ)) ⟨n, [], none⟩ o ks ρ H .ret := fun w F S st f => G.retC hr hv (st.blk hb) (by simpa using hl) (post_of i h st f)
theorem SG.retCT {t u : Nat} {T : TypeId} {s b : Nat} [ta : TyAgg P T s] {cs : List Value} {U : TypeId} {H1 : List Asn} {x : Value} (hr : fn.results = #[.cell t T, .tmp u]) (hv : look ρ t = some (.pointer (some ⟨b, 0, none⟩))) (hx : look ρ u = some x) (hb : Sel H (blk b cs U) H1) (hl : cs.length = s) (i : Imp H H') (h : Φ (.tuple #[.agg cs.toArray, x]) H') :
    SG P (Func.base P fn (PostS o Φ)) ⟨n, [], none⟩ o ks ρ H .ret := fun w F S st f => G.retCT hr hv hx (st.blk hb) (by simpa using hl) (post_of i h st f)
end
end Brv
/-
  Iterators, and loops over them, by assertions.
-/
set_option linter.unusedVariables false
set_option linter.unusedSimpArgs false
namespace Brv
open Go
theorem Sels.appL : ∀ (H0 H1 : List Asn), Sels (H0 ++ H1) H0 H1
  | [], _ => .nil
  | _ :: H0, H1 => .cons .here (Sels.appL H0 H1)
theorem Sep.split {H0 H1 : List Asn} {F S : List Nat} {w : World} (h : Sep (H0 ++ H1) F S w) : Sep2 H0 H1 F S w := (Sels.appL H0 H1).split h
/-- What a function (with what it has captured, lb) promises when it is ranged over: it yields N times, the k-th time what E k tells. -/
def IterS (P : Program) (gf : FuncId) (lb : List Value) (HI : List Asn) (N : Nat) (E : Nat → List Value → (World → Prop) → Prop) : Prop :=
  ∀ (y : Value) (J Jx : Nat → Asn), (∀ k vs p, k < N → E k vs p → YSpec P y vs [sh p, J k] (fun b H' => H' = [if b then J (k + 1) else Jx (k + 1)])) →
    SpecS P gf (y :: lb) (J 0 :: HI) (fun _ H' => H' = J N :: HI ∨ ∃ k, k ≤ N ∧ H' = Jx k :: HI)

/-- The list of a frame's marks, that is to be taken at its end. -/
def dfr (d : Nat) : Asn where
  P := fun F _ w => F = [d] ∧ w.heap[d]? = some (.deferred (some []))
  ext := fun F S M w w' h he hF _ => ⟨h.1, (he.keep d (Array.getElem?_eq_some_iff.1 h.2).1 (hF d (by rw [h.1]; simp))).trans h.2⟩
inductive Dfrs : List Deferred → List Asn → List Asn → Prop
  | nil {H : List Asn} : Dfrs [] H H
  | cons {d : Nat} {ds : List Deferred} {H H' H'' : List Asn} : Sel H (dfr d) H' → Dfrs ds H' H'' → Dfrs (⟨.collected d, #[]⟩ :: ds) H H''
theorem Dfrs.leave {P : Program} {ds : List Deferred} {H H' : List Asn} (h : Dfrs ds H H') : ∀ {o : Org} {F S : List Nat} {w : World}, St H F S w → From o w F S → ∃ w' F' S', Leave P ds w w' ∧ St H' F' S' w' ∧ From o w' F' S' := by
  induction h with
  | nil => exact fun {o F S w} s f => ⟨w, F, S, rfl, s, f⟩
  | cons hs _ ih =>
    rename_i d ds H H' H'' _
    intro o F S w s f
    obtain ⟨F1, S1, F2, S2, ⟨a, b, c, e⟩, ⟨p, q, r⟩, ⟨hF, hd⟩, hH⟩ := hs.sep s.sep
    subst hF
    have he := Ext.putObj w d (.deferred none)
    obtain ⟨w', F', S', hl, s', f'⟩ := ih (o := o) (F := F2) (S := S2) (w := w.putObj d (.deferred none)) ⟨hH.ext he p.symm q.symm, fun x hx => Nat.lt_of_lt_of_le (s.ltF x (b hx)) he.size, fun x hx => Nat.lt_of_lt_of_le (s.ltS x (e hx)) he.size⟩
      ⟨f.ext.transN he (fun x hx => f.fF x (a hx)), fun x hx => f.fF x (b hx), fun x hx => f.fS x (e hx)⟩
    exact ⟨w', F', S', ⟨d, _, rfl, run_takeDeferred hd, hl⟩, s', f'⟩

def roundS {X Y : Type} (HJ : Nat → X → List Asn) (I : Nat → X → Prop) (HX : Code → Nat → Y → List Asn) (IX : Code → Nat → Y → Prop) (k : Nat) (o : Org) : Exit → Act → World → Prop
  | .normal, _, w' => ∃ x F S, I (k + 1) x ∧ St (HJ (k + 1) x) F S w' ∧ From o w' F S
  | .ret, _, w' => ∃ y F S, IX .ret (k + 1) y ∧ St (HX .ret (k + 1) y) F S w' ∧ From o w' F S
  | .exit id, _, w' => ∃ y F S, IX (.exit id) (k + 1) y ∧ St (HX (.exit id) (k + 1) y) F S w' ∧ From o w' F S
  | .goto t, _, w' => ∃ y F S, IX (.goto t) (k + 1) y ∧ St (HX (.goto t) (k + 1) y) F S w' ∧ From o w' F S
  | _, _, _ => False
def assignS (P : Program) (l : Nat) (RB : Org → Exit → Act → World → Prop) (body : Code) (o : Org) : Exit → Act → World → Prop
  | .normal, a, w₂ => ∃ Hb F₂ S₂, St Hb F₂ S₂ w₂ ∧ From o w₂ F₂ S₂ ∧ ∀ wb F S, St Hb F S wb → body.wpIn (fen (some l)) 0 P (RB ⟨wb, F, S⟩) a wb
  | _, _, _ => False

section
variable {P : Program} {B : Exit → Act → World → Prop} {n : Nat} {df : List Deferred} {ks : List K} {ρ : Env} {o : Org} {H : List Asn}
theorem SN.roundA {l : Nat} {RB : Org → Exit → Act → World → Prop} {body : Code} (h : ∀ o', SG P (RB o') ⟨n, [], some l⟩ o' [] ρ H body) : SN P (assignS P l RB body o) ⟨n, [], some l⟩ o [] ρ H :=
  fun _ _ _ s f => N.done fun a ha => ⟨H, _, _, s, f, fun wb F S s => h ⟨wb, F, S⟩ wb F S s (From.refl _ _ _) a ha⟩
section
variable {X Y : Type} {HJ : Nat → X → List Asn} {I : Nat → X → Prop} {HX : Code → Nat → Y → List Asn} {IX : Code → Nat → Y → Prop} {k l : Nat}
theorem SN.next (x : X) (i : Imp H (HJ (k + 1) x)) (h : I (k + 1) x) : SN P (roundS HJ I HX IX k o) ⟨n, [], some l⟩ o [] ρ H := fun _ _ _ s f => N.done fun _ _ => let ⟨F', S', s', f'⟩ := i.at s f; ⟨x, F', S', h, s', f'⟩
theorem SG.retR (y : Y) (i : Imp H (HX .ret (k + 1) y)) (h : IX .ret (k + 1) y) : SG P (roundS HJ I HX IX k o) ⟨n, [], some l⟩ o ks ρ H .ret := fun _ _ _ s f => G.ret fun _ _ => let ⟨F', S', s', f'⟩ := i.at s f; ⟨y, F', S', h, s', f'⟩
end

/-- for .. := range g { body } -/
theorem SG.range {g : Operand} {ps : Array Tmp} {assign body : Code} {gf : FuncId} {lb : List Value} {Nn : Nat} {E : Nat → List Value → (World → Prop) → Prop} {HI : List Asn}
    (hps : ps.toList.all (fun p => Nat.blt p n) = true) (hg : ev ρ g = some (.func (.func gf) #[] lb.toArray)) (eg : ∀ (vs : Array Value) w, (callFunc gf vs).run P w = .ok (.enter gf vs) w)
    (hit : IterS P gf lb HI Nn E) {X Y : Type} (HJ : Nat → X → List Asn) (I : Nat → X → Prop) (HX : Code → Nat → Y → List Asn) (IX : Code → Nat → Y → Prop) (x₀ : X) (i : Imp H (HJ 0 x₀ ++ HI)) (h0 : I 0 x₀)
    (hround : ∀ l k x vs p, k < Nn → I k x → E k vs p → vs.length = ps.size ∧ ∀ o', SG P (assignS P l (roundS HJ I HX IX k) body o') ⟨n, [], some l⟩ o' [] (bindEnv ps.toList vs ρ) (sh p :: HJ k x) assign)
    (hdone : ∀ d x, I Nn x → SN P B ⟨n, ⟨.collected d, #[]⟩ :: df, none⟩ o ks ρ (dfr d :: HJ Nn x ++ HI))
    (hstop : ∀ d k c y, k ≤ Nn → IX c k y → SG P B ⟨n, ⟨.collected d, #[]⟩ :: df, none⟩ o ks ρ (dfr d :: HX c k y ++ HI) c) :
    SG P B ⟨n, df, none⟩ o ks ρ H (.rangeFunc g ps assign body) := by
  intro w F₀ S₀ s₀ f₀ a ha
  obtain ⟨Fw, Sw, s, f⟩ := i.at s₀ f₀
  obtain ⟨Fj, Sj, Fi, Si, ⟨a1, a2, a3, a4⟩, ⟨b1, b2, b3⟩, hsj, hsi⟩ := s.sep.split
  refine wpIn_rangeFunc (F := Fence.wide) ?_
  intro fn hfn
  obtain ⟨rec, hrec⟩ : ∃ rec : LoopState → Option Code → Loop, rec = fun st pe => { state := st, pending := pe, fn, tmps := a.tmps, params := ps, assign, body, defers := w.heap.size } := ⟨_, rfl⟩
  obtain ⟨W1, hW1⟩ : ∃ W1, (w.alloc (.deferred (some []))).alloc (.loop (rec .ready none)) = W1 := ⟨_, rfl⟩
  have hL1 : W1.heap[w.heap.size + 1]? = some (.loop (rec .ready none)) := by
    rw [← hW1]; have := World.alloc_heap_new (w.alloc (.deferred (some []))) (.loop (rec .ready none)); rwa [World.size_alloc] at this
  have hK1 : W1.heap[w.heap.size]? = some (.deferred (some [])) := by
    rw [← hW1]; exact ((Ext.alloc (w.alloc (.deferred (some []))) _).keep _ (by simp) (by simp)).trans (World.alloc_heap_new w _)
  have hE1 : Ext [] w W1 := by rw [← hW1]; exact (Ext.alloc w _).trans0 (Ext.alloc _ _)
  have hs1 : W1.heap.size = w.heap.size + 2 := by rw [← hW1]; simp
  obtain ⟨d, hd⟩ : ∃ d, d = w.heap.size := ⟨_, rfl⟩
  obtain ⟨l, hl⟩ : ∃ l, l = w.heap.size + 1 := ⟨_, rfl⟩
  rw [← hl] at hL1
  rw [← hd] at hK1
  -- the consumer's assertions
  let J : Nat → Asn := fun k => ⟨fun F S W => ∃ x F' S', I k x ∧ Sep (HJ k x) F' S' W ∧ (F = l :: d :: F' ∧ S = S') ∧ (l ∉ F' ∧ l ∉ S') ∧ (d ∉ F' ∧ d ∉ S') ∧ W.heap[l]? = some (.loop (rec .ready none)) ∧ W.heap[d]? = some (.deferred (some [])),
    by
      rintro F S M W W' ⟨x, F', S', h1, h2, ⟨rfl, rfl⟩, h3, h4, h5, h6⟩ he hF hS
      refine ⟨x, F', S, h1, h2.ext he (hF.mono (fun z hz => by simp [hz]) (subR _)) hS, ⟨rfl, rfl⟩, h3, h4, ?_, ?_⟩
      · exact (he.keep l (Array.getElem?_eq_some_iff.1 h5).1 (hF l (by simp))).trans h5
      · exact (he.keep d (Array.getElem?_eq_some_iff.1 h6).1 (hF d (by simp))).trans h6⟩
  let Jx : Nat → Asn := fun k => ⟨fun F S W => ∃ c y F' S', IX c k y ∧ Sep (HX c k y) F' S' W ∧ (F = l :: d :: F' ∧ S = S') ∧ (l ∉ F' ∧ l ∉ S') ∧ (d ∉ F' ∧ d ∉ S') ∧ W.heap[l]? = some (.loop (rec .done (some c))) ∧ W.heap[d]? = some (.deferred (some [])),
    by
      rintro F S M W W' ⟨c, y, F', S', h1, h2, ⟨rfl, rfl⟩, h3, h4, h5, h6⟩ he hF hS
      refine ⟨c, y, F', S, h1, h2.ext he (hF.mono (fun z hz => by simp [hz]) (subR _)) hS, ⟨rfl, rfl⟩, h3, h4, ?_, ?_⟩
      · exact (he.keep l (Array.getElem?_eq_some_iff.1 h5).1 (hF l (by simp))).trans h5
      · exact (he.keep d (Array.getElem?_eq_some_iff.1 h6).1 (hF d (by simp))).trans h6⟩
  refine ⟨w.heap.size + 1, [{ target := .collected w.heap.size, args := #[] }], W1, { target := .fn (.func gf) lb.toArray, args := #[.func (.yield (w.heap.size + 1)) #[] #[]] }, W1, gf,
    #[.func (.yield (w.heap.size + 1)) #[] #[]] ++ lb.toArray, W1, ?_, ?_, fun _ _ => trivial, ?_, fun h => (by cases h), ?_⟩
  · rw [← hW1, hrec]; exact run_enterLoop_outer _ _ _ _ _
  · simp only [resolve, ha.eval hg]
    simp [go_sem]
  · simp [invoke, go_sem, eg]
  · have hdl : d ≠ l := by omega
    have newF : ∀ {T : List Nat}, (∀ b ∈ T, b < w.heap.size) → l ∉ T ∧ d ∉ T := fun h => ⟨fun q => by have := h _ q; omega, fun q => by have := h _ q; omega⟩
    have ltj : ∀ b ∈ Fj, b < w.heap.size := fun b hb => s.ltF b (a1 hb)
    have ltsj : ∀ b ∈ Sj, b < w.heap.size := fun b hb => s.ltS b (a3 hb)
    have lti : ∀ b ∈ Fi, b < w.heap.size := fun b hb => s.ltF b (a2 hb)
    have ltsi : ∀ b ∈ Si, b < w.heap.size := fun b hb => s.ltS b (a4 hb)
    have hJ0 : (J 0).P (l :: d :: Fj) Sj W1 := ⟨x₀, Fj, Sj, h0, hsj.ext hE1 (Apart.nilR _) (Apart.nilR _), ⟨rfl, rfl⟩, ⟨(newF ltj).1, (newF ltsj).1⟩, ⟨(newF ltj).2, (newF ltsj).2⟩, hL1, hK1⟩
    have hst : St (J 0 :: HI) (l :: d :: Fj ++ Fi) (Sj ++ Si) W1 := by
      refine ⟨⟨l :: d :: Fj, Sj, Fi, Si, ⟨inL _ _, inR _ _, inL _ _, inR _ _⟩, ⟨?_, ?_, b3⟩, hJ0, hsi.ext hE1 (Apart.nilR _) (Apart.nilR _)⟩, ?_, ?_⟩
      · intro x hx hy
        simp only [List.mem_cons] at hx
        rcases hx with rfl | rfl | hx
        · exact (newF lti).1 hy
        · exact (newF lti).2 hy
        · exact b1 x hx hy
      · intro x hx hy
        simp only [List.mem_cons] at hx
        rcases hx with rfl | rfl | hx
        · exact (newF ltsi).1 hy
        · exact (newF ltsi).2 hy
        · exact b2 x hx hy
      · intro x hx
        simp only [List.cons_append, List.mem_cons, List.mem_append] at hx
        rcases hx with rfl | rfl | hx | hx
        · omega
        · omega
        · have := ltj x hx; omega
        · have := lti x hx; omega
      · intro x hx
        rcases List.mem_append.1 hx with hx | hx
        · have := ltsj x hx; omega
        · have := ltsi x hx; omega
    have hfr : From o W1 (l :: d :: Fj ++ Fi) (Sj ++ Si) := by
      refine ⟨f.ext.trans0 hE1, ?_, ?_⟩
      · intro x hx
        have hz := f.ext.size
        simp only [List.cons_append, List.mem_cons, List.mem_append] at hx
        rcases hx with rfl | rfl | hx | hx
        · exact .inr (by omega)
        · exact .inr (by omega)
        · exact f.fF x (a1 hx)
        · exact f.fF x (a2 hx)
      · intro x hx
        exact (List.mem_append.1 hx).elim (fun h => f.fS x (a3 h)) (fun h => f.fS x (a4 h))
    have hy : ∀ k vs p, k < Nn → E k vs p → YSpec P (.func (.yield l) #[] #[]) vs [Brv.sh p, J k] (fun b H' => H' = [if b then J (k + 1) else Jx (k + 1)]) := by
      intro k vs p hk hE A F S s
      obtain ⟨F1, S1, F2, S2, ⟨c1, c2, c3, c4⟩, ⟨e1, e2, e3⟩, hp, F3, S3, F4, S4, ⟨c1', c2', c3', c4'⟩, _, hJ, _⟩ := s.sep
      obtain ⟨x, F', S', hi, hsep, ⟨rfl, rfl⟩, ⟨l1, l2⟩, ⟨d1, d2⟩, hl', hd'⟩ := hJ
      refine .inl ⟨_, rfl, ?_⟩
      have hlt : l < A.heap.size := (Array.getElem?_eq_some_iff.1 hl').1
      have hltd : d < A.heap.size := (Array.getElem?_eq_some_iff.1 hd').1
      obtain ⟨hlen, hG⟩ := hround l k x vs p hk hi hE
      have hy := run_yield (P := P) (args := vs.toArray) hl' (by rw [hrec]; simpa using hlen)
      rw [hrec] at hy
      refine ⟨fn, _, assign, body, hy, roundIn_of_wpIn hfn ?_⟩
      have hfr : Fr ⟨n, [], some l⟩ (bindEnv ps.toList vs ρ) { tmps := (ps.toList.zip vs).foldl (fun t (p, v) => t.setIfInBounds p v) a.tmps, defers := [] } :=
        bind_fr (n := ⟨n, [], some l⟩) ps.toList vs (a := { tmps := a.tmps, defers := [] }) ⟨ha.size, rfl, ha.vals⟩ (fun p hp => by simpa [Nat.blt_eq] using List.all_eq_true.1 hps p hp)
      have hz : (ps.zip vs.toArray).foldl (fun t (p, v) => t.setIfInBounds p v) a.tmps = (ps.toList.zip vs).foldl (fun t (p, v) => t.setIfInBounds p v) a.tmps := by
        rw [← Array.foldl_toList, Array.toList_zip]
      rw [hz]
      have hsA : St (Brv.sh p :: HJ k x) F' (S1 ++ S3) A := by
        refine ⟨⟨[], S1, F', S3, ⟨by simp, subR _, inL _ _, inR _ _⟩, ⟨Apart.nilL _, Apart.nilL _, e3.mono (subR _) (fun z hz => c1' (by simp [hz]))⟩, (instPersSh p).h _ _ _ hp, hsep⟩, fun z hz => s.ltF z (c2 (c1' (by simp [hz]))), ?_⟩
        intro z hz
        exact (List.mem_append.1 hz).elim (fun hz => s.ltS z (c3 hz)) (fun hz => s.ltS z (c4 (c3' hz)))
      have hw := hG ⟨A, F', S1 ++ S3⟩ A F' (S1 ++ S3) hsA (From.refl _ _ _) _ hfr
      refine wpIn_mono (F := Fence.wide.inRound l) (fen_wp (r := some l) hw) ?_
      intro e a₁ w₂ hq
      cases e with
      | normal =>
        obtain ⟨Hb, F2, S2, s2, f2, hq⟩ := hq
        have hd1 : d ∉ S1 := fun h => e3 d h (c1' (by simp))
        have hl1 : l ∉ S1 := fun h => e3 l h (c1' (by simp))
        have hFl : l ∈ F := c2 (c1' (by simp))
        have hFd : d ∈ F := c2 (c1' (by simp))
        have hFF : ∀ z ∈ F', z ∈ F := fun z hz => c2 (c1' (by simp [hz]))
        have hszA2 : A.heap.size ≤ w₂.heap.size := f2.ext.size
        have nF2 : l ∉ F2 ∧ d ∉ F2 := ⟨fun h => (f2.fF _ h).elim l1 (fun h => by simp only at h; omega), fun h => (f2.fF _ h).elim d1 (fun h => by simp only at h; omega)⟩
        have nS2 : l ∉ S2 ∧ d ∉ S2 := ⟨fun h => (f2.fS _ h).elim (fun h => (List.mem_append.1 h).elim hl1 l2) (fun h => h.elim l1 (fun h => by simp only at h; omega)), fun h => (f2.fS _ h).elim (fun h => (List.mem_append.1 h).elim hd1 d2) (fun h => h.elim d1 (fun h => by simp only at h; omega))⟩
        replace hl' : w₂.heap[l]? = some (.loop (rec .ready none)) := (f2.ext.keep l hlt l1).trans hl'
        replace hd' : w₂.heap[d]? = some (.deferred (some [])) := (f2.ext.keep d hltd d1).trans hd'
        have hlt9 : l < w₂.heap.size := (Array.getElem?_eq_some_iff.1 hl').1
        have hltd9 : d < w₂.heap.size := (Array.getElem?_eq_some_iff.1 hd').1
        have hbr := run_beginRound (P := P) hl' (by rw [hrec])
        refine ⟨_, hbr, ?_⟩
        have hl3 : (w₂.putObj l (.loop { rec .ready none with state := .busy })).heap[l]? = some (.loop { rec .ready none with state := .busy }) := World.putObj_heap_same hlt9
        have hd3 : (w₂.putObj l (.loop { rec .ready none with state := .busy })).heap[d]? = some (.deferred (some [])) := (World.putObj_heap_other hdl).trans hd'
        have hE3 := Ext.putObj w₂ l (.loop { rec .ready none with state := .busy })
        have apl : ∀ {T : List Nat}, l ∉ T → Apart T [l] := fun h z hz hz2 => h (by rw [← List.mem_singleton.1 hz2]; exact hz)
        have hsb : St Hb F2 S2 (w₂.putObj l (.loop { rec .ready none with state := .busy })) :=
          ⟨s2.sep.ext hE3 (apl nF2.1) (apl nS2.1), fun z hz => by simpa using s2.ltF z hz, fun z hz => by simpa using s2.ltS z hz⟩
        refine wpIn_mono (F := Fence.wide.inRound l) (fen_wp (r := some l) (hq _ F2 S2 hsb)) ?_
        have fin : ∀ (jump : Option Code) (W3 : World) (F5 S5 : List Nat), From ⟨w₂.putObj l (.loop { rec .ready none with state := .busy }), F2, S2⟩ W3 F5 S5 → (∀ b ∈ F5, b < W3.heap.size) → (∀ b ∈ S5, b < W3.heap.size) →
            (Instr.endRound l jump).run P W3 = .ok (.bool jump.isNone) (W3.putObj l (.loop (rec (if jump.isNone then .ready else .done) jump))) ∧
            (W3.putObj l (.loop (rec (if jump.isNone then .ready else .done) jump))).heap[l]? = some (.loop (rec (if jump.isNone then .ready else .done) jump)) ∧
            (W3.putObj l (.loop (rec (if jump.isNone then .ready else .done) jump))).heap[d]? = some (.deferred (some [])) ∧ (l ∉ F5 ∧ l ∉ S5) ∧ (d ∉ F5 ∧ d ∉ S5) ∧ Ext [l] W3 (W3.putObj l (.loop (rec (if jump.isNone then .ready else .done) jump))) ∧
            From ⟨A, F, S⟩ (W3.putObj l (.loop (rec (if jump.isNone then .ready else .done) jump))) (l :: d :: F5) S5 ∧ (∀ b ∈ l :: d :: F5, b < (W3.putObj l (.loop (rec (if jump.isNone then .ready else .done) jump))).heap.size) ∧ (∀ b ∈ S5, b < (W3.putObj l (.loop (rec (if jump.isNone then .ready else .done) jump))).heap.size) := by
          intro jump W3 F5 S5 fr h5 h6
          have hlt2 : l < (w₂.putObj l (.loop { rec .ready none with state := .busy })).heap.size := by simpa using hlt9
          have hltd2 : d < (w₂.putObj l (.loop { rec .ready none with state := .busy })).heap.size := by simpa using hltd9
          have hl4 : W3.heap[l]? = some (.loop { rec .ready none with state := .busy }) := (fr.ext.keep _ hlt2 nF2.1).trans hl3
          have hd4 : W3.heap[d]? = some (.deferred (some [])) := (fr.ext.keep _ hltd2 nF2.2).trans hd3
          have hlt4 : l < W3.heap.size := (Array.getElem?_eq_some_iff.1 hl4).1
          have hltd4 : d < W3.heap.size := (Array.getElem?_eq_some_iff.1 hd4).1
          have her := run_endRound (P := P) jump hl4
          rw [hrec] at her ⊢
          have hszA : w₂.heap.size ≤ W3.heap.size := by have := fr.ext.size; simpa using this
          have nF : l ∉ F5 ∧ d ∉ F5 := ⟨fun h => (fr.fF _ h).elim nF2.1 (fun h => by simp only [World.putObj, Array.size_setIfInBounds] at h; omega), fun h => (fr.fF _ h).elim nF2.2 (fun h => by simp only [World.putObj, Array.size_setIfInBounds] at h; omega)⟩
          have nS : l ∉ S5 ∧ d ∉ S5 := ⟨fun h => (fr.fS _ h).elim nS2.1 (fun h => h.elim nF2.1 (fun h => by simp only [World.putObj, Array.size_setIfInBounds] at h; omega)), fun h => (fr.fS _ h).elim nS2.2 (fun h => h.elim nF2.2 (fun h => by simp only [World.putObj, Array.size_setIfInBounds] at h; omega))⟩
          have hx2 := Ext.putObj W3 l (.loop { state := if jump.isNone = true then LoopState.ready else LoopState.done, pending := jump, fn := fn, tmps := a.tmps, params := ps, assign := assign, body := body, defers := w.heap.size })
          have hF2 : ∀ z ∈ F2, z ∈ F ∨ A.heap.size ≤ z := fun z hz => (f2.fF z hz).imp (hFF z) id
          have hE4 : Ext F A W3 := ((f2.ext.mono (M' := F) (fun z hz => .inl (hFF z hz))).transN hE3 (fun z hz => .inl (by rw [List.mem_singleton.1 hz]; exact hFl))).transN fr.ext (fun z hz => hF2 z hz)
          refine ⟨her, World.putObj_heap_same hlt4, (World.putObj_heap_other hdl).trans hd4, ⟨nF.1, nS.1⟩, ⟨nF.2, nS.2⟩, hx2, ⟨hE4.transN hx2 (fun z hz => .inl (by rw [List.mem_singleton.1 hz]; exact hFl)), ?_, ?_⟩, ?_, ?_⟩
          · intro z hz
            simp only [List.mem_cons] at hz
            rcases hz with rfl | rfl | hz
            · exact .inl hFl
            · exact .inl hFd
            · exact (fr.fF z hz).elim (hF2 z) (fun h => .inr (Nat.le_trans hszA2 (by simpa [World.putObj, Array.size_setIfInBounds] using h)))
          · intro z hz
            exact (fr.fS z hz).elim (fun h => (f2.fS z h).elim (fun h => .inl ((List.mem_append.1 h).elim (fun h => c3 h) (fun h => c4 (c3' h)))) (fun h => .inr (h.imp (hFF z) id))) (fun h => .inr (h.elim (hF2 z) (fun h => .inr (Nat.le_trans hszA2 (by simpa [World.putObj, Array.size_setIfInBounds] using h)))))
          · intro z hz
            simp only [List.mem_cons] at hz
            rcases hz with rfl | rfl | hz
            · simpa using hlt4
            · simpa using hltd4
            · simpa using h5 z hz
          · intro z hz; simpa using h6 z hz
        rintro e a3 W3 hp3
        cases e with
        | normal =>
          obtain ⟨x', F5, S5, hi', s5, fr⟩ := hp3
          obtain ⟨f1, f2, f3, n1, n2, f4, f5, f6, f7⟩ := fin none W3 F5 S5 fr s5.ltF s5.ltS
          refine ⟨_, _, f1, true, rfl, [J (k + 1)], l :: d :: F5, S5, by simp, ⟨⟨l :: d :: F5, S5, [], [], ⟨subR _, by simp, subR _, by simp⟩, ⟨Apart.nilR _, Apart.nilR _, Apart.nilR _⟩, ⟨x', F5, S5, hi', s5.sep.ext f4 (apl n1.1) (apl n1.2), ⟨rfl, rfl⟩, n1, n2, f2, f3⟩, trivial⟩, f6, f7⟩, f5⟩
        | ret =>
          obtain ⟨y', F5, S5, hi', s5, fr⟩ := hp3
          obtain ⟨f1, f2, f3, n1, n2, f4, f5, f6, f7⟩ := fin (some .ret) W3 F5 S5 fr s5.ltF s5.ltS
          refine ⟨_, _, f1, false, rfl, [Jx (k + 1)], l :: d :: F5, S5, by simp, ⟨⟨l :: d :: F5, S5, [], [], ⟨subR _, by simp, subR _, by simp⟩, ⟨Apart.nilR _, Apart.nilR _, Apart.nilR _⟩, ⟨_, y', F5, S5, hi', s5.sep.ext f4 (apl n1.1) (apl n1.2), ⟨rfl, rfl⟩, n1, n2, f2, f3⟩, trivial⟩, f6, f7⟩, f5⟩
        | exit id =>
          obtain ⟨y', F5, S5, hi', s5, fr⟩ := hp3
          obtain ⟨f1, f2, f3, n1, n2, f4, f5, f6, f7⟩ := fin (some (.exit id)) W3 F5 S5 fr s5.ltF s5.ltS
          refine ⟨_, _, f1, false, rfl, [Jx (k + 1)], l :: d :: F5, S5, by simp, ⟨⟨l :: d :: F5, S5, [], [], ⟨subR _, by simp, subR _, by simp⟩, ⟨Apart.nilR _, Apart.nilR _, Apart.nilR _⟩, ⟨_, y', F5, S5, hi', s5.sep.ext f4 (apl n1.1) (apl n1.2), ⟨rfl, rfl⟩, n1, n2, f2, f3⟩, trivial⟩, f6, f7⟩, f5⟩
        | goto t =>
          obtain ⟨y', F5, S5, hi', s5, fr⟩ := hp3
          obtain ⟨f1, f2, f3, n1, n2, f4, f5, f6, f7⟩ := fin (some (.goto t)) W3 F5 S5 fr s5.ltF s5.ltS
          refine ⟨_, _, f1, false, rfl, [Jx (k + 1)], l :: d :: F5, S5, by simp, ⟨⟨l :: d :: F5, S5, [], [], ⟨subR _, by simp, subR _, by simp⟩, ⟨Apart.nilR _, Apart.nilR _, Apart.nilR _⟩, ⟨_, y', F5, S5, hi', s5.sep.ext f4 (apl n1.1) (apl n1.2), ⟨rfl, rfl⟩, n1, n2, f2, f3⟩, trivial⟩, f6, f7⟩, f5⟩
        | panic ch => exact hp3.elim
        | outgrown => exact hp3.elim
      | _ => exact hq.elim
    have hm := hit (.func (.yield l) #[] #[]) J Jx hy W1 _ _ hst
    have e : (Value.func (.yield l) #[] #[] :: lb).toArray = #[.func (.yield l) #[] #[]] ++ lb.toArray := by simp
    unfold Meets at hm
    rw [e] at hm
    rw [← hl]
    refine CallsIn.mono (callsIn_wide.2 hm) ?_
    intro e W2 he
    cases e with
    | returned v =>
      obtain ⟨H', F5, S5, hH, s5, fr⟩ := he
      have fr' := hfr.trans fr
      have apl : ∀ {T : List Nat}, l ∉ T → Apart T [l] := fun h z hz hz2 => h (by rw [← List.mem_singleton.1 hz2]; exact hz)
      have leave : ∀ {HL : List Asn} {F' S' F2 S2 : List Nat} (ob : Obj), (l :: d :: F' ⊆ F5 ∧ F2 ⊆ F5 ∧ S' ⊆ S5 ∧ S2 ⊆ S5) → (Apart (l :: d :: F') F2 ∧ Apart (l :: d :: F') S2 ∧ Apart S' F2) → Sep HL F' S' W2 → Sep HI F2 S2 W2 → (l ∉ F' ∧ l ∉ S') → (d ∉ F' ∧ d ∉ S') → W2.heap[d]? = some (.deferred (some [])) →
          ∃ F6 S6, St (dfr d :: HL ++ HI) F6 S6 (W2.putObj l ob) ∧ From o (W2.putObj l ob) F6 S6 := by
        intro HL F' S' F2 S2 ob ⟨g1, g2, g3, g4⟩ ⟨k1, k2, k3⟩ hh hhi n1 n2 hdd
        have hx := Ext.putObj W2 l ob
        refine ⟨d :: F' ++ F2, S' ++ S2, ⟨⟨[d], [], F' ++ F2, S' ++ S2, ⟨by simp, fun z hz => by simp at hz ⊢; exact .inr hz, by simp, subR _⟩, ⟨?_, ?_, Apart.nilL _⟩, ⟨rfl, (World.putObj_heap_other hdl).trans hdd⟩, ?_⟩, ?_, ?_⟩, ⟨fr'.ext.transN hx (fun z hz => by rw [List.mem_singleton.1 hz]; exact fr'.fF l (g1 (by simp))), ?_, ?_⟩⟩
        · intro z hz hz2
          rw [List.mem_singleton.1 hz] at hz2
          exact (List.mem_append.1 hz2).elim n2.1 (fun h => k1 d (by simp) h)
        · intro z hz hz2
          rw [List.mem_singleton.1 hz] at hz2
          exact (List.mem_append.1 hz2).elim n2.2 (fun h => k2 d (by simp) h)
        · refine Sep.join ⟨F', S', F2, S2, ⟨inL _ _, inR _ _, inL _ _, inR _ _⟩, ⟨k1.mono (fun z hz => by simp [hz]) (subR _), k2.mono (fun z hz => by simp [hz]) (subR _), k3⟩, hh.ext hx (apl n1.1) (apl n1.2), hhi.ext hx (apl (fun h => k1 l (by simp) h)) (apl (fun h => k2 l (by simp) h))⟩
        · intro z hz
          simp only [List.cons_append, List.mem_cons, List.mem_append] at hz
          have : z ∈ F5 := by
            rcases hz with rfl | hz | hz
            · exact g1 (by simp)
            · exact g1 (by simp [hz])
            · exact g2 hz
          simpa using s5.ltF z this
        · intro z hz
          have : z ∈ S5 := (List.mem_append.1 hz).elim (fun h => g3 h) (fun h => g4 h)
          simpa using s5.ltS z this
        · intro z hz
          simp only [List.cons_append, List.mem_cons, List.mem_append] at hz
          refine fr'.fF z ?_
          rcases hz with rfl | hz | hz
          · exact g1 (by simp)
          · exact g1 (by simp [hz])
          · exact g2 hz
        · intro z hz
          exact fr'.fS z ((List.mem_append.1 hz).elim (fun h => g3 h) (fun h => g4 h))
      rcases hH with rfl | ⟨k, hk, rfl⟩
      · obtain ⟨F1, S1, F2, S2, hsub, hap, ⟨x, F', S', hi, hsep, ⟨rfl, rfl⟩, n1, n2, hl', hd'⟩, hHI⟩ := s5.sep
        refine ⟨none, _, by have := run_endLoop (P := P) hl' (by rw [hrec]; simp); rw [hrec] at this; exact this, ?_⟩
        obtain ⟨F6, S6, s6, fr6⟩ := leave _ hsub hap hsep hHI n1 n2 hd'
        exact hdone d x hi _ F6 S6 s6 fr6 _ ⟨ha.size, by simp [ha.defers, hd], ha.vals⟩
      · obtain ⟨F1, S1, F2, S2, hsub, hap, ⟨c, y, F', S', hi, hsep, ⟨rfl, rfl⟩, n1, n2, hl', hd'⟩, hHI⟩ := s5.sep
        refine ⟨some c, _, by have := run_endLoop (P := P) hl' (by rw [hrec]; simp); rw [hrec] at this; exact this, ?_⟩
        obtain ⟨F6, S6, s6, fr6⟩ := leave _ hsub hap hsep hHI n1 n2 hd'
        exact fen_wp (r := none) (hstop d k c y hk hi _ F6 S6 s6 fr6 _ ⟨ha.size, by simp [ha.defers, hd], ha.vals⟩)
    | panicked ch => exact he.elim
    | outgrown => exact he.elim
end
section
variable {P : Program} {n : Fm} {o : Org} {ks : List K} {ρ : Env} {H H1 H' : List Asn} {fn : Func} {Φ : Value → List Asn → Prop}
theorem SG.retM {v : Value} (hl : Dfrs n.df H H1) (hv : ∀ a, Fr n ρ a → ∀ w, (results fn a.tmps).run P w = .ok v w) (i : Imp H1 H') (h : Φ v H') : SG P (Func.base P fn (PostS o Φ)) n o ks ρ H .ret := fun w F S s f => by
  obtain ⟨w', F1, S1, hlv, s1, f1⟩ := hl.leave s f
  exact G.retM hlv (fun a ha => hv a ha w') (post_of i h s1 f1)
theorem SN.endM {v : Value} (hl : Dfrs n.df H H1) (hv : ∀ a, Fr n ρ a → ∀ w, (results fn a.tmps).run P w = .ok v w) (i : Imp H1 H') (h : Φ v H') : SN P (Func.base P fn (PostS o Φ)) n o [] ρ H := fun w F S s f => by
  obtain ⟨w', F1, S1, hlv, s1, f1⟩ := hl.leave s f
  exact N.endM hlv (fun a ha => hv a ha w') (post_of i h s1 f1)
theorem SG.ret1M {t : Nat} {v : Value} (hr : fn.results = #[.tmp t]) (hv : look ρ t = some v) (hl : Dfrs n.df H H1) (i : Imp H1 H') (h : Φ v H') : SG P (Func.base P fn (PostS o Φ)) n o ks ρ H .ret := SG.retM hl (fun _ ha _ => res1 hr hv ha) i h
theorem SG.ret2M {t u : Nat} {v x : Value} (hr : fn.results = #[.tmp t, .tmp u]) (hv : look ρ t = some v) (hx : look ρ u = some x) (hl : Dfrs n.df H H1) (i : Imp H1 H') (h : Φ (.tuple #[v, x]) H') : SG P (Func.base P fn (PostS o Φ)) n o ks ρ H .ret := SG.retM hl (fun _ ha _ => res2 hr hv hx ha) i h
theorem SG.ret3M {t u r : Nat} {v x y : Value} (hr : fn.results = #[.tmp t, .tmp u, .tmp r]) (hv : look ρ t = some v) (hx : look ρ u = some x) (hy : look ρ r = some y) (hl : Dfrs n.df H H1) (i : Imp H1 H') (h : Φ (.tuple #[v, x, y]) H') : SG P (Func.base P fn (PostS o Φ)) n o ks ρ H .ret := SG.retM hl (fun _ ha _ => res3 hr hv hx hy ha) i h
theorem SG.ret0M (hr : fn.results = #[]) (hl : Dfrs n.df H H1) (i : Imp H1 H') (h : Φ (.tuple #[]) H') : SG P (Func.base P fn (PostS o Φ)) n o ks ρ H .ret := SG.retM hl (fun _ _ _ => by rw [results_none hr]) i h
theorem SN.end0M (hr : fn.results = #[]) (hl : Dfrs n.df H H1) (i : Imp H1 H') (h : Φ (.tuple #[]) H') : SN P (Func.base P fn (PostS o Φ)) n o [] ρ H := SN.endM hl (fun _ _ _ => by rw [results_none hr]) i h
end
end Brv
/-
  More on walks over assertions: lists in plain form; iterators that only read.
-/
set_option linter.unusedVariables false
set_option linter.unusedSimpArgs false
namespace Brv
open Go
section
variable {P : Program} {B : Exit → Act → World → Prop} {n : Fm} {o : Org} {ops : List Oper} {ks : List K} {ρ : Env} {H : List Asn} {l : List Oper} {Q : Exit → Act → World → Prop} {σ : List Nat} {π : List (Nat × Oper)} {pend : Pend} {c : Code}
theorem SL.n0 (h : SL P B n o ops ks ρ (H) l) : SL P B n o ops ks ρ ([] ++ H) l := h
theorem SW.n0 (h : SW P n ops Q o σ π pend ρ (H)) : SW P n ops Q o σ π pend ρ ([] ++ H) := h
theorem SN.n0 (h : SN P B n o ks ρ (H)) : SN P B n o ks ρ ([] ++ H) := h
theorem SG.n0 (h : SG P B n o ks ρ (H) c) : SG P B n o ks ρ ([] ++ H) c := h
theorem SL.n1 {A1 : Asn} (h : SL P B n o ops ks ρ (A1 :: H) l) : SL P B n o ops ks ρ ([A1] ++ H) l := h
theorem SW.n1 {A1 : Asn} (h : SW P n ops Q o σ π pend ρ (A1 :: H)) : SW P n ops Q o σ π pend ρ ([A1] ++ H) := h
theorem SN.n1 {A1 : Asn} (h : SN P B n o ks ρ (A1 :: H)) : SN P B n o ks ρ ([A1] ++ H) := h
theorem SG.n1 {A1 : Asn} (h : SG P B n o ks ρ (A1 :: H) c) : SG P B n o ks ρ ([A1] ++ H) c := h
theorem SL.n2 {A1 A2 : Asn} (h : SL P B n o ops ks ρ (A1 :: A2 :: H) l) : SL P B n o ops ks ρ ([A1, A2] ++ H) l := h
theorem SW.n2 {A1 A2 : Asn} (h : SW P n ops Q o σ π pend ρ (A1 :: A2 :: H)) : SW P n ops Q o σ π pend ρ ([A1, A2] ++ H) := h
theorem SN.n2 {A1 A2 : Asn} (h : SN P B n o ks ρ (A1 :: A2 :: H)) : SN P B n o ks ρ ([A1, A2] ++ H) := h
theorem SG.n2 {A1 A2 : Asn} (h : SG P B n o ks ρ (A1 :: A2 :: H) c) : SG P B n o ks ρ ([A1, A2] ++ H) c := h
theorem SL.n3 {A1 A2 A3 : Asn} (h : SL P B n o ops ks ρ (A1 :: A2 :: A3 :: H) l) : SL P B n o ops ks ρ ([A1, A2, A3] ++ H) l := h
theorem SW.n3 {A1 A2 A3 : Asn} (h : SW P n ops Q o σ π pend ρ (A1 :: A2 :: A3 :: H)) : SW P n ops Q o σ π pend ρ ([A1, A2, A3] ++ H) := h
theorem SN.n3 {A1 A2 A3 : Asn} (h : SN P B n o ks ρ (A1 :: A2 :: A3 :: H)) : SN P B n o ks ρ ([A1, A2, A3] ++ H) := h
theorem SG.n3 {A1 A2 A3 : Asn} (h : SG P B n o ks ρ (A1 :: A2 :: A3 :: H) c) : SG P B n o ks ρ ([A1, A2, A3] ++ H) c := h
theorem SL.n4 {A1 A2 A3 A4 : Asn} (h : SL P B n o ops ks ρ (A1 :: A2 :: A3 :: A4 :: H) l) : SL P B n o ops ks ρ ([A1, A2, A3, A4] ++ H) l := h
theorem SW.n4 {A1 A2 A3 A4 : Asn} (h : SW P n ops Q o σ π pend ρ (A1 :: A2 :: A3 :: A4 :: H)) : SW P n ops Q o σ π pend ρ ([A1, A2, A3, A4] ++ H) := h
theorem SN.n4 {A1 A2 A3 A4 : Asn} (h : SN P B n o ks ρ (A1 :: A2 :: A3 :: A4 :: H)) : SN P B n o ks ρ ([A1, A2, A3, A4] ++ H) := h
theorem SG.n4 {A1 A2 A3 A4 : Asn} (h : SG P B n o ks ρ (A1 :: A2 :: A3 :: A4 :: H) c) : SG P B n o ks ρ ([A1, A2, A3, A4] ++ H) c := h
theorem SL.n5 {A1 A2 A3 A4 A5 : Asn} (h : SL P B n o ops ks ρ (A1 :: A2 :: A3 :: A4 :: A5 :: H) l) : SL P B n o ops ks ρ ([A1, A2, A3, A4, A5] ++ H) l := h
theorem SW.n5 {A1 A2 A3 A4 A5 : Asn} (h : SW P n ops Q o σ π pend ρ (A1 :: A2 :: A3 :: A4 :: A5 :: H)) : SW P n ops Q o σ π pend ρ ([A1, A2, A3, A4, A5] ++ H) := h
theorem SN.n5 {A1 A2 A3 A4 A5 : Asn} (h : SN P B n o ks ρ (A1 :: A2 :: A3 :: A4 :: A5 :: H)) : SN P B n o ks ρ ([A1, A2, A3, A4, A5] ++ H) := h
theorem SG.n5 {A1 A2 A3 A4 A5 : Asn} (h : SG P B n o ks ρ (A1 :: A2 :: A3 :: A4 :: A5 :: H) c) : SG P B n o ks ρ ([A1, A2, A3, A4, A5] ++ H) c := h
theorem SN.be {v v' : Value} (d : Nat) (hv : look ρ d = some v) (e : v = v') (h : SN P B n o ks ((d, v') :: ρ) H) : SN P B n o ks ρ H := by
  subst e
  exact fun w F S s f a ha => h w F S s f a (ha.sub (Sub.cons hv (Sub.refl _)))
end
/-- An iterator that reads what is there and stays. -/
def itA (P : Program) (gf : FuncId) (lb : List Value) (N : Nat) (E : Nat → List Value → World → Prop) : Asn where
  P := fun _ S w => ∀ M W, Ext M w W → Apart S M → ∃ Sx, Iter P gf lb W N E Sx S []
  ext := fun F S M w w' h he _ hS M' W he' hS' => h (M ++ M') W ((he.mono (fun x hx => .inl (List.mem_append_left _ hx))).transN he' (fun x hx => .inl (List.mem_append_right _ hx))) (Apart.appR hS hS')
instance (P : Program) (gf : FuncId) (lb : List Value) (N : Nat) (E : Nat → List Value → World → Prop) : Pers (itA P gf lb N E) := ⟨fun _ _ _ h => h⟩
theorem IterS.read {P : Program} {gf : FuncId} {lb : List Value} {N : Nat} {E : Nat → List Value → World → Prop} {E' : Nat → List Value → Prop} (hE : ∀ k vs W, E k vs W → E' k vs) :
    IterS P gf lb [itA P gf lb N E] N (fun k vs p => E' k vs ∧ p = fun _ => True) := by
  intro y J Jx hy w F S s
  obtain ⟨Fj, Sj, Fi, Si, ⟨a1, a2, a3, a4⟩, ⟨b1, b2, b3⟩, hJ, Fi', Si', F3, S3, ⟨c1, c2, c3, c4⟩, _, hit, _⟩ := s.sep
  obtain ⟨Sx, hit'⟩ := hit [] w (Ext.refl _ _) (Apart.nilR _)
  have ltj : ∀ b ∈ Fj, b < w.heap.size := fun b hb => s.ltF b (a1 hb)
  have ltsj : ∀ b ∈ Sj, b < w.heap.size := fun b hb => s.ltS b (a3 hb)
  have ltsi : ∀ b ∈ Si', b < w.heap.size := fun b hb => s.ltS b (a4 (c3 hb))
  have hap : ∀ b ∈ Fj, b ∉ Si' := fun b hb h => b2 b hb (c3 h)
  -- what the consumer keeps
  let KJ : (Nat → Asn) → Nat → List Nat → World → Prop := fun A k D W => ∃ F' S', (A k).P F' S' W ∧ (∀ b ∈ F', b ∈ D) ∧ (∀ b ∈ S', b < W.heap.size ∧ (b ∈ D ∨ b ∈ Sj)) ∧ (∀ b ∈ D, b < W.heap.size ∧ (b ∈ Fj ∨ w.heap.size ≤ b)) ∧ Ext Fj w W
  have hst : ∀ (A : Nat → Asn) k D W₁ W₂ M', KJ A k D W₁ → Ext M' W₁ W₂ → (∀ g ∈ M', g ∉ D ∧ (g ∈ ([] : List Nat) ∨ w.heap.size ≤ g)) → KJ A k D W₂ := by
    rintro A k D W₁ W₂ M' ⟨F', S', h1, h2, h3, h4, h5⟩ he hM
    refine ⟨F', S', (A k).ext _ _ _ _ _ h1 he (fun b hb h => (hM b h).1 (h2 b hb)) (fun b hb h => (h3 b hb).2.elim (hM b h).1 (fun q => by have := (hM b h).2; simp at this; have := ltsj b q; omega)), h2, fun b hb => ⟨Nat.lt_of_lt_of_le (h3 b hb).1 he.size, (h3 b hb).2⟩, fun b hb => ⟨Nat.lt_of_lt_of_le (h4 b hb).1 he.size, (h4 b hb).2⟩, h5.transN he (fun x hx => .inr (by have := (hM x hx).2; simpa using this))⟩
  have hm := hit' y Fj (KJ J) (KJ Jx) w (Ext.refl _ _) (fun g hg => ⟨ltj g hg, hap g hg, by simp⟩) (fun k D W₁ W₂ M' => hst J k D W₁ W₂ M') (fun k D W₁ W₂ M' => hst Jx k D W₁ W₂ M') (by
      rintro k D vs W₁ hk ⟨F', S', h1, h2, h3, h4, h5⟩ hEk hD
      have hys := hy k vs _ hk ⟨hE k vs W₁ hEk, rfl⟩ W₁ F' S' ⟨⟨[], [], F', S', ⟨by simp, subR _, by simp, subR _⟩, ⟨Apart.nilL _, Apart.nilL _, Apart.nilL _⟩, fun _ _ _ _ => trivial, F', S', [], [], ⟨subR _, by simp, subR _, by simp⟩, ⟨Apart.nilR _, Apart.nilR _, Apart.nilR _⟩, h1, trivial⟩, fun b hb => (h4 b (h2 b hb)).1, fun b hb => (h3 b hb).1⟩
      have fin : ∀ b W₂, PostS ⟨W₁, F', S'⟩ (fun _ H' => H' = [if b then J (k + 1) else Jx (k + 1)]) undef W₂ → ∃ D', Ext D W₁ W₂ ∧ (∀ g ∈ D', g < W₂.heap.size ∧ (g ∈ D ∨ W₁.heap.size ≤ g)) ∧ (b = true → KJ J (k + 1) D' W₂) ∧ (b = false → KJ Jx (k + 1) D' W₂) := by
        rintro b W₂ ⟨H', F5, S5, rfl, s5, f5⟩
        have hsz := f5.ext.size
        have hsw := h5.size
        simp only at hsz
        obtain ⟨Fa, Sa, Fb, Sb, ⟨q1, _, q3, _⟩, _, hA, _⟩ := s5.sep
        have hD2 : ∀ g ∈ D ++ (F5 ++ S5).filter (fun g => decide (W₁.heap.size ≤ g)), g < W₂.heap.size ∧ (g ∈ D ∨ W₁.heap.size ≤ g) := by
          intro g hg
          rcases List.mem_append.1 hg with h | h
          · exact ⟨Nat.lt_of_lt_of_le (h4 g h).1 hsz, .inl h⟩
          · obtain ⟨h, hd⟩ := List.mem_filter.1 h
            exact ⟨(List.mem_append.1 h).elim (s5.ltF g) (s5.ltS g), .inr (of_decide_eq_true hd)⟩
        have hE2 : Ext D W₁ W₂ := f5.ext.mono (fun x hx => .inl (h2 x hx))
        have base : ∀ A : Nat → Asn, (A (k + 1)).P Fa Sa W₂ → KJ A (k + 1) (D ++ (F5 ++ S5).filter (fun g => decide (W₁.heap.size ≤ g))) W₂ := fun A hA => by
          refine ⟨Fa, Sa, hA, fun g hg => ?_, fun g hg => ⟨s5.ltS g (q3 hg), ?_⟩, fun g hg => ⟨(hD2 g hg).1, (hD2 g hg).2.elim (fun h => (h4 g h).2) (fun h => .inr (Nat.le_trans hsw h))⟩, h5.transN hE2 (fun x hx => (h4 x hx).2)⟩
          · exact (f5.fF g (q1 hg)).elim (fun h => List.mem_append_left _ (h2 g h)) (fun h => List.mem_append_right _ (List.mem_filter.2 ⟨List.mem_append_left _ (q1 hg), decide_eq_true h⟩))
          · rcases f5.fS g (q3 hg) with h | h | h
            · exact (h3 g h).2.imp (fun h => List.mem_append_left _ h) id
            · exact .inl (List.mem_append_left _ (h2 g h))
            · exact .inl (List.mem_append_right _ (List.mem_filter.2 ⟨List.mem_append_right _ (q3 hg), decide_eq_true h⟩))
        refine ⟨_, hE2, hD2, fun hb => ?_, fun hb => ?_⟩
        · subst hb; exact base J hA
        · subst hb; exact base Jx hA
      rcases hys with ⟨l, rfl, fn, tmps, asv, body, hr, hrd⟩ | ⟨f, first, cap, rfl, hc, hf⟩
      · refine .inl ⟨l, rfl, fn, tmps, asv, body, hr, RoundIn.mono hrd ?_⟩
        rintro e w' ⟨b, rfl, h⟩
        exact ⟨b, rfl, fin b w' h⟩
      · refine .inr ⟨f, first, cap, rfl, hc, hf.mono ?_⟩
        rintro v w' ⟨b, rfl, h⟩
        exact ⟨b, rfl, fin b w' h⟩) ⟨Fj, Sj, hJ, fun b hb => hb, fun b hb => ⟨ltsj b hb, .inr hb⟩, fun b hb => ⟨ltj b hb, .inl hb⟩, Ext.refl _ _⟩
  refine hm.mono ?_
  have out : ∀ (A : Nat → Asn) k D W, KJ A k D W → ∃ F' S', St (A k :: [itA P gf lb N E]) F' S' W ∧ From ⟨w, F, S⟩ W F' S' := by
    rintro A k D W ⟨F', S', h1, h2, h3, h4, h5⟩
    have hsw := h5.size
    refine ⟨F', S' ++ Si', ⟨⟨F', S', [], Si', ⟨subR _, by simp, inL _ _, inR _ _⟩, ⟨Apart.nilR _, fun b hb h => ?_, Apart.nilR _⟩, h1, [], Si', [], [], ⟨by simp, by simp, subR _, by simp⟩, ⟨Apart.nilL _, Apart.nilL _, Apart.nilR _⟩, (itA P gf lb N E).ext _ _ _ _ _ hit h5 (fun b hb h => ?_) (fun b hb h => hap b h hb), trivial⟩, fun b hb => (h4 b (h2 b hb)).1, ?_⟩, ⟨h5.mono (fun x hx => .inl (a1 hx)), fun b hb => (h4 b (h2 b hb)).2.imp (fun h => a1 h) id, ?_⟩⟩
    · exact (h4 b (h2 b hb)).2.elim (fun q => hap b q h) (fun q => by have := ltsi b h; omega)
    · cases hb
    · intro b hb
      exact (List.mem_append.1 hb).elim (fun h => (h3 b h).1) (fun h => Nat.lt_of_lt_of_le (ltsi b h) hsw)
    · intro b hb
      rcases List.mem_append.1 hb with h | h
      · exact (h3 b h).2.elim (fun q => (h4 b q).2.elim (fun q => .inr (.inl (a1 q))) (fun q => .inr (.inr q))) (fun q => .inl (a3 q))
      · exact .inl (a4 (c3 h))
  rintro v W₂ (⟨D, hJN, _⟩ | ⟨k, D, hk, hJx, _⟩)
  · obtain ⟨F', S', s', f'⟩ := out J N D W₂ hJN
    exact ⟨_, F', S', .inl rfl, s', f'⟩
  · obtain ⟨F', S', s', f'⟩ := out Jx k D W₂ hJx
    exact ⟨_, F', S', .inr ⟨k, hk, rfl⟩, s', f'⟩
end Brv
/-
  Loops over iterators in the bodies of loops over iterators.
-/
set_option linter.unusedVariables false
set_option linter.unusedSimpArgs false
namespace Brv
open Go
section
variable {P : Program} {B : Exit → Act → World → Prop} {n : Nat} {df : List Deferred} {ks : List K} {ρ : Env} {o : Org} {H : List Asn}
end
end Brv
/-
  Arrays of bytes as values: from slices, compared.
-/
set_option linter.unusedVariables false
namespace Brv
open Go
section
variable {P : Program} {n : Fm} {ρ : Env} {w : World} {d : Nat} {ty : TypeId} {pos : String} {af : Array Edge} {gd : Option (Nat × Bool)}
/-- An array type of bytes, that may be compared. -/
class TyBArr (P : Program) (T : TypeId) (m : outParam Nat) : Prop where
  h : ∃ E, P.underlying T = some (.array m E) ∧ P.underlying E = some (.int .u8) ∧ (P.info? E).map (·.size) = some 1
  g : P.eqGuardType P.depth T = false
end
theorem Cells.none {w : World} {vs : List Value} (h : Cells w none vs) : vs = [] := by
  cases vs with
  | nil => rfl
  | cons v vs => obtain ⟨p, hp, _⟩ := h 0 v rfl; cases hp
end Brv
namespace Brv
open Go
end Brv
/-
  Slices of three bounds; a struct of two parts.
-/
set_option linter.unusedVariables false
namespace Brv
open Go
section
variable {P : Program} {n : Fm} {ρ : Env} {w : World} {d : Nat} {ty : TypeId} {pos : String} {af : Array Edge} {gd : Option (Nat × Bool)}
end
theorem fill_two {pl : Nat → Option (Nat × Nat)} {A cs : Array Value} {u : Value} {m : Nat} (h0 : pl 0 = some (0, 1)) (h1 : pl 1 = some (1, m)) (hu : u.cells = #[u]) (hc : cs.size = m) (hA : A.size = 1 + m) : Instr.fill pl A [(0, u), (1, .agg cs)] = some (u :: cs.toList).toArray := by
  have hcc : (Value.agg cs).cells = cs := rfl
  have e0 : (u.cells.zipIdx.foldl (fun ac (p : Value × Nat) => ac.setIfInBounds (0 + p.2) p.1) A) = A.setIfInBounds 0 u := by rw [hu]; simp
  have hf := seg_fold 1 cs.toList 0 (A.setIfInBounds 0 u) (by simp; omega)
  have e : (cs.zipIdx.foldl (fun ac (p : Value × Nat) => ac.setIfInBounds (1 + p.2) p.1) (A.setIfInBounds 0 u)) = ((cs.toList.zipIdx 0).foldl (fun ac (p : Value × Nat) => ac.setIfInBounds (1 + p.2) p.1) (A.setIfInBounds 0 u)) := by
    rw [← Array.foldl_toList]; simp
  simp only [Instr.fill, h0, h1, hcc]
  rw [if_neg (by rw [hu]; intro h; simp at h; rw [h] at hA; simp at hA; omega)]
  simp only [e0]
  rw [if_neg (by simp; omega)]
  refine congrArg some ?_
  rw [e]
  apply Array.toList_inj.1
  rw [hf]
  simp only [Array.toList_setIfInBounds, Nat.add_zero, Array.length_toList]
  obtain ⟨al⟩ := A
  cases al with
  | nil => simp at hA; omega
  | cons a r =>
    simp at hA
    simp
    omega
/-- Where the elements of a slice lie; nowhere, if there are none. -/
def effA {α : Type} (a : Option Addr) : List α → Option Addr
  | [] => none
  | _ :: _ => a
theorem effA.of {α : Type} {a : Option Addr} {l : List α} {p : Addr} (h : effA a l = some p) : a = some p := by
  cases l with
  | nil => cases h
  | cons x r => exact h
theorem Cells.extE {α : Type} {f : α → Value} {w w' : World} {M : List Nat} {a : Option Addr} {l : List α} (h : Cells w a (l.map f)) (he : Ext M w w') (hm : ∀ p, effA a l = some p → p.block ∉ M) : Cells w' a (l.map f) := by
  cases l with
  | nil => exact Cells.nil _ _
  | cons x r => exact h.ext he hm
theorem Bs.extE {w w' : World} {M : List Nat} {a : Option Addr} {n : Nat} {l : List UInt8} (h : Bs w a n l) (he : Ext M w w') (hm : ∀ p, effA a l = some p → p.block ∉ M) : Bs w' a n l := ⟨Cells.extE (f := vb) h.cells he hm, h.len⟩
theorem Cells.effLt {α : Type} {f : α → Value} {w : World} {a : Option Addr} {l : List α} (h : Cells w a (l.map f)) : ∀ p, effA a l = some p → p.block < w.heap.size := by
  intro p hp
  cases l with
  | nil => cases hp
  | cons x r =>
    obtain ⟨q, hq, hc⟩ := h 0 (f x) rfl
    have : a = some p := hp
    rw [this] at hq; cases hq
    obtain ⟨o, ho, _⟩ : ∃ o : Obj, w.heap[(p.add 0).block]? = some o ∧ True := by
      unfold World.cell? at hc
      cases ho : w.heap[(p.add 0).block]? with
      | none => simp [ho] at hc
      | some o => exact ⟨o, rfl, trivial⟩
    exact (Array.getElem?_eq_some_iff.1 ho).1
theorem Bs.effLt {w : World} {a : Option Addr} {n : Nat} {l : List UInt8} (h : Bs w a n l) : ∀ p, effA a l = some p → p.block < w.heap.size := Cells.effLt (f := vb) h.cells
end Brv
/-
  Contracts over assertions, from contracts over worlds.
-/
set_option linter.unusedVariables false
set_option linter.unusedSimpArgs false
namespace Brv
open Go
theorem St.blkC {H H' : List Asn} {b : Nat} {cs : List Value} {T : TypeId} {F S : List Nat} {w : World} (s : St H F S w) (h : Sel H (Brv.blk b cs T) H') : Cells w (some ⟨b, 0, none⟩) cs :=
  Cells.of_blk (s.blk h) 0 _ (fun j v hj => by simpa using hj)
/-- A list of one assertion. -/
theorem st_one {A : Asn} {F S : List Nat} {w : World} (h : A.P F S w) (hF : ∀ b ∈ F, b < w.heap.size) (hS : ∀ b ∈ S, b < w.heap.size) : St [A] F S w :=
  ⟨⟨F, S, [], [], ⟨subR _, by simp, subR _, by simp⟩, ⟨Apart.nilR _, Apart.nilR _, Apart.nilR _⟩, h, trivial⟩, hF, hS⟩
section
variable {P : Program} {f : FuncId} {vs : List Value}
/-- A call that makes new blocks and turns nothing. -/
theorem post_new {H : List Asn} {w w' : World} {F S F' S' : List Nat} {A : Asn} {Φ : Value → List Asn → Prop} {v : Value} (st : St H F S w) (he : Ext [] w w') (hA : A.P F' S' w') (hF : ∀ b ∈ F', w.heap.size ≤ b ∧ b < w'.heap.size) (hS : ∀ b ∈ S', w.heap.size ≤ b ∧ b < w'.heap.size) (hΦ : Φ v (A :: H)) : PostS ⟨w, F, S⟩ Φ v w' := by
  obtain ⟨F2, S2, s2, f2⟩ := st.grow (From.refl w F S) he hF (fun b hb => ⟨(hS b hb).2, .inl (hS b hb).1⟩) hA (fun b hb hb' => by have := (hS b hb).1; have := st.ltF b hb'; omega)
  exact ⟨_, F2, S2, hΦ, s2, f2⟩
section
variable {n : Fm} {o : Org} {ρ : Env} {H H0 H1 : List Asn} {d : Option Nat} {ty : TypeId} {pos : String} {af : Array Edge} {gd : Option (Nat × Bool)} {args : Array Operand} {ats : Array TypeId}
theorem CS.buildA {T E size bytes : Nat} {z : Value} [t : TySlice P T E size bytes z] {d len : Nat} {parts : Array (Nat × Operand)} {vs : List (Nat × Value)} (hp : evps ρ parts.toList = some vs) (hl : Nat.ble (len * size) 16777216 = true) (hlen : Nat.beq vs.length len = true) (ho : inOrder 0 vs = true) (hs : vs.all (fun p => Nat.beq p.2.cells.size size) = true)
    (cs : List Value) (hcs : cellsOf vs = cs) : CS P n o ρ H ⟨some d, .buildSlice T len parts, ty, pos, af, gd⟩ (fun v H' => ∃ b, v = .slice (some ⟨b, 0, none⟩) len len ∧ H' = blk b cs E :: H) :=
  CS.mk (fun w => R.buildA hp hl hlen ho hs) (by simpa using hcs)
/-- A block is made of a struct. -/
theorem CS.boxA {T : TypeId} {x : Operand} {cs : List Value} {d : Nat} (hx : ev ρ x = some (.agg cs.toArray)) : CS P n o ρ H ⟨some d, .box T x, ty, pos, af, gd⟩ (fun v H' => ∃ b, v = .pointer (some ⟨b, 0, none⟩) ∧ H' = blk b cs T :: H) :=
  CS.box hx cs (by simp [Value.cells])
theorem CS.box1 {T : TypeId} {x : Operand} {v : Value} {d : Nat} (hx : ev ρ x = some v) (h1 : v.oneCell' = true) : CS P n o ρ H ⟨some d, .box T x, ty, pos, af, gd⟩ (fun v' H' => ∃ b, v' = .pointer (some ⟨b, 0, none⟩) ∧ H' = blk b [v] T :: H) :=
  CS.box hx [v] (by cases v <;> simp_all [Value.cells, Value.oneCell'])
end
end
/-- A block that stays as it is. -/
def fz (b : Nat) (cs : List Value) (T : TypeId) : Asn := sh (fun w => Blk w b cs.toArray T (0, 0))
instance (b : Nat) (cs : List Value) (T : TypeId) : Pers (fz b cs T) := ⟨fun _ _ _ h => h⟩
theorem St.fz {H H' : List Asn} {b : Nat} {cs : List Value} {T : TypeId} {F S : List Nat} {w : World} (s : St H F S w) (h : Sel H (Brv.fz b cs T) H') : Blk w b cs.toArray T (0, 0) := s.sh h
theorem Imp.fz {H H' : List Asn} {b : Nat} {cs : List Value} {T : TypeId} (h : Sel H (blk b cs T) H') : Imp H (Brv.fz b cs T :: H') := Imp.blkSh h fun _ h => h
/-- A block among the assertions, owned or frozen. -/
inductive SelB : List Asn → Nat → List Value → TypeId → Prop
  | blk {b : Nat} {cs : List Value} {T : TypeId} {H : List Asn} : SelB (Brv.blk b cs T :: H) b cs T
  | fz {b : Nat} {cs : List Value} {T : TypeId} {H : List Asn} : SelB (Brv.fz b cs T :: H) b cs T
  | there {A : Asn} {b : Nat} {cs : List Value} {T : TypeId} {H : List Asn} : SelB H b cs T → SelB (A :: H) b cs T
theorem SelB.get {H : List Asn} {b : Nat} {cs : List Value} {T : TypeId} (h : SelB H b cs T) : ∀ {F S : List Nat} {w : World}, Sep H F S w → Blk w b cs.toArray T (0, 0) := by
  induction h with
  | blk => exact fun {F S w} ⟨_, _, _, _, _, _, hA, _⟩ => hA.2
  | fz => exact fun {F S w} ⟨_, _, _, _, _, _, hA, _⟩ => hA [] w (Ext.refl _ _) (Apart.nilR _)
  | there _ ih => exact fun {F S w} ⟨_, _, _, _, _, _, _, hH⟩ => ih hH
theorem St.cel {H : List Asn} {b : Nat} {cs : List Value} {T : TypeId} {F S : List Nat} {w : World} (s : St H F S w) (h : SelB H b cs T) : Blk w b cs.toArray T (0, 0) := h.get s.sep
/-- An order of keys and values (its blocks are its own). -/
def mp {κ : Type} [Key κ] (TM TP sv : Nat) (m : Nat) (ps : List (Pr κ)) : Asn where
  P := fun F _ w => MapAt TM TP sv w m ps F
  ext := fun F S M w w' h he hF _ => h.ext he hF
theorem St.mp {κ : Type} [Key κ] {TM TP sv m : Nat} {ps : List (Pr κ)} {H H' : List Asn} {F S : List Nat} {w : World} (s : St H F S w) (h : Sel H (Brv.mp TM TP sv m ps) H') : ∃ S', MapAt TM TP sv w m ps S' := (s.sel h).elim fun F1 h => h.elim fun _ h => ⟨F1, h.2⟩
/-- A call that turns an order. -/
theorem SpecS.ofMap {κ : Type} [Key κ] {P : Program} {f : FuncId} {vs : List Value} {TM TP sv m : Nat} {ps ps' : List (Pr κ)} {φ : Value → Prop} (h : ∀ w S, MapAt TM TP sv w m ps S → Meets P f vs w (fun v w' => φ v ∧ ∃ S', Grown S S' w w' ∧ MapAt TM TP sv w' m ps' S')) :
    SpecS P f vs [mp TM TP sv m ps] (fun v H' => φ v ∧ H' = [mp TM TP sv m ps']) := fun w F S st => by
  obtain ⟨F1, S1, _, _, ⟨a, _, c, _⟩, _, hm, _⟩ := st.sep
  refine (h w F1 hm).mono ?_
  rintro v w' ⟨h1, S', hg, hm'⟩
  exact ⟨_, S', [], ⟨h1, rfl⟩, st_one hm' hm'.lt (by simp), ⟨hg.1.mono (fun x hx => .inl (a hx)), fun x hx => (hg.2 x hx).imp (fun h => a h) id, by simp⟩⟩
theorem SpecS.ofNew {κ : Type} [Key κ] {P : Program} {f : FuncId} {TM TP sv : Nat} (h : ∀ w, Meets P f [] w (fun v w' => ∃ b, v = .pointer (some ⟨b, 0, none⟩) ∧ w.heap.size ≤ b ∧ Ext [] w w' ∧ MapAt (κ := κ) TM TP sv w' b [] [b])) :
    SpecS P f [] [] (fun v H' => ∃ b, v = .pointer (some ⟨b, 0, none⟩) ∧ H' = [mp (κ := κ) TM TP sv b []]) := fun w F S st => (h w).mono fun v w' ⟨b, h1, h2, h3, h4⟩ =>
  ⟨_, [b], [], ⟨b, h1, rfl⟩, st_one h4 h4.lt (by simp), ⟨h3.mono (by simp), fun x hx => .inr (by rw [List.mem_singleton.1 hx]; exact h2), by simp⟩⟩
end Brv
/-
  Laws over assertions: all that is there at the beginning is shared.
-/
set_option linter.unusedVariables false
set_option linter.unusedSimpArgs false
namespace Brv
open Go
class PersL (H : List Asn) : Prop where
  h : ∀ F S w, Sep H F S w → Sep H [] S w
instance : PersL [] := ⟨fun _ _ _ _ => trivial⟩
instance (A : Asn) (H : List Asn) [a : Pers A] [t : PersL H] : PersL (A :: H) := ⟨fun F S w ⟨F1, S1, F2, S2, ⟨p, q, r, s⟩, _, hA, hH⟩ =>
  ⟨[], S1, [], S2, ⟨by simp, by simp, r, s⟩, ⟨Apart.nilL _, Apart.nilL _, Apart.nilR _⟩, a.h _ _ _ hA, t.h _ _ _ hH⟩⟩
def lawO (w : World) : Org := ⟨w, [], List.range w.heap.size⟩
/-- What is true of the old blocks, at a law's beginning. -/
theorem law_nil (w : World) : St [] [] (List.range w.heap.size) w := ⟨trivial, by simp, fun b h => List.mem_range.1 h⟩
theorem law_cons {H : List Asn} {w : World} {p : World → Prop} (hp : ∀ w', Ext [] w w' → p w') (h : St H [] (List.range w.heap.size) w) : St (sh p :: H) [] (List.range w.heap.size) w :=
  ⟨⟨[], List.range w.heap.size, [], List.range w.heap.size, ⟨by simp, by simp, subR _, subR _⟩, ⟨Apart.nilL _, Apart.nilL _, Apart.nilR _⟩, sh_old hp [], h.sep⟩, by simp, fun b h => List.mem_range.1 h⟩
theorem Meets.law {P : Program} {f : FuncId} {fn : Func} {c : Code} {args : List Value} {w : World} {H : List Asn} {x : Value} (hf : P.funcs[f]? = some fn) (hb : fn.body = some c) (n : Nat) (hn : fn.ntmps = n) (hl : args.length ≤ n) (hs : St H [] (List.range w.heap.size) w)
    (h : SG P (Func.base P fn (PostS (lawO w) (fun v _ => v = x))) ⟨n, [], none⟩ (lawO w) [] (argEnv 0 args) H c) : Meets P f args w (fun v w' => v = x ∧ Ext [] w w') :=
  (Meets.enter hf hb n hn hl (h w [] _ hs (From.refl w [] _))).mono fun v w' ⟨_, _, _, hv, _, fr⟩ => ⟨hv, fr.ext⟩
section
variable {P : Program} {n : Fm} {w₀ : World} {ρ : Env} {H H0 H1 : List Asn} {d : Option Nat} {ty : TypeId} {pos : String} {af : Array Edge} {gd : Option (Nat × Bool)} {args : Array Operand} {ats : Array TypeId} {f : FuncId} {vs : List Value}
end
section
variable {P : Program} {n : Fm} {o : Org} {ρ : Env} {H H1 : List Asn} {ty : TypeId} {pos : String} {af : Array Edge} {gd : Option (Nat × Bool)}
/-- []byte of []byte: the same, that is not written any more. -/
theorem CS.markB {T E : TypeId} [t : TyBytes P T E] {d : Nat} {x : Operand} {b c m : Nat} {l : List UInt8} {U : TypeId} (hx : ev ρ x = some (.slice (some ⟨b, 0, none⟩) m c)) (sel : Sel H (blk b (vbs l) U) H1) (hm : m = l.length) :
    CS P n o ρ H ⟨some d, .convert T T x, ty, pos, af, gd⟩ (fun v H' => v = .slice (some ⟨b, 0, none⟩) l.length c ∧ H' = bs (some ⟨b, 0, none⟩) l.length l :: H1) := by
  subst hm
  refine CS.mono (CS.upd sel (φ := fun v A' => v = .slice (some ⟨b, 0, none⟩) l.length c ∧ A' = bs (some ⟨b, 0, none⟩) l.length l) fun w F S F1 S1 st hA hlt => ?_) (by rintro v H' ⟨_, ⟨rfl, rfl⟩, rfl⟩; exact ⟨rfl, rfl⟩)
  obtain ⟨rfl, hB⟩ := hA
  obtain ⟨v, w', hr, fz', rfl, he, hsz, hB'⟩ := R.bytesBytes (P := P) (n := n) (d := d) (ty := ty) (pos := pos) (af := af) (gd := gd) (T := T) (w := w) hx hB
  refine .inl ⟨_, w', hr, _, [], [b], ⟨rfl, rfl⟩, fun M w'' he' hM => ⟨Cells.of_blk (hB'.ext he' (hM b (by simp))) 0 _ (fun j v hj => by simpa using hj), rfl⟩, by simp, fun x hx => by have := hlt x hx; omega, ⟨he, by simp, fun x hx => .inr (.inl hx)⟩⟩
end
end Brv
/-
  A return of a struct that lives in a block, and of two plain results.
-/
set_option linter.unusedVariables false
namespace Brv
open Go
section
variable {P : Program} {n : Nat} {ks : List K} {ρ : Env} {w : World} {fn : Func} {Φ : Value → World → Prop}
theorem G.retCTT {t u y : Nat} {T : TypeId} {s b : Nat} [ta : TyAgg P T s] {cs : Array Value} {U : TypeId} {fz : Nat × Nat} {x z : Value} (hr : fn.results = #[.cell t T, .tmp u, .tmp y]) (hv : look ρ t = some (.pointer (some ⟨b, 0, none⟩))) (hx : look ρ u = some x) (hy : look ρ y = some z)
    (hb : Blk w b cs U fz) (hs : cs.size = s) (h : Φ (.tuple #[.agg cs, x, z]) w) : G P (Func.base P fn Φ) ⟨n, [], none⟩ ks ρ w .ret := by
  refine G.retM (n := ⟨n, [], none⟩) rfl (fun a ha => ?_) h
  have e1 := ha.getD hv
  have e2 := ha.getD hx
  have e3 := ha.getD hy
  have hl0 := run_loadN (P := P) (T := T) (s := s) (w := w) (p := ⟨b, 0, none⟩) (vs := cs.toList) hb.cellsAll (by simpa using hs)
  have hl : (loadVar T ⟨b, 0, none⟩).run P w = .ok (.agg cs) w := by simpa [Instr.loadAt, Instr.sureAddr] using hl0
  rw [Array.getD_eq_getD_getElem?] at e1 e2 e3
  simp [results, hr, e1, e2, e3, asAddr, hl]
end
end Brv
/-
  Assertions with something hidden.
-/
set_option linter.unusedVariables false
set_option linter.unusedSimpArgs false
namespace Brv
open Go
theorem From.lift {w w' : World} {F S F1 S1 F' S' : List Nat} (h : From ⟨w, F1, S1⟩ w' F' S') (hF : F1 ⊆ F) (hS : S1 ⊆ S) : From ⟨w, F, S⟩ w' F' S' :=
  ⟨h.ext.mono (fun x hx => .inl (hF hx)), fun b hb => (h.fF b hb).imp (fun q => hF q) id, fun b hb => (h.fS b hb).imp (fun q => hS q) (fun q => q.imp (fun q => hF q) id)⟩
section
variable {P : Program} {f : FuncId} {vs : List Value} {ι κ : Type}
/-- A contract over worlds that makes one assertion out of fresh blocks. -/
theorem SpecS.ofFresh {H : List Asn} {φ : Value → Asn → Prop} (hf : ∀ w F S, St H F S w → Meets P f vs w (fun v w' => ∃ A F' S', φ v A ∧ Ext [] w w' ∧ A.P F' S' w' ∧ (∀ b ∈ F', w.heap.size ≤ b ∧ b < w'.heap.size) ∧ (∀ b ∈ S', w.heap.size ≤ b ∧ b < w'.heap.size))) :
    SpecS P f vs H (fun v H' => ∃ A, φ v A ∧ H' = A :: H) := fun w F S s => (hf w F S s).mono fun v w' ⟨A, F', S', h1, h2, h3, h4, h5⟩ => post_new (Φ := fun v H' => ∃ A, φ v A ∧ H' = A :: H) s h2 h3 h4 h5 ⟨A, h1, rfl⟩
end
end Brv
namespace Brv
open Go
section
variable {P : Program} {f : FuncId} {vs : List Value} {ι : Type}
theorem Sels.app : ∀ (H0 H1 : List Asn), Sels (H0 ++ H1) H0 H1
  | [], _ => .nil
  | _ :: H0, H1 => .cons .here (Sels.app H0 H1)
theorem SpecS.closed {H : List Asn} {Φ Φ' : Value → List Asn → Prop} (h : SpecS P f vs H Φ) (hm : ∀ v H', Φ v H' → ∃ H'', Imp H' H'' ∧ Φ' v H'') : SpecS P f vs H Φ' := fun w F S st => (h w F S st).mono fun v w' ⟨H', F', S', h1, st', fr⟩ => by
  obtain ⟨H'', hi, h2⟩ := hm v H' h1
  obtain ⟨F2, S2, s2, f2⟩ := hi.at st' fr
  exact ⟨H'', F2, S2, h2, s2, f2⟩
end
section
variable {P : Program} {n : Nat} {o : Org} {ks : List K} {ρ : Env} {H H' : List Asn} {fn : Func} {Φ : Value → List Asn → Prop}
theorem SG.retCTT {t u y : Nat} {T : TypeId} {s b : Nat} [ta : TyAgg P T s] {cs : List Value} {U : TypeId} {H1 : List Asn} {x z : Value} (hr : fn.results = #[.cell t T, .tmp u, .tmp y]) (hv : look ρ t = some (.pointer (some ⟨b, 0, none⟩))) (hx : look ρ u = some x) (hy : look ρ y = some z) (hb : Sel H (blk b cs U) H1) (hl : cs.length = s) (i : Imp H H') (h : Φ (.tuple #[.agg cs.toArray, x, z]) H') :
    SG P (Func.base P fn (PostS o Φ)) ⟨n, [], none⟩ o ks ρ H .ret := fun w F S st f => G.retCTT hr hv hx hy (st.blk hb) (by simpa using hl) (post_of i h st f)
end
end Brv
/-
  Regions that draw their order, where those that turn the world stand in no chain: a walk for every order of these.
-/
set_option linter.unusedVariables false
set_option linter.unusedSimpArgs false
namespace Brv
open Go
/-- Which operation comes next: one that only reads, or any of those that turn the world. -/
inductive Tr where
  | nil
  | flo (i : Nat) (t : Tr)
  | alt (i : Nat) (t r : Tr)
  | stop
def Tr.choices : Tr → List Nat
  | .alt i _ r => i :: r.choices
  | _ => []
section
variable (P : Program) (n : Fm) (ops : List Oper) (Q : Exit → Act → World → Prop) (o : Org)
def TW : Tr → Pend → Env → List Asn → Prop
  | .nil, _, ρ, H => ∀ w F S, St H F S w → From o w F S → ∀ a, Fr n ρ a → Q .normal a w
  | .flo i t, pend, ρ, H => (∃ w F S, St H F S w ∧ From o w F S) → ∃ op, ops[i]? = some op ∧ isSelect op.op = false ∧ (∀ d, op.dst = some d → d < n.n) ∧ ∃ v, op.dst ≠ none ∧ ((∀ w, Fl P n ops ρ w op v) ∧ TW t pend (extE op.dst v ρ) H ∨
        ∃ g : List Asn → Prop, g H ∧ (∀ H w F S, g H → St H F S w → From o w F S → Fl P n ops ρ w op v) ∧ TW t ((i, g) :: pend) (extE op.dst v ρ) H)
  | .alt i t r, pend, ρ, H => ((∃ w F S, St H F S w ∧ From o w F S) → ∃ op, ops[i]? = some op ∧ isSelect op.op = false ∧ (∀ d, op.dst = some d → d < n.n) ∧ ∃ Ψ : Value → List Asn → Prop, ((wants ops ρ op.guard = some true ∧ CS P n o ρ H op Ψ) ∨ (wants ops ρ op.guard = some false ∧ Ψ = fun v H' => v = undef ∧ H' = H)) ∧
        ∀ v H', Ψ v H' → Obl ops i pend H' ∧ TW t pend (extE op.dst v ρ) H') ∧ TW r pend ρ H
  | .stop, _, _, _ => True
end
/-- Are all the others held back? -/
def chkC (ops : List Oper) (done : List Nat) : Tr → Bool
  | .nil => true
  | .flo _ _ => true
  | .stop => false
  | t => (List.range ops.length).all fun x => done.any (Nat.beq x) || t.choices.any (Nat.beq x) || t.choices.any (fun c => reachIn (masks ops ops.length) x c)
def chkT (ops : List Oper) : List Nat → Tr → Bool
  | done, .nil => (List.range ops.length).all fun i => done.any (Nat.beq i)
  | done, .flo i t => Nat.blt i ops.length && !done.any (Nat.beq i) && (afters ops i).all (fun k => done.any (Nat.beq k)) && chkC ops (i :: done) t && chkT ops (i :: done) t
  | done, .alt i t r => Nat.blt i ops.length && !done.any (Nat.beq i) && (afters ops i).all (fun k => done.any (Nat.beq k)) && chkC ops (i :: done) t && chkT ops (i :: done) t && chkT ops done r
  | _, .stop => true
section
variable {P : Program} {n : Fm} {ops : List Oper} {Q : Exit → Act → World → Prop} {o : Org}
theorem chkT_choice : ∀ {t : Tr} {done : List Nat}, chkT ops done t = true → ∀ c ∈ t.choices, c < ops.length ∧ c ∉ done ∧ ∀ k ∈ afters ops c, k ∈ done
  | .nil, _, _, c, hc => by cases hc
  | .flo _ _, _, _, c, hc => by cases hc
  | .stop, _, _, c, hc => by cases hc
  | .alt i t r, done, h, c, hc => by
    simp only [chkT, Bool.and_eq_true, Bool.not_eq_true', Nat.blt_eq] at h
    obtain ⟨⟨⟨⟨⟨h1, h2⟩, h3⟩, h4⟩, h5⟩, h6⟩ := h
    rcases List.mem_cons.1 hc with rfl | hc
    · exact ⟨h1, (fun hm => by have := any_beq.2 hm; rw [h2] at this; cases this), fun k hk => any_beq.1 (List.all_eq_true.1 h3 k hk)⟩
    · exact chkT_choice h6 c hc
theorem TW.pick : ∀ {t : Tr} {pend : Pend} {ρ : Env} {H : List Asn} {done : List Nat} {i : Nat}, TW P n ops Q o t pend ρ H → chkT ops done t = true → i ∈ t.choices → ∃ u, ((∀ k ∈ afters ops i, k ∈ done) ∧ chkC ops (i :: done) u = true ∧ chkT ops (i :: done) u = true) ∧
      ((∃ w F S, St H F S w ∧ From o w F S) → ∃ op, ops[i]? = some op ∧ isSelect op.op = false ∧ (∀ d, op.dst = some d → d < n.n) ∧ ∃ Ψ : Value → List Asn → Prop, ((wants ops ρ op.guard = some true ∧ CS P n o ρ H op Ψ) ∨ (wants ops ρ op.guard = some false ∧ Ψ = fun v H' => v = undef ∧ H' = H)) ∧
        ∀ v H', Ψ v H' → Obl ops i pend H' ∧ TW P n ops Q o u pend (extE op.dst v ρ) H')
  | .nil, _, _, _, _, _, _, _, hi => by cases hi
  | .flo _ _, _, _, _, _, _, _, _, hi => by cases hi
  | .stop, _, _, _, _, _, _, _, hi => by cases hi
  | .alt j t r, pend, ρ, H, done, i, hsw, h, hi => by
    have h0 := h
    simp only [chkT, Bool.and_eq_true, Bool.not_eq_true', Nat.blt_eq] at h
    obtain ⟨⟨⟨⟨⟨h1, h2⟩, h3⟩, h4⟩, h5⟩, h6⟩ := h
    simp only [TW] at hsw
    by_cases hij : i = j
    · subst hij
      exact ⟨t, ⟨fun k hk => any_beq.1 (List.all_eq_true.1 h3 k hk), h4, h5⟩, hsw.1⟩
    · exact TW.pick hsw.2 h6 ((List.mem_cons.1 hi).resolve_left hij)
/-- What is so while the region runs. -/
structure TInv (P : Program) (n : Fm) (ops : List Oper) (Q : Exit → Act → World → Prop) (o : Org) (ρ₀ : Env) (listed : Array Bool) (a : Act) (w : World) (done : List Nat) (t₀ : Tr) (pend : Pend) (H : List Asn) (F S : List Nat) (val : Nat → Value) : Prop where
  lsz : listed.size = ops.length
  tsz : a.tmps.size = n.n
  tdf : a.defers = n.df
  closed : Closed ops (fun i => listed[i]? = some true)
  ok : DoneOk ops done
  ordC : chkC ops done t₀ = true
  ordT : chkT ops done t₀ = true
  sw : TW P n ops Q o t₀ pend (envOf ops val ρ₀ done) H
  st : St H F S w
  fr : From o w F S
  ldone : ∀ i, listed[i]? = some true → i ∈ done
  pok : ∀ (i : Nat) (op : Oper), i ∈ done → listed[i]? ≠ some true → ops[i]? = some op → isSelect op.op = false ∧ (∀ d, op.dst = some d → d < n.n) ∧ op.dst ≠ none ∧ ((∀ w, Fl P n ops (envB ops val ρ₀ i done) w op (val i)) ∨ ∃ g : List Asn → Prop, (i, g) ∈ pend ∧ g H ∧ ∀ H w F S, g H → St H F S w → From o w F S → Fl P n ops (envB ops val ρ₀ i done) w op (val i))
  d1 : ∀ (i : Nat) (op : Oper) (d : Nat), listed[i]? = some true → ops[i]? = some op → op.dst = some d → a.tmps[d]? = some (val i)
  d2 : ∀ t v, look ρ₀ t = some v → (∀ (i : Nat) (op : Oper), listed[i]? = some true → ops[i]? = some op → op.dst ≠ some t) → a.tmps[t]? = some v
  lt0 : ∀ t v, look ρ₀ t = some v → t < n.n
  ltd : ∀ (i : Nat) (op : Oper) (d : Nat), i ∈ done → ops[i]? = some op → op.dst = some d → d < n.n

/-- The slots that an operation looks at are as its environment has them. -/
theorem TInv.slots {ρ₀ : Env} {listed : Array Bool} {a : Act} {w : World} {done : List Nat} {t₀ : Tr} {pend : Pend} {H : List Asn} {F S : List Nat} {val : Nat → Value} (C : Chk ops []) (I : TInv P n ops Q o ρ₀ listed a w done t₀ pend H F S val)
    {i : Nat} {op : Oper} (hi : ops[i]? = some op) (hnl : listed[i]? ≠ some true) (haft : ∀ k ∈ afters ops i, listed[k]? = some true) {d : List Nat} (hd : DoneOk ops d) (hda : ∀ k ∈ afters ops i, k ∈ d) (hid : i ∉ d) :
    ∀ t ∈ slots ops op, ∀ u, look (envOf ops val ρ₀ d) t = some u → a.tmps[t]? = some u := by
  intro t ht u hu
  rcases look_envOf hu with ⟨j, oj, hj, hoj, hdj, rfl⟩ | ⟨h0, hno⟩
  · rcases C.share i op hi t ht j oj hoj hdj with e | e | e
    · exact absurd (e ▸ hj) hid
    · exact I.d1 j oj t (haft j e) hoj hdj
    · exact absurd (hd.back hj e) hid
  · refine I.d2 t u h0 (fun j oj hlj hoj hdj => ?_)
    rcases C.share i op hi t ht j oj hoj hdj with e | e | e
    · exact hnl (e ▸ hlj)
    · exact hno j oj (hda j e) hoj hdj
    · exact hnl (I.closed j hlj i e)
/-- The walk goes on over all that only read. -/
theorem TInv.adv {ρ₀ : Env} {listed : Array Bool} {a : Act} {w : World} : ∀ {t₀ : Tr} {done : List Nat} {pend : Pend} {H : List Asn} {F S : List Nat} {val : Nat → Value}, TInv P n ops Q o ρ₀ listed a w done t₀ pend H F S val →
    ∃ done' t' pend' val', TInv P n ops Q o ρ₀ listed a w done' t' pend' H F S val' ∧ (t' = .nil ∨ ∃ c u r, t' = .alt c u r)
  | .nil, done, pend, H, F, S, val, I => ⟨done, .nil, pend, val, I, .inl rfl⟩
  | .alt c u r, done, pend, H, F, S, val, I => ⟨done, .alt c u r, pend, val, I, .inr ⟨c, u, r, rfl⟩⟩
  | .stop, done, pend, H, F, S, val, I => by have := I.ordC; simp [chkC] at this
  | .flo i t, done, pend, H, F, S, val, I => by
      have ho := I.ordT
      simp only [chkT, Bool.and_eq_true, Bool.not_eq_true', Nat.blt_eq] at ho
      obtain ⟨⟨⟨⟨h1, h2⟩, h3⟩, h4⟩, h5⟩ := ho
      have hid : i ∉ done := fun h => by have := any_beq.2 h; rw [h2] at this; cases this
      have hia : ∀ k ∈ afters ops i, k ∈ done := fun k hk => any_beq.1 (List.all_eq_true.1 h3 k hk)
      have hop : ops[i]? = some ops[i] := List.getElem?_eq_getElem h1
      have hsw := I.sw
      simp only [TW] at hsw
      obtain ⟨op, ho, q1, q2, v, q3, q⟩ := hsw ⟨w, F, S, I.st, I.fr⟩
      rw [hop] at ho; cases ho
      have hnl : listed[i]? ≠ some true := fun h => hid (I.ldone i h)
      obtain ⟨val', hv'⟩ : ∃ val' : Nat → Value, val' = fun j => if j = i then v else val j := ⟨_, rfl⟩
      have hvi : val' i = v := by rw [hv']; simp
      have hvd : ∀ j ∈ done, val j = val' j := fun j hj => by rw [hv']; simp only [if_neg (fun e : j = i => hid (e ▸ hj))]
      have hE : envOf ops val' ρ₀ (i :: done) = extE ops[i].dst v (envOf ops val ρ₀ done) := by
        simp only [envOf, hop, Option.bind_some, hvi]
        rw [envOf_congr (fun j hj => (hvd j hj).symm)]
      have hB : envB ops val' ρ₀ i (i :: done) = envOf ops val ρ₀ done := by simp only [envB, if_true]; exact envOf_congr (fun j hj => (hvd j hj).symm)
      have hB2 : ∀ j, j ∈ done → envB ops val' ρ₀ j (i :: done) = envB ops val ρ₀ j done := fun j hj => by
        simp only [envB]
        rw [if_neg (fun e : i = j => hid (e ▸ hj))]
        exact envB_congr (fun j hj => (hvd j hj).symm)
      have hd1 : ∀ j op d, listed[j]? = some true → ops[j]? = some op → op.dst = some d → a.tmps[d]? = some (val' j) := fun j op d h1 h2 h3 => by rw [← hvd j (I.ldone j h1)]; exact I.d1 j op d h1 h2 h3
      have hltd : ∀ j op d, j ∈ i :: done → ops[j]? = some op → op.dst = some d → d < n.n := fun j op d hj hoj hdj => by
        rcases List.mem_cons.1 hj with rfl | hj
        · rw [hop] at hoj; cases hoj; exact q2 d hdj
        · exact I.ltd j op d hj hoj hdj
      rcases q with ⟨q4, q5⟩ | ⟨g, q4, q5, q6⟩
      · exact TInv.adv (t₀ := t) (done := i :: done) (pend := pend) (H := H) (F := F) (S := S) (val := val') ⟨I.lsz, I.tsz, I.tdf, I.closed, ⟨hid, h1, hia, I.ok⟩, h4, h5, by rw [hE]; exact q5, I.st, I.fr, fun j hj => by simp [I.ldone j hj],
          fun j op hj hnj hoj => by
            rcases List.mem_cons.1 hj with rfl | hj
            · rw [hop] at hoj; cases hoj
              exact ⟨q1, q2, q3, .inl (by rw [hB, hvi]; exact q4)⟩
            · rw [hB2 j hj, ← hvd j hj]
              exact I.pok j op hj hnj hoj, hd1, I.d2, I.lt0, hltd⟩
      · exact TInv.adv (t₀ := t) (done := i :: done) (pend := (i, g) :: pend) (H := H) (F := F) (S := S) (val := val') ⟨I.lsz, I.tsz, I.tdf, I.closed, ⟨hid, h1, hia, I.ok⟩, h4, h5, by rw [hE]; exact q6, I.st, I.fr, fun j hj => by simp [I.ldone j hj],
          fun j op hj hnj hoj => by
            rcases List.mem_cons.1 hj with rfl | hj
            · rw [hop] at hoj; cases hoj
              exact ⟨q1, q2, q3, .inr ⟨g, by simp, q4, by rw [hB, hvi]; exact q5⟩⟩
            · rw [hB2 j hj, ← hvd j hj]
              obtain ⟨k1, k2, k3, k4⟩ := I.pok j op hj hnj hoj
              exact ⟨k1, k2, k3, k4.imp id (fun ⟨g', m1, m2⟩ => ⟨g', by simp [m1], m2⟩)⟩, hd1, I.d2, I.lt0, hltd⟩
/-- One operation is done, which was walked over. -/
theorem TInv.float {ρ₀ : Env} {listed : Array Bool} {a : Act} {w : World} {done : List Nat} {t₀ : Tr} {pend : Pend} {H : List Asn} {F S : List Nat} {val : Nat → Value} (C : Chk ops []) (I : TInv P n ops Q o ρ₀ listed a w done t₀ pend H F S val)
    {i : Nat} {op : Oper} (hi : ops[i]? = some op) (hid : i ∈ done) (hnl : listed[i]? ≠ some true) (haft : ∀ k ∈ afters ops i, listed[k]? = some true) :
    TInv P n ops Q o ρ₀ (listed.setIfInBounds i true) (a.put op.dst (val i)) w done t₀ pend H F S val := by
  have hlt : i < listed.size := by rw [I.lsz]; exact (List.getElem?_eq_some_iff.1 hi).1
  obtain ⟨d, hd⟩ : ∃ d, op.dst = some d := by
    have := (I.pok i op hid hnl hi).2.2.1
    cases h : op.dst with
    | none => exact absurd h this
    | some d => exact ⟨d, rfl⟩
  have hdn : d < a.tmps.size := by rw [I.tsz]; exact (I.pok i op hid hnl hi).2.1 d hd
  refine ⟨by simpa using I.lsz, by rw [hd]; simpa [Act.put] using I.tsz, by rw [hd]; simpa [Act.put] using I.tdf, ?_, I.ok, I.ordC, I.ordT, I.sw, I.st, I.fr, ?_, ?_, ?_, ?_, I.lt0, I.ltd⟩
  · intro x hx y hy
    rw [listed_set hlt] at hx ⊢
    rcases hx with rfl | hx
    · exact .inr (haft y hy)
    · exact .inr (I.closed x hx y hy)
  · intro x hx
    rcases (listed_set hlt).1 hx with rfl | hx
    · exact hid
    · exact I.ldone x hx
  · intro x ox hx hnx hox
    exact I.pok x ox hx (fun h => hnx ((listed_set hlt).2 (.inr h))) hox
  · intro x ox dx hx hox hdx
    rw [hd]
    simp only [Act.put]
    rcases (listed_set hlt).1 hx with rfl | hx
    · rw [hi] at hox; cases hox
      rw [hd] at hdx; cases hdx
      rw [Array.getElem?_setIfInBounds]; simp [hdn]
    · have hne : d ≠ dx := by
        intro e; subst e
        have := C.apart x ox d hox hdx i op hi hd
        exact hnl (this ▸ hx)
      rw [Array.getElem?_setIfInBounds_ne hne]
      exact I.d1 x ox dx hx hox hdx
  · intro t v hv hno
    have hne : d ≠ t := fun e => hno i op ((listed_set hlt).2 (.inl rfl)) hi (by rw [hd, e])
    rw [hd]
    simp only [Act.put]
    rw [Array.getElem?_setIfInBounds_ne hne]
    exact I.d2 t v hv (fun j oj hj => hno j oj ((listed_set hlt).2 (.inr hj)))

/-- The next one of the chain is done. -/
theorem TInv.chain {ρ₀ : Env} {listed : Array Bool} {a : Act} {w : World} {done : List Nat} {t₀ u : Tr} {pend : Pend} {H : List Asn} {F S : List Nat} {val : Nat → Value} (C : Chk ops []) {i : Nat} {op : Oper} (I : TInv P n ops Q o ρ₀ listed a w done t₀ pend H F S val)
    (hi : ops[i]? = some op) (hnl : listed[i]? ≠ some true) (haft : ∀ k ∈ afters ops i, listed[k]? = some true) (hid : i ∉ done) (hia : ∀ k ∈ afters ops i, k ∈ done) (hdn : ∀ d, op.dst = some d → d < n.n) (hordC : chkC ops (i :: done) u = true) (hordT : chkT ops (i :: done) u = true)
    {v : Value} {H' : List Asn} {F' S' : List Nat} {w' : World} (hob : Obl ops i pend H') (hsw : TW P n ops Q o u pend (extE op.dst v (envOf ops val ρ₀ done)) H') (s' : St H' F' S' w') (f' : From o w' F' S') :
    TInv P n ops Q o ρ₀ (listed.setIfInBounds i true) (a.put op.dst v) w' (i :: done) u pend H' F' S' (fun j => if j = i then v else val j) := by
  have hll := (List.getElem?_eq_some_iff.1 hi).1
  have hlt : i < listed.size := by rw [I.lsz]; exact hll
  obtain ⟨val', hv'⟩ : ∃ val' : Nat → Value, val' = fun j => if j = i then v else val j := ⟨_, rfl⟩
  rw [← hv']
  have hvi : val' i = v := by rw [hv']; simp
  have hvd : ∀ j ∈ done, val j = val' j := fun j hj => by rw [hv']; simp only [if_neg (fun e : j = i => hid (e ▸ hj))]
  have hE : envOf ops val' ρ₀ (i :: done) = extE op.dst v (envOf ops val ρ₀ done) := by
    simp only [envOf, hi, Option.bind_some, hvi]
    rw [envOf_congr (fun j hj => (hvd j hj).symm)]
  have hB2 : ∀ j, j ∈ done → envB ops val' ρ₀ j (i :: done) = envB ops val ρ₀ j done := fun j hj => by
    simp only [envB]
    rw [if_neg (fun e : i = j => hid (e ▸ hj))]
    exact envB_congr (fun j hj => (hvd j hj).symm)
  refine ⟨by simpa using I.lsz, ?_, ?_, ?_, ⟨hid, hll, hia, I.ok⟩, hordC, hordT, by rw [hE]; exact hsw, s', f', ?_, ?_, ?_, ?_, I.lt0, ?_⟩
  · cases hd : op.dst <;> simp [Act.put, I.tsz]
  · cases hd : op.dst <;> simp [Act.put, I.tdf]
  · intro x hx y hy
    rw [listed_set hlt] at hx ⊢
    rcases hx with rfl | hx
    · exact .inr (haft y hy)
    · exact .inr (I.closed x hx y hy)
  · intro x hx
    rcases (listed_set hlt).1 hx with rfl | hx
    · simp
    · simp [I.ldone x hx]
  · intro x ox hx hnx hox
    have hxi : x ≠ i := fun e => hnx ((listed_set hlt).2 (.inl e))
    have hxd := (List.mem_cons.1 hx).resolve_left hxi
    have hnx' : listed[x]? ≠ some true := fun h => hnx ((listed_set hlt).2 (.inr h))
    obtain ⟨k1, k2, k3, k4⟩ := I.pok x ox hxd hnx' hox
    rw [hB2 x hxd, ← hvd x hxd]
    refine ⟨k1, k2, k3, k4.imp id (fun ⟨g, m1, m2, m3⟩ => ⟨g, m1, ?_, m3⟩)⟩
    rcases hob.all x g m1 with hr | hg
    · exact absurd (masks_spec _ _ _ hr (fun y => listed[y]? = some true) I.closed haft) hnx'
    · exact hg
  · intro x ox dx hx hox hdx
    rcases (listed_set hlt).1 hx with rfl | hx
    · rw [hi] at hox; cases hox
      rw [hdx, hvi]
      simp only [Act.put]
      rw [Array.getElem?_setIfInBounds]; simp [I.tsz, hdn dx hdx]
    · rw [← hvd x (I.ldone x hx)]
      have := I.d1 x ox dx hx hox hdx
      cases hd : op.dst with
      | none => exact this
      | some d =>
        simp only [Act.put]
        have hne : d ≠ dx := by
          intro e; subst e
          have := C.apart x ox d hox hdx i op hi hd
          exact hnl (this ▸ hx)
        rw [Array.getElem?_setIfInBounds_ne hne]
        exact this
  · intro t u hu hno
    have h2 := I.d2 t u hu (fun j oj hj => hno j oj ((listed_set hlt).2 (.inr hj)))
    cases hd : op.dst with
    | none => exact h2
    | some d =>
      have hne : d ≠ t := fun e => hno i op ((listed_set hlt).2 (.inl rfl)) hi (by rw [hd, e])
      simp only [Act.put]
      rw [Array.getElem?_setIfInBounds_ne hne]
      exact h2
  · intro j oj dj hj hoj hdj
    rcases List.mem_cons.1 hj with rfl | hj
    · rw [hi] at hoj; cases hoj; exact hdn dj hdj
    · exact I.ltd j oj dj hj hoj hdj
theorem TW.sound {ρ₀ : Env} {t₀ : Tr} {H : List Asn} {F S : List Nat} (hc1 : chk ops [] = true) (hc2 : chkC ops [] t₀ = true) (hc3 : chkT ops [] t₀ = true) (hn : ∀ t v, look ρ₀ t = some v → t < n.n) (h : TW P n ops Q o t₀ [] ρ₀ H)
    {a : Act} {w : World} (s : St H F S w) (fr : From o w F S) (ha : Fr n ρ₀ a) : wpAnyIn (fen n.ro) 0 P .any ops.toArray Q ops.length (Array.replicate ops.length false) a w := by
  have C := chk_spec hc1
  have hready : ∀ (listed : Array Bool) (i : Nat), i ∈ Region.ready .any ops.toArray listed → i < ops.length ∧ listed[i]? ≠ some true ∧ ∀ k ∈ afters ops i, listed[k]? = some true := by
    intro listed i hi
    simp only [Region.ready, List.mem_filter, List.mem_range, Bool.and_eq_true] at hi
    obtain ⟨h1, h2, h3⟩ := hi
    have h1' : i < ops.length := by simpa using h1
    refine ⟨h1', ?_, ?_⟩
    · intro e
      simp [Array.getD_eq_getD_getElem?, e] at h2
    · intro k hk
      rw [List.getElem?_toArray, List.getElem?_eq_getElem h1'] at h3
      simp only [Option.map_some, Option.getD_some] at h3
      simp only [afters, List.getElem?_eq_getElem h1'] at hk
      simp only [List.mem_map, List.mem_filter] at hk
      obtain ⟨e, ⟨he, hb⟩, rfl⟩ := hk
      have := (Array.all_eq_true_iff_forall_mem.1 h3) e (by simpa using he)
      simp only [bindsAny] at hb
      simp only [hb, Bool.not_true, Bool.false_or] at this
      simp only [Array.getD_eq_getD_getElem?] at this
      cases hq : listed[e.on]? with
      | none => simp [hq] at this
      | some b => simp [hq] at this; subst this; rfl
  have allReady : ∀ (listed : Array Bool), listed.size = ops.length → Closed ops (fun i => listed[i]? = some true) → (∀ m, m < ops.length → listed[m]? ≠ some true → ∃ i, i ∈ Region.ready .any ops.toArray listed) := by
    intro listed hsz hcl m
    induction m using Nat.strongRecOn with
    | _ m ih =>
      intro hm hne
      by_cases hall : ∀ k ∈ afters ops m, listed[k]? = some true
      · refine ⟨m, ?_⟩
        simp only [Region.ready, List.mem_filter, List.mem_range, Bool.and_eq_true]
        refine ⟨by simpa using hm, ?_, ?_⟩
        · have hlt : m < listed.size := by omega
          rw [Array.getD_eq_getD_getElem?, Array.getElem?_eq_getElem hlt]
          rw [Array.getElem?_eq_getElem hlt] at hne
          cases hv : listed[m] with
          | true => rw [hv] at hne; exact absurd rfl hne
          | false => rfl
        · rw [List.getElem?_toArray, List.getElem?_eq_getElem hm]
          simp only [Option.map_some, Option.getD_some]
          rw [Array.all_eq_true_iff_forall_mem]
          intro e he
          cases hb : Region.binds .any e with
          | false => rfl
          | true =>
            have := hall e.on (by
              simp only [afters, List.getElem?_eq_getElem hm, List.mem_map, List.mem_filter]
              exact ⟨e, ⟨by simpa using he, hb⟩, rfl⟩)
            simp [Array.getD_eq_getD_getElem?, this]
      · have hex : ∃ k, k ∈ afters ops m ∧ ¬ listed[k]? = some true := Classical.byContradiction fun hno => hall fun k hk => Classical.byContradiction fun hk' => hno ⟨k, hk, hk'⟩
        obtain ⟨k, hk, hk'⟩ := hex
        have hlt := C.back m _ (List.getElem?_eq_getElem hm) k hk
        exact ih k hlt (by omega) hk'
  have key : ∀ (fuel : Nat) (listed : Array Bool) (a : Act) (w : World) (done : List Nat) (t₀ : Tr) (pend : Pend) (H : List Asn) (F S : List Nat) (val : Nat → Value), ((List.range ops.length).filter (fun i => listed[i]? ≠ some true)).length ≤ fuel →
      TInv P n ops Q o ρ₀ listed a w done t₀ pend H F S val → wpAnyIn (fen n.ro) 0 P .any ops.toArray Q fuel listed a w := by
    intro fuel
    have finish : ∀ (listed : Array Bool) (a : Act) (w : World) (done : List Nat) (t₀ : Tr) (pend : Pend) (H : List Asn) (F S : List Nat) (val : Nat → Value), TInv P n ops Q o ρ₀ listed a w done t₀ pend H F S val → (∀ i, i < ops.length → listed[i]? = some true) → Q .normal a w := by
      intro listed a w done t₀ pend H F S val I hall
      obtain ⟨done, t₀, pend, val, I, hr⟩ := I.adv
      rcases hr with rfl | ⟨c, u, r, rfl⟩
      · refine I.sw w F S I.st I.fr a ⟨I.tsz, I.tdf, fun t v hv => ?_⟩
        rcases look_envOf hv with ⟨j, op, h1, h2, h3, rfl⟩ | ⟨h1, h2⟩
        · exact I.d1 j op t (hall j (List.getElem?_eq_some_iff.1 h2).1) h2 h3
        · exact I.d2 t v h1 (fun j op hj hop => h2 j op (I.ldone j hj) hop)
      · exfalso
        obtain ⟨h1, h2, _⟩ := chkT_choice I.ordT c (by simp [Tr.choices])
        exact h2 (I.ldone c (hall c h1))
    induction fuel with
    | zero =>
      intro listed a w done t₀ pend H F S val hcnt I
      have hall : ∀ i, i < ops.length → listed[i]? = some true := by
        intro i hi
        refine Classical.byContradiction fun hne => ?_
        have hmem : i ∈ (List.range ops.length).filter (fun i => listed[i]? ≠ some true) := by
          rw [List.mem_filter]; exact ⟨List.mem_range.2 hi, by simpa using hne⟩
        have : (List.range ops.length).filter (fun i => listed[i]? ≠ some true) = [] := List.eq_nil_of_length_eq_zero (by omega)
        rw [this] at hmem; cases hmem
      refine ⟨?_, finish listed a w done t₀ pend H F S val I hall⟩
      apply List.eq_nil_iff_forall_not_mem.2
      intro i hi
      have := hready listed i hi
      exact this.2.1 (hall i this.1)
    | succ fuel ih =>
      intro listed a w done t₀ pend H F S val hcnt I
      refine ⟨fun hnil => ?_, fun i hi => ?_⟩
      · refine finish listed a w done t₀ pend H F S val I (fun i hi => Classical.byContradiction fun hne => ?_)
        obtain ⟨x, hx⟩ := allReady listed I.lsz I.closed i hi hne
        rw [hnil] at hx; cases hx
      · obtain ⟨hlt, hnl, haft⟩ := hready listed i hi
        obtain ⟨done, t₀, pend, val, I, hr⟩ := I.adv
        have hoi : ops[i]? = some ops[i] := List.getElem?_eq_getElem hlt
        have hlz : i < listed.size := by rw [I.lsz]; exact hlt
        have hless : ((List.range ops.length).filter (fun j => (listed.setIfInBounds i true)[j]? ≠ some true)).length ≤ fuel := by
          have gen : ∀ (l : List Nat), l.Nodup → ((i ∈ l → (l.filter (fun j => (listed.setIfInBounds i true)[j]? ≠ some true)).length + 1 ≤ (l.filter (fun j => listed[j]? ≠ some true)).length) ∧ (l.filter (fun j => (listed.setIfInBounds i true)[j]? ≠ some true)).length ≤ (l.filter (fun j => listed[j]? ≠ some true)).length) := by
            intro l
            induction l with
            | nil => exact fun _ => ⟨fun h => (by cases h), Nat.le_refl _⟩
            | cons x r ihl =>
              intro hnd
              have hnd' := List.nodup_cons.1 hnd
              obtain ⟨k1, k2⟩ := ihl hnd'.2
              by_cases hxi : x = i
              · subst hxi
                have e1 : (decide ((listed.setIfInBounds x true)[x]? ≠ some true)) = false := by simp [listed_set hlz]
                have e2 : (decide (listed[x]? ≠ some true)) = true := by simpa using hnl
                simp only [List.filter_cons, e1, e2, if_true, List.length_cons]
                simp only [Bool.false_eq_true, if_false]
                exact ⟨fun _ => Nat.succ_le_succ k2, Nat.le_succ_of_le k2⟩
              · have e1 : (decide ((listed.setIfInBounds i true)[x]? ≠ some true)) = (decide (listed[x]? ≠ some true)) := by
                  rw [decide_eq_decide]; simp [listed_set hlz, hxi]
                simp only [List.filter_cons, e1]
                split
                · simp only [List.length_cons]
                  exact ⟨fun h => Nat.succ_le_succ (k1 ((List.mem_cons.1 h).resolve_left (fun e => hxi e.symm))), Nat.succ_le_succ k2⟩
                · exact ⟨fun h => k1 ((List.mem_cons.1 h).resolve_left (fun e => hxi e.symm)), k2⟩
          have := (gen _ List.nodup_range).1 (List.mem_range.2 hlt)
          omega
        by_cases hid : i ∈ done
        · obtain ⟨p1, p2, p3, p4⟩ := I.pok i _ hid hnl hoi
          have hfl : Fl P n ops (envB ops val ρ₀ i done) w ops[i] (val i) := p4.elim (fun h => h w) (fun ⟨g, _, h1, h2⟩ => h2 H w F S h1 I.st I.fr)
          obtain ⟨d', hd1, hd2, hd3, hd4, hd5⟩ := envB_of (val := val) (ρ₀ := ρ₀) I.ok hid
          rw [hd1] at hfl
          have hsl := I.slots C hoi hnl haft hd4 hd2 hd3
          have hltE := lt_env (ops := ops) (n := n) (val := val) I.lt0 (fun j op t hj => I.ltd j op t (hd5 j hj))
          obtain ⟨a₀, hfr, hag⟩ := frame_for I.tsz hltE ops[i] hsl
          have hwp : wpo P n ops Q ops[i] (fun a' w' => a' = a.put ops[i].dst (val i) ∧ w' = w) a w := by
            unfold wpo
            rcases hfl with ⟨hg, hrun⟩ | ⟨hg, hv⟩
            · rw [wanted_for hg hfr hag]
              simp only [if_true]
              refine wpIn_run (nodef p1) ((congrArg (fun s => s.run P w) (eval_virtual hag (nosel p1))).trans (hrun a₀ hfr)) ?_
              exact ⟨rfl, rfl⟩
            · rw [wanted_for hg hfr hag]
              simp only [Bool.false_eq_true, if_false]
              rw [hv]; exact ⟨rfl, trivial⟩
          refine wpo_wpOp hoi hwp ?_
          rintro a' w' ⟨rfl, rfl⟩
          exact ih _ _ _ done t₀ pend H F S val hless (I.float C hoi hid hnl haft)
        · have hch : i ∈ t₀.choices := by
            rcases hr with rfl | ⟨c, u, r, rfl⟩
            · have := I.ordT
              simp only [chkT] at this
              exact absurd (any_beq.1 (List.all_eq_true.1 this i (List.mem_range.2 hlt))) hid
            · have := List.all_eq_true.1 I.ordC i (List.mem_range.2 hlt)
              simp only [Bool.or_eq_true] at this
              rcases this with (h | h) | h
              · exact absurd (any_beq.1 h) hid
              · exact any_beq.1 h
              · exfalso
                obtain ⟨c', hc', hrc⟩ := List.any_eq_true.1 h
                obtain ⟨_, h2, _⟩ := chkT_choice I.ordT c' hc'
                exact h2 (I.ldone c' (masks_spec _ _ _ hrc (fun x => listed[x]? = some true) I.closed haft))
          obtain ⟨u, ⟨hia, hC, hT⟩, hsw⟩ := TW.pick I.sw I.ordT hch
          obtain ⟨op, ho, q1, q2, Ψ, hΨ, hk⟩ := hsw ⟨w, F, S, I.st, I.fr⟩
          rw [hoi] at ho; cases ho
          have hsl := I.slots C hoi hnl haft I.ok hia hid
          have hltE := lt_env (ops := ops) (n := n) (val := val) I.lt0 (fun j op t hj => I.ltd j op t hj)
          obtain ⟨a₀, hfr, hag⟩ := frame_for I.tsz hltE ops[i] hsl
          have hwp : wpo P n ops Q ops[i] (fun a' w' => ∃ v, a' = a.put ops[i].dst v ∧ PostS o Ψ v w') a w := by
            unfold wpo
            rcases hΨ with ⟨hg, hrun⟩ | ⟨hg, hv⟩
            · rw [wanted_for hg hfr hag]
              simp only [if_true]
              exact (hrun w F S I.st I.fr).wp (nodef q1) hfr (eval_virtual hag (nosel q1))
            · rw [wanted_for hg hfr hag]
              simp only [Bool.false_eq_true, if_false]
              exact ⟨undef, rfl, H, F, S, by rw [hv]; exact ⟨rfl, rfl⟩, I.st, I.fr⟩
          refine wpo_wpOp hoi hwp ?_
          rintro a' w' ⟨v, rfl, H', F', S', hv, s', f'⟩
          obtain ⟨k1, k2⟩ := hk v H' hv
          exact ih _ _ _ (i :: done) u pend H' F' S' _ hless (I.chain C hoi hnl haft hid hia q2 hC hT k1 k2 s' f')
  refine key _ _ a w [] t₀ [] H F S (fun _ => undef) (Nat.le_trans (List.length_filter_le _ _) (by simp)) ⟨by simp, ha.size, ha.defers, ?_, trivial, hc2, hc3, h, s, fr, ?_, by simp, ?_, fun t v hv _ => ha.vals t v hv, hn, by simp⟩
  · intro x hx
    simp [Array.getElem?_replicate] at hx
  · intro i hi
    simp [Array.getElem?_replicate] at hi
  · intro j o d hj
    simp [Array.getElem?_replicate] at hj

/-! ### the rules -/
section
variable {t : Tr} {pend : Pend} {ρ : Env} {H : List Asn} {i d : Nat} {op : Op} {ty : TypeId} {pos : String} {af : Array Edge} {gd : Option (Nat × Bool)}
theorem TW.pure {v : Value} (ho : ops[i]? = some ⟨some d, op, ty, pos, af, gd⟩) (hg : wants ops ρ gd = some true) (hd : Nat.blt d n = true) (hs : isSelect op = false) (hrun : ∀ w, Runs P n ρ w ⟨some d, op, ty, pos, af, gd⟩ v w) (h : TW P n ops Q o t pend ((d, v) :: ρ) H) :
    TW P n ops Q o (.flo i t) pend ρ H :=
  fun _ => ⟨_, ho, hs, fun d' e => by cases e; simpa [Nat.blt_eq] using hd, v, by simp, .inl ⟨fun w => .inl ⟨hg, hrun w⟩, h⟩⟩
theorem TW.pass {hd : Nat.blt d n = true} (ho : ops[i]? = some ⟨some d, op, ty, pos, af, gd⟩) (hg : wants ops ρ gd = some false) (hs : isSelect op = false) (h : TW P n ops Q o t pend ((d, undef) :: ρ) H) :
    TW P n ops Q o (.flo i t) pend ρ H :=
  fun _ => ⟨_, ho, hs, fun d' e => by cases e; simpa [Nat.blt_eq] using hd, undef, by simp, .inl ⟨fun w => .inr ⟨hg, rfl⟩, h⟩⟩
theorem TW.read {v : Value} (ho : ops[i]? = some ⟨some d, op, ty, pos, af, gd⟩) (hg : wants ops ρ gd = some true) (hd : Nat.blt d n = true) (hs : isSelect op = false) (hrun : Rd1 P n o ρ ⟨some d, op, ty, pos, af, gd⟩ v H) (h : TW P n ops Q o t ((i, Rd1 P n o ρ ⟨some d, op, ty, pos, af, gd⟩ v) :: pend) ((d, v) :: ρ) H) :
    TW P n ops Q o (.flo i t) pend ρ H :=
  fun _ => ⟨_, ho, hs, fun d' e => by cases e; simpa [Nat.blt_eq] using hd, v, by simp, .inr ⟨_, hrun, fun H w F S h s f => .inl ⟨hg, h w F S s⟩, h⟩⟩
theorem TW.step {Ψ : Value → List Asn → Prop} (ho : ops[i]? = some ⟨some d, op, ty, pos, af, gd⟩) (hg : wants ops ρ gd = some true) (hd : Nat.blt d n = true) (hs : isSelect op = false) (h : CS P n o ρ H ⟨some d, op, ty, pos, af, gd⟩ Ψ)
    (k : ∀ v H', Ψ v H' → Obl ops i pend H' ∧ TW P n ops Q o t pend ((d, v) :: ρ) H') : TW P n ops Q o (.alt i t .stop) pend ρ H :=
  ⟨fun _ => ⟨_, ho, hs, fun d' e => by cases e; simpa [Nat.blt_eq] using hd, Ψ, .inl ⟨hg, h⟩, k⟩, trivial⟩
theorem TW.step0 {Ψ : Value → List Asn → Prop} (ho : ops[i]? = some ⟨none, op, ty, pos, af, gd⟩) (hg : wants ops ρ gd = some true) (hs : isSelect op = false) (h : CS P n o ρ H ⟨none, op, ty, pos, af, gd⟩ Ψ)
    (k : ∀ v H', Ψ v H' → Obl ops i pend H' ∧ TW P n ops Q o t pend ρ H') : TW P n ops Q o (.alt i t .stop) pend ρ H :=
  ⟨fun _ => ⟨_, ho, hs, fun d' e => (by cases e), Ψ, .inl ⟨hg, h⟩, k⟩, trivial⟩
theorem TW.passS (ho : ops[i]? = some ⟨some d, op, ty, pos, af, gd⟩) (hg : wants ops ρ gd = some false) (hd : Nat.blt d n = true) (hs : isSelect op = false) (k : Obl ops i pend H ∧ TW P n ops Q o t pend ((d, undef) :: ρ) H) :
    TW P n ops Q o (.alt i t .stop) pend ρ H :=
  ⟨fun _ => ⟨_, ho, hs, fun d' e => by cases e; simpa [Nat.blt_eq] using hd, _, .inr ⟨hg, rfl⟩, by rintro v H' ⟨rfl, rfl⟩; exact k⟩, trivial⟩
theorem TW.fact {φ : Prop} (hφ : ∀ w F S, St H F S w → φ) (h : φ → TW P n ops Q o t pend ρ H) : TW P n ops Q o t pend ρ H := by
  induction t with
  | nil => exact fun w F S s f => h (hφ w F S s) w F S s f
  | flo i t _ => exact fun ⟨w, F, S, s, f⟩ => h (hφ w F S s) ⟨w, F, S, s, f⟩
  | alt i t r _ ih => exact ⟨fun ⟨w, F, S, s, f⟩ => (h (hφ w F S s)).1 ⟨w, F, S, s, f⟩, ih (fun q => (h q).2)⟩
  | stop => trivial
theorem TW.congr : ∀ {t : Tr} {pend : Pend} {ρ ρ' : Env} {H : List Asn}, (∀ t, look ρ t = look ρ' t) → TW P n ops Q o t pend ρ H → TW P n ops Q o t pend ρ' H
  | .nil, _, _, _, _, hl, h => fun w F S s f a ha => h w F S s f a (ha.congr hl)
  | .stop, _, _, _, _, hl, h => trivial
  | .flo i t, pend, ρ, ρ', H, hl, h => fun he => by
    obtain ⟨op, ho, q1, q2, v, hn, q⟩ := h he
    refine ⟨op, ho, q1, q2, v, hn, ?_⟩
    rcases q with ⟨h1, h2⟩ | ⟨g, h1, h2, h3⟩
    · exact .inl ⟨fun w => (h1 w).congr hl, TW.congr (extE_congr hl _ _) h2⟩
    · exact .inr ⟨g, h1, fun H w F S a b c => (h2 H w F S a b c).congr hl, TW.congr (extE_congr hl _ _) h3⟩
  | .alt i t r, pend, ρ, ρ', H, hl, h => ⟨fun he => by
    obtain ⟨op, ho, q1, q2, Ψ, hΨ, hk⟩ := h.1 he
    refine ⟨op, ho, q1, q2, Ψ, ?_, fun v H' hv => ⟨(hk v H' hv).1, TW.congr (extE_congr hl _ _) (hk v H' hv).2⟩⟩
    rw [← wants_congr hl]
    exact hΨ.imp (fun ⟨a, b⟩ => ⟨a, fun w F S s f => (b w F S s f).congr hl⟩) id, TW.congr hl h.2⟩
/-- One of the orders, and the others. -/
theorem TW.or {t r : Tr} (h : TW P n ops Q o (.alt i t .stop) pend ρ H) (k : TW P n ops Q o r pend ρ H) : TW P n ops Q o (.alt i t r) pend ρ H := ⟨h.1, k⟩
theorem TW.be {v v' : Value} (d : Nat) (hv : look ρ d = some v) (e : v = v') (h : TW P n ops Q o t pend ((d, v') :: ρ) H) : TW P n ops Q o t pend ρ H := by
  subst e
  refine h.congr (fun t => ?_)
  rw [look_cons]
  split
  · rename_i e; subst e; exact hv.symm
  · rfl
theorem TW.caseB {b : Bool} (d : Nat) (hv : look ρ d = some (.bool b)) (ht : b = true → TW P n ops Q o t pend ((d, .bool true) :: ρ) H) (hf : b = false → TW P n ops Q o t pend ((d, .bool false) :: ρ) H) : TW P n ops Q o t pend ρ H := by
  cases b
  · exact TW.be d hv rfl (hf rfl)
  · exact TW.be d hv rfl (ht rfl)
theorem TW.caseP {p : Prop} {dp : Decidable p} (d : Nat) (hv : look ρ d = some (.bool (@decide p dp))) (ht : p → TW P n ops Q o t pend ((d, .bool true) :: ρ) H) (hf : ¬ p → TW P n ops Q o t pend ((d, .bool false) :: ρ) H) : TW P n ops Q o t pend ρ H :=
  TW.caseB d hv (fun h => ht (of_decide_eq_true h)) (fun h => hf (of_decide_eq_false h))
theorem TW.isT {b : Bool} (d : Nat) (hv : look ρ d = some (.bool b)) (e : b = true) (h : TW P n ops Q o t pend ((d, .bool true) :: ρ) H) : TW P n ops Q o t pend ρ H := TW.be d hv (congrArg Value.bool e) h
theorem TW.isF {b : Bool} (d : Nat) (hv : look ρ d = some (.bool b)) (e : b = false) (h : TW P n ops Q o t pend ((d, .bool false) :: ρ) H) : TW P n ops Q o t pend ρ H := TW.be d hv (congrArg Value.bool e) h
theorem TW.nil {B : Exit → Act → World → Prop} {ks : List K} (h : SN P B n o ks ρ H) : TW P n ops (sem P n.ro B ks) o .nil pend ρ H := fun w F S s f a ha => h w F S s f a ha
end
end
section
variable {P : Program} {n : Fm} {ops : List Oper} {Q : Exit → Act → World → Prop} {o : Org} {t : Tr} {pend : Pend} {ρ : Env} {H : List Asn}
theorem TW.n0 (h : TW P n ops Q o t pend ρ (H)) : TW P n ops Q o t pend ρ ([] ++ H) := h
theorem TW.n1 {A1 : Asn} (h : TW P n ops Q o t pend ρ (A1 :: H)) : TW P n ops Q o t pend ρ ([A1] ++ H) := h
theorem TW.n2 {A1 A2 : Asn} (h : TW P n ops Q o t pend ρ (A1 :: A2 :: H)) : TW P n ops Q o t pend ρ ([A1, A2] ++ H) := h
theorem TW.n3 {A1 A2 A3 : Asn} (h : TW P n ops Q o t pend ρ (A1 :: A2 :: A3 :: H)) : TW P n ops Q o t pend ρ ([A1, A2, A3] ++ H) := h
theorem TW.n4 {A1 A2 A3 A4 : Asn} (h : TW P n ops Q o t pend ρ (A1 :: A2 :: A3 :: A4 :: H)) : TW P n ops Q o t pend ρ ([A1, A2, A3, A4] ++ H) := h
theorem TW.n5 {A1 A2 A3 A4 A5 : Asn} (h : TW P n ops Q o t pend ρ (A1 :: A2 :: A3 :: A4 :: A5 :: H)) : TW P n ops Q o t pend ρ ([A1, A2, A3, A4, A5] ++ H) := h
end
end Brv
/-
  Many assertions as one.
-/
set_option linter.unusedVariables false
set_option linter.unusedSimpArgs false
namespace Brv
open Go
def sp (l : List Asn) : Asn := ⟨fun F S w => Sep l F S w, fun _ _ _ _ _ h he hF hS => h.ext he hF hS⟩
/-- A contract, its premises turned. -/
theorem SpecS.ofImp {P : Program} {f : FuncId} {vs : List Value} {H H' : List Asn} {Φ : Value → List Asn → Prop} (i : Imp H H') (h : SpecS P f vs H' Φ) : SpecS P f vs H Φ := fun w F S s =>
  let ⟨F', S', s', f'⟩ := i.at s (From.refl w F S)
  (h w F' S' s').mono fun v w' ⟨H1, F1, S1, h1, s1, f1⟩ => ⟨H1, F1, S1, h1, s1, f'.trans f1⟩
section
variable {H H1 H2 l l' : List Asn} {A : Asn}
theorem Sep.mem {F S : List Nat} {w : World} (h : Sep l F S w) (hA : A ∈ l) : ∃ F' S', A.P F' S' w := by
  induction l generalizing F S with
  | nil => cases hA
  | cons B l ih =>
    obtain ⟨F1, S1, F2, S2, _, _, hB, hl⟩ := h
    rcases List.mem_cons.1 hA with rfl | hA
    · exact ⟨F1, S1, hB⟩
    · exact ih hl hA
end
/-- A function's value as a consumer. -/
theorem YSpec.ofFn {P : Program} {f : FuncId} {cap vs vs' : List Value} {H : List Asn} {Ψ : Bool → List Asn → Prop} (hc : ∀ (vs : Array Value) w, (callFunc f vs).run P w = .ok (.enter f vs) w) (hvs : vs ++ cap = vs') (h : SpecS P f vs' H (fun v H' => ∃ b, v = .bool b ∧ Ψ b H')) :
    YSpec P (.func (.func f) #[] cap.toArray) vs H Ψ := fun w F S s =>
  .inr ⟨f, #[], cap.toArray, rfl, hc, by
    subst hvs
    have := h w F S s
    simp only [List.nil_append]
    exact this.mono fun v w' ⟨H', F', S', ⟨b, hv, hΨ⟩, s', f'⟩ => ⟨b, hv, H', F', S', hΨ, s', f'⟩⟩
section
variable {P : Program} {n : Fm} {ρ : Env} {w : World} {d : Nat} {ty : TypeId} {pos : String} {af : Array Edge} {gd : Option (Nat × Bool)}
end
section
variable {P : Program} {B : Exit → Act → World → Prop} {n : Fm} {o : Org} {ops : List Oper} {ks : List K} {ρ : Env} {H : List Asn} {l : List Oper} {Q : Exit → Act → World → Prop} {σ : List Nat} {π : List (Nat × Oper)} {pend : Pend} {c : Code} {t : Tr}
theorem SL.n6 {A1 A2 A3 A4 A5 A6 : Asn} (h : SL P B n o ops ks ρ (A1 :: A2 :: A3 :: A4 :: A5 :: A6 :: H) l) : SL P B n o ops ks ρ ([A1, A2, A3, A4, A5, A6] ++ H) l := h
theorem SW.n6 {A1 A2 A3 A4 A5 A6 : Asn} (h : SW P n ops Q o σ π pend ρ (A1 :: A2 :: A3 :: A4 :: A5 :: A6 :: H)) : SW P n ops Q o σ π pend ρ ([A1, A2, A3, A4, A5, A6] ++ H) := h
theorem SN.n6 {A1 A2 A3 A4 A5 A6 : Asn} (h : SN P B n o ks ρ (A1 :: A2 :: A3 :: A4 :: A5 :: A6 :: H)) : SN P B n o ks ρ ([A1, A2, A3, A4, A5, A6] ++ H) := h
theorem SG.n6 {A1 A2 A3 A4 A5 A6 : Asn} (h : SG P B n o ks ρ (A1 :: A2 :: A3 :: A4 :: A5 :: A6 :: H) c) : SG P B n o ks ρ ([A1, A2, A3, A4, A5, A6] ++ H) c := h
theorem TW.n6 {A1 A2 A3 A4 A5 A6 : Asn} (h : TW P n ops Q o t pend ρ (A1 :: A2 :: A3 :: A4 :: A5 :: A6 :: H)) : TW P n ops Q o t pend ρ ([A1, A2, A3, A4, A5, A6] ++ H) := h
theorem SL.n7 {A1 A2 A3 A4 A5 A6 A7 : Asn} (h : SL P B n o ops ks ρ (A1 :: A2 :: A3 :: A4 :: A5 :: A6 :: A7 :: H) l) : SL P B n o ops ks ρ ([A1, A2, A3, A4, A5, A6, A7] ++ H) l := h
theorem SW.n7 {A1 A2 A3 A4 A5 A6 A7 : Asn} (h : SW P n ops Q o σ π pend ρ (A1 :: A2 :: A3 :: A4 :: A5 :: A6 :: A7 :: H)) : SW P n ops Q o σ π pend ρ ([A1, A2, A3, A4, A5, A6, A7] ++ H) := h
theorem SN.n7 {A1 A2 A3 A4 A5 A6 A7 : Asn} (h : SN P B n o ks ρ (A1 :: A2 :: A3 :: A4 :: A5 :: A6 :: A7 :: H)) : SN P B n o ks ρ ([A1, A2, A3, A4, A5, A6, A7] ++ H) := h
theorem SG.n7 {A1 A2 A3 A4 A5 A6 A7 : Asn} (h : SG P B n o ks ρ (A1 :: A2 :: A3 :: A4 :: A5 :: A6 :: A7 :: H) c) : SG P B n o ks ρ ([A1, A2, A3, A4, A5, A6, A7] ++ H) c := h
theorem TW.n7 {A1 A2 A3 A4 A5 A6 A7 : Asn} (h : TW P n ops Q o t pend ρ (A1 :: A2 :: A3 :: A4 :: A5 :: A6 :: A7 :: H)) : TW P n ops Q o t pend ρ ([A1, A2, A3, A4, A5, A6, A7] ++ H) := h
theorem SL.n8 {A1 A2 A3 A4 A5 A6 A7 A8 : Asn} (h : SL P B n o ops ks ρ (A1 :: A2 :: A3 :: A4 :: A5 :: A6 :: A7 :: A8 :: H) l) : SL P B n o ops ks ρ ([A1, A2, A3, A4, A5, A6, A7, A8] ++ H) l := h
theorem SW.n8 {A1 A2 A3 A4 A5 A6 A7 A8 : Asn} (h : SW P n ops Q o σ π pend ρ (A1 :: A2 :: A3 :: A4 :: A5 :: A6 :: A7 :: A8 :: H)) : SW P n ops Q o σ π pend ρ ([A1, A2, A3, A4, A5, A6, A7, A8] ++ H) := h
theorem SN.n8 {A1 A2 A3 A4 A5 A6 A7 A8 : Asn} (h : SN P B n o ks ρ (A1 :: A2 :: A3 :: A4 :: A5 :: A6 :: A7 :: A8 :: H)) : SN P B n o ks ρ ([A1, A2, A3, A4, A5, A6, A7, A8] ++ H) := h
theorem SG.n8 {A1 A2 A3 A4 A5 A6 A7 A8 : Asn} (h : SG P B n o ks ρ (A1 :: A2 :: A3 :: A4 :: A5 :: A6 :: A7 :: A8 :: H) c) : SG P B n o ks ρ ([A1, A2, A3, A4, A5, A6, A7, A8] ++ H) c := h
theorem TW.n8 {A1 A2 A3 A4 A5 A6 A7 A8 : Asn} (h : TW P n ops Q o t pend ρ (A1 :: A2 :: A3 :: A4 :: A5 :: A6 :: A7 :: A8 :: H)) : TW P n ops Q o t pend ρ ([A1, A2, A3, A4, A5, A6, A7, A8] ++ H) := h
end
end Brv
/-
  What this seat's types are, as instances.
-/
namespace Go.Proofs.YtlhkpakbenghgaaGreat
open Go Brv
instance : TyOne Tryz.prog 1 := ⟨by kernel_rfl, by kernel_rfl⟩
instance : TyInt Tryz.prog 2 .i64 := ⟨Tryz.underlying2⟩
instance : TyOne Tryz.prog 2 := ⟨by kernel_rfl, by kernel_rfl⟩
instance : TyZero Tryz.prog 2 (.int .i64 0) := ⟨by kernel_rfl⟩
instance : TyInt Tryz.prog 3 .i64 := ⟨Tryz.underlying3⟩
instance : TyOne Tryz.prog 3 := ⟨by kernel_rfl, by kernel_rfl⟩
instance : TyZero Tryz.prog 3 (.int .i64 0) := ⟨by kernel_rfl⟩
instance : TyBool Tryz.prog 4 := ⟨Tryz.underlying4⟩
instance : TyOne Tryz.prog 4 := ⟨by kernel_rfl, by kernel_rfl⟩
instance : TyZero Tryz.prog 4 (.bool false) := ⟨by kernel_rfl⟩
instance : TyInt Tryz.prog 5 .u8 := ⟨Tryz.underlying5⟩
instance : TyOne Tryz.prog 5 := ⟨by kernel_rfl, by kernel_rfl⟩
instance : TyZero Tryz.prog 5 (.int .u8 0) := ⟨by kernel_rfl⟩
instance : TyAgg Tryz.prog 7 4 := ⟨by kernel_rfl, by kernel_rfl⟩
instance : TyField Tryz.prog 7 0 0 := ⟨_, _, Tryz.underlying7, rfl, rfl, by kernel_rfl⟩
instance : TyField Tryz.prog 7 1 1 := ⟨_, _, Tryz.underlying7, rfl, rfl, by kernel_rfl⟩
instance : TyField Tryz.prog 7 2 2 := ⟨_, _, Tryz.underlying7, rfl, rfl, by kernel_rfl⟩
instance : TyField Tryz.prog 7 3 3 := ⟨_, _, Tryz.underlying7, rfl, rfl, by kernel_rfl⟩
instance : TyBuilt Tryz.prog 7 (fun i => (#[(0, 1), (1, 1), (2, 1), (3, 1)] : Array (Nat × Nat))[i]?) (.agg #[.int .i64 0, .int .i64 0, .bool false, .int .u8 0]) := TyBuilt.struct (ps := [(0, 1), (1, 1), (2, 1), (3, 1)]) Tryz.underlying7 (by kernel_rfl) (by kernel_rfl)
instance : TyZero Tryz.prog 7 (.agg #[.int .i64 0, .int .i64 0, .bool false, .int .u8 0]) := ⟨by kernel_rfl⟩
instance : TyStr Tryz.prog 9 := ⟨Tryz.underlying9⟩
instance : TyOne Tryz.prog 9 := ⟨by kernel_rfl, by kernel_rfl⟩
instance : TyZero Tryz.prog 9 (.string ByteArray.empty) := ⟨by kernel_rfl⟩
instance : TyInt Tryz.prog 12 .u64 := ⟨Tryz.underlying12⟩
instance : TyOne Tryz.prog 12 := ⟨by kernel_rfl, by kernel_rfl⟩
instance : TyZero Tryz.prog 12 (.int .u64 0) := ⟨by kernel_rfl⟩
instance : TyAgg Tryz.prog 13 2 := ⟨by kernel_rfl, by kernel_rfl⟩
instance : TyField Tryz.prog 13 0 0 := ⟨_, _, Tryz.underlying13, rfl, rfl, by kernel_rfl⟩
instance : TyField Tryz.prog 13 1 1 := ⟨_, _, Tryz.underlying13, rfl, rfl, by kernel_rfl⟩
instance : TyBuilt Tryz.prog 13 (fun i => (#[(0, 1), (1, 1)] : Array (Nat × Nat))[i]?) (.agg #[.string ByteArray.empty, .int .u64 0]) := TyBuilt.struct (ps := [(0, 1), (1, 1)]) Tryz.underlying13 (by kernel_rfl) (by kernel_rfl)
instance : TyZero Tryz.prog 13 (.agg #[.string ByteArray.empty, .int .u64 0]) := ⟨by kernel_rfl⟩
instance : TyAgg Tryz.prog 18 1 := ⟨by kernel_rfl, by kernel_rfl⟩
instance : TyField Tryz.prog 18 0 0 := ⟨_, _, Tryz.underlying18, rfl, rfl, by kernel_rfl⟩
instance : TyBuilt Tryz.prog 18 (fun i => (#[(0, 1)] : Array (Nat × Nat))[i]?) (.agg #[.pointer none]) := TyBuilt.struct (ps := [(0, 1)]) Tryz.underlying18 (by kernel_rfl) (by kernel_rfl)
instance : TyZero Tryz.prog 18 (.agg #[.pointer none]) := ⟨by kernel_rfl⟩
instance : TyOne Tryz.prog 20 := ⟨by kernel_rfl, by kernel_rfl⟩
instance : TyInt Tryz.prog 21 .i32 := ⟨Tryz.underlying21⟩
instance : TyOne Tryz.prog 21 := ⟨by kernel_rfl, by kernel_rfl⟩
instance : TyZero Tryz.prog 21 (.int .i32 0) := ⟨by kernel_rfl⟩
instance : TyOne Tryz.prog 22 := ⟨by kernel_rfl, by kernel_rfl⟩
instance : TyZero Tryz.prog 22 (.slice none 0 0) := ⟨by kernel_rfl⟩
instance : TySlice Tryz.prog 22 33 9 88 (.agg #[.int .i64 0, .int .i64 0, .int .i64 0, .int .i64 0, .int .i64 0, .int .i64 0, .int .i64 0, .int .i64 0, .slice none 0 0]) := TySlice.of Tryz.underlying22 (by kernel_rfl) (by kernel_rfl) (by decide)
instance : TyOne Tryz.prog 23 := ⟨by kernel_rfl, by kernel_rfl⟩
instance : TyZero Tryz.prog 23 (.slice none 0 0) := ⟨by kernel_rfl⟩
instance : TySlice Tryz.prog 23 27 4 48 (.agg #[.int .i64 0, .int .i64 0, .int .i64 0, .slice none 0 0]) := TySlice.of Tryz.underlying23 (by kernel_rfl) (by kernel_rfl) (by decide)
instance : TyOne Tryz.prog 24 := ⟨by kernel_rfl, by kernel_rfl⟩
instance : TyOne Tryz.prog 25 := ⟨by kernel_rfl, by kernel_rfl⟩
instance : TyZero Tryz.prog 25 (.slice none 0 0) := ⟨by kernel_rfl⟩
instance : TySlice Tryz.prog 25 30 2 32 (.agg #[.int .i64 0, .slice none 0 0]) := TySlice.of Tryz.underlying25 (by kernel_rfl) (by kernel_rfl) (by decide)
instance : TyAgg Tryz.prog 26 4 := ⟨by kernel_rfl, by kernel_rfl⟩
instance : TyField Tryz.prog 26 0 0 := ⟨_, _, Tryz.underlying26, rfl, rfl, by kernel_rfl⟩
instance : TyField Tryz.prog 26 1 1 := ⟨_, _, Tryz.underlying26, rfl, rfl, by kernel_rfl⟩
instance : TyField Tryz.prog 26 2 2 := ⟨_, _, Tryz.underlying26, rfl, rfl, by kernel_rfl⟩
instance : TyField Tryz.prog 26 3 3 := ⟨_, _, Tryz.underlying26, rfl, rfl, by kernel_rfl⟩
instance : TyBuilt Tryz.prog 26 (fun i => (#[(0, 1), (1, 1), (2, 1), (3, 1)] : Array (Nat × Nat))[i]?) (.agg #[.int .i64 0, .int .i64 0, .int .i64 0, .slice none 0 0]) := TyBuilt.struct (ps := [(0, 1), (1, 1), (2, 1), (3, 1)]) Tryz.underlying26 (by kernel_rfl) (by kernel_rfl)
instance : TyZero Tryz.prog 26 (.agg #[.int .i64 0, .int .i64 0, .int .i64 0, .slice none 0 0]) := ⟨by kernel_rfl⟩
instance : TyAgg Tryz.prog 27 4 := ⟨by kernel_rfl, by kernel_rfl⟩
instance : TyField Tryz.prog 27 0 0 := ⟨_, _, Tryz.underlying27, rfl, rfl, by kernel_rfl⟩
instance : TyField Tryz.prog 27 1 1 := ⟨_, _, Tryz.underlying27, rfl, rfl, by kernel_rfl⟩
instance : TyField Tryz.prog 27 2 2 := ⟨_, _, Tryz.underlying27, rfl, rfl, by kernel_rfl⟩
instance : TyField Tryz.prog 27 3 3 := ⟨_, _, Tryz.underlying27, rfl, rfl, by kernel_rfl⟩
instance : TyBuilt Tryz.prog 27 (fun i => (#[(0, 1), (1, 1), (2, 1), (3, 1)] : Array (Nat × Nat))[i]?) (.agg #[.int .i64 0, .int .i64 0, .int .i64 0, .slice none 0 0]) := TyBuilt.struct (ps := [(0, 1), (1, 1), (2, 1), (3, 1)]) Tryz.underlying27 (by kernel_rfl) (by kernel_rfl)
instance : TyZero Tryz.prog 27 (.agg #[.int .i64 0, .int .i64 0, .int .i64 0, .slice none 0 0]) := ⟨by kernel_rfl⟩
instance : TyOne Tryz.prog 28 := ⟨by kernel_rfl, by kernel_rfl⟩
instance : TyZero Tryz.prog 28 (.slice none 0 0) := ⟨by kernel_rfl⟩
instance : TySlice Tryz.prog 28 5 1 1 (.int .u8 0) := TySlice.of Tryz.underlying28 (by kernel_rfl) (by kernel_rfl) (by decide)
instance : TyBytes Tryz.prog 28 5 := ⟨Tryz.underlying28, Tryz.underlying5⟩
instance : TyAgg Tryz.prog 29 2 := ⟨by kernel_rfl, by kernel_rfl⟩
instance : TyField Tryz.prog 29 0 0 := ⟨_, _, Tryz.underlying29, rfl, rfl, by kernel_rfl⟩
instance : TyField Tryz.prog 29 1 1 := ⟨_, _, Tryz.underlying29, rfl, rfl, by kernel_rfl⟩
instance : TyBuilt Tryz.prog 29 (fun i => (#[(0, 1), (1, 1)] : Array (Nat × Nat))[i]?) (.agg #[.int .i64 0, .slice none 0 0]) := TyBuilt.struct (ps := [(0, 1), (1, 1)]) Tryz.underlying29 (by kernel_rfl) (by kernel_rfl)
instance : TyZero Tryz.prog 29 (.agg #[.int .i64 0, .slice none 0 0]) := ⟨by kernel_rfl⟩
instance : TyAgg Tryz.prog 30 2 := ⟨by kernel_rfl, by kernel_rfl⟩
instance : TyField Tryz.prog 30 0 0 := ⟨_, _, Tryz.underlying30, rfl, rfl, by kernel_rfl⟩
instance : TyField Tryz.prog 30 1 1 := ⟨_, _, Tryz.underlying30, rfl, rfl, by kernel_rfl⟩
instance : TyBuilt Tryz.prog 30 (fun i => (#[(0, 1), (1, 1)] : Array (Nat × Nat))[i]?) (.agg #[.int .i64 0, .slice none 0 0]) := TyBuilt.struct (ps := [(0, 1), (1, 1)]) Tryz.underlying30 (by kernel_rfl) (by kernel_rfl)
instance : TyZero Tryz.prog 30 (.agg #[.int .i64 0, .slice none 0 0]) := ⟨by kernel_rfl⟩
instance : TyOne Tryz.prog 31 := ⟨by kernel_rfl, by kernel_rfl⟩
instance : TyZero Tryz.prog 31 (.slice none 0 0) := ⟨by kernel_rfl⟩
instance : TySlice Tryz.prog 31 35 2 16 (.agg #[.int .i64 0, .int .i64 0]) := TySlice.of Tryz.underlying31 (by kernel_rfl) (by kernel_rfl) (by decide)
instance : TyAgg Tryz.prog 32 9 := ⟨by kernel_rfl, by kernel_rfl⟩
instance : TyField Tryz.prog 32 0 0 := ⟨_, _, Tryz.underlying32, rfl, rfl, by kernel_rfl⟩
instance : TyField Tryz.prog 32 1 1 := ⟨_, _, Tryz.underlying32, rfl, rfl, by kernel_rfl⟩
instance : TyField Tryz.prog 32 2 2 := ⟨_, _, Tryz.underlying32, rfl, rfl, by kernel_rfl⟩
instance : TyField Tryz.prog 32 3 3 := ⟨_, _, Tryz.underlying32, rfl, rfl, by kernel_rfl⟩
instance : TyField Tryz.prog 32 4 4 := ⟨_, _, Tryz.underlying32, rfl, rfl, by kernel_rfl⟩
instance : TyField Tryz.prog 32 5 5 := ⟨_, _, Tryz.underlying32, rfl, rfl, by kernel_rfl⟩
instance : TyField Tryz.prog 32 6 6 := ⟨_, _, Tryz.underlying32, rfl, rfl, by kernel_rfl⟩
instance : TyField Tryz.prog 32 7 7 := ⟨_, _, Tryz.underlying32, rfl, rfl, by kernel_rfl⟩
instance : TyField Tryz.prog 32 8 8 := ⟨_, _, Tryz.underlying32, rfl, rfl, by kernel_rfl⟩
instance : TyBuilt Tryz.prog 32 (fun i => (#[(0, 1), (1, 1), (2, 1), (3, 1), (4, 1), (5, 1), (6, 1), (7, 1), (8, 1)] : Array (Nat × Nat))[i]?) (.agg #[.int .i64 0, .int .i64 0, .int .i64 0, .int .i64 0, .int .i64 0, .int .i64 0, .int .i64 0, .int .i64 0, .slice none 0 0]) := TyBuilt.struct (ps := [(0, 1), (1, 1), (2, 1), (3, 1), (4, 1), (5, 1), (6, 1), (7, 1), (8, 1)]) Tryz.underlying32 (by kernel_rfl) (by kernel_rfl)
instance : TyZero Tryz.prog 32 (.agg #[.int .i64 0, .int .i64 0, .int .i64 0, .int .i64 0, .int .i64 0, .int .i64 0, .int .i64 0, .int .i64 0, .slice none 0 0]) := ⟨by kernel_rfl⟩
instance : TyAgg Tryz.prog 33 9 := ⟨by kernel_rfl, by kernel_rfl⟩
instance : TyField Tryz.prog 33 0 0 := ⟨_, _, Tryz.underlying33, rfl, rfl, by kernel_rfl⟩
instance : TyField Tryz.prog 33 1 1 := ⟨_, _, Tryz.underlying33, rfl, rfl, by kernel_rfl⟩
instance : TyField Tryz.prog 33 2 2 := ⟨_, _, Tryz.underlying33, rfl, rfl, by kernel_rfl⟩
instance : TyField Tryz.prog 33 3 3 := ⟨_, _, Tryz.underlying33, rfl, rfl, by kernel_rfl⟩
instance : TyField Tryz.prog 33 4 4 := ⟨_, _, Tryz.underlying33, rfl, rfl, by kernel_rfl⟩
instance : TyField Tryz.prog 33 5 5 := ⟨_, _, Tryz.underlying33, rfl, rfl, by kernel_rfl⟩
instance : TyField Tryz.prog 33 6 6 := ⟨_, _, Tryz.underlying33, rfl, rfl, by kernel_rfl⟩
instance : TyField Tryz.prog 33 7 7 := ⟨_, _, Tryz.underlying33, rfl, rfl, by kernel_rfl⟩
instance : TyField Tryz.prog 33 8 8 := ⟨_, _, Tryz.underlying33, rfl, rfl, by kernel_rfl⟩
instance : TyBuilt Tryz.prog 33 (fun i => (#[(0, 1), (1, 1), (2, 1), (3, 1), (4, 1), (5, 1), (6, 1), (7, 1), (8, 1)] : Array (Nat × Nat))[i]?) (.agg #[.int .i64 0, .int .i64 0, .int .i64 0, .int .i64 0, .int .i64 0, .int .i64 0, .int .i64 0, .int .i64 0, .slice none 0 0]) := TyBuilt.struct (ps := [(0, 1), (1, 1), (2, 1), (3, 1), (4, 1), (5, 1), (6, 1), (7, 1), (8, 1)]) Tryz.underlying33 (by kernel_rfl) (by kernel_rfl)
instance : TyZero Tryz.prog 33 (.agg #[.int .i64 0, .int .i64 0, .int .i64 0, .int .i64 0, .int .i64 0, .int .i64 0, .int .i64 0, .int .i64 0, .slice none 0 0]) := ⟨by kernel_rfl⟩
instance : TyAgg Tryz.prog 34 2 := ⟨by kernel_rfl, by kernel_rfl⟩
instance : TyField Tryz.prog 34 0 0 := ⟨_, _, Tryz.underlying34, rfl, rfl, by kernel_rfl⟩
instance : TyField Tryz.prog 34 1 1 := ⟨_, _, Tryz.underlying34, rfl, rfl, by kernel_rfl⟩
instance : TyBuilt Tryz.prog 34 (fun i => (#[(0, 1), (1, 1)] : Array (Nat × Nat))[i]?) (.agg #[.int .i64 0, .int .i64 0]) := TyBuilt.struct (ps := [(0, 1), (1, 1)]) Tryz.underlying34 (by kernel_rfl) (by kernel_rfl)
instance : TyZero Tryz.prog 34 (.agg #[.int .i64 0, .int .i64 0]) := ⟨by kernel_rfl⟩
instance : TyAgg Tryz.prog 35 2 := ⟨by kernel_rfl, by kernel_rfl⟩
instance : TyField Tryz.prog 35 0 0 := ⟨_, _, Tryz.underlying35, rfl, rfl, by kernel_rfl⟩
instance : TyField Tryz.prog 35 1 1 := ⟨_, _, Tryz.underlying35, rfl, rfl, by kernel_rfl⟩
instance : TyBuilt Tryz.prog 35 (fun i => (#[(0, 1), (1, 1)] : Array (Nat × Nat))[i]?) (.agg #[.int .i64 0, .int .i64 0]) := TyBuilt.struct (ps := [(0, 1), (1, 1)]) Tryz.underlying35 (by kernel_rfl) (by kernel_rfl)
instance : TyZero Tryz.prog 35 (.agg #[.int .i64 0, .int .i64 0]) := ⟨by kernel_rfl⟩
instance : TyOne Tryz.prog 36 := ⟨by kernel_rfl, by kernel_rfl⟩
instance : TyZero Tryz.prog 36 (.slice none 0 0) := ⟨by kernel_rfl⟩
instance : TySlice Tryz.prog 36 43 4 32 (.agg #[.int .i64 0, .int .i64 0, .int .i64 0, .int .i64 0]) := TySlice.of Tryz.underlying36 (by kernel_rfl) (by kernel_rfl) (by decide)
instance : TyOne Tryz.prog 37 := ⟨by kernel_rfl, by kernel_rfl⟩
instance : TyOne Tryz.prog 38 := ⟨by kernel_rfl, by kernel_rfl⟩
instance : TyZero Tryz.prog 38 (.slice none 0 0) := ⟨by kernel_rfl⟩
instance : TySlice Tryz.prog 38 45 3 24 (.agg #[.int .i64 0, .int .i64 0, .int .i64 0]) := TySlice.of Tryz.underlying38 (by kernel_rfl) (by kernel_rfl) (by decide)
instance : TyOne Tryz.prog 39 := ⟨by kernel_rfl, by kernel_rfl⟩
instance : TyOne Tryz.prog 40 := ⟨by kernel_rfl, by kernel_rfl⟩
instance : TyZero Tryz.prog 40 (.slice none 0 0) := ⟨by kernel_rfl⟩
instance : TySlice Tryz.prog 40 3 1 8 (.int .i64 0) := TySlice.of Tryz.underlying40 (by kernel_rfl) (by kernel_rfl) (by decide)
instance : TyOne Tryz.prog 41 := ⟨by kernel_rfl, by kernel_rfl⟩
instance : TyAgg Tryz.prog 42 4 := ⟨by kernel_rfl, by kernel_rfl⟩
instance : TyField Tryz.prog 42 0 0 := ⟨_, _, Tryz.underlying42, rfl, rfl, by kernel_rfl⟩
instance : TyField Tryz.prog 42 1 1 := ⟨_, _, Tryz.underlying42, rfl, rfl, by kernel_rfl⟩
instance : TyField Tryz.prog 42 2 2 := ⟨_, _, Tryz.underlying42, rfl, rfl, by kernel_rfl⟩
instance : TyField Tryz.prog 42 3 3 := ⟨_, _, Tryz.underlying42, rfl, rfl, by kernel_rfl⟩
instance : TyBuilt Tryz.prog 42 (fun i => (#[(0, 1), (1, 1), (2, 1), (3, 1)] : Array (Nat × Nat))[i]?) (.agg #[.int .i64 0, .int .i64 0, .int .i64 0, .int .i64 0]) := TyBuilt.struct (ps := [(0, 1), (1, 1), (2, 1), (3, 1)]) Tryz.underlying42 (by kernel_rfl) (by kernel_rfl)
instance : TyZero Tryz.prog 42 (.agg #[.int .i64 0, .int .i64 0, .int .i64 0, .int .i64 0]) := ⟨by kernel_rfl⟩
instance : TyAgg Tryz.prog 43 4 := ⟨by kernel_rfl, by kernel_rfl⟩
instance : TyField Tryz.prog 43 0 0 := ⟨_, _, Tryz.underlying43, rfl, rfl, by kernel_rfl⟩
instance : TyField Tryz.prog 43 1 1 := ⟨_, _, Tryz.underlying43, rfl, rfl, by kernel_rfl⟩
instance : TyField Tryz.prog 43 2 2 := ⟨_, _, Tryz.underlying43, rfl, rfl, by kernel_rfl⟩
instance : TyField Tryz.prog 43 3 3 := ⟨_, _, Tryz.underlying43, rfl, rfl, by kernel_rfl⟩
instance : TyBuilt Tryz.prog 43 (fun i => (#[(0, 1), (1, 1), (2, 1), (3, 1)] : Array (Nat × Nat))[i]?) (.agg #[.int .i64 0, .int .i64 0, .int .i64 0, .int .i64 0]) := TyBuilt.struct (ps := [(0, 1), (1, 1), (2, 1), (3, 1)]) Tryz.underlying43 (by kernel_rfl) (by kernel_rfl)
instance : TyZero Tryz.prog 43 (.agg #[.int .i64 0, .int .i64 0, .int .i64 0, .int .i64 0]) := ⟨by kernel_rfl⟩
instance : TyAgg Tryz.prog 44 3 := ⟨by kernel_rfl, by kernel_rfl⟩
instance : TyField Tryz.prog 44 0 0 := ⟨_, _, Tryz.underlying44, rfl, rfl, by kernel_rfl⟩
instance : TyField Tryz.prog 44 1 1 := ⟨_, _, Tryz.underlying44, rfl, rfl, by kernel_rfl⟩
instance : TyField Tryz.prog 44 2 2 := ⟨_, _, Tryz.underlying44, rfl, rfl, by kernel_rfl⟩
instance : TyBuilt Tryz.prog 44 (fun i => (#[(0, 1), (1, 1), (2, 1)] : Array (Nat × Nat))[i]?) (.agg #[.int .i64 0, .int .i64 0, .int .i64 0]) := TyBuilt.struct (ps := [(0, 1), (1, 1), (2, 1)]) Tryz.underlying44 (by kernel_rfl) (by kernel_rfl)
instance : TyZero Tryz.prog 44 (.agg #[.int .i64 0, .int .i64 0, .int .i64 0]) := ⟨by kernel_rfl⟩
instance : TyAgg Tryz.prog 45 3 := ⟨by kernel_rfl, by kernel_rfl⟩
instance : TyField Tryz.prog 45 0 0 := ⟨_, _, Tryz.underlying45, rfl, rfl, by kernel_rfl⟩
instance : TyField Tryz.prog 45 1 1 := ⟨_, _, Tryz.underlying45, rfl, rfl, by kernel_rfl⟩
instance : TyField Tryz.prog 45 2 2 := ⟨_, _, Tryz.underlying45, rfl, rfl, by kernel_rfl⟩
instance : TyBuilt Tryz.prog 45 (fun i => (#[(0, 1), (1, 1), (2, 1)] : Array (Nat × Nat))[i]?) (.agg #[.int .i64 0, .int .i64 0, .int .i64 0]) := TyBuilt.struct (ps := [(0, 1), (1, 1), (2, 1)]) Tryz.underlying45 (by kernel_rfl) (by kernel_rfl)
instance : TyZero Tryz.prog 45 (.agg #[.int .i64 0, .int .i64 0, .int .i64 0]) := ⟨by kernel_rfl⟩
instance : TyOne Tryz.prog 46 := ⟨by kernel_rfl, by kernel_rfl⟩
instance : TyOne Tryz.prog 47 := ⟨by kernel_rfl, by kernel_rfl⟩
instance : TyOne Tryz.prog 48 := ⟨by kernel_rfl, by kernel_rfl⟩
instance : TyOne Tryz.prog 49 := ⟨by kernel_rfl, by kernel_rfl⟩
instance : TyPtr Tryz.prog 50 := ⟨_, Tryz.underlying50⟩
instance : TyOne Tryz.prog 50 := ⟨by kernel_rfl, by kernel_rfl⟩
instance : TyZero Tryz.prog 50 (.pointer none) := ⟨by kernel_rfl⟩
instance : TyOne Tryz.prog 51 := ⟨by kernel_rfl, by kernel_rfl⟩
instance : TyOne Tryz.prog 53 := ⟨by kernel_rfl, by kernel_rfl⟩
instance : TyOne Tryz.prog 54 := ⟨by kernel_rfl, by kernel_rfl⟩
instance : TyOne Tryz.prog 55 := ⟨by kernel_rfl, by kernel_rfl⟩
instance : TyOne Tryz.prog 56 := ⟨by kernel_rfl, by kernel_rfl⟩
instance : TyOne Tryz.prog 57 := ⟨by kernel_rfl, by kernel_rfl⟩
instance : TyOne Tryz.prog 58 := ⟨by kernel_rfl, by kernel_rfl⟩
instance : TyPtr Tryz.prog 59 := ⟨_, Tryz.underlying59⟩
instance : TyOne Tryz.prog 59 := ⟨by kernel_rfl, by kernel_rfl⟩
instance : TyZero Tryz.prog 59 (.pointer none) := ⟨by kernel_rfl⟩
instance : TyOne Tryz.prog 60 := ⟨by kernel_rfl, by kernel_rfl⟩
instance : TyPtr Tryz.prog 61 := ⟨_, Tryz.underlying61⟩
instance : TyOne Tryz.prog 61 := ⟨by kernel_rfl, by kernel_rfl⟩
instance : TyZero Tryz.prog 61 (.pointer none) := ⟨by kernel_rfl⟩
instance : TyOne Tryz.prog 62 := ⟨by kernel_rfl, by kernel_rfl⟩
instance : TyOne Tryz.prog 63 := ⟨by kernel_rfl, by kernel_rfl⟩
instance : TyOne Tryz.prog 65 := ⟨by kernel_rfl, by kernel_rfl⟩
instance : TyOne Tryz.prog 66 := ⟨by kernel_rfl, by kernel_rfl⟩
instance : TyOne Tryz.prog 67 := ⟨by kernel_rfl, by kernel_rfl⟩
instance : TyOne Tryz.prog 68 := ⟨by kernel_rfl, by kernel_rfl⟩
instance : TyOne Tryz.prog 69 := ⟨by kernel_rfl, by kernel_rfl⟩
instance : TyOne Tryz.prog 70 := ⟨by kernel_rfl, by kernel_rfl⟩
instance : TyOne Tryz.prog 71 := ⟨by kernel_rfl, by kernel_rfl⟩
instance : TyOne Tryz.prog 72 := ⟨by kernel_rfl, by kernel_rfl⟩
instance : TyOne Tryz.prog 73 := ⟨by kernel_rfl, by kernel_rfl⟩
instance : TyOne Tryz.prog 74 := ⟨by kernel_rfl, by kernel_rfl⟩
instance : TyOne Tryz.prog 75 := ⟨by kernel_rfl, by kernel_rfl⟩
instance : TyOne Tryz.prog 76 := ⟨by kernel_rfl, by kernel_rfl⟩
instance : TyOne Tryz.prog 77 := ⟨by kernel_rfl, by kernel_rfl⟩
instance : TyOne Tryz.prog 78 := ⟨by kernel_rfl, by kernel_rfl⟩
instance : TyOne Tryz.prog 79 := ⟨by kernel_rfl, by kernel_rfl⟩
instance : TyOne Tryz.prog 80 := ⟨by kernel_rfl, by kernel_rfl⟩
instance : TyOne Tryz.prog 81 := ⟨by kernel_rfl, by kernel_rfl⟩
instance : TyOne Tryz.prog 82 := ⟨by kernel_rfl, by kernel_rfl⟩
instance : TyOne Tryz.prog 83 := ⟨by kernel_rfl, by kernel_rfl⟩
instance : TyZero Tryz.prog 83 (.slice none 0 0) := ⟨by kernel_rfl⟩
instance : TySlice Tryz.prog 83 4 1 1 (.bool false) := TySlice.of Tryz.underlying83 (by kernel_rfl) (by kernel_rfl) (by decide)
instance : TyOne Tryz.prog 84 := ⟨by kernel_rfl, by kernel_rfl⟩
instance : TyOne Tryz.prog 85 := ⟨by kernel_rfl, by kernel_rfl⟩
instance : TyOne Tryz.prog 86 := ⟨by kernel_rfl, by kernel_rfl⟩
instance : TyOne Tryz.prog 87 := ⟨by kernel_rfl, by kernel_rfl⟩
instance : TyOne Tryz.prog 88 := ⟨by kernel_rfl, by kernel_rfl⟩
instance : TyOne Tryz.prog 89 := ⟨by kernel_rfl, by kernel_rfl⟩
instance : TyZero Tryz.prog 89 (.slice none 0 0) := ⟨by kernel_rfl⟩
instance : TySlice Tryz.prog 89 95 5 40 (.agg #[.int .i64 0, .int .i64 0, .int .i64 0, .int .i64 0, .int .i64 0]) := TySlice.of Tryz.underlying89 (by kernel_rfl) (by kernel_rfl) (by decide)
instance : TyAgg Tryz.prog 90 1 := ⟨by kernel_rfl, by kernel_rfl⟩
instance : TyField Tryz.prog 90 0 0 := ⟨_, _, Tryz.underlying90, rfl, rfl, by kernel_rfl⟩
instance : TyBuilt Tryz.prog 90 (fun i => (#[(0, 1)] : Array (Nat × Nat))[i]?) (.agg #[.slice none 0 0]) := TyBuilt.struct (ps := [(0, 1)]) Tryz.underlying90 (by kernel_rfl) (by kernel_rfl)
instance : TyZero Tryz.prog 90 (.agg #[.slice none 0 0]) := ⟨by kernel_rfl⟩
instance : TyAgg Tryz.prog 91 1 := ⟨by kernel_rfl, by kernel_rfl⟩
instance : TyField Tryz.prog 91 0 0 := ⟨_, _, Tryz.underlying91, rfl, rfl, by kernel_rfl⟩
instance : TyBuilt Tryz.prog 91 (fun i => (#[(0, 1)] : Array (Nat × Nat))[i]?) (.agg #[.slice none 0 0]) := TyBuilt.struct (ps := [(0, 1)]) Tryz.underlying91 (by kernel_rfl) (by kernel_rfl)
instance : TyZero Tryz.prog 91 (.agg #[.slice none 0 0]) := ⟨by kernel_rfl⟩
instance : TyOne Tryz.prog 93 := ⟨by kernel_rfl, by kernel_rfl⟩
instance : TyAgg Tryz.prog 94 5 := ⟨by kernel_rfl, by kernel_rfl⟩
instance : TyField Tryz.prog 94 0 0 := ⟨_, _, Tryz.underlying94, rfl, rfl, by kernel_rfl⟩
instance : TyField Tryz.prog 94 1 1 := ⟨_, _, Tryz.underlying94, rfl, rfl, by kernel_rfl⟩
instance : TyBuilt Tryz.prog 94 (fun i => (#[(0, 1), (1, 4)] : Array (Nat × Nat))[i]?) (.agg #[.int .i64 0, .int .i64 0, .int .i64 0, .int .i64 0, .int .i64 0]) := TyBuilt.struct (ps := [(0, 1), (1, 4)]) Tryz.underlying94 (by kernel_rfl) (by kernel_rfl)
instance : TyZero Tryz.prog 94 (.agg #[.int .i64 0, .int .i64 0, .int .i64 0, .int .i64 0, .int .i64 0]) := ⟨by kernel_rfl⟩
instance : TyAgg Tryz.prog 95 5 := ⟨by kernel_rfl, by kernel_rfl⟩
instance : TyField Tryz.prog 95 0 0 := ⟨_, _, Tryz.underlying95, rfl, rfl, by kernel_rfl⟩
instance : TyField Tryz.prog 95 1 1 := ⟨_, _, Tryz.underlying95, rfl, rfl, by kernel_rfl⟩
instance : TyBuilt Tryz.prog 95 (fun i => (#[(0, 1), (1, 4)] : Array (Nat × Nat))[i]?) (.agg #[.int .i64 0, .int .i64 0, .int .i64 0, .int .i64 0, .int .i64 0]) := TyBuilt.struct (ps := [(0, 1), (1, 4)]) Tryz.underlying95 (by kernel_rfl) (by kernel_rfl)
instance : TyZero Tryz.prog 95 (.agg #[.int .i64 0, .int .i64 0, .int .i64 0, .int .i64 0, .int .i64 0]) := ⟨by kernel_rfl⟩
instance : TyOne Tryz.prog 96 := ⟨by kernel_rfl, by kernel_rfl⟩
instance : TyOne Tryz.prog 97 := ⟨by kernel_rfl, by kernel_rfl⟩
instance : TyOne Tryz.prog 98 := ⟨by kernel_rfl, by kernel_rfl⟩
instance : TyOne Tryz.prog 99 := ⟨by kernel_rfl, by kernel_rfl⟩
instance : TyOne Tryz.prog 100 := ⟨by kernel_rfl, by kernel_rfl⟩
instance : TyOne Tryz.prog 101 := ⟨by kernel_rfl, by kernel_rfl⟩
instance : TyOne Tryz.prog 102 := ⟨by kernel_rfl, by kernel_rfl⟩
instance : TyOne Tryz.prog 103 := ⟨by kernel_rfl, by kernel_rfl⟩
instance : TyOne Tryz.prog 104 := ⟨by kernel_rfl, by kernel_rfl⟩
instance : TyOne Tryz.prog 105 := ⟨by kernel_rfl, by kernel_rfl⟩
instance : TyOne Tryz.prog 106 := ⟨by kernel_rfl, by kernel_rfl⟩
instance : TyOne Tryz.prog 107 := ⟨by kernel_rfl, by kernel_rfl⟩
instance : TyZero Tryz.prog 107 (.slice none 0 0) := ⟨by kernel_rfl⟩
instance : TySlice Tryz.prog 107 117 4 32 (.agg #[.int .i64 0, .int .i64 0, .int .i64 0, .int .i64 0]) := TySlice.of Tryz.underlying107 (by kernel_rfl) (by kernel_rfl) (by decide)
instance : TyAgg Tryz.prog 108 1 := ⟨by kernel_rfl, by kernel_rfl⟩
instance : TyField Tryz.prog 108 0 0 := ⟨_, _, Tryz.underlying108, rfl, rfl, by kernel_rfl⟩
instance : TyBuilt Tryz.prog 108 (fun i => (#[(0, 1)] : Array (Nat × Nat))[i]?) (.agg #[.slice none 0 0]) := TyBuilt.struct (ps := [(0, 1)]) Tryz.underlying108 (by kernel_rfl) (by kernel_rfl)
instance : TyZero Tryz.prog 108 (.agg #[.slice none 0 0]) := ⟨by kernel_rfl⟩
instance : TyAgg Tryz.prog 109 1 := ⟨by kernel_rfl, by kernel_rfl⟩
instance : TyField Tryz.prog 109 0 0 := ⟨_, _, Tryz.underlying109, rfl, rfl, by kernel_rfl⟩
instance : TyBuilt Tryz.prog 109 (fun i => (#[(0, 1)] : Array (Nat × Nat))[i]?) (.agg #[.slice none 0 0]) := TyBuilt.struct (ps := [(0, 1)]) Tryz.underlying109 (by kernel_rfl) (by kernel_rfl)
instance : TyZero Tryz.prog 109 (.agg #[.slice none 0 0]) := ⟨by kernel_rfl⟩
instance : TyOne Tryz.prog 110 := ⟨by kernel_rfl, by kernel_rfl⟩
instance : TyZero Tryz.prog 110 (.slice none 0 0) := ⟨by kernel_rfl⟩
instance : TySlice Tryz.prog 110 114 2 16 (.agg #[.int .i64 0, .int .i64 0]) := TySlice.of Tryz.underlying110 (by kernel_rfl) (by kernel_rfl) (by decide)
instance : TyAgg Tryz.prog 111 1 := ⟨by kernel_rfl, by kernel_rfl⟩
instance : TyField Tryz.prog 111 0 0 := ⟨_, _, Tryz.underlying111, rfl, rfl, by kernel_rfl⟩
instance : TyBuilt Tryz.prog 111 (fun i => (#[(0, 1)] : Array (Nat × Nat))[i]?) (.agg #[.slice none 0 0]) := TyBuilt.struct (ps := [(0, 1)]) Tryz.underlying111 (by kernel_rfl) (by kernel_rfl)
instance : TyZero Tryz.prog 111 (.agg #[.slice none 0 0]) := ⟨by kernel_rfl⟩
instance : TyAgg Tryz.prog 112 1 := ⟨by kernel_rfl, by kernel_rfl⟩
instance : TyField Tryz.prog 112 0 0 := ⟨_, _, Tryz.underlying112, rfl, rfl, by kernel_rfl⟩
instance : TyBuilt Tryz.prog 112 (fun i => (#[(0, 1)] : Array (Nat × Nat))[i]?) (.agg #[.slice none 0 0]) := TyBuilt.struct (ps := [(0, 1)]) Tryz.underlying112 (by kernel_rfl) (by kernel_rfl)
instance : TyZero Tryz.prog 112 (.agg #[.slice none 0 0]) := ⟨by kernel_rfl⟩
instance : TyAgg Tryz.prog 113 2 := ⟨by kernel_rfl, by kernel_rfl⟩
instance : TyField Tryz.prog 113 0 0 := ⟨_, _, Tryz.underlying113, rfl, rfl, by kernel_rfl⟩
instance : TyField Tryz.prog 113 1 1 := ⟨_, _, Tryz.underlying113, rfl, rfl, by kernel_rfl⟩
instance : TyBuilt Tryz.prog 113 (fun i => (#[(0, 1), (1, 1)] : Array (Nat × Nat))[i]?) (.agg #[.int .i64 0, .int .i64 0]) := TyBuilt.struct (ps := [(0, 1), (1, 1)]) Tryz.underlying113 (by kernel_rfl) (by kernel_rfl)
instance : TyZero Tryz.prog 113 (.agg #[.int .i64 0, .int .i64 0]) := ⟨by kernel_rfl⟩
instance : TyAgg Tryz.prog 114 2 := ⟨by kernel_rfl, by kernel_rfl⟩
instance : TyField Tryz.prog 114 0 0 := ⟨_, _, Tryz.underlying114, rfl, rfl, by kernel_rfl⟩
instance : TyField Tryz.prog 114 1 1 := ⟨_, _, Tryz.underlying114, rfl, rfl, by kernel_rfl⟩
instance : TyBuilt Tryz.prog 114 (fun i => (#[(0, 1), (1, 1)] : Array (Nat × Nat))[i]?) (.agg #[.int .i64 0, .int .i64 0]) := TyBuilt.struct (ps := [(0, 1), (1, 1)]) Tryz.underlying114 (by kernel_rfl) (by kernel_rfl)
instance : TyZero Tryz.prog 114 (.agg #[.int .i64 0, .int .i64 0]) := ⟨by kernel_rfl⟩
instance : TyOne Tryz.prog 115 := ⟨by kernel_rfl, by kernel_rfl⟩
instance : TyAgg Tryz.prog 116 4 := ⟨by kernel_rfl, by kernel_rfl⟩
instance : TyField Tryz.prog 116 0 0 := ⟨_, _, Tryz.underlying116, rfl, rfl, by kernel_rfl⟩
instance : TyField Tryz.prog 116 1 1 := ⟨_, _, Tryz.underlying116, rfl, rfl, by kernel_rfl⟩
instance : TyBuilt Tryz.prog 116 (fun i => (#[(0, 1), (1, 3)] : Array (Nat × Nat))[i]?) (.agg #[.int .i64 0, .int .i64 0, .int .i64 0, .int .i64 0]) := TyBuilt.struct (ps := [(0, 1), (1, 3)]) Tryz.underlying116 (by kernel_rfl) (by kernel_rfl)
instance : TyZero Tryz.prog 116 (.agg #[.int .i64 0, .int .i64 0, .int .i64 0, .int .i64 0]) := ⟨by kernel_rfl⟩
instance : TyAgg Tryz.prog 117 4 := ⟨by kernel_rfl, by kernel_rfl⟩
instance : TyField Tryz.prog 117 0 0 := ⟨_, _, Tryz.underlying117, rfl, rfl, by kernel_rfl⟩
instance : TyField Tryz.prog 117 1 1 := ⟨_, _, Tryz.underlying117, rfl, rfl, by kernel_rfl⟩
instance : TyBuilt Tryz.prog 117 (fun i => (#[(0, 1), (1, 3)] : Array (Nat × Nat))[i]?) (.agg #[.int .i64 0, .int .i64 0, .int .i64 0, .int .i64 0]) := TyBuilt.struct (ps := [(0, 1), (1, 3)]) Tryz.underlying117 (by kernel_rfl) (by kernel_rfl)
instance : TyZero Tryz.prog 117 (.agg #[.int .i64 0, .int .i64 0, .int .i64 0, .int .i64 0]) := ⟨by kernel_rfl⟩
instance : TyOne Tryz.prog 118 := ⟨by kernel_rfl, by kernel_rfl⟩
instance : TyOne Tryz.prog 119 := ⟨by kernel_rfl, by kernel_rfl⟩
instance : TyOne Tryz.prog 120 := ⟨by kernel_rfl, by kernel_rfl⟩
instance : TyOne Tryz.prog 121 := ⟨by kernel_rfl, by kernel_rfl⟩
instance : TyOne Tryz.prog 122 := ⟨by kernel_rfl, by kernel_rfl⟩
instance : TyOne Tryz.prog 123 := ⟨by kernel_rfl, by kernel_rfl⟩
instance : TyOne Tryz.prog 124 := ⟨by kernel_rfl, by kernel_rfl⟩
instance : TyOne Tryz.prog 125 := ⟨by kernel_rfl, by kernel_rfl⟩
instance : TyOne Tryz.prog 126 := ⟨by kernel_rfl, by kernel_rfl⟩
instance : TyOne Tryz.prog 127 := ⟨by kernel_rfl, by kernel_rfl⟩
instance : TyOne Tryz.prog 128 := ⟨by kernel_rfl, by kernel_rfl⟩
instance : TyOne Tryz.prog 129 := ⟨by kernel_rfl, by kernel_rfl⟩
instance : TyOne Tryz.prog 130 := ⟨by kernel_rfl, by kernel_rfl⟩
instance : TyOne Tryz.prog 131 := ⟨by kernel_rfl, by kernel_rfl⟩
instance : TyOne Tryz.prog 132 := ⟨by kernel_rfl, by kernel_rfl⟩
instance : TyOne Tryz.prog 133 := ⟨by kernel_rfl, by kernel_rfl⟩
instance : TyOne Tryz.prog 134 := ⟨by kernel_rfl, by kernel_rfl⟩
instance : TyOne Tryz.prog 135 := ⟨by kernel_rfl, by kernel_rfl⟩
instance : TyOne Tryz.prog 136 := ⟨by kernel_rfl, by kernel_rfl⟩
instance : TyOne Tryz.prog 137 := ⟨by kernel_rfl, by kernel_rfl⟩
instance : TyOne Tryz.prog 138 := ⟨by kernel_rfl, by kernel_rfl⟩
instance : TyOne Tryz.prog 139 := ⟨by kernel_rfl, by kernel_rfl⟩
instance : TyOne Tryz.prog 140 := ⟨by kernel_rfl, by kernel_rfl⟩
instance : TyOne Tryz.prog 141 := ⟨by kernel_rfl, by kernel_rfl⟩
instance : TyOne Tryz.prog 142 := ⟨by kernel_rfl, by kernel_rfl⟩
instance : TyOne Tryz.prog 143 := ⟨by kernel_rfl, by kernel_rfl⟩
instance : TyOne Tryz.prog 144 := ⟨by kernel_rfl, by kernel_rfl⟩
instance : TyOne Tryz.prog 145 := ⟨by kernel_rfl, by kernel_rfl⟩
instance : TyOne Tryz.prog 146 := ⟨by kernel_rfl, by kernel_rfl⟩
instance : TyOne Tryz.prog 147 := ⟨by kernel_rfl, by kernel_rfl⟩
instance : TyOne Tryz.prog 148 := ⟨by kernel_rfl, by kernel_rfl⟩
instance : TyOne Tryz.prog 149 := ⟨by kernel_rfl, by kernel_rfl⟩
instance : TyOne Tryz.prog 150 := ⟨by kernel_rfl, by kernel_rfl⟩
instance : TyOne Tryz.prog 151 := ⟨by kernel_rfl, by kernel_rfl⟩
instance : TyOne Tryz.prog 152 := ⟨by kernel_rfl, by kernel_rfl⟩
instance : TyOne Tryz.prog 153 := ⟨by kernel_rfl, by kernel_rfl⟩
instance : TyOne Tryz.prog 154 := ⟨by kernel_rfl, by kernel_rfl⟩
instance : TyInt Tryz.prog 155 .u64 := ⟨Tryz.underlying155⟩
instance : TyOne Tryz.prog 155 := ⟨by kernel_rfl, by kernel_rfl⟩
instance : TyZero Tryz.prog 155 (.int .u64 0) := ⟨by kernel_rfl⟩
instance : TyOne Tryz.prog 156 := ⟨by kernel_rfl, by kernel_rfl⟩
instance : TyOne Tryz.prog 157 := ⟨by kernel_rfl, by kernel_rfl⟩
instance : TyOne Tryz.prog 158 := ⟨by kernel_rfl, by kernel_rfl⟩
instance : TyOne Tryz.prog 159 := ⟨by kernel_rfl, by kernel_rfl⟩
instance : TyOne Tryz.prog 160 := ⟨by kernel_rfl, by kernel_rfl⟩
instance : TyAgg Tryz.prog 161 4 := ⟨by kernel_rfl, by kernel_rfl⟩
instance : TyField Tryz.prog 161 0 0 := ⟨_, _, Tryz.underlying161, rfl, rfl, by kernel_rfl⟩
instance : TyField Tryz.prog 161 1 1 := ⟨_, _, Tryz.underlying161, rfl, rfl, by kernel_rfl⟩
instance : TyField Tryz.prog 161 2 2 := ⟨_, _, Tryz.underlying161, rfl, rfl, by kernel_rfl⟩
instance : TyField Tryz.prog 161 3 3 := ⟨_, _, Tryz.underlying161, rfl, rfl, by kernel_rfl⟩
instance : TyBuilt Tryz.prog 161 (fun i => (#[(0, 1), (1, 1), (2, 1), (3, 1)] : Array (Nat × Nat))[i]?) (.agg #[.pointer none, .pointer none, .pointer none, .string ByteArray.empty]) := TyBuilt.struct (ps := [(0, 1), (1, 1), (2, 1), (3, 1)]) Tryz.underlying161 (by kernel_rfl) (by kernel_rfl)
instance : TyZero Tryz.prog 161 (.agg #[.pointer none, .pointer none, .pointer none, .string ByteArray.empty]) := ⟨by kernel_rfl⟩
instance : TyAgg Tryz.prog 163 0 := ⟨by kernel_rfl, by kernel_rfl⟩
instance : TyArr Tryz.prog 163 0 16 1 := ⟨Tryz.underlying163, by kernel_rfl⟩
instance : TyBuilt Tryz.prog 163 (fun i => some (i * 1, 1)) (.agg #[]) := TyBuilt.array Tryz.underlying163 (by kernel_rfl) (by kernel_rfl)
instance : TyZero Tryz.prog 163 (.agg #[]) := ⟨by kernel_rfl⟩
instance : TyAgg Tryz.prog 164 0 := ⟨by kernel_rfl, by kernel_rfl⟩
instance : TyBuilt Tryz.prog 164 (fun i => (#[(0, 0)] : Array (Nat × Nat))[i]?) (.agg #[]) := TyBuilt.struct (ps := [(0, 0)]) Tryz.underlying164 (by kernel_rfl) (by kernel_rfl)
instance : TyZero Tryz.prog 164 (.agg #[]) := ⟨by kernel_rfl⟩
instance : TyOne Tryz.prog 166 := ⟨by kernel_rfl, by kernel_rfl⟩
instance : TyInt Tryz.prog 167 .u32 := ⟨Tryz.underlying167⟩
instance : TyOne Tryz.prog 167 := ⟨by kernel_rfl, by kernel_rfl⟩
instance : TyZero Tryz.prog 167 (.int .u32 0) := ⟨by kernel_rfl⟩
instance : TyOne Tryz.prog 170 := ⟨by kernel_rfl, by kernel_rfl⟩
instance : TyPtr Tryz.prog 171 := ⟨_, Tryz.underlying171⟩
instance : TyOne Tryz.prog 171 := ⟨by kernel_rfl, by kernel_rfl⟩
instance : TyZero Tryz.prog 171 (.pointer none) := ⟨by kernel_rfl⟩
instance : TyOne Tryz.prog 176 := ⟨by kernel_rfl, by kernel_rfl⟩
instance : TyOne Tryz.prog 178 := ⟨by kernel_rfl, by kernel_rfl⟩
instance : TyOne Tryz.prog 179 := ⟨by kernel_rfl, by kernel_rfl⟩
instance : Mixed Tryz.prog := ⟨by kernel_rfl⟩
end Go.Proofs.YtlhkpakbenghgaaGreat
/-
  What a call of each function enters.
-/
set_option maxRecDepth 100000
namespace Go.Proofs.YtlhkpakbenghgaaGreat
open Go Brv
theorem go4 : ∀ (vs : Array Value) w, (callFunc 4 vs).run Tryz.prog w = .ok (.enter 4 vs) w := callFunc_run Tryz.func4 (by decide) rfl
theorem go5 : ∀ (vs : Array Value) w, (callFunc 5 vs).run Tryz.prog w = .ok (.enter 5 vs) w := callFunc_run Tryz.func5 (by decide) rfl
theorem go6 : ∀ (vs : Array Value) w, (callFunc 6 vs).run Tryz.prog w = .ok (.enter 6 vs) w := callFunc_run Tryz.func6 (by decide) rfl
theorem go7 : ∀ (vs : Array Value) w, (callFunc 7 vs).run Tryz.prog w = .ok (.enter 7 vs) w := callFunc_run Tryz.func7 (by decide) rfl
theorem go8 : ∀ (vs : Array Value) w, (callFunc 8 vs).run Tryz.prog w = .ok (.enter 8 vs) w := callFunc_run Tryz.func8 (by decide) rfl
theorem go9 : ∀ (vs : Array Value) w, (callFunc 9 vs).run Tryz.prog w = .ok (.enter 9 vs) w := callFunc_run Tryz.func9 (by decide) rfl
theorem go10 : ∀ (vs : Array Value) w, (callFunc 10 vs).run Tryz.prog w = .ok (.enter 10 vs) w := callFunc_run Tryz.func10 (by decide) rfl
theorem go11 : ∀ (vs : Array Value) w, (callFunc 11 vs).run Tryz.prog w = .ok (.enter 11 vs) w := callFunc_run Tryz.func11 (by decide) rfl
theorem go12 : ∀ (vs : Array Value) w, (callFunc 12 vs).run Tryz.prog w = .ok (.enter 12 vs) w := callFunc_run Tryz.func12 (by decide) rfl
theorem go13 : ∀ (vs : Array Value) w, (callFunc 13 vs).run Tryz.prog w = .ok (.enter 13 vs) w := callFunc_run Tryz.func13 (by decide) rfl
theorem go14 : ∀ (vs : Array Value) w, (callFunc 14 vs).run Tryz.prog w = .ok (.enter 14 vs) w := callFunc_run Tryz.func14 (by decide) rfl
theorem go15 : ∀ (vs : Array Value) w, (callFunc 15 vs).run Tryz.prog w = .ok (.enter 15 vs) w := callFunc_run Tryz.func15 (by decide) rfl
theorem go16 : ∀ (vs : Array Value) w, (callFunc 16 vs).run Tryz.prog w = .ok (.enter 16 vs) w := callFunc_run Tryz.func16 (by decide) rfl
theorem go17 : ∀ (vs : Array Value) w, (callFunc 17 vs).run Tryz.prog w = .ok (.enter 17 vs) w := callFunc_run Tryz.func17 (by decide) rfl
theorem go18 : ∀ (vs : Array Value) w, (callFunc 18 vs).run Tryz.prog w = .ok (.enter 18 vs) w := callFunc_run Tryz.func18 (by decide) rfl
theorem go19 : ∀ (vs : Array Value) w, (callFunc 19 vs).run Tryz.prog w = .ok (.enter 19 vs) w := callFunc_run Tryz.func19 (by decide) rfl
theorem go20 : ∀ (vs : Array Value) w, (callFunc 20 vs).run Tryz.prog w = .ok (.enter 20 vs) w := callFunc_run Tryz.func20 (by decide) rfl
theorem go21 : ∀ (vs : Array Value) w, (callFunc 21 vs).run Tryz.prog w = .ok (.enter 21 vs) w := callFunc_run Tryz.func21 (by decide) rfl
theorem go22 : ∀ (vs : Array Value) w, (callFunc 22 vs).run Tryz.prog w = .ok (.enter 22 vs) w := callFunc_run Tryz.func22 (by decide) rfl
theorem go23 : ∀ (vs : Array Value) w, (callFunc 23 vs).run Tryz.prog w = .ok (.enter 23 vs) w := callFunc_run Tryz.func23 (by decide) rfl
theorem go24 : ∀ (vs : Array Value) w, (callFunc 24 vs).run Tryz.prog w = .ok (.enter 24 vs) w := callFunc_run Tryz.func24 (by decide) rfl
theorem go25 : ∀ (vs : Array Value) w, (callFunc 25 vs).run Tryz.prog w = .ok (.enter 25 vs) w := callFunc_run Tryz.func25 (by decide) rfl
theorem go26 : ∀ (vs : Array Value) w, (callFunc 26 vs).run Tryz.prog w = .ok (.enter 26 vs) w := callFunc_run Tryz.func26 (by decide) rfl
theorem go27 : ∀ (vs : Array Value) w, (callFunc 27 vs).run Tryz.prog w = .ok (.enter 27 vs) w := callFunc_run Tryz.func27 (by decide) rfl
theorem go28 : ∀ (vs : Array Value) w, (callFunc 28 vs).run Tryz.prog w = .ok (.enter 28 vs) w := callFunc_run Tryz.func28 (by decide) rfl
theorem go29 : ∀ (vs : Array Value) w, (callFunc 29 vs).run Tryz.prog w = .ok (.enter 29 vs) w := callFunc_run Tryz.func29 (by decide) rfl
theorem go30 : ∀ (vs : Array Value) w, (callFunc 30 vs).run Tryz.prog w = .ok (.enter 30 vs) w := callFunc_run Tryz.func30 (by decide) rfl
theorem go31 : ∀ (vs : Array Value) w, (callFunc 31 vs).run Tryz.prog w = .ok (.enter 31 vs) w := callFunc_run Tryz.func31 (by decide) rfl
theorem go32 : ∀ (vs : Array Value) w, (callFunc 32 vs).run Tryz.prog w = .ok (.enter 32 vs) w := callFunc_run Tryz.func32 (by decide) rfl
theorem go33 : ∀ (vs : Array Value) w, (callFunc 33 vs).run Tryz.prog w = .ok (.enter 33 vs) w := callFunc_run Tryz.func33 (by decide) rfl
theorem go34 : ∀ (vs : Array Value) w, (callFunc 34 vs).run Tryz.prog w = .ok (.enter 34 vs) w := callFunc_run Tryz.func34 (by decide) rfl
theorem go35 : ∀ (vs : Array Value) w, (callFunc 35 vs).run Tryz.prog w = .ok (.enter 35 vs) w := callFunc_run Tryz.func35 (by decide) rfl
theorem go36 : ∀ (vs : Array Value) w, (callFunc 36 vs).run Tryz.prog w = .ok (.enter 36 vs) w := callFunc_run Tryz.func36 (by decide) rfl
theorem go37 : ∀ (vs : Array Value) w, (callFunc 37 vs).run Tryz.prog w = .ok (.enter 37 vs) w := callFunc_run Tryz.func37 (by decide) rfl
theorem go38 : ∀ (vs : Array Value) w, (callFunc 38 vs).run Tryz.prog w = .ok (.enter 38 vs) w := callFunc_run Tryz.func38 (by decide) rfl
theorem go39 : ∀ (vs : Array Value) w, (callFunc 39 vs).run Tryz.prog w = .ok (.enter 39 vs) w := callFunc_run Tryz.func39 (by decide) rfl
theorem go40 : ∀ (vs : Array Value) w, (callFunc 40 vs).run Tryz.prog w = .ok (.enter 40 vs) w := callFunc_run Tryz.func40 (by decide) rfl
theorem go41 : ∀ (vs : Array Value) w, (callFunc 41 vs).run Tryz.prog w = .ok (.enter 41 vs) w := callFunc_run Tryz.func41 (by decide) rfl
theorem go42 : ∀ (vs : Array Value) w, (callFunc 42 vs).run Tryz.prog w = .ok (.enter 42 vs) w := callFunc_run Tryz.func42 (by decide) rfl
theorem go43 : ∀ (vs : Array Value) w, (callFunc 43 vs).run Tryz.prog w = .ok (.enter 43 vs) w := callFunc_run Tryz.func43 (by decide) rfl
theorem go44 : ∀ (vs : Array Value) w, (callFunc 44 vs).run Tryz.prog w = .ok (.enter 44 vs) w := callFunc_run Tryz.func44 (by decide) rfl
theorem go45 : ∀ (vs : Array Value) w, (callFunc 45 vs).run Tryz.prog w = .ok (.enter 45 vs) w := callFunc_run Tryz.func45 (by decide) rfl
theorem go46 : ∀ (vs : Array Value) w, (callFunc 46 vs).run Tryz.prog w = .ok (.enter 46 vs) w := callFunc_run Tryz.func46 (by decide) rfl
theorem go47 : ∀ (vs : Array Value) w, (callFunc 47 vs).run Tryz.prog w = .ok (.enter 47 vs) w := callFunc_run Tryz.func47 (by decide) rfl
theorem go48 : ∀ (vs : Array Value) w, (callFunc 48 vs).run Tryz.prog w = .ok (.enter 48 vs) w := callFunc_run Tryz.func48 (by decide) rfl
theorem go49 : ∀ (vs : Array Value) w, (callFunc 49 vs).run Tryz.prog w = .ok (.enter 49 vs) w := callFunc_run Tryz.func49 (by decide) rfl
theorem go50 : ∀ (vs : Array Value) w, (callFunc 50 vs).run Tryz.prog w = .ok (.enter 50 vs) w := callFunc_run Tryz.func50 (by decide) rfl
theorem go51 : ∀ (vs : Array Value) w, (callFunc 51 vs).run Tryz.prog w = .ok (.enter 51 vs) w := callFunc_run Tryz.func51 (by decide) rfl
theorem go52 : ∀ (vs : Array Value) w, (callFunc 52 vs).run Tryz.prog w = .ok (.enter 52 vs) w := callFunc_run Tryz.func52 (by decide) rfl
theorem go53 : ∀ (vs : Array Value) w, (callFunc 53 vs).run Tryz.prog w = .ok (.enter 53 vs) w := callFunc_run Tryz.func53 (by decide) rfl
theorem go54 : ∀ (vs : Array Value) w, (callFunc 54 vs).run Tryz.prog w = .ok (.enter 54 vs) w := callFunc_run Tryz.func54 (by decide) rfl
theorem go55 : ∀ (vs : Array Value) w, (callFunc 55 vs).run Tryz.prog w = .ok (.enter 55 vs) w := callFunc_run Tryz.func55 (by decide) rfl
theorem go56 : ∀ (vs : Array Value) w, (callFunc 56 vs).run Tryz.prog w = .ok (.enter 56 vs) w := callFunc_run Tryz.func56 (by decide) rfl
theorem go57 : ∀ (vs : Array Value) w, (callFunc 57 vs).run Tryz.prog w = .ok (.enter 57 vs) w := callFunc_run Tryz.func57 (by decide) rfl
theorem go58 : ∀ (vs : Array Value) w, (callFunc 58 vs).run Tryz.prog w = .ok (.enter 58 vs) w := callFunc_run Tryz.func58 (by decide) rfl
theorem go59 : ∀ (vs : Array Value) w, (callFunc 59 vs).run Tryz.prog w = .ok (.enter 59 vs) w := callFunc_run Tryz.func59 (by decide) rfl
theorem go60 : ∀ (vs : Array Value) w, (callFunc 60 vs).run Tryz.prog w = .ok (.enter 60 vs) w := callFunc_run Tryz.func60 (by decide) rfl
theorem go61 : ∀ (vs : Array Value) w, (callFunc 61 vs).run Tryz.prog w = .ok (.enter 61 vs) w := callFunc_run Tryz.func61 (by decide) rfl
theorem go62 : ∀ (vs : Array Value) w, (callFunc 62 vs).run Tryz.prog w = .ok (.enter 62 vs) w := callFunc_run Tryz.func62 (by decide) rfl
theorem go63 : ∀ (vs : Array Value) w, (callFunc 63 vs).run Tryz.prog w = .ok (.enter 63 vs) w := callFunc_run Tryz.func63 (by decide) rfl
theorem go64 : ∀ (vs : Array Value) w, (callFunc 64 vs).run Tryz.prog w = .ok (.enter 64 vs) w := callFunc_run Tryz.func64 (by decide) rfl
theorem go65 : ∀ (vs : Array Value) w, (callFunc 65 vs).run Tryz.prog w = .ok (.enter 65 vs) w := callFunc_run Tryz.func65 (by decide) rfl
theorem go68 : ∀ (vs : Array Value) w, (callFunc 68 vs).run Tryz.prog w = .ok (.enter 68 vs) w := callFunc_run Tryz.func68 (by decide) rfl
theorem go69 : ∀ (vs : Array Value) w, (callFunc 69 vs).run Tryz.prog w = .ok (.enter 69 vs) w := callFunc_run Tryz.func69 (by decide) rfl
theorem go70 : ∀ (vs : Array Value) w, (callFunc 70 vs).run Tryz.prog w = .ok (.enter 70 vs) w := callFunc_run Tryz.func70 (by decide) rfl
theorem go71 : ∀ (vs : Array Value) w, (callFunc 71 vs).run Tryz.prog w = .ok (.enter 71 vs) w := callFunc_run Tryz.func71 (by decide) rfl
theorem go72 : ∀ (vs : Array Value) w, (callFunc 72 vs).run Tryz.prog w = .ok (.enter 72 vs) w := callFunc_run Tryz.func72 (by decide) rfl
theorem go73 : ∀ (vs : Array Value) w, (callFunc 73 vs).run Tryz.prog w = .ok (.enter 73 vs) w := callFunc_run Tryz.func73 (by decide) rfl
theorem go74 : ∀ (vs : Array Value) w, (callFunc 74 vs).run Tryz.prog w = .ok (.enter 74 vs) w := callFunc_run Tryz.func74 (by decide) rfl
theorem go77 : ∀ (vs : Array Value) w, (callFunc 77 vs).run Tryz.prog w = .ok (.enter 77 vs) w := callFunc_run Tryz.func77 (by decide) rfl
theorem go78 : ∀ (vs : Array Value) w, (callFunc 78 vs).run Tryz.prog w = .ok (.enter 78 vs) w := callFunc_run Tryz.func78 (by decide) rfl
theorem go81 : ∀ (vs : Array Value) w, (callFunc 81 vs).run Tryz.prog w = .ok (.enter 81 vs) w := callFunc_run Tryz.func81 (by decide) rfl
theorem go82 : ∀ (vs : Array Value) w, (callFunc 82 vs).run Tryz.prog w = .ok (.enter 82 vs) w := callFunc_run Tryz.func82 (by decide) rfl
theorem go83 : ∀ (vs : Array Value) w, (callFunc 83 vs).run Tryz.prog w = .ok (.enter 83 vs) w := callFunc_run Tryz.func83 (by decide) rfl
theorem go84 : ∀ (vs : Array Value) w, (callFunc 84 vs).run Tryz.prog w = .ok (.enter 84 vs) w := callFunc_run Tryz.func84 (by decide) rfl
theorem go85 : ∀ (vs : Array Value) w, (callFunc 85 vs).run Tryz.prog w = .ok (.enter 85 vs) w := callFunc_run Tryz.func85 (by decide) rfl
theorem go88 : ∀ (vs : Array Value) w, (callFunc 88 vs).run Tryz.prog w = .ok (.enter 88 vs) w := callFunc_run Tryz.func88 (by decide) rfl
theorem go90 : ∀ (vs : Array Value) w, (callFunc 90 vs).run Tryz.prog w = .ok (.enter 90 vs) w := callFunc_run Tryz.func90 (by decide) rfl
theorem go93 : ∀ (vs : Array Value) w, (callFunc 93 vs).run Tryz.prog w = .ok (.enter 93 vs) w := callFunc_run Tryz.func93 (by decide) rfl
theorem go96 : ∀ (vs : Array Value) w, (callFunc 96 vs).run Tryz.prog w = .ok (.enter 96 vs) w := callFunc_run Tryz.func96 (by decide) rfl
theorem go100 : ∀ (vs : Array Value) w, (callFunc 100 vs).run Tryz.prog w = .ok (.enter 100 vs) w := callFunc_run Tryz.func100 (by decide) rfl

end Go.Proofs.YtlhkpakbenghgaaGreat
