/-
  Texts of this claim, put together.
-/
import Derived.Test.YtiiiplhfgblamaaProg
import Derived.Test.YtiiiplhfgblamaaChecked
import Derived.Stop.BytesEq
import Derived.Laws.Cover3
import Derived.Test.YtiiiplhfgblamaaTxnALz0
/-
  Orders: keys, rows of pairs, what is found, put and deleted.
-/
set_option linter.unusedVariables false
namespace Brv
open Go
/-- What keys are: values that are compared. -/
class Key (κ : Type) where
  val : κ → Value
  lt : κ → κ → Bool
  one : ∀ k, (val k).oneCell' = true
  cell : ∀ k, (val k).cells = #[val k]
  irr : ∀ k, lt k k = false
  trans : ∀ a b c, lt a b = true → lt b c = true → lt a c = true
  tri : ∀ a b, lt a b = false → lt b a = false → a = b
theorem bl_irr : ∀ a : List UInt8, Op.bytesLess a a = false
  | [] => rfl
  | x :: r => by simp [Op.bytesLess, bl_irr r]
theorem bl_trans : ∀ a b c : List UInt8, Op.bytesLess a b = true → Op.bytesLess b c = true → Op.bytesLess a c = true
  | _, _, [], _, h => by simp [Op.bytesLess] at h
  | _, [], _ :: _, h, _ => by simp [Op.bytesLess] at h
  | [], _ :: _, _ :: _, _, _ => rfl
  | x :: a, y :: b, z :: c, h, k => by
    simp only [Op.bytesLess, Bool.or_eq_true, decide_eq_true_eq, Bool.and_eq_true, beq_iff_eq] at h k ⊢
    rcases h with h | ⟨rfl, h⟩
    · rcases k with k | ⟨rfl, k⟩
      · exact .inl (UInt8.lt_trans h k)
      · exact .inl h
    · rcases k with k | ⟨rfl, k⟩
      · exact .inl k
      · exact .inr ⟨rfl, bl_trans a b c h k⟩
theorem bl_tri : ∀ a b : List UInt8, Op.bytesLess a b = false → Op.bytesLess b a = false → a = b
  | [], [], _, _ => rfl
  | [], y :: b, h, _ => by simp [Op.bytesLess] at h
  | x :: a, [], _, h => by simp [Op.bytesLess] at h
  | x :: a, y :: b, h, k => by
    simp only [Op.bytesLess, Bool.or_eq_false_iff, decide_eq_false_iff_not] at h k
    have e : x = y := by
      have h1 := h.1; have k1 := k.1
      rw [UInt8.not_lt] at h1 k1
      exact UInt8.le_antisymm k1 h1
    subst e
    have h2 := h.2; have k2 := k.2
    simp at h2 k2
    rw [bl_tri a b h2 k2]
instance : Key Int := ⟨.int .i64, fun a b => decide (a < b), fun _ => rfl, fun _ => rfl, fun k => by simp, fun a b c h k => by simp at h k ⊢; omega, fun a b h k => by simp at h k; omega⟩
instance : Key (List UInt8) := ⟨fun k => .string (str k), Op.bytesLess, fun _ => rfl, fun _ => rfl, bl_irr, bl_trans, bl_tri⟩
section
variable {κ : Type} [Key κ]
/-- A key and a value's cells. -/
abbrev Pr (κ : Type) := κ × List Value
def pcell (p : Pr κ) : List Value := Key.val p.1 :: p.2
def pcells (ps : List (Pr κ)) : List Value := (ps.map pcell).flatten
def Sorted (ps : List (Pr κ)) : Prop := ps.Pairwise fun a b => Key.lt a.1 b.1 = true
/-- How many keys are below k. -/
def low (ps : List (Pr κ)) (k : κ) : Nat := (ps.takeWhile fun p => Key.lt p.1 k).length
def hasK (ps : List (Pr κ)) (k : κ) : Bool := match ps[low ps k]? with
  | some p => !Key.lt k p.1
  | none => false
theorem low_le (ps : List (Pr κ)) (k : κ) : low ps k ≤ ps.length := by
  unfold low
  exact (List.takeWhile_sublist _).length_le
theorem low_lt {ps : List (Pr κ)} {k : κ} {i : Nat} {p : Pr κ} (hi : i < low ps k) (hp : ps[i]? = some p) : Key.lt p.1 k = true := by
  unfold low at hi
  induction ps generalizing i with
  | nil => simp at hi
  | cons q r ih =>
    rw [List.takeWhile_cons] at hi
    split at hi
    · rename_i hq
      cases i with
      | zero => simp at hp; subst hp; exact hq
      | succ i => exact ih (by simpa using hi) (by simpa using hp)
    · simp at hi
theorem low_ge {ps : List (Pr κ)} (hs : Sorted ps) {k : κ} {i : Nat} {p : Pr κ} (hi : low ps k ≤ i) (hp : ps[i]? = some p) : Key.lt p.1 k = false := by
  unfold low at hi
  induction ps generalizing i with
  | nil => simp at hp
  | cons q r ih =>
    have hs' := List.pairwise_cons.1 hs
    rw [List.takeWhile_cons] at hi
    split at hi
    · rename_i hq
      cases i with
      | zero => simp at hi
      | succ i => exact ih hs'.2 (by simpa using hi) (by simpa using hp)
    · rename_i hq
      have hq' : Key.lt q.1 k = false := by simpa using hq
      cases i with
      | zero => simp at hp; subst hp; exact hq'
      | succ i =>
        have hm : p ∈ r := List.mem_of_getElem? (by simpa using hp)
        have h1 := hs'.1 p hm
        cases hc : Key.lt p.1 k with
        | false => rfl
        | true => rw [Key.trans _ _ _ h1 hc] at hq'; cases hq'
theorem hasK_iff {ps : List (Pr κ)} (hs : Sorted ps) {k : κ} : hasK ps k = true ↔ ∃ v, ps[low ps k]? = some (k, v) := by
  unfold hasK
  cases h : ps[low ps k]? with
  | none => simp
  | some p =>
    have hg := low_ge hs (Nat.le_refl _) h
    constructor
    · intro h1
      have h1 : Key.lt k p.1 = false := by simpa using h1
      have := Key.tri _ _ hg h1
      exact ⟨p.2, by rw [← this]⟩
    · rintro ⟨v, h1⟩
      cases h1
      have := Key.irr k
      simp [this]
def getK (ps : List (Pr κ)) (k : κ) : Option (List Value) := if hasK ps k then (ps[low ps k]?).map Prod.snd else none
def putK (ps : List (Pr κ)) (k : κ) (v : List Value) : List (Pr κ) := if hasK ps k then ps.set (low ps k) (k, v) else ps.take (low ps k) ++ (k, v) :: ps.drop (low ps k)
def delK (ps : List (Pr κ)) (k : κ) : List (Pr κ) := if hasK ps k then ps.take (low ps k) ++ ps.drop (low ps k + 1) else ps
theorem sorted_put {ps : List (Pr κ)} (hs : Sorted ps) (k : κ) (v : List Value) : Sorted (putK ps k v) := by
  have key : ∀ i p, ps[i]? = some p → i < low ps k → Key.lt p.1 k = true := fun i p hp hi => low_lt hi hp
  unfold putK
  split
  · rename_i hk
    obtain ⟨u, hu⟩ := (hasK_iff hs).1 hk
    unfold Sorted at hs ⊢
    rw [List.pairwise_iff_getElem] at hs ⊢
    intro i j hi hj hij
    rw [List.length_set] at hi hj
    have e : ∀ m (hm : m < ps.length), ((ps.set (low ps k) (k, v))[m]'(by rw [List.length_set]; exact hm)).1 = ps[m].1 := by
      intro m hm
      rw [List.getElem_set]
      split
      · rename_i e
        subst e
        rw [List.getElem?_eq_getElem hm] at hu
        cases hu' : ps[low ps k] with
        | mk a b => rw [hu'] at hu; cases hu; rfl
      · rfl
    rw [e i hi, e j hj]
    exact hs i j hi hj hij
  · rename_i hk
    unfold Sorted at hs ⊢
    rw [List.pairwise_append]
    refine ⟨hs.sublist (List.take_sublist _ _), List.pairwise_cons.2 ⟨fun p hp => ?_, hs.sublist (List.drop_sublist _ _)⟩, fun a ha b hb => ?_⟩
    · obtain ⟨j, hj, e⟩ := List.mem_iff_getElem.1 hp
      have hj' : low ps k + j < ps.length := by simp at hj; omega
      have hpp : ps[low ps k + j]? = some p := by rw [List.getElem?_eq_getElem hj', ← e, List.getElem_drop]
      have hg := low_ge hs (Nat.le_add_right _ _) hpp
      cases hc : Key.lt k p.1 with
      | true => rfl
      | false =>
        exfalso
        have e2 := Key.tri _ _ hg hc
        rcases Nat.eq_zero_or_pos j with rfl | hj0
        · refine hk ?_
          unfold hasK
          rw [show low ps k = low ps k + 0 from rfl, hpp]
          simp [hc]
        · have hl : low ps k < ps.length := by omega
          rw [List.pairwise_iff_getElem] at hs
          have h1 := hs (low ps k) (low ps k + j) hl hj' (by omega)
          have h2 := low_ge (k := k) (by rw [Sorted, List.pairwise_iff_getElem]; exact hs) (Nat.le_refl _) (List.getElem?_eq_getElem hl)
          rw [List.getElem?_eq_getElem hj'] at hpp
          have h3 : ps[low ps k + j] = p := by simpa using hpp
          rw [h3, e2] at h1
          rw [h1] at h2; cases h2
    · obtain ⟨i, hi, e⟩ := List.mem_iff_getElem.1 ha
      have hi' : i < low ps k := by simp at hi; omega
      have hil : i < ps.length := by simp at hi; omega
      have hak : Key.lt a.1 k = true := low_lt hi' (by rw [List.getElem?_eq_getElem hil, ← e, List.getElem_take])
      rcases List.mem_cons.1 hb with rfl | hb
      · exact hak
      · obtain ⟨j, hj, e'⟩ := List.mem_iff_getElem.1 hb
        have hj' : low ps k + j < ps.length := by simp at hj; omega
        rw [List.pairwise_iff_getElem] at hs
        have := hs i (low ps k + j) hil hj' (by omega)
        rw [← e, ← e', List.getElem_take, List.getElem_drop]
        exact this
theorem sorted_del {ps : List (Pr κ)} (hs : Sorted ps) (k : κ) : Sorted (delK ps k) := by
  unfold delK
  split
  · unfold Sorted at hs ⊢
    refine hs.sublist ?_
    have h1 : (ps.take (low ps k) ++ ps.drop (low ps k + 1)).Sublist (ps.take (low ps k) ++ ps.drop (low ps k)) := List.Sublist.append (List.Sublist.refl _) (List.drop_sublist_drop_left _ (by omega))
    rwa [List.take_append_drop] at h1
  · exact hs
theorem put_len {ps : List (Pr κ)} (k : κ) (v : List Value) : (putK ps k v).length = if hasK ps k then ps.length else ps.length + 1 := by
  have := low_le ps k
  unfold putK
  split
  · rw [List.length_set]
  · rw [List.length_append, List.length_cons, List.length_take, List.length_drop]; omega
theorem pcells_len {sv : Nat} {ps : List (Pr κ)} (h : ∀ p ∈ ps, p.2.length = sv) : (pcells ps).length = ps.length * (1 + sv) := by
  unfold pcells
  induction ps with
  | nil => simp
  | cons p r ih =>
    simp only [List.map_cons, List.flatten_cons, List.length_append, List.length_cons, pcell]
    rw [ih (fun q hq => h q (by simp [hq])), h p (by simp), Nat.add_mul]
    omega
theorem pcells_append (a b : List (Pr κ)) : pcells (a ++ b) = pcells a ++ pcells b := by simp [pcells]
theorem pcells_take {sv : Nat} {ps : List (Pr κ)} (h : ∀ p ∈ ps, p.2.length = sv) (i : Nat) (hi : i ≤ ps.length) : (pcells ps).take (i * (1 + sv)) = pcells (ps.take i) ∧ (pcells ps).drop (i * (1 + sv)) = pcells (ps.drop i) := by
  have e : pcells ps = pcells (ps.take i) ++ pcells (ps.drop i) := by rw [← pcells_append, List.take_append_drop]
  have hl : (pcells (ps.take i)).length = i * (1 + sv) := by
    rw [pcells_len (sv := sv) (fun p hp => h p (List.mem_of_mem_take hp)), List.length_take, Nat.min_eq_left hi]
  rw [e, ← hl, List.take_left, List.drop_left]
  exact ⟨rfl, rfl⟩
/-- Values of so many cells, each a cell. -/
def OkP (sv : Nat) (ps : List (Pr κ)) : Prop := ∀ p ∈ ps, p.2.length = sv ∧ ∀ u ∈ p.2, u.oneCell' = true
omit [Key κ] in
theorem OkP.len {sv : Nat} {ps : List (Pr κ)} (h : OkP sv ps) : ∀ p ∈ ps, p.2.length = sv := fun p hp => (h p hp).1
theorem pcell_one {sv : Nat} {ps : List (Pr κ)} (h : OkP sv ps) : ∀ u ∈ pcells ps, u.oneCell' = true := by
  intro u hu
  obtain ⟨c, hc, hu⟩ := List.mem_flatten.1 hu
  obtain ⟨p, hp, rfl⟩ := List.mem_map.1 hc
  rcases List.mem_cons.1 hu with rfl | hu
  · exact Key.one _
  · exact (h p hp).2 u hu
theorem OkP.put {sv : Nat} {ps : List (Pr κ)} (h : OkP sv ps) {k : κ} {v : List Value} (hv : v.length = sv ∧ ∀ u ∈ v, u.oneCell' = true) : OkP sv (putK ps k v) := by
  unfold putK
  split
  · intro p hp
    rcases List.mem_or_eq_of_mem_set hp with hp | rfl
    · exact h p hp
    · exact hv
  · intro p hp
    rcases List.mem_append.1 hp with hp | hp
    · exact h p (List.mem_of_mem_take hp)
    · rcases List.mem_cons.1 hp with rfl | hp
      · exact hv
      · exact h p (List.mem_of_mem_drop hp)
theorem OkP.del {sv : Nat} {ps : List (Pr κ)} (h : OkP sv ps) {k : κ} : OkP sv (delK ps k) := by
  unfold delK
  split
  · intro p hp
    rcases List.mem_append.1 hp with hp | hp
    · exact h p (List.mem_of_mem_take hp)
    · exact h p (List.mem_of_mem_drop hp)
  · exact h
/-- An order at m (TM: the type of orders, TP: of pairs). S: its blocks. -/
def MapAt (TM TP sv : Nat) (w : World) (m : Nat) (ps : List (Pr κ)) (S : List Nat) : Prop :=
  ∃ a c M, S = m :: M ∧ m ∉ M ∧ Blk w m #[.slice a ps.length c] TM (0, 0) ∧ Own w TP (1 + sv) a ps.length c (pcells ps) M ∧ OkP sv ps ∧ Sorted ps
theorem MapAt.ext {TM TP sv : Nat} {w w' : World} {m : Nat} {ps : List (Pr κ)} {S M' : List Nat} (h : MapAt TM TP sv w m ps S) (he : Ext M' w w') (hm : ∀ y ∈ S, y ∉ M') : MapAt TM TP sv w' m ps S := by
  obtain ⟨a, c, M, rfl, h0, h1, h2, h3, h4⟩ := h
  exact ⟨a, c, M, rfl, h0, h1.ext he (hm m (by simp)), h2.ext he (fun g hg => hm g (by simp [hg])), h3, h4⟩
theorem MapAt.ext0 {TM TP sv : Nat} {w w' : World} {m : Nat} {ps : List (Pr κ)} {S : List Nat} (h : MapAt TM TP sv w m ps S) (he : Ext [] w w') : MapAt TM TP sv w' m ps S := h.ext he (by simp)
theorem MapAt.lt {TM TP sv : Nat} {w : World} {m : Nat} {ps : List (Pr κ)} {S : List Nat} (h : MapAt TM TP sv w m ps S) : ∀ y ∈ S, y < w.heap.size := by
  obtain ⟨a, c, M, rfl, h0, h1, h2, h3, h4⟩ := h
  intro y hy
  rcases List.mem_cons.1 hy with rfl | hy
  · exact h1.lt
  · exact h2.lt y hy
theorem MapAt.still {TM TP sv : Nat} {w w' : World} {m : Nat} {ps : List (Pr κ)} {S : List Nat} (h : MapAt TM TP sv w m ps S) (hs : Still w w') : MapAt TM TP sv w' m ps S := by
  obtain ⟨a, c, M, rfl, h0, h1, h2, h3, h4⟩ := h
  exact ⟨a, c, M, rfl, h0, h1.still hs, h2.still hs, h3, h4⟩
theorem MapAt.sorted {TM TP sv : Nat} {w : World} {m : Nat} {ps : List (Pr κ)} {S : List Nat} (h : MapAt TM TP sv w m ps S) : Sorted ps := by
  obtain ⟨a, c, M, rfl, g0, g1, g2, g3, g4⟩ := h
  exact g4
theorem MapAt.ok {TM TP sv : Nat} {w : World} {m : Nat} {ps : List (Pr κ)} {S : List Nat} (h : MapAt TM TP sv w m ps S) : OkP sv ps := by
  obtain ⟨a, c, M, rfl, g0, g1, g2, g3, g4⟩ := h
  exact g3
end
section
variable {P : Program} {n : Fm} {ρ : Env} {w : World} {d : Nat} {ty : TypeId} {pos : String} {af : Array Edge} {gd : Option (Nat × Bool)}
end
theorem shr1 (a : Int) : a.fdiv (2 ^ (Min.min (1 : Int).toNat IntKind.u64.bits)) = a / 2 := Int.fdiv_eq_ediv_of_nonneg a (by decide)
section
variable {κ : Type} [Key κ]
def cmpF (x y : κ) : Int := if Key.lt x y then -1 else if Key.lt y x then 1 else 0
theorem cmpF_lt {x y : κ} (h : Key.lt x y = true) : cmpF x y = -1 := if_pos h
theorem cmpF_gt {x y : κ} (h : Key.lt x y = false) (h2 : Key.lt y x = true) : cmpF x y = 1 := by unfold cmpF; rw [if_neg (by simp [h]), if_pos h2]
theorem cmpF_eq {x y : κ} (h : Key.lt x y = false) (h2 : Key.lt y x = false) : cmpF x y = 0 := by unfold cmpF; rw [if_neg (by simp [h]), if_neg (by simp [h2])]
theorem cmpF_neg {x y : κ} : cmpF x y < 0 ↔ Key.lt x y = true := by
  unfold cmpF
  cases h : Key.lt x y
  · cases h2 : Key.lt y x <;> simp
  · simp
theorem cmpF_zero {x y : κ} (h : Key.lt x y = false) : cmpF x y = 0 ↔ Key.lt y x = false := by
  unfold cmpF
  rw [if_neg (by simp [h])]
  cases h2 : Key.lt y x <;> simp
theorem lt_low {ps : List (Pr κ)} (hs : Sorted ps) {k : κ} {i : Nat} {p : Pr κ} (hp : ps[i]? = some p) : (cmpF p.1 k < 0) ↔ i < low ps k := by
  rw [cmpF_neg]
  constructor
  · intro h
    rcases Nat.lt_or_ge i (low ps k) with h2 | h2
    · exact h2
    · rw [low_ge hs h2 hp] at h; cases h
  · exact fun h => low_lt h hp
theorem hasK_at {ps : List (Pr κ)} (hs : Sorted ps) {k : κ} {p : Pr κ} (hp : ps[low ps k]? = some p) : hasK ps k = decide (cmpF p.1 k = 0) := by
  unfold hasK
  rw [hp]
  have := cmpF_zero (low_ge hs (Nat.le_refl _) hp)
  cases h : Key.lt k p.1 <;> simp [h] at this ⊢ <;> simp [this]
theorem hasK_end {ps : List (Pr κ)} {k : κ} (h : ps.length ≤ low ps k) : hasK ps k = false := by
  unfold hasK
  rw [List.getElem?_eq_none h]
theorem Tab.pairs {w : World} {a : Option Addr} {n sv : Nat} {ps : List (Pr κ)} (h : Cells w a (pcells ps)) (hn : n = ps.length) (hok : OkP sv ps) : Tab w a n (1 + sv) (ps.map pcell) :=
  ⟨h, by rw [List.length_map]; exact hn, fun vs hv => by obtain ⟨p, hp, rfl⟩ := List.mem_map.1 hv; show p.2.length + 1 = _; rw [(hok p hp).1]; omega⟩
theorem Own.some {w : World} {E size : Nat} {a : Option Addr} {n cap : Nat} {xs : List Value} {M : List Nat} (h : Own w E size a n cap xs M) (hn : 0 < n) :
    ∃ g cur, a = Option.some ⟨g, 0, none⟩ ∧ M = [g] ∧ Blk w g cur E (0, 0) ∧ n ≤ cap ∧ cap ≤ maxLen ∧ cap * size ≤ cur.size ∧ cur.toList.take (n * size) = xs := by
  rcases h.2 with ⟨_, h2, _⟩ | h
  · omega
  · exact h
theorem over_grow {cur : Array Value} {X c1 c2 : List Value} {A s K : Nat} (hx : cur.toList.take A = X) (hA : A ≤ cur.size) (h1 : c1.length = s) (h2 : c2.length = K) (hr : A + s + K ≤ cur.size) : (Over (Over cur A c1) (A + s) c2).toList.take (A + s + K) = X ++ c1 ++ c2 ∧ (Over cur A c1).size = cur.size ∧ (Over (Over cur A c1) (A + s) c2).size = cur.size := by
  have s1 : (Over cur A c1).size = cur.size := Over.size (by omega)
  refine ⟨?_, s1, by rw [Over.size (by rw [s1]; omega), s1]⟩
  rw [← h2, Over.take (by rw [s1]; omega), ← h1, Over.take hA, hx]
theorem pcells_set {sv : Nat} {ps : List (Pr κ)} (h : OkP sv ps) {i : Nat} {k : κ} {u v : List Value} (hi : ps[i]? = some (k, u)) (hv : v.length = sv) :
    (pcells ps).take (i * (1 + sv) + 1) ++ v ++ (pcells ps).drop (i * (1 + sv) + 1 + v.length) = pcells (ps.set i (k, v)) := by
  have hlt : i < ps.length := (List.getElem?_eq_some_iff.1 hi).1
  have he : ps[i] = (k, u) := (List.getElem?_eq_some_iff.1 hi).2
  have e : ps = ps.take i ++ (k, u) :: ps.drop (i + 1) := by
    rw [← he, ← List.drop_eq_getElem_cons hlt, List.take_append_drop]
  have hu : u.length = sv := (h (k, u) (List.mem_of_getElem? hi)).1
  have hl : (pcells (ps.take i)).length = i * (1 + sv) := by rw [pcells_len (sv := sv) (fun p hp => (h p (List.mem_of_mem_take hp)).1), List.length_take, Nat.min_eq_left (by omega)]
  have e2 : pcells ps = (pcells (ps.take i) ++ [Key.val k]) ++ (u ++ pcells (ps.drop (i + 1))) := by
    conv => lhs; rw [e]
    rw [pcells_append]
    simp [pcells, pcell]
  have l2 : (pcells (ps.take i) ++ [Key.val k]).length = i * (1 + sv) + 1 := by rw [List.length_append, hl]; rfl
  have e3 : ps.set i (k, v) = ps.take i ++ (k, v) :: ps.drop (i + 1) := by rw [List.set_eq_take_append_cons_drop, if_pos hlt]
  rw [e3, pcells_append, e2, ← l2, List.take_left, List.drop_append, List.drop_of_length_le (by omega), List.nil_append, show (pcells (ps.take i) ++ [Key.val k]).length + v.length - (pcells (ps.take i) ++ [Key.val k]).length = u.length by omega, List.drop_left]
  simp [pcells, pcell]
theorem pcell1 {p : Pr κ} (h : ∀ u ∈ p.2, u.oneCell' = true) : ∀ u ∈ pcell p, u.oneCell' = true := by
  intro u hu
  rcases List.mem_cons.1 hu with rfl | hu
  · exact Key.one _
  · exact h u hu
omit [Key κ] in
theorem okIns {sv : Nat} {ps : List (Pr κ)} {i : Nat} {p : Pr κ} (h : OkP sv ps) (hp : p.2.length = sv ∧ ∀ u ∈ p.2, u.oneCell' = true) : OkP sv (ps.take i ++ p :: ps.drop i) := by
  intro q hq
  rcases List.mem_append.1 hq with hq | hq
  · exact h q (List.mem_of_mem_take hq)
  · rcases List.mem_cons.1 hq with rfl | hq
    · exact hp
    · exact h q (List.mem_of_mem_drop hq)
theorem pcells_ins {ps : List (Pr κ)} {i : Nat} {p : Pr κ} : pcells (ps.take i) ++ pcell p ++ pcells (ps.drop i) = pcells (ps.take i ++ p :: ps.drop i) := by simp [pcells]
end
theorem Over.one {cur : Array Value} {o : Nat} {v : Value} (h : o < cur.size) : cur.setIfInBounds o v = Over cur o [v] := by
  apply Array.toList_inj.1
  rw [Array.toList_setIfInBounds, List.set_eq_take_append_cons_drop, if_pos (by simpa using h)]
  simp [Over]
end Brv
/-
  Orders: what is got, put in place, deleted.
-/
set_option linter.unusedVariables false
namespace Brv
open Go
/-- A value that was got: of one cell, or of many. -/
def gv1 (z : Value) : Option (List Value) → Value
  | some (u :: _) => u
  | _ => z
section
variable {κ : Type} [Key κ]
theorem getK_no {ps : List (Pr κ)} {k : κ} (h : hasK ps k = false) : getK ps k = none := by unfold getK; rw [h]; rfl
theorem getK_yes {ps : List (Pr κ)} {k : κ} {p : Pr κ} (h : hasK ps k = true) (hp : ps[low ps k]? = some p) : getK ps k = some p.2 := by unfold getK; rw [h, hp]; rfl
theorem hasK_lt {ps : List (Pr κ)} {k : κ} (h : hasK ps k = true) : low ps k < ps.length := by
  unfold hasK at h
  cases hq : ps[low ps k]? with
  | none => rw [hq] at h; cases h
  | some p => exact (List.getElem?_eq_some_iff.1 hq).1
theorem putK_yes {ps : List (Pr κ)} {k : κ} {v : List Value} (h : hasK ps k = true) : putK ps k v = ps.set (low ps k) (k, v) := if_pos h
theorem putK_no {ps : List (Pr κ)} {k : κ} {v : List Value} (h : hasK ps k = false) : putK ps k v = ps.take (low ps k) ++ (k, v) :: ps.drop (low ps k) := if_neg (by simp [h])
theorem delK_yes {ps : List (Pr κ)} {k : κ} (h : hasK ps k = true) : delK ps k = ps.take (low ps k) ++ ps.drop (low ps k + 1) := if_pos h
theorem delK_no {ps : List (Pr κ)} {k : κ} (h : hasK ps k = false) : delK ps k = ps := if_neg (by simp [h])
theorem pcells_at {sv : Nat} {ps : List (Pr κ)} (h : OkP sv ps) {i j : Nat} {p : Pr κ} {x : Value} (hi : ps[i]? = some p) (hj : (pcell p)[j]? = some x) : (pcells ps)[i * (1 + sv) + j]? = some x := by
  have hlt : i < ps.length := (List.getElem?_eq_some_iff.1 hi).1
  have he : ps[i] = p := (List.getElem?_eq_some_iff.1 hi).2
  have e : ps = ps.take i ++ p :: ps.drop (i + 1) := by
    rw [← he, ← List.drop_eq_getElem_cons hlt, List.take_append_drop]
  have hl : (pcells (ps.take i)).length = i * (1 + sv) := by rw [pcells_len (sv := sv) (fun p hp => (h p (List.mem_of_mem_take hp)).1), List.length_take, Nat.min_eq_left (by omega)]
  have e2 : pcells ps = pcells (ps.take i) ++ (pcell p ++ pcells (ps.drop (i + 1))) := by
    conv => lhs; rw [e]
    rw [pcells_append]
    simp [pcells]
  have hjl : j < (pcell p).length := (List.getElem?_eq_some_iff.1 hj).1
  rw [e2, ← hl, List.getElem?_append_right (Nat.le_add_right _ _), Nat.add_sub_cancel_left, List.getElem?_append_left hjl, hj]
theorem row_at {sv n : Nat} {cur : Array Value} {ps : List (Pr κ)} (ht : cur.toList.take (n * (1 + sv)) = pcells ps) (h : OkP sv ps) {i j : Nat} {p : Pr κ} {x : Value} (hi : ps[i]? = some p) (hj : (pcell p)[j]? = some x) : cur[i * (1 + sv) + j]? = some x := by
  have h1 := pcells_at h hi hj
  rw [← ht, List.getElem?_take] at h1
  split at h1
  · rw [← Array.getElem?_toList]; exact h1
  · cases h1
theorem MapAt.mk {TM TP sv : Nat} {w : World} {m n c : Nat} {a : Option Addr} {ps : List (Pr κ)} {M : List Nat} (hm : m ∉ M) (hb : Blk w m #[.slice a n c] TM (0, 0)) (hn : n = ps.length) (ho : Own w TP (1 + sv) a n c (pcells ps) M) (hok : OkP sv ps) (hs : Sorted ps) : MapAt TM TP sv w m ps (m :: M) := by
  subst hn; exact ⟨a, c, M, rfl, hm, hb, ho, hok, hs⟩
/-- A row in which a value was put. -/
theorem own_set {w' : World} {TP sv n c g : Nat} {cur : Array Value} {ps : List (Pr κ)} {k : κ} {v : List Value} (hn : n = ps.length) (hok : OkP sv ps) (hs : Sorted ps) (hk : hasK ps k = true) (hv : v.length = sv)
    (hnc : n ≤ c) (hcm : c ≤ maxLen) (hcs : c * (1 + sv) ≤ cur.size) (ht : cur.toList.take (n * (1 + sv)) = pcells ps)
    (hb : Blk w' g (cur.toList.take (low ps k * (1 + sv) + 1) ++ v ++ cur.toList.drop (low ps k * (1 + sv) + 1 + v.length)).toArray TP (0, 0)) : Own w' TP (1 + sv) (some ⟨g, 0, none⟩) n c (pcells (putK ps k v)) [g] := by
  have hlt := hasK_lt hk
  obtain ⟨u, hu⟩ := (hasK_iff hs).1 hk
  have hle : (low ps k + 1) * (1 + sv) ≤ n * (1 + sv) := Nat.mul_le_mul_right _ (by omega)
  rw [Nat.add_mul, Nat.one_mul] at hle
  have hnc' : n * (1 + sv) ≤ c * (1 + sv) := Nat.mul_le_mul_right _ hnc
  have hcl : cur.toList.length = cur.size := Array.length_toList
  have hset := pcells_set hok hu hv
  refine ⟨by rw [putK_yes hk, pcells_len (sv := sv) (fun q hq => by rw [← putK_yes hk] at hq; rcases (show q ∈ ps ∨ q = (k, v) by rw [putK_yes hk] at hq; exact List.mem_or_eq_of_mem_set hq) with h | rfl; exact (hok q h).1; exact hv), List.length_set, hn], .inr ⟨g, _, rfl, rfl, hb, hnc, hcm, ?_, ?_⟩⟩
  · simp only [List.size_toArray, List.length_append, List.length_take, List.length_drop, hcl]; omega
  · show List.take _ (_ ++ v ++ _) = _
    rw [putK_yes hk, ← hset, ← ht]
    have t1 : (cur.toList.take (low ps k * (1 + sv) + 1)).length = low ps k * (1 + sv) + 1 := by rw [List.length_take, hcl]; omega
    rw [List.take_take, Nat.min_eq_left (by omega), List.take_append, List.take_of_length_le (by rw [List.length_append, t1]; omega)]
    congr 1
    rw [List.length_append, t1, List.drop_take]
end
/-- One cell set in a list of cells. -/
theorem set_at {cur : Array Value} {o : Nat} {v : Value} (h : o < cur.size) : cur.setIfInBounds o v = (cur.toList.take o ++ [v] ++ cur.toList.drop (o + [v].length)).toArray := by
  apply Array.toList_inj.1
  rw [Array.toList_setIfInBounds, List.set_eq_take_append_cons_drop, if_pos (by simpa using h)]
  simp
theorem Own.inv {w : World} {E s g n c : Nat} {xs : List Value} {M : List Nat} (h : Own w E s (Option.some ⟨g, 0, none⟩) n c xs M) : ∃ cur, M = [g] ∧ Blk w g cur E (0, 0) ∧ n ≤ c ∧ c ≤ maxLen ∧ c * s ≤ cur.size ∧ cur.toList.take (n * s) = xs := by
  rcases h.2 with ⟨h1, _⟩ | ⟨g', cur, h1, h2, h3⟩
  · cases h1
  · cases h1
    exact ⟨cur, h2, h3⟩
theorem own_over {w : World} {E s g n c : Nat} {cur : Array Value} {cs xs : List Value} (hl : xs.length = n * s) (hb : Blk w g (Over cur (n * s) cs) E (0, 0)) (hf : n * s + cs.length ≤ cur.size) (h1 : n ≤ c) (h2 : c ≤ maxLen) (h3 : c * s ≤ cur.size) (h4 : cur.toList.take (n * s) = xs) : Own w E s (some ⟨g, 0, none⟩) n c xs [g] := by
  refine ⟨hl, .inr ⟨g, _, rfl, rfl, hb, h1, h2, by rw [Over.size hf]; exact h3, ?_⟩⟩
  have hcl : cur.toList.length = cur.size := Array.length_toList
  show List.take (n * s) (cur.toList.take (n * s) ++ cs ++ cur.toList.drop (n * s + cs.length)) = _
  rw [List.append_assoc, List.take_append_of_le_length (by rw [List.length_take]; omega), List.take_take, Nat.min_self]
  exact h4
section
variable {κ : Type} [Key κ]
/-- What an iterator over pairs yields: a number (or so) and a pair. -/
def prE (q : Nat → Option (Pr κ)) (k : Nat) (vs : List Value) (_ : World) : Prop := ∃ p v, q k = some p ∧ vs = [v, .agg (pcell p).toArray]
/-- What an iterator over an order yields: a key and a value. -/
def kvE (gv : List Value → Value) (q : Nat → Option (Pr κ)) (k : Nat) (vs : List Value) (_ : World) : Prop := ∃ p, q k = some p ∧ vs = [Key.val p.1, gv p.2]
end
def gv1' (l : List Value) : Value := gv1 (.bool false) (some l)
theorem over_all {cs vs : Array Value} (h : cs.size = vs.size) : (cs.toList.take 0 ++ vs.toList ++ cs.toList.drop (0 + vs.size)).toArray = vs := by
  apply Array.toList_inj.1
  simp [h]
/-- Behind a walk over pairs: what the consumer keeps, and the function that is called. -/
def wkI (J : Nat → List Nat → World → Prop) (b2 TY : Nat) (y : Value) (k : Nat) (DD : List Nat) (W : World) : Prop := ∃ D, DD = b2 :: D ∧ b2 ∉ D ∧ J k D W ∧ Blk W b2 y.cells TY (0, 0)
def wkX (Jx : Nat → List Nat → World → Prop) (b2 : Nat) (c : Code) (k : Nat) (DD : List Nat) (W : World) : Prop := c = .ret ∧ ∃ D, DD = b2 :: D ∧ b2 ∉ D ∧ Jx k D W
section
variable {κ : Type} [Key κ]
def keysI (ps : List (Pr κ)) (TS TK b3 : Nat) (w0 : World) (k : Nat) (D : List Nat) (W : World) : Prop := ∃ a c MB, D = b3 :: MB ∧ Blk W b3 #[.slice a k c] TS (0, 0) ∧ Own W TK 1 a k c ((ps.take k).map fun p => Key.val p.1) MB ∧ (∀ g ∈ MB, w0.heap.size ≤ g ∧ g ≠ b3) ∧ w0.heap.size ≤ b3 ∧ Ext [] w0 W
theorem keysI_keep {ps : List (Pr κ)} {TS TK b3 : Nat} {w0 : World} {k s : Nat} {D M' : List Nat} {W W' : World} (hs : w0.heap.size ≤ s) (h : keysI ps TS TK b3 w0 k D W) (he : Ext M' W W') (hm : ∀ g ∈ M', g ∉ D ∧ (g ∈ ([] : List Nat) ∨ s ≤ g)) : keysI ps TS TK b3 w0 k D W' := by
  obtain ⟨a, c, MB, rfl, B3, o, hMB, h3, E⟩ := h
  exact ⟨a, c, MB, rfl, B3.ext he (fun h => (hm _ h).1 (by simp)), o.ext he (fun g hg h => (hm g h).1 (by simp [hg])), hMB, h3, E.transN he (fun g hg => (hm g hg).2.imp (by simp) (Nat.le_trans hs))⟩
theorem keys_succ {ps : List (Pr κ)} {k : Nat} {p : Pr κ} (hp : ps[k]? = some p) : ((ps.take k).map fun p => Key.val p.1) ++ [Key.val p.1] = ((ps.take (k + 1)).map fun p => Key.val p.1) := by
  rw [List.take_add_one, hp]; simp
end
end Brv
/-
  Orders: what is known of keys that are there; strings compared; slices of strings among the arguments.
-/
set_option linter.unusedVariables false
namespace Brv
open Go
section
variable {κ : Type} [Key κ]
theorem lt_irr {a b : κ} (h : Key.lt a b = true) : Key.lt b a = false := by
  cases hc : Key.lt b a with
  | false => rfl
  | true => have := Key.trans _ _ _ h hc; rw [Key.irr] at this; cases this
theorem low_at {ps : List (Pr κ)} (hs : Sorted ps) {i : Nat} {p : Pr κ} (hp : ps[i]? = some p) : low ps p.1 = i := by
  have hi : i < ps.length := (List.getElem?_eq_some_iff.1 hp).1
  have he : ps[i] = p := (List.getElem?_eq_some_iff.1 hp).2
  apply Nat.le_antisymm
  · refine Nat.le_of_not_lt fun h => ?_
    have := low_lt h hp
    rw [Key.irr] at this; cases this
  · refine Nat.le_of_not_lt fun h => ?_
    have hl : low ps p.1 < ps.length := by omega
    have h1 := low_ge (k := p.1) hs (Nat.le_refl _) (List.getElem?_eq_getElem hl)
    have h2 := (List.pairwise_iff_getElem.1 hs) _ _ hl hi h
    rw [he] at h2
    rw [h2] at h1; cases h1
theorem hasK_mem {ps : List (Pr κ)} (hs : Sorted ps) {p : Pr κ} (hp : p ∈ ps) : hasK ps p.1 = true ∧ getK ps p.1 = some p.2 := by
  obtain ⟨i, hi, he⟩ := List.mem_iff_getElem.1 hp
  have hp' : ps[i]? = some p := by rw [List.getElem?_eq_getElem hi, he]
  have hl := low_at hs hp'
  have hk : hasK ps p.1 = true := (hasK_iff hs).2 ⟨p.2, by rw [hl, hp']⟩
  exact ⟨hk, getK_yes hk (by rw [hl]; exact hp')⟩
theorem hasK_exists {ps : List (Pr κ)} (hs : Sorted ps) {k : κ} : hasK ps k = true ↔ ∃ p ∈ ps, p.1 = k := by
  constructor
  · intro h
    obtain ⟨v, hv⟩ := (hasK_iff hs).1 h
    exact ⟨(k, v), List.mem_of_getElem? hv, rfl⟩
  · rintro ⟨p, hp, rfl⟩
    exact (hasK_mem hs hp).1
theorem mem_put {ps : List (Pr κ)} (hs : Sorted ps) {k : κ} {v : List Value} {p : Pr κ} : p ∈ putK ps k v ↔ p = (k, v) ∨ (p ∈ ps ∧ p.1 ≠ k) := by
  have hlo := low_le ps k
  cases hk : hasK ps k with
  | true =>
    rw [putK_yes hk]
    obtain ⟨u, hu⟩ := (hasK_iff hs).1 hk
    have hlt := hasK_lt hk
    constructor
    · intro h
      obtain ⟨i, hi, he⟩ := List.mem_iff_getElem.1 h
      rw [List.length_set] at hi
      rw [List.getElem_set] at he
      split at he
      · exact .inl he.symm
      · rename_i hne
        have hp' : ps[i]? = some p := by rw [List.getElem?_eq_getElem hi, he]
        exact .inr ⟨List.mem_of_getElem? hp', fun e => hne (by rw [← low_at hs hp', e])⟩
    · rintro (rfl | ⟨h, hne⟩)
      · exact List.mem_iff_getElem.2 ⟨low ps k, by rw [List.length_set]; exact hlt, by rw [List.getElem_set_self]⟩
      · obtain ⟨i, hi, he⟩ := List.mem_iff_getElem.1 h
        have hp' : ps[i]? = some p := by rw [List.getElem?_eq_getElem hi, he]
        refine List.mem_iff_getElem.2 ⟨i, by rw [List.length_set]; exact hi, ?_⟩
        rw [List.getElem_set_ne, he]
        intro e
        subst e
        rw [hu] at hp'
        cases hp'
        exact hne rfl
  | false =>
    rw [putK_no hk]
    have h0 : ∀ p ∈ ps, p.1 ≠ k := fun p hp e => by
      have := (hasK_exists hs).2 ⟨p, hp, e⟩
      rw [hk] at this; cases this
    constructor
    · intro h
      rcases List.mem_append.1 h with h | h
      · exact .inr ⟨List.mem_of_mem_take h, h0 _ (List.mem_of_mem_take h)⟩
      · rcases List.mem_cons.1 h with rfl | h
        · exact .inl rfl
        · exact .inr ⟨List.mem_of_mem_drop h, h0 _ (List.mem_of_mem_drop h)⟩
    · rintro (rfl | ⟨h, -⟩)
      · simp
      · rw [← List.take_append_drop (low ps k) ps] at h
        rcases List.mem_append.1 h with h | h
        · exact List.mem_append_left _ h
        · exact List.mem_append_right _ (List.mem_cons_of_mem _ h)
end
section
variable {P : Program} {n : Fm} {ρ : Env} {w : World} {d : Nat} {ty : TypeId} {pos : String} {af : Array Edge} {gd : Option (Nat × Bool)}
end
end Brv
/-
  Orders, by definition: what the document's Put, Get, Delete and Floor come to, step by step.
-/
set_option linter.unusedVariables false
namespace Brv
open Go
section
variable {κ : Type} [Key κ]
end
end Brv
/-
  Plain laws on package record: writes that are merged.
-/
set_option linter.unusedVariables false
namespace Brv
open Go
abbrev Wr := Int × List UInt8
def toQ (p : Wr) : Pr Int := (p.1, vbs p.2)
theorem low_keys {ps qs : List (Pr Int)} (h : ps.map Prod.fst = qs.map Prod.fst) (k : Int) : low ps k = low qs k ∧ hasK ps k = hasK qs k := by
  have hl : low ps k = low qs k := by
    unfold low
    induction ps generalizing qs with
    | nil => cases qs with
      | nil => rfl
      | cons q qs => simp at h
    | cons p ps ih => cases qs with
      | nil => simp at h
      | cons q qs =>
        simp only [List.map_cons, List.cons.injEq] at h
        rw [List.takeWhile_cons, List.takeWhile_cons, h.1]
        split
        · rw [List.length_cons, List.length_cons, ih h.2]
        · rfl
  refine ⟨hl, ?_⟩
  have e := congrArg (fun l => l[low ps k]?) h
  simp only [List.getElem?_map] at e
  unfold hasK
  rw [← hl]
  cases h1 : ps[low ps k]? with
  | none => cases h2 : qs[low ps k]? with
    | none => rfl
    | some q => rw [h1, h2] at e; simp at e
  | some p => cases h2 : qs[low ps k]? with
    | none => rw [h1, h2] at e; simp at e
    | some q => rw [h1, h2] at e; simp at e; simp [e]
/-- Writes put behind each other. -/
def mergeP (ps : List (Pr Int)) (l : List Wr) : List (Pr Int) := l.foldl (fun ps w => putK ps w.1 (vbs w.2)) ps
theorem mergeP_append (ps : List (Pr Int)) (a b : List Wr) : mergeP ps (a ++ b) = mergeP (mergeP ps a) b := by simp [mergeP, List.foldl_append]
theorem mergeP_sorted {ps : List (Pr Int)} (h : Sorted ps) (l : List Wr) : Sorted (mergeP ps l) := by
  induction l generalizing ps with
  | nil => exact h
  | cons w l ih => exact ih (sorted_put h _ _)
/-- The last bytes of a block. -/
def lastOf : List Wr → Int → Option (List UInt8)
  | [], _ => none
  | w :: l, k => match lastOf l k with
    | some b => some b
    | none => if w.1 = k then some w.2 else none
theorem lastOf_append (a b : List Wr) (k : Int) : lastOf (a ++ b) k = match lastOf b k with
    | some x => some x
    | none => lastOf a k := by
  induction a with
  | nil => simp only [List.nil_append, lastOf]; cases lastOf b k <;> rfl
  | cons w a ih =>
    simp only [List.cons_append, lastOf, ih]
    cases lastOf b k <;> rfl
theorem mem_mergeP {ps : List (Pr Int)} (hs : Sorted ps) (l : List Wr) (p : Pr Int) : p ∈ mergeP ps l ↔ (∃ b, lastOf l p.1 = some b ∧ p.2 = vbs b) ∨ (lastOf l p.1 = none ∧ p ∈ ps) := by
  induction l generalizing ps with
  | nil => simp [mergeP, lastOf]
  | cons w l ih =>
    show p ∈ mergeP (putK ps w.1 (vbs w.2)) l ↔ _
    rw [ih (sorted_put hs _ _), mem_put hs]
    simp only [lastOf]
    cases lastOf l p.1 with
    | some b => simp
    | none =>
      by_cases h : w.1 = p.1
      · simp only [h, if_pos, reduceCtorEq, false_and, exists_false, false_or, true_and, Option.some.injEq]
        obtain ⟨k, v⟩ := p
        dsimp only at h ⊢
        simp
      · have h' : p.1 ≠ w.1 := fun e => h e.symm
        simp only [if_neg h, reduceCtorEq, false_and, exists_false, false_or, true_and]
        constructor
        · rintro (rfl | ⟨h1, _⟩)
          · exact absurd rfl h
          · exact h1
        · exact fun h1 => .inr ⟨h1, h'⟩
/-- Two sorted lists of the same pairs are alike. -/
theorem sorted_ext {κ : Type} [Key κ] {a b : List (Pr κ)} (ha : Sorted a) (hb : Sorted b) (h : ∀ p, p ∈ a ↔ p ∈ b) : a = b := by
  induction a generalizing b with
  | nil =>
    cases b with
    | nil => rfl
    | cons q b => exact absurd ((h q).2 (by simp)) (by simp)
  | cons p a ih =>
    cases b with
    | nil => exact absurd ((h p).1 (by simp)) (by simp)
    | cons q b =>
      have ha' := List.pairwise_cons.1 ha
      have hb' := List.pairwise_cons.1 hb
      have e : p = q := by
        rcases List.mem_cons.1 ((h p).1 (by simp)) with e | h1
        · exact e
        · rcases List.mem_cons.1 ((h q).2 (by simp)) with e | h2
          · exact e.symm
          · have := lt_irr (hb'.1 p h1)
            rw [ha'.1 q h2] at this; cases this
      subst e
      congr 1
      refine ih ha'.2 hb'.2 fun x => ?_
      have hx := h x
      simp only [List.mem_cons] at hx
      constructor
      · intro h1
        rcases hx.1 (.inr h1) with rfl | h2
        · have := ha'.1 x h1; rw [Key.irr] at this; cases this
        · exact h2
      · intro h1
        rcases hx.2 (.inr h1) with rfl | h2
        · have := hb'.1 x h1; rw [Key.irr] at this; cases this
        · exact h2
theorem vbs_inj {a b : List UInt8} (h : vbs a = vbs b) : a = b := by
  induction a generalizing b with
  | nil => cases b with
    | nil => rfl
    | cons y b => simp [vbs] at h
  | cons x a ih => cases b with
    | nil => simp [vbs] at h
    | cons y b =>
      simp only [vbs, List.map_cons, List.cons.injEq, vb, Value.int.injEq, true_and] at h
      have e : x = y := UInt8.toNat_inj.1 (by omega)
      rw [e, ih (show vbs a = vbs b from h.2)]
theorem toQ_inj {a b : List Wr} (h : a.map toQ = b.map toQ) : a = b := by
  induction a generalizing b with
  | nil => cases b with
    | nil => rfl
    | cons y b => simp at h
  | cons x a ih => cases b with
    | nil => simp at h
    | cons y b =>
      simp only [List.map_cons, List.cons.injEq] at h
      obtain ⟨h1, h2⟩ := h
      obtain ⟨k, l⟩ := x
      obtain ⟨k2, l2⟩ := y
      simp only [toQ, Prod.mk.injEq] at h1
      rw [h1.1, vbs_inj h1.2, ih h2]
theorem nil_sorted : Sorted ([] : List (Pr Int)) := List.Pairwise.nil
/-- What is merged has the last bytes of each block. -/
theorem lastOf_merged {l r : List Wr} (h : r.map toQ = mergeP [] l) (k : Int) : lastOf r k = lastOf l k := by
  have hs := mergeP_sorted nil_sorted l
  rw [← h] at hs
  have key : ∀ (r : List Wr), Sorted (r.map toQ) → ∀ k b, lastOf r k = some b ↔ (k, b) ∈ r := by
    intro r
    induction r with
    | nil => intro _ k b; simp [lastOf]
    | cons w r ih =>
      intro hs k b
      have hs' := List.pairwise_cons.1 hs
      have hi := ih hs'.2 k b
      simp only [lastOf]
      cases hl : lastOf r k with
      | some b' =>
        have hm := (ih hs'.2 k b').1 hl
        have hlt := hs'.1 (toQ (k, b')) (List.mem_map.2 ⟨_, hm, rfl⟩)
        have hne : w.1 ≠ k := fun e => by
          have h1 : Key.lt w.1 k = true := hlt
          rw [e, Key.irr] at h1; cases h1
        rw [hl] at hi
        rw [hi, List.mem_cons]
        constructor
        · exact .inr
        · rintro (rfl | h)
          · exact absurd rfl hne
          · exact h
      | none =>
        rw [hl] at hi
        simp only [reduceCtorEq, false_iff] at hi
        by_cases e : w.1 = k
        · rw [if_pos e, List.mem_cons]
          constructor
          · intro h; cases h; exact .inl (by rw [← e])
          · rintro (rfl | h)
            · rfl
            · exact absurd h hi
        · rw [if_neg e, List.mem_cons]
          constructor
          · intro h; cases h
          · rintro (rfl | h)
            · exact absurd rfl e
            · exact absurd h hi
  have hmem : ∀ b, lastOf r k = some b ↔ lastOf l k = some b := by
    intro b
    rw [key r hs k b]
    have h1 := mem_mergeP nil_sorted l (toQ (k, b))
    rw [← h] at h1
    constructor
    · intro hm
      rcases h1.1 (List.mem_map.2 ⟨_, hm, rfl⟩) with ⟨b2, h2, h3⟩ | ⟨_, h3⟩
      · have : b = b2 := vbs_inj h3
        rw [this]; exact h2
      · cases h3
    · intro hm
      obtain ⟨⟨k2, b2⟩, hm2, e⟩ := List.mem_map.1 (h1.2 (.inl ⟨b, hm, rfl⟩))
      simp only [toQ, Prod.mk.injEq] at e
      rw [← e.1, ← vbs_inj e.2]; exact hm2
  cases h1 : lastOf r k with
  | some b => rw [(hmem b).1 h1]
  | none => cases h2 : lastOf l k with
    | none => rfl
    | some b => rw [(hmem b).2 h2] at h1; cases h1
end Brv
/-
  What this seat's types are, as instances.
-/
namespace Go.Proofs.Ytiiiplhfgblamaa
open Go Brv
instance : TyOne Try.prog 1 := ⟨by kernel_rfl, by kernel_rfl⟩
instance : TyInt Try.prog 2 .i64 := ⟨Try.underlying2⟩
instance : TyOne Try.prog 2 := ⟨by kernel_rfl, by kernel_rfl⟩
instance : TyZero Try.prog 2 (.int .i64 0) := ⟨by kernel_rfl⟩
instance : TyInt Try.prog 3 .i64 := ⟨Try.underlying3⟩
instance : TyOne Try.prog 3 := ⟨by kernel_rfl, by kernel_rfl⟩
instance : TyZero Try.prog 3 (.int .i64 0) := ⟨by kernel_rfl⟩
instance : TyBool Try.prog 4 := ⟨Try.underlying4⟩
instance : TyOne Try.prog 4 := ⟨by kernel_rfl, by kernel_rfl⟩
instance : TyZero Try.prog 4 (.bool false) := ⟨by kernel_rfl⟩
instance : TyInt Try.prog 5 .u8 := ⟨Try.underlying5⟩
instance : TyOne Try.prog 5 := ⟨by kernel_rfl, by kernel_rfl⟩
instance : TyZero Try.prog 5 (.int .u8 0) := ⟨by kernel_rfl⟩
instance : TyAgg Try.prog 7 4 := ⟨by kernel_rfl, by kernel_rfl⟩
instance : TyField Try.prog 7 0 0 := ⟨_, _, Try.underlying7, rfl, rfl, by kernel_rfl⟩
instance : TyField Try.prog 7 1 1 := ⟨_, _, Try.underlying7, rfl, rfl, by kernel_rfl⟩
instance : TyField Try.prog 7 2 2 := ⟨_, _, Try.underlying7, rfl, rfl, by kernel_rfl⟩
instance : TyField Try.prog 7 3 3 := ⟨_, _, Try.underlying7, rfl, rfl, by kernel_rfl⟩
instance : TyBuilt Try.prog 7 (fun i => (#[(0, 1), (1, 1), (2, 1), (3, 1)] : Array (Nat × Nat))[i]?) (.agg #[.int .i64 0, .int .i64 0, .bool false, .int .u8 0]) := TyBuilt.struct (ps := [(0, 1), (1, 1), (2, 1), (3, 1)]) Try.underlying7 (by kernel_rfl) (by kernel_rfl)
instance : TyZero Try.prog 7 (.agg #[.int .i64 0, .int .i64 0, .bool false, .int .u8 0]) := ⟨by kernel_rfl⟩
instance : TyStr Try.prog 9 := ⟨Try.underlying9⟩
instance : TyOne Try.prog 9 := ⟨by kernel_rfl, by kernel_rfl⟩
instance : TyZero Try.prog 9 (.string ByteArray.empty) := ⟨by kernel_rfl⟩
instance : TyInt Try.prog 12 .u64 := ⟨Try.underlying12⟩
instance : TyOne Try.prog 12 := ⟨by kernel_rfl, by kernel_rfl⟩
instance : TyZero Try.prog 12 (.int .u64 0) := ⟨by kernel_rfl⟩
instance : TyAgg Try.prog 13 2 := ⟨by kernel_rfl, by kernel_rfl⟩
instance : TyField Try.prog 13 0 0 := ⟨_, _, Try.underlying13, rfl, rfl, by kernel_rfl⟩
instance : TyField Try.prog 13 1 1 := ⟨_, _, Try.underlying13, rfl, rfl, by kernel_rfl⟩
instance : TyBuilt Try.prog 13 (fun i => (#[(0, 1), (1, 1)] : Array (Nat × Nat))[i]?) (.agg #[.string ByteArray.empty, .int .u64 0]) := TyBuilt.struct (ps := [(0, 1), (1, 1)]) Try.underlying13 (by kernel_rfl) (by kernel_rfl)
instance : TyZero Try.prog 13 (.agg #[.string ByteArray.empty, .int .u64 0]) := ⟨by kernel_rfl⟩
instance : TyAgg Try.prog 18 1 := ⟨by kernel_rfl, by kernel_rfl⟩
instance : TyField Try.prog 18 0 0 := ⟨_, _, Try.underlying18, rfl, rfl, by kernel_rfl⟩
instance : TyBuilt Try.prog 18 (fun i => (#[(0, 1)] : Array (Nat × Nat))[i]?) (.agg #[.pointer none]) := TyBuilt.struct (ps := [(0, 1)]) Try.underlying18 (by kernel_rfl) (by kernel_rfl)
instance : TyZero Try.prog 18 (.agg #[.pointer none]) := ⟨by kernel_rfl⟩
instance : TyOne Try.prog 20 := ⟨by kernel_rfl, by kernel_rfl⟩
instance : TyInt Try.prog 21 .i32 := ⟨Try.underlying21⟩
instance : TyOne Try.prog 21 := ⟨by kernel_rfl, by kernel_rfl⟩
instance : TyZero Try.prog 21 (.int .i32 0) := ⟨by kernel_rfl⟩
instance : TyOne Try.prog 22 := ⟨by kernel_rfl, by kernel_rfl⟩
instance : TyZero Try.prog 22 (.slice none 0 0) := ⟨by kernel_rfl⟩
instance : TySlice Try.prog 22 40 2 32 (.agg #[.int .i64 0, .slice none 0 0]) := TySlice.of Try.underlying22 (by kernel_rfl) (by kernel_rfl) (by decide)
instance : TyAgg Try.prog 23 4 := ⟨by kernel_rfl, by kernel_rfl⟩
instance : TyField Try.prog 23 0 0 := ⟨_, _, Try.underlying23, rfl, rfl, by kernel_rfl⟩
instance : TyField Try.prog 23 1 1 := ⟨_, _, Try.underlying23, rfl, rfl, by kernel_rfl⟩
instance : TyField Try.prog 23 2 2 := ⟨_, _, Try.underlying23, rfl, rfl, by kernel_rfl⟩
instance : TyField Try.prog 23 3 3 := ⟨_, _, Try.underlying23, rfl, rfl, by kernel_rfl⟩
instance : TyBuilt Try.prog 23 (fun i => (#[(0, 1), (1, 1), (2, 1), (3, 1)] : Array (Nat × Nat))[i]?) (.agg #[.int .i64 0, .int .i64 0, .int .i64 0, .slice none 0 0]) := TyBuilt.struct (ps := [(0, 1), (1, 1), (2, 1), (3, 1)]) Try.underlying23 (by kernel_rfl) (by kernel_rfl)
instance : TyZero Try.prog 23 (.agg #[.int .i64 0, .int .i64 0, .int .i64 0, .slice none 0 0]) := ⟨by kernel_rfl⟩
instance : TyAgg Try.prog 24 4 := ⟨by kernel_rfl, by kernel_rfl⟩
instance : TyField Try.prog 24 0 0 := ⟨_, _, Try.underlying24, rfl, rfl, by kernel_rfl⟩
instance : TyField Try.prog 24 1 1 := ⟨_, _, Try.underlying24, rfl, rfl, by kernel_rfl⟩
instance : TyField Try.prog 24 2 2 := ⟨_, _, Try.underlying24, rfl, rfl, by kernel_rfl⟩
instance : TyField Try.prog 24 3 3 := ⟨_, _, Try.underlying24, rfl, rfl, by kernel_rfl⟩
instance : TyBuilt Try.prog 24 (fun i => (#[(0, 1), (1, 1), (2, 1), (3, 1)] : Array (Nat × Nat))[i]?) (.agg #[.int .i64 0, .int .i64 0, .int .i64 0, .slice none 0 0]) := TyBuilt.struct (ps := [(0, 1), (1, 1), (2, 1), (3, 1)]) Try.underlying24 (by kernel_rfl) (by kernel_rfl)
instance : TyZero Try.prog 24 (.agg #[.int .i64 0, .int .i64 0, .int .i64 0, .slice none 0 0]) := ⟨by kernel_rfl⟩
instance : TyOne Try.prog 25 := ⟨by kernel_rfl, by kernel_rfl⟩
instance : TyZero Try.prog 25 (.slice none 0 0) := ⟨by kernel_rfl⟩
instance : TySlice Try.prog 25 5 1 1 (.int .u8 0) := TySlice.of Try.underlying25 (by kernel_rfl) (by kernel_rfl) (by decide)
instance : TyBytes Try.prog 25 5 := ⟨Try.underlying25, Try.underlying5⟩
instance : TyOne Try.prog 26 := ⟨by kernel_rfl, by kernel_rfl⟩
instance : TyOne Try.prog 27 := ⟨by kernel_rfl, by kernel_rfl⟩
instance : TyOne Try.prog 28 := ⟨by kernel_rfl, by kernel_rfl⟩
instance : TyOne Try.prog 29 := ⟨by kernel_rfl, by kernel_rfl⟩
instance : TyInt Try.prog 30 .i64 := ⟨Try.underlying30⟩
instance : TyOne Try.prog 30 := ⟨by kernel_rfl, by kernel_rfl⟩
instance : TyZero Try.prog 30 (.int .i64 0) := ⟨by kernel_rfl⟩
instance : TyOne Try.prog 32 := ⟨by kernel_rfl, by kernel_rfl⟩
instance : TyOne Try.prog 34 := ⟨by kernel_rfl, by kernel_rfl⟩
instance : TyOne Try.prog 35 := ⟨by kernel_rfl, by kernel_rfl⟩
instance : TyOne Try.prog 36 := ⟨by kernel_rfl, by kernel_rfl⟩
instance : TyOne Try.prog 37 := ⟨by kernel_rfl, by kernel_rfl⟩
instance : TyOne Try.prog 38 := ⟨by kernel_rfl, by kernel_rfl⟩
instance : TyZero Try.prog 38 (.slice none 0 0) := ⟨by kernel_rfl⟩
instance : TySlice Try.prog 38 22 1 24 (.slice none 0 0) := TySlice.of Try.underlying38 (by kernel_rfl) (by kernel_rfl) (by decide)
instance : TyAgg Try.prog 39 2 := ⟨by kernel_rfl, by kernel_rfl⟩
instance : TyField Try.prog 39 0 0 := ⟨_, _, Try.underlying39, rfl, rfl, by kernel_rfl⟩
instance : TyField Try.prog 39 1 1 := ⟨_, _, Try.underlying39, rfl, rfl, by kernel_rfl⟩
instance : TyBuilt Try.prog 39 (fun i => (#[(0, 1), (1, 1)] : Array (Nat × Nat))[i]?) (.agg #[.int .i64 0, .slice none 0 0]) := TyBuilt.struct (ps := [(0, 1), (1, 1)]) Try.underlying39 (by kernel_rfl) (by kernel_rfl)
instance : TyZero Try.prog 39 (.agg #[.int .i64 0, .slice none 0 0]) := ⟨by kernel_rfl⟩
instance : TyAgg Try.prog 40 2 := ⟨by kernel_rfl, by kernel_rfl⟩
instance : TyField Try.prog 40 0 0 := ⟨_, _, Try.underlying40, rfl, rfl, by kernel_rfl⟩
instance : TyField Try.prog 40 1 1 := ⟨_, _, Try.underlying40, rfl, rfl, by kernel_rfl⟩
instance : TyBuilt Try.prog 40 (fun i => (#[(0, 1), (1, 1)] : Array (Nat × Nat))[i]?) (.agg #[.int .i64 0, .slice none 0 0]) := TyBuilt.struct (ps := [(0, 1), (1, 1)]) Try.underlying40 (by kernel_rfl) (by kernel_rfl)
instance : TyZero Try.prog 40 (.agg #[.int .i64 0, .slice none 0 0]) := ⟨by kernel_rfl⟩
instance : TyOne Try.prog 41 := ⟨by kernel_rfl, by kernel_rfl⟩
instance : TyOne Try.prog 42 := ⟨by kernel_rfl, by kernel_rfl⟩
instance : TyOne Try.prog 43 := ⟨by kernel_rfl, by kernel_rfl⟩
instance : TyOne Try.prog 44 := ⟨by kernel_rfl, by kernel_rfl⟩
instance : TyOne Try.prog 45 := ⟨by kernel_rfl, by kernel_rfl⟩
instance : TyOne Try.prog 46 := ⟨by kernel_rfl, by kernel_rfl⟩
instance : TyOne Try.prog 47 := ⟨by kernel_rfl, by kernel_rfl⟩
instance : TyZero Try.prog 47 (.slice none 0 0) := ⟨by kernel_rfl⟩
instance : TySlice Try.prog 47 55 4 48 (.agg #[.int .i64 0, .int .i64 0, .int .i64 0, .slice none 0 0]) := TySlice.of Try.underlying47 (by kernel_rfl) (by kernel_rfl) (by decide)
instance : TyPtr Try.prog 48 := ⟨_, Try.underlying48⟩
instance : TyOne Try.prog 48 := ⟨by kernel_rfl, by kernel_rfl⟩
instance : TyZero Try.prog 48 (.pointer none) := ⟨by kernel_rfl⟩
instance : TyOne Try.prog 50 := ⟨by kernel_rfl, by kernel_rfl⟩
instance : TyOne Try.prog 52 := ⟨by kernel_rfl, by kernel_rfl⟩
instance : TyOne Try.prog 53 := ⟨by kernel_rfl, by kernel_rfl⟩
instance : TyAgg Try.prog 54 4 := ⟨by kernel_rfl, by kernel_rfl⟩
instance : TyField Try.prog 54 0 0 := ⟨_, _, Try.underlying54, rfl, rfl, by kernel_rfl⟩
instance : TyField Try.prog 54 1 1 := ⟨_, _, Try.underlying54, rfl, rfl, by kernel_rfl⟩
instance : TyField Try.prog 54 2 2 := ⟨_, _, Try.underlying54, rfl, rfl, by kernel_rfl⟩
instance : TyField Try.prog 54 3 3 := ⟨_, _, Try.underlying54, rfl, rfl, by kernel_rfl⟩
instance : TyBuilt Try.prog 54 (fun i => (#[(0, 1), (1, 1), (2, 1), (3, 1)] : Array (Nat × Nat))[i]?) (.agg #[.int .i64 0, .int .i64 0, .int .i64 0, .slice none 0 0]) := TyBuilt.struct (ps := [(0, 1), (1, 1), (2, 1), (3, 1)]) Try.underlying54 (by kernel_rfl) (by kernel_rfl)
instance : TyZero Try.prog 54 (.agg #[.int .i64 0, .int .i64 0, .int .i64 0, .slice none 0 0]) := ⟨by kernel_rfl⟩
instance : TyAgg Try.prog 55 4 := ⟨by kernel_rfl, by kernel_rfl⟩
instance : TyField Try.prog 55 0 0 := ⟨_, _, Try.underlying55, rfl, rfl, by kernel_rfl⟩
instance : TyField Try.prog 55 1 1 := ⟨_, _, Try.underlying55, rfl, rfl, by kernel_rfl⟩
instance : TyField Try.prog 55 2 2 := ⟨_, _, Try.underlying55, rfl, rfl, by kernel_rfl⟩
instance : TyField Try.prog 55 3 3 := ⟨_, _, Try.underlying55, rfl, rfl, by kernel_rfl⟩
instance : TyBuilt Try.prog 55 (fun i => (#[(0, 1), (1, 1), (2, 1), (3, 1)] : Array (Nat × Nat))[i]?) (.agg #[.int .i64 0, .int .i64 0, .int .i64 0, .slice none 0 0]) := TyBuilt.struct (ps := [(0, 1), (1, 1), (2, 1), (3, 1)]) Try.underlying55 (by kernel_rfl) (by kernel_rfl)
instance : TyZero Try.prog 55 (.agg #[.int .i64 0, .int .i64 0, .int .i64 0, .slice none 0 0]) := ⟨by kernel_rfl⟩
instance : TyOne Try.prog 56 := ⟨by kernel_rfl, by kernel_rfl⟩
instance : TyOne Try.prog 58 := ⟨by kernel_rfl, by kernel_rfl⟩
instance : TyOne Try.prog 61 := ⟨by kernel_rfl, by kernel_rfl⟩
instance : TyOne Try.prog 62 := ⟨by kernel_rfl, by kernel_rfl⟩
instance : TyOne Try.prog 63 := ⟨by kernel_rfl, by kernel_rfl⟩
instance : TyOne Try.prog 64 := ⟨by kernel_rfl, by kernel_rfl⟩
instance : TyZero Try.prog 64 (.slice none 0 0) := ⟨by kernel_rfl⟩
instance : TySlice Try.prog 64 80 2 32 (.agg #[.int .i64 0, .slice none 0 0]) := TySlice.of Try.underlying64 (by kernel_rfl) (by kernel_rfl) (by decide)
instance : TyAgg Try.prog 65 3 := ⟨by kernel_rfl, by kernel_rfl⟩
instance : TyField Try.prog 65 0 0 := ⟨_, _, Try.underlying65, rfl, rfl, by kernel_rfl⟩
instance : TyField Try.prog 65 1 1 := ⟨_, _, Try.underlying65, rfl, rfl, by kernel_rfl⟩
instance : TyField Try.prog 65 2 2 := ⟨_, _, Try.underlying65, rfl, rfl, by kernel_rfl⟩
instance : TyBuilt Try.prog 65 (fun i => (#[(0, 1), (1, 1), (2, 1)] : Array (Nat × Nat))[i]?) (.agg #[.int .i64 0, .int .i64 0, .slice none 0 0]) := TyBuilt.struct (ps := [(0, 1), (1, 1), (2, 1)]) Try.underlying65 (by kernel_rfl) (by kernel_rfl)
instance : TyZero Try.prog 65 (.agg #[.int .i64 0, .int .i64 0, .slice none 0 0]) := ⟨by kernel_rfl⟩
instance : TyAgg Try.prog 66 3 := ⟨by kernel_rfl, by kernel_rfl⟩
instance : TyField Try.prog 66 0 0 := ⟨_, _, Try.underlying66, rfl, rfl, by kernel_rfl⟩
instance : TyField Try.prog 66 1 1 := ⟨_, _, Try.underlying66, rfl, rfl, by kernel_rfl⟩
instance : TyField Try.prog 66 2 2 := ⟨_, _, Try.underlying66, rfl, rfl, by kernel_rfl⟩
instance : TyBuilt Try.prog 66 (fun i => (#[(0, 1), (1, 1), (2, 1)] : Array (Nat × Nat))[i]?) (.agg #[.int .i64 0, .int .i64 0, .slice none 0 0]) := TyBuilt.struct (ps := [(0, 1), (1, 1), (2, 1)]) Try.underlying66 (by kernel_rfl) (by kernel_rfl)
instance : TyZero Try.prog 66 (.agg #[.int .i64 0, .int .i64 0, .slice none 0 0]) := ⟨by kernel_rfl⟩
instance : TyOne Try.prog 67 := ⟨by kernel_rfl, by kernel_rfl⟩
instance : TyZero Try.prog 67 (.slice none 0 0) := ⟨by kernel_rfl⟩
instance : TySlice Try.prog 67 3 1 8 (.int .i64 0) := TySlice.of Try.underlying67 (by kernel_rfl) (by kernel_rfl) (by decide)
instance : TyOne Try.prog 68 := ⟨by kernel_rfl, by kernel_rfl⟩
instance : TyInt Try.prog 69 .u64 := ⟨Try.underlying69⟩
instance : TyOne Try.prog 69 := ⟨by kernel_rfl, by kernel_rfl⟩
instance : TyZero Try.prog 69 (.int .u64 0) := ⟨by kernel_rfl⟩
instance : TyOne Try.prog 71 := ⟨by kernel_rfl, by kernel_rfl⟩
instance : TyOne Try.prog 73 := ⟨by kernel_rfl, by kernel_rfl⟩
instance : TyOne Try.prog 75 := ⟨by kernel_rfl, by kernel_rfl⟩
instance : TyOne Try.prog 77 := ⟨by kernel_rfl, by kernel_rfl⟩
instance : TyOne Try.prog 78 := ⟨by kernel_rfl, by kernel_rfl⟩
instance : TyAgg Try.prog 79 2 := ⟨by kernel_rfl, by kernel_rfl⟩
instance : TyField Try.prog 79 0 0 := ⟨_, _, Try.underlying79, rfl, rfl, by kernel_rfl⟩
instance : TyField Try.prog 79 1 1 := ⟨_, _, Try.underlying79, rfl, rfl, by kernel_rfl⟩
instance : TyBuilt Try.prog 79 (fun i => (#[(0, 1), (1, 1)] : Array (Nat × Nat))[i]?) (.agg #[.int .i64 0, .slice none 0 0]) := TyBuilt.struct (ps := [(0, 1), (1, 1)]) Try.underlying79 (by kernel_rfl) (by kernel_rfl)
instance : TyZero Try.prog 79 (.agg #[.int .i64 0, .slice none 0 0]) := ⟨by kernel_rfl⟩
instance : TyAgg Try.prog 80 2 := ⟨by kernel_rfl, by kernel_rfl⟩
instance : TyField Try.prog 80 0 0 := ⟨_, _, Try.underlying80, rfl, rfl, by kernel_rfl⟩
instance : TyField Try.prog 80 1 1 := ⟨_, _, Try.underlying80, rfl, rfl, by kernel_rfl⟩
instance : TyBuilt Try.prog 80 (fun i => (#[(0, 1), (1, 1)] : Array (Nat × Nat))[i]?) (.agg #[.int .i64 0, .slice none 0 0]) := TyBuilt.struct (ps := [(0, 1), (1, 1)]) Try.underlying80 (by kernel_rfl) (by kernel_rfl)
instance : TyZero Try.prog 80 (.agg #[.int .i64 0, .slice none 0 0]) := ⟨by kernel_rfl⟩
instance : TyOne Try.prog 81 := ⟨by kernel_rfl, by kernel_rfl⟩
instance : TyOne Try.prog 82 := ⟨by kernel_rfl, by kernel_rfl⟩
instance : TyZero Try.prog 82 (.slice none 0 0) := ⟨by kernel_rfl⟩
instance : TySlice Try.prog 82 83 1 8 (.int .u64 0) := TySlice.of Try.underlying82 (by kernel_rfl) (by kernel_rfl) (by decide)
instance : TyInt Try.prog 83 .u64 := ⟨Try.underlying83⟩
instance : TyOne Try.prog 83 := ⟨by kernel_rfl, by kernel_rfl⟩
instance : TyZero Try.prog 83 (.int .u64 0) := ⟨by kernel_rfl⟩
instance : TyOne Try.prog 84 := ⟨by kernel_rfl, by kernel_rfl⟩
instance : TyOne Try.prog 85 := ⟨by kernel_rfl, by kernel_rfl⟩
instance : TyOne Try.prog 86 := ⟨by kernel_rfl, by kernel_rfl⟩
instance : TyOne Try.prog 87 := ⟨by kernel_rfl, by kernel_rfl⟩
instance : TyPtr Try.prog 88 := ⟨_, Try.underlying88⟩
instance : TyOne Try.prog 88 := ⟨by kernel_rfl, by kernel_rfl⟩
instance : TyZero Try.prog 88 (.pointer none) := ⟨by kernel_rfl⟩
instance : TyOne Try.prog 90 := ⟨by kernel_rfl, by kernel_rfl⟩
instance : TyOne Try.prog 91 := ⟨by kernel_rfl, by kernel_rfl⟩
instance : TyZero Try.prog 91 (.slice none 0 0) := ⟨by kernel_rfl⟩
instance : TySlice Try.prog 91 82 1 24 (.slice none 0 0) := TySlice.of Try.underlying91 (by kernel_rfl) (by kernel_rfl) (by decide)
instance : TyOne Try.prog 92 := ⟨by kernel_rfl, by kernel_rfl⟩
instance : TyOne Try.prog 94 := ⟨by kernel_rfl, by kernel_rfl⟩
instance : TyOne Try.prog 95 := ⟨by kernel_rfl, by kernel_rfl⟩
instance : TyOne Try.prog 96 := ⟨by kernel_rfl, by kernel_rfl⟩
instance : TyOne Try.prog 97 := ⟨by kernel_rfl, by kernel_rfl⟩
instance : TyOne Try.prog 98 := ⟨by kernel_rfl, by kernel_rfl⟩
instance : TyOne Try.prog 99 := ⟨by kernel_rfl, by kernel_rfl⟩
instance : TyOne Try.prog 100 := ⟨by kernel_rfl, by kernel_rfl⟩
instance : TyOne Try.prog 101 := ⟨by kernel_rfl, by kernel_rfl⟩
instance : TyOne Try.prog 102 := ⟨by kernel_rfl, by kernel_rfl⟩
instance : TyOne Try.prog 104 := ⟨by kernel_rfl, by kernel_rfl⟩
instance : TyOne Try.prog 105 := ⟨by kernel_rfl, by kernel_rfl⟩
instance : TyOne Try.prog 106 := ⟨by kernel_rfl, by kernel_rfl⟩
instance : TyOne Try.prog 107 := ⟨by kernel_rfl, by kernel_rfl⟩
instance : TyOne Try.prog 108 := ⟨by kernel_rfl, by kernel_rfl⟩
instance : TyOne Try.prog 109 := ⟨by kernel_rfl, by kernel_rfl⟩
instance : TyPtr Try.prog 110 := ⟨_, Try.underlying110⟩
instance : TyOne Try.prog 110 := ⟨by kernel_rfl, by kernel_rfl⟩
instance : TyZero Try.prog 110 (.pointer none) := ⟨by kernel_rfl⟩
instance : TyOne Try.prog 111 := ⟨by kernel_rfl, by kernel_rfl⟩
instance : TyOne Try.prog 113 := ⟨by kernel_rfl, by kernel_rfl⟩
instance : TyOne Try.prog 114 := ⟨by kernel_rfl, by kernel_rfl⟩
instance : TyPtr Try.prog 115 := ⟨_, Try.underlying115⟩
instance : TyOne Try.prog 115 := ⟨by kernel_rfl, by kernel_rfl⟩
instance : TyZero Try.prog 115 (.pointer none) := ⟨by kernel_rfl⟩
instance : TyAgg Try.prog 116 2 := ⟨by kernel_rfl, by kernel_rfl⟩
instance : TyField Try.prog 116 0 0 := ⟨_, _, Try.underlying116, rfl, rfl, by kernel_rfl⟩
instance : TyField Try.prog 116 1 1 := ⟨_, _, Try.underlying116, rfl, rfl, by kernel_rfl⟩
instance : TyBuilt Try.prog 116 (fun i => (#[(0, 1), (1, 1)] : Array (Nat × Nat))[i]?) (.agg #[.string ByteArray.empty, .int .i64 0]) := TyBuilt.struct (ps := [(0, 1), (1, 1)]) Try.underlying116 (by kernel_rfl) (by kernel_rfl)
instance : TyZero Try.prog 116 (.agg #[.string ByteArray.empty, .int .i64 0]) := ⟨by kernel_rfl⟩
instance : TyAgg Try.prog 117 2 := ⟨by kernel_rfl, by kernel_rfl⟩
instance : TyField Try.prog 117 0 0 := ⟨_, _, Try.underlying117, rfl, rfl, by kernel_rfl⟩
instance : TyField Try.prog 117 1 1 := ⟨_, _, Try.underlying117, rfl, rfl, by kernel_rfl⟩
instance : TyBuilt Try.prog 117 (fun i => (#[(0, 1), (1, 1)] : Array (Nat × Nat))[i]?) (.agg #[.string ByteArray.empty, .int .i64 0]) := TyBuilt.struct (ps := [(0, 1), (1, 1)]) Try.underlying117 (by kernel_rfl) (by kernel_rfl)
instance : TyZero Try.prog 117 (.agg #[.string ByteArray.empty, .int .i64 0]) := ⟨by kernel_rfl⟩
instance : TyOne Try.prog 118 := ⟨by kernel_rfl, by kernel_rfl⟩
instance : TyOne Try.prog 119 := ⟨by kernel_rfl, by kernel_rfl⟩
instance : TyPtr Try.prog 120 := ⟨_, Try.underlying120⟩
instance : TyOne Try.prog 120 := ⟨by kernel_rfl, by kernel_rfl⟩
instance : TyZero Try.prog 120 (.pointer none) := ⟨by kernel_rfl⟩
instance : TyAgg Try.prog 121 1 := ⟨by kernel_rfl, by kernel_rfl⟩
instance : TyField Try.prog 121 0 0 := ⟨_, _, Try.underlying121, rfl, rfl, by kernel_rfl⟩
instance : TyBuilt Try.prog 121 (fun i => (#[(0, 1)] : Array (Nat × Nat))[i]?) (.agg #[.slice none 0 0]) := TyBuilt.struct (ps := [(0, 1)]) Try.underlying121 (by kernel_rfl) (by kernel_rfl)
instance : TyZero Try.prog 121 (.agg #[.slice none 0 0]) := ⟨by kernel_rfl⟩
instance : TyAgg Try.prog 122 1 := ⟨by kernel_rfl, by kernel_rfl⟩
instance : TyField Try.prog 122 0 0 := ⟨_, _, Try.underlying122, rfl, rfl, by kernel_rfl⟩
instance : TyBuilt Try.prog 122 (fun i => (#[(0, 1)] : Array (Nat × Nat))[i]?) (.agg #[.slice none 0 0]) := TyBuilt.struct (ps := [(0, 1)]) Try.underlying122 (by kernel_rfl) (by kernel_rfl)
instance : TyZero Try.prog 122 (.agg #[.slice none 0 0]) := ⟨by kernel_rfl⟩
instance : TyOne Try.prog 123 := ⟨by kernel_rfl, by kernel_rfl⟩
instance : TyOne Try.prog 124 := ⟨by kernel_rfl, by kernel_rfl⟩
instance : TyOne Try.prog 125 := ⟨by kernel_rfl, by kernel_rfl⟩
instance : TyOne Try.prog 126 := ⟨by kernel_rfl, by kernel_rfl⟩
instance : TyPtr Try.prog 127 := ⟨_, Try.underlying127⟩
instance : TyOne Try.prog 127 := ⟨by kernel_rfl, by kernel_rfl⟩
instance : TyZero Try.prog 127 (.pointer none) := ⟨by kernel_rfl⟩
instance : TyOne Try.prog 128 := ⟨by kernel_rfl, by kernel_rfl⟩
instance : TyOne Try.prog 129 := ⟨by kernel_rfl, by kernel_rfl⟩
instance : TyOne Try.prog 130 := ⟨by kernel_rfl, by kernel_rfl⟩
instance : TyOne Try.prog 131 := ⟨by kernel_rfl, by kernel_rfl⟩
instance : TyOne Try.prog 132 := ⟨by kernel_rfl, by kernel_rfl⟩
instance : TyOne Try.prog 133 := ⟨by kernel_rfl, by kernel_rfl⟩
instance : TyPtr Try.prog 134 := ⟨_, Try.underlying134⟩
instance : TyOne Try.prog 134 := ⟨by kernel_rfl, by kernel_rfl⟩
instance : TyZero Try.prog 134 (.pointer none) := ⟨by kernel_rfl⟩
instance : TyOne Try.prog 135 := ⟨by kernel_rfl, by kernel_rfl⟩
instance : TyAgg Try.prog 136 3 := ⟨by kernel_rfl, by kernel_rfl⟩
instance : TyField Try.prog 136 0 0 := ⟨_, _, Try.underlying136, rfl, rfl, by kernel_rfl⟩
instance : TyField Try.prog 136 1 1 := ⟨_, _, Try.underlying136, rfl, rfl, by kernel_rfl⟩
instance : TyField Try.prog 136 2 2 := ⟨_, _, Try.underlying136, rfl, rfl, by kernel_rfl⟩
instance : TyBuilt Try.prog 136 (fun i => (#[(0, 1), (1, 1), (2, 1)] : Array (Nat × Nat))[i]?) (.agg #[.int .i64 0, .int .i64 0, .pointer none]) := TyBuilt.struct (ps := [(0, 1), (1, 1), (2, 1)]) Try.underlying136 (by kernel_rfl) (by kernel_rfl)
instance : TyZero Try.prog 136 (.agg #[.int .i64 0, .int .i64 0, .pointer none]) := ⟨by kernel_rfl⟩
instance : TyAgg Try.prog 137 3 := ⟨by kernel_rfl, by kernel_rfl⟩
instance : TyField Try.prog 137 0 0 := ⟨_, _, Try.underlying137, rfl, rfl, by kernel_rfl⟩
instance : TyField Try.prog 137 1 1 := ⟨_, _, Try.underlying137, rfl, rfl, by kernel_rfl⟩
instance : TyField Try.prog 137 2 2 := ⟨_, _, Try.underlying137, rfl, rfl, by kernel_rfl⟩
instance : TyBuilt Try.prog 137 (fun i => (#[(0, 1), (1, 1), (2, 1)] : Array (Nat × Nat))[i]?) (.agg #[.int .i64 0, .int .i64 0, .pointer none]) := TyBuilt.struct (ps := [(0, 1), (1, 1), (2, 1)]) Try.underlying137 (by kernel_rfl) (by kernel_rfl)
instance : TyZero Try.prog 137 (.agg #[.int .i64 0, .int .i64 0, .pointer none]) := ⟨by kernel_rfl⟩
instance : TyOne Try.prog 138 := ⟨by kernel_rfl, by kernel_rfl⟩
instance : TyOne Try.prog 139 := ⟨by kernel_rfl, by kernel_rfl⟩
instance : TyOne Try.prog 140 := ⟨by kernel_rfl, by kernel_rfl⟩
instance : TyOne Try.prog 141 := ⟨by kernel_rfl, by kernel_rfl⟩
instance : TyOne Try.prog 142 := ⟨by kernel_rfl, by kernel_rfl⟩
instance : TyOne Try.prog 143 := ⟨by kernel_rfl, by kernel_rfl⟩
instance : TyZero Try.prog 143 (.slice none 0 0) := ⟨by kernel_rfl⟩
instance : TySlice Try.prog 143 148 1 8 (.pointer none) := TySlice.of Try.underlying143 (by kernel_rfl) (by kernel_rfl) (by decide)
instance : TyAgg Try.prog 144 1 := ⟨by kernel_rfl, by kernel_rfl⟩
instance : TyField Try.prog 144 0 0 := ⟨_, _, Try.underlying144, rfl, rfl, by kernel_rfl⟩
instance : TyBuilt Try.prog 144 (fun i => (#[(0, 1)] : Array (Nat × Nat))[i]?) (.agg #[.slice none 0 0]) := TyBuilt.struct (ps := [(0, 1)]) Try.underlying144 (by kernel_rfl) (by kernel_rfl)
instance : TyZero Try.prog 144 (.agg #[.slice none 0 0]) := ⟨by kernel_rfl⟩
instance : TyAgg Try.prog 145 1 := ⟨by kernel_rfl, by kernel_rfl⟩
instance : TyField Try.prog 145 0 0 := ⟨_, _, Try.underlying145, rfl, rfl, by kernel_rfl⟩
instance : TyBuilt Try.prog 145 (fun i => (#[(0, 1)] : Array (Nat × Nat))[i]?) (.agg #[.slice none 0 0]) := TyBuilt.struct (ps := [(0, 1)]) Try.underlying145 (by kernel_rfl) (by kernel_rfl)
instance : TyZero Try.prog 145 (.agg #[.slice none 0 0]) := ⟨by kernel_rfl⟩
instance : TyAgg Try.prog 146 64 := ⟨by kernel_rfl, by kernel_rfl⟩
instance : TyArr Try.prog 146 64 5 1 := ⟨Try.underlying146, by kernel_rfl⟩
instance : TyBuilt Try.prog 146 (fun i => some (i * 1, 1)) (.agg (Array.replicate 64 (.int .u8 0))) := TyBuilt.array Try.underlying146 (by kernel_rfl) (by kernel_rfl)
instance : TyZero Try.prog 146 (.agg (Array.replicate 64 (.int .u8 0))) := ⟨by kernel_rfl⟩
instance : TyAgg Try.prog 147 64 := ⟨by kernel_rfl, by kernel_rfl⟩
instance : TyArr Try.prog 147 64 5 1 := ⟨Try.underlying147, by kernel_rfl⟩
instance : TyBuilt Try.prog 147 (fun i => some (i * 1, 1)) (.agg (Array.replicate 64 (.int .u8 0))) := TyBuilt.array Try.underlying147 (by kernel_rfl) (by kernel_rfl)
instance : TyZero Try.prog 147 (.agg (Array.replicate 64 (.int .u8 0))) := ⟨by kernel_rfl⟩
instance : TyPtr Try.prog 148 := ⟨_, Try.underlying148⟩
instance : TyOne Try.prog 148 := ⟨by kernel_rfl, by kernel_rfl⟩
instance : TyZero Try.prog 148 (.pointer none) := ⟨by kernel_rfl⟩
instance : TyOne Try.prog 149 := ⟨by kernel_rfl, by kernel_rfl⟩
instance : TyOne Try.prog 150 := ⟨by kernel_rfl, by kernel_rfl⟩
instance : TyOne Try.prog 151 := ⟨by kernel_rfl, by kernel_rfl⟩
instance : TyOne Try.prog 152 := ⟨by kernel_rfl, by kernel_rfl⟩
instance : TyOne Try.prog 153 := ⟨by kernel_rfl, by kernel_rfl⟩
instance : TyOne Try.prog 154 := ⟨by kernel_rfl, by kernel_rfl⟩
instance : TyAgg Try.prog 155 2 := ⟨by kernel_rfl, by kernel_rfl⟩
instance : TyField Try.prog 155 0 0 := ⟨_, _, Try.underlying155, rfl, rfl, by kernel_rfl⟩
instance : TyField Try.prog 155 1 1 := ⟨_, _, Try.underlying155, rfl, rfl, by kernel_rfl⟩
instance : TyBuilt Try.prog 155 (fun i => (#[(0, 1), (1, 1)] : Array (Nat × Nat))[i]?) (.agg #[.slice none 0 0, .int .i64 0]) := TyBuilt.struct (ps := [(0, 1), (1, 1)]) Try.underlying155 (by kernel_rfl) (by kernel_rfl)
instance : TyZero Try.prog 155 (.agg #[.slice none 0 0, .int .i64 0]) := ⟨by kernel_rfl⟩
instance : TyAgg Try.prog 156 2 := ⟨by kernel_rfl, by kernel_rfl⟩
instance : TyField Try.prog 156 0 0 := ⟨_, _, Try.underlying156, rfl, rfl, by kernel_rfl⟩
instance : TyField Try.prog 156 1 1 := ⟨_, _, Try.underlying156, rfl, rfl, by kernel_rfl⟩
instance : TyBuilt Try.prog 156 (fun i => (#[(0, 1), (1, 1)] : Array (Nat × Nat))[i]?) (.agg #[.slice none 0 0, .int .i64 0]) := TyBuilt.struct (ps := [(0, 1), (1, 1)]) Try.underlying156 (by kernel_rfl) (by kernel_rfl)
instance : TyZero Try.prog 156 (.agg #[.slice none 0 0, .int .i64 0]) := ⟨by kernel_rfl⟩
instance : TyOne Try.prog 158 := ⟨by kernel_rfl, by kernel_rfl⟩
instance : TyOne Try.prog 159 := ⟨by kernel_rfl, by kernel_rfl⟩
instance : TyZero Try.prog 159 (.slice none 0 0) := ⟨by kernel_rfl⟩
instance : TySlice Try.prog 159 165 2 32 (.agg #[.int .i64 0, .slice none 0 0]) := TySlice.of Try.underlying159 (by kernel_rfl) (by kernel_rfl) (by decide)
instance : TyAgg Try.prog 160 1 := ⟨by kernel_rfl, by kernel_rfl⟩
instance : TyField Try.prog 160 0 0 := ⟨_, _, Try.underlying160, rfl, rfl, by kernel_rfl⟩
instance : TyBuilt Try.prog 160 (fun i => (#[(0, 1)] : Array (Nat × Nat))[i]?) (.agg #[.slice none 0 0]) := TyBuilt.struct (ps := [(0, 1)]) Try.underlying160 (by kernel_rfl) (by kernel_rfl)
instance : TyZero Try.prog 160 (.agg #[.slice none 0 0]) := ⟨by kernel_rfl⟩
instance : TyAgg Try.prog 161 1 := ⟨by kernel_rfl, by kernel_rfl⟩
instance : TyField Try.prog 161 0 0 := ⟨_, _, Try.underlying161, rfl, rfl, by kernel_rfl⟩
instance : TyBuilt Try.prog 161 (fun i => (#[(0, 1)] : Array (Nat × Nat))[i]?) (.agg #[.slice none 0 0]) := TyBuilt.struct (ps := [(0, 1)]) Try.underlying161 (by kernel_rfl) (by kernel_rfl)
instance : TyZero Try.prog 161 (.agg #[.slice none 0 0]) := ⟨by kernel_rfl⟩
instance : TyOne Try.prog 163 := ⟨by kernel_rfl, by kernel_rfl⟩
instance : TyAgg Try.prog 164 2 := ⟨by kernel_rfl, by kernel_rfl⟩
instance : TyField Try.prog 164 0 0 := ⟨_, _, Try.underlying164, rfl, rfl, by kernel_rfl⟩
instance : TyField Try.prog 164 1 1 := ⟨_, _, Try.underlying164, rfl, rfl, by kernel_rfl⟩
instance : TyBuilt Try.prog 164 (fun i => (#[(0, 1), (1, 1)] : Array (Nat × Nat))[i]?) (.agg #[.int .i64 0, .slice none 0 0]) := TyBuilt.struct (ps := [(0, 1), (1, 1)]) Try.underlying164 (by kernel_rfl) (by kernel_rfl)
instance : TyZero Try.prog 164 (.agg #[.int .i64 0, .slice none 0 0]) := ⟨by kernel_rfl⟩
instance : TyAgg Try.prog 165 2 := ⟨by kernel_rfl, by kernel_rfl⟩
instance : TyField Try.prog 165 0 0 := ⟨_, _, Try.underlying165, rfl, rfl, by kernel_rfl⟩
instance : TyField Try.prog 165 1 1 := ⟨_, _, Try.underlying165, rfl, rfl, by kernel_rfl⟩
instance : TyBuilt Try.prog 165 (fun i => (#[(0, 1), (1, 1)] : Array (Nat × Nat))[i]?) (.agg #[.int .i64 0, .slice none 0 0]) := TyBuilt.struct (ps := [(0, 1), (1, 1)]) Try.underlying165 (by kernel_rfl) (by kernel_rfl)
instance : TyZero Try.prog 165 (.agg #[.int .i64 0, .slice none 0 0]) := ⟨by kernel_rfl⟩
instance : TyOne Try.prog 166 := ⟨by kernel_rfl, by kernel_rfl⟩
instance : TyOne Try.prog 167 := ⟨by kernel_rfl, by kernel_rfl⟩
instance : TyOne Try.prog 168 := ⟨by kernel_rfl, by kernel_rfl⟩
instance : TyOne Try.prog 169 := ⟨by kernel_rfl, by kernel_rfl⟩
instance : TyOne Try.prog 170 := ⟨by kernel_rfl, by kernel_rfl⟩
instance : TyOne Try.prog 171 := ⟨by kernel_rfl, by kernel_rfl⟩
instance : TyOne Try.prog 172 := ⟨by kernel_rfl, by kernel_rfl⟩
instance : TyZero Try.prog 172 (.slice none 0 0) := ⟨by kernel_rfl⟩
instance : TySlice Try.prog 172 176 2 32 (.agg #[.int .i64 0, .slice none 0 0]) := TySlice.of Try.underlying172 (by kernel_rfl) (by kernel_rfl) (by decide)
instance : TyAgg Try.prog 173 1 := ⟨by kernel_rfl, by kernel_rfl⟩
instance : TyField Try.prog 173 0 0 := ⟨_, _, Try.underlying173, rfl, rfl, by kernel_rfl⟩
instance : TyBuilt Try.prog 173 (fun i => (#[(0, 1)] : Array (Nat × Nat))[i]?) (.agg #[.slice none 0 0]) := TyBuilt.struct (ps := [(0, 1)]) Try.underlying173 (by kernel_rfl) (by kernel_rfl)
instance : TyZero Try.prog 173 (.agg #[.slice none 0 0]) := ⟨by kernel_rfl⟩
instance : TyAgg Try.prog 174 1 := ⟨by kernel_rfl, by kernel_rfl⟩
instance : TyField Try.prog 174 0 0 := ⟨_, _, Try.underlying174, rfl, rfl, by kernel_rfl⟩
instance : TyBuilt Try.prog 174 (fun i => (#[(0, 1)] : Array (Nat × Nat))[i]?) (.agg #[.slice none 0 0]) := TyBuilt.struct (ps := [(0, 1)]) Try.underlying174 (by kernel_rfl) (by kernel_rfl)
instance : TyZero Try.prog 174 (.agg #[.slice none 0 0]) := ⟨by kernel_rfl⟩
instance : TyAgg Try.prog 175 2 := ⟨by kernel_rfl, by kernel_rfl⟩
instance : TyField Try.prog 175 0 0 := ⟨_, _, Try.underlying175, rfl, rfl, by kernel_rfl⟩
instance : TyField Try.prog 175 1 1 := ⟨_, _, Try.underlying175, rfl, rfl, by kernel_rfl⟩
instance : TyBuilt Try.prog 175 (fun i => (#[(0, 1), (1, 1)] : Array (Nat × Nat))[i]?) (.agg #[.int .i64 0, .slice none 0 0]) := TyBuilt.struct (ps := [(0, 1), (1, 1)]) Try.underlying175 (by kernel_rfl) (by kernel_rfl)
instance : TyZero Try.prog 175 (.agg #[.int .i64 0, .slice none 0 0]) := ⟨by kernel_rfl⟩
instance : TyAgg Try.prog 176 2 := ⟨by kernel_rfl, by kernel_rfl⟩
instance : TyField Try.prog 176 0 0 := ⟨_, _, Try.underlying176, rfl, rfl, by kernel_rfl⟩
instance : TyField Try.prog 176 1 1 := ⟨_, _, Try.underlying176, rfl, rfl, by kernel_rfl⟩
instance : TyBuilt Try.prog 176 (fun i => (#[(0, 1), (1, 1)] : Array (Nat × Nat))[i]?) (.agg #[.int .i64 0, .slice none 0 0]) := TyBuilt.struct (ps := [(0, 1), (1, 1)]) Try.underlying176 (by kernel_rfl) (by kernel_rfl)
instance : TyZero Try.prog 176 (.agg #[.int .i64 0, .slice none 0 0]) := ⟨by kernel_rfl⟩
instance : TyOne Try.prog 177 := ⟨by kernel_rfl, by kernel_rfl⟩
instance : TyOne Try.prog 179 := ⟨by kernel_rfl, by kernel_rfl⟩
instance : TyOne Try.prog 180 := ⟨by kernel_rfl, by kernel_rfl⟩
instance : TyOne Try.prog 181 := ⟨by kernel_rfl, by kernel_rfl⟩
instance : TyOne Try.prog 182 := ⟨by kernel_rfl, by kernel_rfl⟩
instance : TyOne Try.prog 183 := ⟨by kernel_rfl, by kernel_rfl⟩
instance : TyOne Try.prog 184 := ⟨by kernel_rfl, by kernel_rfl⟩
instance : TyOne Try.prog 185 := ⟨by kernel_rfl, by kernel_rfl⟩
instance : TyOne Try.prog 186 := ⟨by kernel_rfl, by kernel_rfl⟩
instance : TyOne Try.prog 187 := ⟨by kernel_rfl, by kernel_rfl⟩
instance : TyOne Try.prog 188 := ⟨by kernel_rfl, by kernel_rfl⟩
instance : TyOne Try.prog 189 := ⟨by kernel_rfl, by kernel_rfl⟩
instance : TyOne Try.prog 190 := ⟨by kernel_rfl, by kernel_rfl⟩
instance : TyOne Try.prog 191 := ⟨by kernel_rfl, by kernel_rfl⟩
instance : TyOne Try.prog 192 := ⟨by kernel_rfl, by kernel_rfl⟩
instance : TyOne Try.prog 193 := ⟨by kernel_rfl, by kernel_rfl⟩
instance : TyOne Try.prog 194 := ⟨by kernel_rfl, by kernel_rfl⟩
instance : TyOne Try.prog 195 := ⟨by kernel_rfl, by kernel_rfl⟩
instance : TyOne Try.prog 196 := ⟨by kernel_rfl, by kernel_rfl⟩
instance : TyOne Try.prog 197 := ⟨by kernel_rfl, by kernel_rfl⟩
instance : TyOne Try.prog 198 := ⟨by kernel_rfl, by kernel_rfl⟩
instance : TyOne Try.prog 199 := ⟨by kernel_rfl, by kernel_rfl⟩
instance : TyOne Try.prog 200 := ⟨by kernel_rfl, by kernel_rfl⟩
instance : TyOne Try.prog 201 := ⟨by kernel_rfl, by kernel_rfl⟩
instance : TyOne Try.prog 202 := ⟨by kernel_rfl, by kernel_rfl⟩
instance : TyOne Try.prog 204 := ⟨by kernel_rfl, by kernel_rfl⟩
instance : TyOne Try.prog 205 := ⟨by kernel_rfl, by kernel_rfl⟩
instance : TyInt Try.prog 206 .u32 := ⟨Try.underlying206⟩
instance : TyOne Try.prog 206 := ⟨by kernel_rfl, by kernel_rfl⟩
instance : TyZero Try.prog 206 (.int .u32 0) := ⟨by kernel_rfl⟩
instance : TyOne Try.prog 208 := ⟨by kernel_rfl, by kernel_rfl⟩
instance : TyOne Try.prog 210 := ⟨by kernel_rfl, by kernel_rfl⟩
instance : TyOne Try.prog 211 := ⟨by kernel_rfl, by kernel_rfl⟩
instance : TyOne Try.prog 212 := ⟨by kernel_rfl, by kernel_rfl⟩
instance : TyOne Try.prog 213 := ⟨by kernel_rfl, by kernel_rfl⟩
instance : TyAgg Try.prog 214 4 := ⟨by kernel_rfl, by kernel_rfl⟩
instance : TyField Try.prog 214 0 0 := ⟨_, _, Try.underlying214, rfl, rfl, by kernel_rfl⟩
instance : TyField Try.prog 214 1 1 := ⟨_, _, Try.underlying214, rfl, rfl, by kernel_rfl⟩
instance : TyField Try.prog 214 2 2 := ⟨_, _, Try.underlying214, rfl, rfl, by kernel_rfl⟩
instance : TyField Try.prog 214 3 3 := ⟨_, _, Try.underlying214, rfl, rfl, by kernel_rfl⟩
instance : TyBuilt Try.prog 214 (fun i => (#[(0, 1), (1, 1), (2, 1), (3, 1)] : Array (Nat × Nat))[i]?) (.agg #[.pointer none, .pointer none, .pointer none, .string ByteArray.empty]) := TyBuilt.struct (ps := [(0, 1), (1, 1), (2, 1), (3, 1)]) Try.underlying214 (by kernel_rfl) (by kernel_rfl)
instance : TyZero Try.prog 214 (.agg #[.pointer none, .pointer none, .pointer none, .string ByteArray.empty]) := ⟨by kernel_rfl⟩
instance : TyAgg Try.prog 216 0 := ⟨by kernel_rfl, by kernel_rfl⟩
instance : TyArr Try.prog 216 0 16 1 := ⟨Try.underlying216, by kernel_rfl⟩
instance : TyBuilt Try.prog 216 (fun i => some (i * 1, 1)) (.agg #[]) := TyBuilt.array Try.underlying216 (by kernel_rfl) (by kernel_rfl)
instance : TyZero Try.prog 216 (.agg #[]) := ⟨by kernel_rfl⟩
instance : TyAgg Try.prog 217 0 := ⟨by kernel_rfl, by kernel_rfl⟩
instance : TyBuilt Try.prog 217 (fun i => (#[(0, 0)] : Array (Nat × Nat))[i]?) (.agg #[]) := TyBuilt.struct (ps := [(0, 0)]) Try.underlying217 (by kernel_rfl) (by kernel_rfl)
instance : TyZero Try.prog 217 (.agg #[]) := ⟨by kernel_rfl⟩
instance : TyOne Try.prog 221 := ⟨by kernel_rfl, by kernel_rfl⟩
instance : TyPtr Try.prog 222 := ⟨_, Try.underlying222⟩
instance : TyOne Try.prog 222 := ⟨by kernel_rfl, by kernel_rfl⟩
instance : TyZero Try.prog 222 (.pointer none) := ⟨by kernel_rfl⟩
instance : Mixed Try.prog := ⟨by kernel_rfl⟩
end Go.Proofs.Ytiiiplhfgblamaa
/-
  Writes among the arguments.
-/
set_option linter.unusedVariables false
namespace Go.Proofs.Ytiiiplhfgblamaa
open Go Brv
structure WriteV where
  mk ::
  (Block' : Int)
  (B'a : Option Addr) (B'n B'c : Nat) (B' : List UInt8)
def WriteV.cells (o : WriteV) : List Value := [.int .i64 o.Block', .slice o.B'a o.B'n o.B'c]
def WriteV.ok (w : World) (o : WriteV) : Prop := (Lit.int .i64 o.Block').wf = true ∧ (o.B'n ≤ o.B'c ∧ o.B'c ≤ 140737488351232 ∧ Bs w o.B'a o.B'n o.B')
theorem WriteV.ok.ext0 {w w' : World} {o : WriteV} (h : o.ok w) (he : Ext [] w w') : o.ok w' := by
  obtain ⟨h0, h1⟩ := h
  exact ⟨h0, ⟨h1.1, h1.2.1, h1.2.2.ext0 he⟩⟩
theorem WriteV.cells.length (o : WriteV) : o.cells.length = 2 := rfl
theorem WriteV.cells.one (o : WriteV) : ∀ u ∈ o.cells.toArray.toList, u.oneCell' = true := by
  intro u hu
  simp only [WriteV.cells, List.mem_cons, List.not_mem_nil, or_false] at hu
  rcases hu with rfl | rfl <;> rfl
def wv (o : WriteV) : Int × List UInt8 := (o.Block', o.B')
def toP (o : WriteV) : Pr Int := (o.Block', [.slice o.B'a o.B'n o.B'c])
def putW (zs : List WriteV) (o : WriteV) : List WriteV := if hasK (zs.map toP) o.Block' then zs.set (low (zs.map toP) o.Block') o else zs.take (low (zs.map toP) o.Block') ++ o :: zs.drop (low (zs.map toP) o.Block')
theorem putW_toP (zs : List WriteV) (o : WriteV) : (putW zs o).map toP = putK (zs.map toP) o.Block' [.slice o.B'a o.B'n o.B'c] := by
  unfold putW putK
  split
  · rw [List.map_set]; rfl
  · rw [List.map_append, List.map_cons, List.map_take, List.map_drop]; rfl
theorem keys_eq (zs : List WriteV) : (zs.map toP).map Prod.fst = (zs.map fun o => toQ (wv o)).map Prod.fst := by
  rw [List.map_map, List.map_map]; rfl
theorem putW_toQ (zs : List WriteV) (o : WriteV) : (putW zs o).map (fun o => toQ (wv o)) = putK (zs.map fun o => toQ (wv o)) o.Block' (vbs o.B') := by
  obtain ⟨h1, h2⟩ := low_keys (keys_eq zs) o.Block'
  unfold putW putK
  rw [h1, h2]
  split
  · rw [List.map_set]; rfl
  · rw [List.map_append, List.map_cons, List.map_take, List.map_drop]; rfl
theorem putW_mem {zs : List WriteV} {o x : WriteV} (h : x ∈ putW zs o) : x = o ∨ x ∈ zs := by
  unfold putW at h
  split at h
  · exact (List.mem_or_eq_of_mem_set h).symm
  · rcases List.mem_append.1 h with h | h
    · exact .inr (List.mem_of_mem_take h)
    · rcases List.mem_cons.1 h with h | h
      · exact .inl h
      · exact .inr (List.mem_of_mem_drop h)
theorem putW_len (zs : List WriteV) (o : WriteV) : (putW zs o).length ≤ zs.length + 1 := by
  unfold putW
  split
  · rw [List.length_set]; omega
  · rw [List.length_append, List.length_cons, List.length_take, List.length_drop]; omega
def WriteV.okW (w : World) (o : WriteV) : Prop := o.B'n ≤ o.B'c ∧ o.B'n ≤ 140737488351232 ∧ Bs w o.B'a o.B'n o.B'
theorem WriteV.okW.ext0 {w w' : World} {o : WriteV} (h : o.okW w) (he : Ext [] w w') : o.okW w' := ⟨h.1, h.2.1, h.2.2.ext0 he⟩
theorem WriteV.ok.W {w : World} {o : WriteV} (h : o.ok w) : o.okW w := ⟨h.2.1, Nat.le_trans h.2.1 h.2.2.1, h.2.2.2⟩
/-- A row of writes. -/
structure RowW where
  a : Option Addr
  n : Nat
  c : Nat
  os : List WriteV
def RowW.val (r : RowW) : Value := .slice r.a r.n r.c
def RowW.ok (w : World) (r : RowW) : Prop := (r.n ≤ r.c ∧ r.n ≤ 140737488351232) ∧ Tab w r.a r.n 2 (r.os.map WriteV.cells) ∧ ∀ o ∈ r.os, o.okW w
theorem RowW.ok.ext0 {w w' : World} {r : RowW} (h : r.ok w) (he : Ext [] w w') : r.ok w' := ⟨h.1, h.2.1.ext0 he, fun o ho => (h.2.2 o ho).ext0 he⟩
def allW (rs : List RowW) : List WriteV := (rs.map RowW.os).flatten
theorem allW_succ {rs : List RowW} {i : Nat} {r : RowW} (h : rs[i]? = some r) : allW (rs.take (i + 1)) = allW (rs.take i) ++ r.os := by
  unfold allW
  rw [List.take_add_one, h]; simp
theorem allW_le {rs : List RowW} {i : Nat} {r : RowW} (h : rs[i]? = some r) : (allW (rs.take i)).length + r.os.length ≤ (allW rs).length := by
  rw [← List.length_append, ← allW_succ h]
  conv => rhs; rw [← List.take_append_drop (i + 1) rs]
  unfold allW
  rw [List.map_append, List.flatten_append, List.length_append]
  omega
def cellsW (ws : List WriteV) : List Value := (ws.map WriteV.cells).flatten
theorem cellsW_append (a b : List WriteV) : cellsW (a ++ b) = cellsW a ++ cellsW b := by simp [cellsW]
theorem tabW {w : World} {a : Option Addr} {n : Nat} {ws : List WriteV} (h : Cells w a (cellsW ws)) (hn : n = ws.length) : Tab w a n 2 (ws.map WriteV.cells) :=
  ⟨h, by rw [List.length_map]; exact hn, fun vs hv => by obtain ⟨o, _, rfl⟩ := List.mem_map.1 hv; rfl⟩
/-- Writes whose bytes lie in these blocks. -/
def OkF (W : World) (CB : List Nat) (os : List WriteV) : Prop := ∀ M' W', Ext M' W W' → (∀ g ∈ M', g ∉ CB) → ∀ o ∈ os, o.okW W'
theorem OkF.ext {W W' : World} {CB M : List Nat} {os : List WriteV} (h : OkF W CB os) (he : Ext M W W') (hm : ∀ g ∈ M, g ∉ CB) : OkF W' CB os := fun M' W2 e hg o ho =>
  h (M ++ M') W2 ((he.mono (fun g hg => .inl (List.mem_append_left _ hg))).transN e (fun g hg => .inl (List.mem_append_right _ hg))) (fun g hg' => (List.mem_append.1 hg').elim (hm g) (hg g)) o ho
theorem ev_at {w w' : World} {q : Addr} {i : Nat} {v : Value} (h : w.cell? (q.add i) = some v) (he : Ext [] w w') : w'.cell? (q.add ((i : Int).toNat * 1)) = some v := by
  rw [Int.toNat_natCast, Nat.mul_one]
  exact (Still.of he).cell h
/-- A write whose bytes were cloned. -/
def ClV (s U : Nat) (z o : WriteV) (MC : List Nat) (w : World) : Prop := wv o = wv z ∧ Own w U 1 o.B'a o.B'n o.B'c (vbs z.B') MC ∧ o.B'n = z.B'.length ∧ ∀ g ∈ MC, s ≤ g
theorem ClV.ext {s U : Nat} {z o : WriteV} {MC M : List Nat} {w w' : World} (h : ClV s U z o MC w) (he : Ext M w w') (hm : ∀ g ∈ MC, g ∉ M) : ClV s U z o MC w' := ⟨h.1, h.2.1.ext he hm, h.2.2⟩
theorem ClV.okF {s U : Nat} {z o : WriteV} {MC : List Nat} {w : World} (h : ClV s U z o MC w) (hz : z.B'.length ≤ 140737488351232) : OkF w MC [o] := by
  intro M' W' e hm x hx
  rw [List.mem_singleton.1 hx]
  have hb : o.B' = z.B' := congrArg Prod.snd h.1
  have h2 := h.2.1.ext e (fun g hg hg' => hm g hg' hg)
  refine ⟨h2.le, by rw [h.2.2.1]; exact hz, ?_⟩
  rw [hb]
  have := h.2.2.1
  rw [this] at h2 ⊢
  exact Bs.of_own h2
def IsO (s U : Nat) (z : WriteV) (v : Value) (w : World) : Prop := ∃ o MC, v = .agg o.cells.toArray ∧ ClV s U z o MC w
theorem IsO.keep (s U : Nat) (z : WriteV) : ∀ v w w', Ext [] w w' → IsO s U z v w → IsO s U z v w' := fun _ _ _ he ⟨o, MC, hv, h⟩ => ⟨o, MC, hv, h.ext he (by simp)⟩
def IsS (s U : Nat) (z : WriteV) (v : Value) (w : World) : Prop := ∃ g o MC, v = .slice (some ⟨g, 0, none⟩) 1 1 ∧ Cells w (some ⟨g, 0, none⟩) (WriteV.cells o) ∧ ClV s U z o MC w
theorem IsS.keep (s U : Nat) (z : WriteV) : ∀ v w w', Ext [] w w' → IsS s U z v w → IsS s U z v w' := fun _ _ _ he ⟨g, o, MC, hv, hc, h⟩ => ⟨g, o, MC, hv, hc.ext0 he, h.ext he (by simp)⟩
def RowN (TW s U k : Nat) (MB : List Nat) (os : List WriteV) (z : WriteV) (v : Value) (w : World) : Prop := ∃ a c M' o MC, v = .slice a (k + 1) c ∧ Own w TW 2 a (k + 1) c (cellsW (os ++ [o])) M' ∧ (∀ g ∈ M', g ∈ MB ∨ s ≤ g) ∧ ClV s U z o MC w ∧ ∀ g ∈ MC, g ∉ M'
theorem RowN.keep (TW s U k : Nat) (MB : List Nat) (os : List WriteV) (z : WriteV) : ∀ v w w', Ext [] w w' → RowN TW s U k MB os z v w → RowN TW s U k MB os z v w' := fun _ _ _ he ⟨a, c, M', o, MC, hv, h1, h2, h3, h4⟩ => ⟨a, c, M', o, MC, hv, h1.ext0 he, h2, h3.ext he (by simp), h4⟩
/-- What the loop over an order of writes keeps. -/
def mgI (zs : List WriteV) (TL TW b8 : Nat) (w0 : World) (k : Nat) (D : List Nat) (W : World) : Prop := ∃ a c MB CB os, D = b8 :: (MB ++ CB) ∧ Blk W b8 #[.slice a k c] TL (0, 0) ∧ Own W TW 2 a k c (cellsW os) MB ∧ os.length = k ∧ os.map wv = (zs.take k).map wv ∧ OkF W CB os ∧ (∀ g ∈ MB ++ CB, w0.heap.size ≤ g ∧ g ≠ b8 ∧ g < W.heap.size) ∧ (∀ g ∈ MB, g ∉ CB) ∧ w0.heap.size ≤ b8 ∧ Ext [] w0 W
theorem mgI_keep {zs : List WriteV} {TL TW b8 : Nat} {w0 : World} {k s : Nat} {D M' : List Nat} {W W' : World} (hs : w0.heap.size ≤ s) (h : mgI zs TL TW b8 w0 k D W) (he : Ext M' W W') (hm : ∀ g ∈ M', g ∉ D ∧ (g ∈ ([] : List Nat) ∨ s ≤ g)) : mgI zs TL TW b8 w0 k D W' := by
  obtain ⟨a, c, MB, CB, os, rfl, B8, o, hl, hw, hk, hg, hd, h8, E⟩ := h
  exact ⟨a, c, MB, CB, os, rfl, B8.ext he (fun h => (hm _ h).1 (by simp)), o.ext he (fun g hg h => (hm g h).1 (by simp [hg])), hl, hw, hk.ext he (fun g hg h => (hm g hg).1 (by simp [h])), fun g hg' => ⟨(hg g hg').1, (hg g hg').2.1, Nat.lt_of_lt_of_le (hg g hg').2.2 he.size⟩, hd, h8, E.transN he (fun g hg => (hm g hg).2.imp (by simp) (Nat.le_trans hs))⟩

end Go.Proofs.Ytiiiplhfgblamaa
/-
  What a call of each function enters.
-/
set_option maxRecDepth 100000
namespace Go.Proofs.Ytiiiplhfgblamaa
open Go Brv
theorem go25 : ∀ (vs : Array Value) w, (callFunc 25 vs).run Try.prog w = .ok (.enter 25 vs) w := callFunc_run Try.func25 (by decide) rfl
theorem go27 : ∀ (vs : Array Value) w, (callFunc 27 vs).run Try.prog w = .ok (.enter 27 vs) w := callFunc_run Try.func27 (by decide) rfl
theorem go28 : ∀ (vs : Array Value) w, (callFunc 28 vs).run Try.prog w = .ok (.enter 28 vs) w := callFunc_run Try.func28 (by decide) rfl
theorem go29 : ∀ (vs : Array Value) w, (callFunc 29 vs).run Try.prog w = .ok (.enter 29 vs) w := callFunc_run Try.func29 (by decide) rfl
theorem go30 : ∀ (vs : Array Value) w, (callFunc 30 vs).run Try.prog w = .ok (.enter 30 vs) w := callFunc_run Try.func30 (by decide) rfl
theorem go31 : ∀ (vs : Array Value) w, (callFunc 31 vs).run Try.prog w = .ok (.enter 31 vs) w := callFunc_run Try.func31 (by decide) rfl
theorem go32 : ∀ (vs : Array Value) w, (callFunc 32 vs).run Try.prog w = .ok (.enter 32 vs) w := callFunc_run Try.func32 (by decide) rfl
theorem go33 : ∀ (vs : Array Value) w, (callFunc 33 vs).run Try.prog w = .ok (.enter 33 vs) w := callFunc_run Try.func33 (by decide) rfl
theorem go35 : ∀ (vs : Array Value) w, (callFunc 35 vs).run Try.prog w = .ok (.enter 35 vs) w := callFunc_run Try.func35 (by decide) rfl
theorem go73 : ∀ (vs : Array Value) w, (callFunc 73 vs).run Try.prog w = .ok (.enter 73 vs) w := callFunc_run Try.func73 (by decide) rfl
theorem go74 : ∀ (vs : Array Value) w, (callFunc 74 vs).run Try.prog w = .ok (.enter 74 vs) w := callFunc_run Try.func74 (by decide) rfl
theorem go75 : ∀ (vs : Array Value) w, (callFunc 75 vs).run Try.prog w = .ok (.enter 75 vs) w := callFunc_run Try.func75 (by decide) rfl
theorem go76 : ∀ (vs : Array Value) w, (callFunc 76 vs).run Try.prog w = .ok (.enter 76 vs) w := callFunc_run Try.func76 (by decide) rfl
theorem go77 : ∀ (vs : Array Value) w, (callFunc 77 vs).run Try.prog w = .ok (.enter 77 vs) w := callFunc_run Try.func77 (by decide) rfl
theorem go78 : ∀ (vs : Array Value) w, (callFunc 78 vs).run Try.prog w = .ok (.enter 78 vs) w := callFunc_run Try.func78 (by decide) rfl
theorem go79 : ∀ (vs : Array Value) w, (callFunc 79 vs).run Try.prog w = .ok (.enter 79 vs) w := callFunc_run Try.func79 (by decide) rfl
theorem go80 : ∀ (vs : Array Value) w, (callFunc 80 vs).run Try.prog w = .ok (.enter 80 vs) w := callFunc_run Try.func80 (by decide) rfl
theorem go81 : ∀ (vs : Array Value) w, (callFunc 81 vs).run Try.prog w = .ok (.enter 81 vs) w := callFunc_run Try.func81 (by decide) rfl
theorem go82 : ∀ (vs : Array Value) w, (callFunc 82 vs).run Try.prog w = .ok (.enter 82 vs) w := callFunc_run Try.func82 (by decide) rfl
theorem go83 : ∀ (vs : Array Value) w, (callFunc 83 vs).run Try.prog w = .ok (.enter 83 vs) w := callFunc_run Try.func83 (by decide) rfl
theorem go96 : ∀ (vs : Array Value) w, (callFunc 96 vs).run Try.prog w = .ok (.enter 96 vs) w := callFunc_run Try.func96 (by decide) rfl
theorem go97 : ∀ (vs : Array Value) w, (callFunc 97 vs).run Try.prog w = .ok (.enter 97 vs) w := callFunc_run Try.func97 (by decide) rfl
theorem go98 : ∀ (vs : Array Value) w, (callFunc 98 vs).run Try.prog w = .ok (.enter 98 vs) w := callFunc_run Try.func98 (by decide) rfl
theorem go99 : ∀ (vs : Array Value) w, (callFunc 99 vs).run Try.prog w = .ok (.enter 99 vs) w := callFunc_run Try.func99 (by decide) rfl
theorem go100 : ∀ (vs : Array Value) w, (callFunc 100 vs).run Try.prog w = .ok (.enter 100 vs) w := callFunc_run Try.func100 (by decide) rfl
theorem go101 : ∀ (vs : Array Value) w, (callFunc 101 vs).run Try.prog w = .ok (.enter 101 vs) w := callFunc_run Try.func101 (by decide) rfl
theorem go102 : ∀ (vs : Array Value) w, (callFunc 102 vs).run Try.prog w = .ok (.enter 102 vs) w := callFunc_run Try.func102 (by decide) rfl
theorem go103 : ∀ (vs : Array Value) w, (callFunc 103 vs).run Try.prog w = .ok (.enter 103 vs) w := callFunc_run Try.func103 (by decide) rfl
theorem go104 : ∀ (vs : Array Value) w, (callFunc 104 vs).run Try.prog w = .ok (.enter 104 vs) w := callFunc_run Try.func104 (by decide) rfl
theorem go105 : ∀ (vs : Array Value) w, (callFunc 105 vs).run Try.prog w = .ok (.enter 105 vs) w := callFunc_run Try.func105 (by decide) rfl
theorem go112 : ∀ (vs : Array Value) w, (callFunc 112 vs).run Try.prog w = .ok (.enter 112 vs) w := callFunc_run Try.func112 (by decide) rfl
theorem go113 : ∀ (vs : Array Value) w, (callFunc 113 vs).run Try.prog w = .ok (.enter 113 vs) w := callFunc_run Try.func113 (by decide) rfl
theorem go114 : ∀ (vs : Array Value) w, (callFunc 114 vs).run Try.prog w = .ok (.enter 114 vs) w := callFunc_run Try.func114 (by decide) rfl
theorem go117 : ∀ (vs : Array Value) w, (callFunc 117 vs).run Try.prog w = .ok (.enter 117 vs) w := callFunc_run Try.func117 (by decide) rfl
theorem go118 : ∀ (vs : Array Value) w, (callFunc 118 vs).run Try.prog w = .ok (.enter 118 vs) w := callFunc_run Try.func118 (by decide) rfl
theorem go119 : ∀ (vs : Array Value) w, (callFunc 119 vs).run Try.prog w = .ok (.enter 119 vs) w := callFunc_run Try.func119 (by decide) rfl
theorem go120 : ∀ (vs : Array Value) w, (callFunc 120 vs).run Try.prog w = .ok (.enter 120 vs) w := callFunc_run Try.func120 (by decide) rfl
theorem go123 : ∀ (vs : Array Value) w, (callFunc 123 vs).run Try.prog w = .ok (.enter 123 vs) w := callFunc_run Try.func123 (by decide) rfl
theorem go124 : ∀ (vs : Array Value) w, (callFunc 124 vs).run Try.prog w = .ok (.enter 124 vs) w := callFunc_run Try.func124 (by decide) rfl
theorem go125 : ∀ (vs : Array Value) w, (callFunc 125 vs).run Try.prog w = .ok (.enter 125 vs) w := callFunc_run Try.func125 (by decide) rfl
theorem go127 : ∀ (vs : Array Value) w, (callFunc 127 vs).run Try.prog w = .ok (.enter 127 vs) w := callFunc_run Try.func127 (by decide) rfl
theorem go130 : ∀ (vs : Array Value) w, (callFunc 130 vs).run Try.prog w = .ok (.enter 130 vs) w := callFunc_run Try.func130 (by decide) rfl
theorem go131 : ∀ (vs : Array Value) w, (callFunc 131 vs).run Try.prog w = .ok (.enter 131 vs) w := callFunc_run Try.func131 (by decide) rfl
end Go.Proofs.Ytiiiplhfgblamaa
/-
  The walks of package order.
-/
set_option linter.unusedVariables false
set_option linter.unusedSimpArgs false
set_option maxRecDepth 4000
namespace Go.Proofs.Ytiiiplhfgblamaa
open Go Brv
theorem nanI_ok (x : Int) (w : World) : Meets Try.prog 127 [.int .i64 x] w (fun v w' => v = .bool false ∧ w' = w) := by
  refine Meets.enter Try.func127 rfl 6 rfl (Nat.le_of_ble_eq_true rfl) ?_
  refine G.seq ?_
  refine G.region ?_
  refine L.val rfl rfl (R.as rfl) ?_
  refine L.nil ?_
  refine N.seq ?_
  refine G.seq ?_
  refine G.region ?_
  refine L.val rfl rfl (R.mv rfl) ?_
  refine L.val rfl rfl (R.mv rfl) ?_
  refine L.val rfl rfl (R.neI rfl rfl) ?_
  refine L.val rfl rfl (R.as rfl) ?_
  refine L.nil ?_
  refine N.seq ?_
  refine G.ret1 rfl rfl ?_
  exact ⟨congrArg Value.bool (by simp), rfl⟩

theorem cmpI_ok (x y : Int) (w : World) : Meets Try.prog 114 [.int .i64 x, .int .i64 y] w (fun v w' => v = .int .i64 (cmpF x y) ∧ w' = w) := by
  refine Meets.enter Try.func114 rfl 20 rfl (Nat.le_of_ble_eq_true rfl) ?_
  refine G.seq ?_
  refine G.region ?_
  refine L.val rfl rfl (R.as rfl) ?_
  refine L.nil ?_
  refine N.seq ?_
  refine G.seq ?_
  refine G.region ?_
  refine L.val rfl rfl (R.mv rfl) ?_
  refine L.callF rfl rfl rfl go127 (nanI_ok _ _) ?_
  rintro _ _ ⟨rfl, hw⟩
  obtain rfl := hw.symm
  refine L.val rfl rfl (R.as rfl) ?_
  refine L.nil ?_
  refine N.seq ?_
  refine G.seq ?_
  refine G.region ?_
  refine L.val rfl rfl (R.mv rfl) ?_
  refine L.callF rfl rfl rfl go127 (nanI_ok _ _) ?_
  rintro _ _ ⟨rfl, hw⟩
  obtain rfl := hw.symm
  refine L.val rfl rfl (R.as rfl) ?_
  refine L.nil ?_
  refine N.seq ?_
  refine G.seq ?_
  refine G.seq ?_
  refine G.region ?_
  refine L.val rfl rfl (R.mv rfl) ?_
  refine L.nil ?_
  refine N.seq ?_
  refine G.condF rfl ?_
  refine G.skip ?_
  refine N.seq ?_
  refine G.seq ?_
  refine G.seq ?_
  refine G.region ?_
  refine L.val rfl rfl (R.mv rfl) ?_
  refine L.nil ?_
  refine N.seq ?_
  refine G.condF rfl ?_
  refine G.skip ?_
  refine N.seq ?_
  refine G.seq ?_
  refine G.seq ?_
  refine G.region ?_
  refine L.val rfl rfl (R.mv rfl) ?_
  refine L.val rfl rfl (R.mv rfl) ?_
  refine L.val rfl rfl (R.lss rfl rfl) ?_
  refine L.nil ?_
  refine N.seq ?_
  refine G.condB rfl (fun h3 => ?_) (fun h3 => ?_)
  · refine G.seq ?_
    refine G.region ?_
    refine L.val rfl rfl (R.as rfl) ?_
    refine L.nil ?_
    refine N.seq ?_
    refine G.ret1 rfl rfl ?_
    first
      | exact ⟨congrArg (Value.int .i64) (cmpF_lt (show Key.lt x y = true from h3)).symm, rfl⟩
      | exact ⟨congrArg (Value.int .i64) (cmpF_gt (show Key.lt x y = false from h3) (show Key.lt y x = true from h4)).symm, rfl⟩
      | exact ⟨congrArg (Value.int .i64) (cmpF_eq (show Key.lt x y = false from h3) (show Key.lt y x = false from h4)).symm, rfl⟩
  · refine G.skip ?_
    refine N.seq ?_
    refine G.seq ?_
    refine G.seq ?_
    refine G.region ?_
    refine L.val rfl rfl (R.mv rfl) ?_
    refine L.val rfl rfl (R.mv rfl) ?_
    refine L.val rfl rfl (R.gtr rfl rfl) ?_
    refine L.nil ?_
    refine N.seq ?_
    refine G.condB rfl (fun h4 => ?_) (fun h4 => ?_)
    · refine G.seq ?_
      refine G.region ?_
      refine L.val rfl rfl (R.as rfl) ?_
      refine L.nil ?_
      refine N.seq ?_
      refine G.ret1 rfl rfl ?_
      first
        | exact ⟨congrArg (Value.int .i64) (cmpF_lt (show Key.lt x y = true from h3)).symm, rfl⟩
        | exact ⟨congrArg (Value.int .i64) (cmpF_gt (show Key.lt x y = false from h3) (show Key.lt y x = true from h4)).symm, rfl⟩
        | exact ⟨congrArg (Value.int .i64) (cmpF_eq (show Key.lt x y = false from h3) (show Key.lt y x = false from h4)).symm, rfl⟩
    · refine G.skip ?_
      refine N.seq ?_
      refine G.seq ?_
      refine G.region ?_
      refine L.val rfl rfl (R.as rfl) ?_
      refine L.nil ?_
      refine N.seq ?_
      refine G.ret1 rfl rfl ?_
      first
        | exact ⟨congrArg (Value.int .i64) (cmpF_lt (show Key.lt x y = true from h3)).symm, rfl⟩
        | exact ⟨congrArg (Value.int .i64) (cmpF_gt (show Key.lt x y = false from h3) (show Key.lt y x = true from h4)).symm, rfl⟩
        | exact ⟨congrArg (Value.int .i64) (cmpF_eq (show Key.lt x y = false from h3) (show Key.lt y x = false from h4)).symm, rfl⟩

end Go.Proofs.Ytiiiplhfgblamaa
/-
  The walks of package order.
-/
set_option linter.unusedVariables false
set_option linter.unusedSimpArgs false
set_option maxRecDepth 4000
namespace Go.Proofs.Ytiiiplhfgblamaa
open Go Brv
theorem find1B_ok (p : Pr (Int)) (k : Int) (w : World) : Meets Try.prog 113 [.agg (pcell p).toArray, .int .i64 k] w (fun v w' => v = .int .i64 (cmpF p.1 k) ∧ Ext [] w w') := by
  refine Meets.enter Try.func113 rfl 9 rfl (Nat.le_of_ble_eq_true rfl) ?_
  have E := Ext.refl [] w
  refine G.seq ?_
  refine G.region ?_
  refine L.do rfl rfl (R.box rfl) ?_
  rintro _ w1 ⟨b2, rfl, hb2, hs2, e1, B2⟩
  replace B2 : Blk w1 b2 (pcell p).toArray 165 (0, 0) := B2
  replace E := E.trans0 e1
  refine L.val rfl rfl (R.as rfl) ?_
  refine L.nil ?_
  refine N.seq ?_
  refine G.seq ?_
  refine G.region ?_
  refine L.val rfl rfl (R.fld rfl) ?_
  refine L.val rfl rfl (R.ldB (v := .int .i64 p.1) rfl B2 rfl) ?_
  refine L.val rfl rfl (R.mv rfl) ?_
  refine L.callF rfl rfl rfl go114 (cmpI_ok _ _ _) ?_
  rintro _ _ ⟨rfl, hw⟩
  obtain rfl := hw.symm
  refine L.val rfl rfl (R.as rfl) ?_
  refine L.nil ?_
  refine N.seq ?_
  refine G.ret1 rfl rfl ?_
  exact ⟨rfl, E⟩

theorem bsB_ok (a : Option Addr) (n c : Nat) (ps : List (Pr (Int))) (k : Int) (w : World) (hc : Cells w a (pcells ps)) (hn : n = ps.length) (hok : OkP 1 ps) (hs : Sorted ps) (hnl : n ≤ 1000000) : Meets Try.prog 112 [.slice a n c, .int .i64 k, .func (.func 113) #[] #[]] w (fun v w' => v = .tuple #[.int .i64 (low ps k : Int), .bool (hasK ps k)] ∧ Ext [] w w') := by
  refine Meets.enter Try.func112 rfl 49 rfl (Nat.le_of_ble_eq_true rfl) ?_
  have E := Ext.refl [] w
  have hT := Tab.pairs hc hn hok
  have hlo := low_le ps k
  refine G.seq ?_
  refine G.region ?_
  refine L.val rfl rfl (R.as rfl) ?_
  refine L.val rfl rfl (R.as rfl) ?_
  refine L.nil ?_
  refine N.seq ?_
  refine G.seq ?_
  refine G.region ?_
  refine L.val rfl rfl (R.mv rfl) ?_
  refine L.val rfl rfl (R.lenS rfl) ?_
  refine L.val rfl rfl (R.as rfl) ?_
  refine L.nil ?_
  refine N.seq ?_
  refine G.seq ?_
  refine G.region ?_
  refine L.val rfl rfl (R.mv rfl) ?_
  refine L.val rfl rfl (R.as rfl) ?_
  refine L.val rfl rfl (R.as rfl) ?_
  refine L.nil ?_
  refine N.seq ?_
  refine G.seq ?_
  refine G.block ?_
  refine G.loop (X := Nat × Nat) (fun s => [(0, .slice a n c), (1, .int .i64 k), (2, .func (.func 113) #[] #[]), (8, .int .i64 (n : Int)), (9, .int .i64 (s.1 : Int)), (10, .int .i64 (s.2 : Int))]) (fun s w' => s.1 ≤ s.2 ∧ s.2 ≤ n ∧ s.1 ≤ low ps k ∧ low ps k ≤ s.2 ∧ Ext [] w w') (fun s => s.2 - s.1) ((0, n)) (Sub.cons rfl (Sub.cons rfl (Sub.cons rfl (Sub.cons rfl (Sub.cons rfl (Sub.cons rfl (Sub.nil _))))))) ⟨Nat.zero_le _, Nat.le_refl _, Nat.zero_le _, by show low ps k ≤ n; omega, E⟩ ?_
  rintro ⟨i, j⟩ w1 ⟨hi1, hi2, hi3, hi4, E⟩
  dsimp only at hi1 hi2 hi3 hi4
  refine G.sub [(0, .slice a n c), (1, .int .i64 k), (2, .func (.func 113) #[] #[]), (8, .int .i64 (n : Int)), (9, .int .i64 (i : Int)), (10, .int .i64 (j : Int))] (Sub.cons rfl (Sub.cons rfl (Sub.cons rfl (Sub.cons rfl (Sub.cons rfl (Sub.cons rfl (Sub.nil _))))))) ?_
  refine G.seq ?_
  refine G.seq ?_
  refine G.region ?_
  refine L.val rfl rfl (R.mv rfl) ?_
  refine L.val rfl rfl (R.mv rfl) ?_
  refine L.val rfl rfl (R.lss rfl rfl) ?_
  refine L.nil ?_
  refine N.seq ?_
  refine G.condP rfl (fun h0 => ?_) (fun h0 => ?_)
  · have hij : i < j := by omega
    obtain ⟨hm, hhm⟩ : ∃ hm, hm = (i + j) / 2 := ⟨_, rfl⟩
    have hm1 : i ≤ hm := by omega
    have hm2 : hm < j := by omega
    refine G.skip ?_
    refine N.seq ?_
    refine G.block ?_
    refine G.seq ?_
    refine G.region ?_
    refine L.val rfl rfl (R.mv rfl) ?_
    refine L.val rfl rfl (R.mv rfl) ?_
    refine L.val rfl rfl (R.add rfl rfl (by omega)) ?_
    refine L.val rfl rfl (R.conv rfl ((i + j : Nat) : Int) (by rw [wrap_u64 (by omega)]; omega)) ?_
    refine L.val rfl rfl (R.shrW rfl rfl (by decide) (hm : Int) (by rw [shr1]; omega)) ?_
    refine L.val rfl rfl (R.conv rfl (hm : Int) (wrap_i64 (by omega))) ?_
    refine L.val rfl rfl (R.as rfl) ?_
    refine L.nil ?_
    refine N.seq ?_
    refine G.seq ?_
    refine G.region ?_
    refine L.val rfl rfl (R.mv rfl) ?_
    refine L.val rfl rfl (R.mv rfl) ?_
    refine L.val rfl rfl (R.mv rfl) ?_
    obtain ⟨p1, hp1⟩ : ∃ p, ps[hm]? = some p := ⟨_, List.getElem?_eq_getElem (by omega)⟩
    obtain ⟨qp1, hqp1, hclp1⟩ := hT.at (by decide) hm (by rw [List.length_map]; omega)
    have hep1 : (ps.map pcell)[hm]'(by rw [List.length_map]; omega) = pcell p1 := by rw [List.getElem_map]; exact congrArg pcell (List.getElem?_eq_some_iff.1 hp1).2
    rw [hep1] at hclp1
    have hszp1 : (pcell p1).length = 2 := by show p1.2.length + 1 = _; rw [(hok p1 (List.mem_of_getElem? hp1)).1]
    refine L.val rfl rfl (R.idx rfl rfl (by omega) (by omega) qp1 hqp1) ?_
    refine L.val rfl rfl (R.ldN (vs := pcell p1) rfl (hclp1.ext0 E) hszp1) ?_
    refine L.val rfl rfl (R.mv rfl) ?_
    refine L.callV rfl rfl rfl rfl rfl go113 (find1B_ok p1 k _) ?_
    rintro _ w2 ⟨rfl, e2⟩
    replace E := E.trans0 e2
    refine L.val rfl rfl (R.lss rfl rfl) ?_
    refine L.nil ?_
    refine N.seq ?_
    refine G.condP rfl (fun h1 => ?_) (fun h1 => ?_)
    · have hcmp : cmpF p1.1 k < 0 := h1
      refine G.region ?_
      refine L.val rfl rfl (R.mv rfl) ?_
      refine L.val rfl rfl (R.add rfl rfl (by omega)) ?_
      refine L.val rfl rfl (R.as rfl) ?_
      refine L.nil ?_
      refine N.block ?_
      first
        | exact N.again (hm + 1, j) (by show j - (hm + 1) < j - i; omega) (Sub.cons rfl (Sub.cons rfl (Sub.cons rfl (Sub.cons rfl (Sub.cons rfl (Sub.cons rfl (Sub.nil _))))))) ⟨by show hm + 1 ≤ j; omega, hi2, by show hm + 1 ≤ low ps k; have := (lt_low hs hp1).1 hcmp; omega, hi4, E⟩
        | exact N.again (i, hm) (by show hm - i < j - i; omega) (Sub.cons rfl (Sub.cons rfl (Sub.cons rfl (Sub.cons rfl (Sub.cons rfl (Sub.cons rfl (Sub.nil _))))))) ⟨by show i ≤ hm; omega, by show hm ≤ n; omega, hi3, by show low ps k ≤ hm; have : ¬ hm < low ps k := fun h9 => hcmp ((lt_low hs hp1).2 h9); omega, E⟩
    · have hcmp : ¬ cmpF p1.1 k < 0 := h1
      refine G.region ?_
      refine L.val rfl rfl (R.mv rfl) ?_
      refine L.val rfl rfl (R.as rfl) ?_
      refine L.nil ?_
      refine N.block ?_
      first
        | exact N.again (hm + 1, j) (by show j - (hm + 1) < j - i; omega) (Sub.cons rfl (Sub.cons rfl (Sub.cons rfl (Sub.cons rfl (Sub.cons rfl (Sub.cons rfl (Sub.nil _))))))) ⟨by show hm + 1 ≤ j; omega, hi2, by show hm + 1 ≤ low ps k; have := (lt_low hs hp1).1 hcmp; omega, hi4, E⟩
        | exact N.again (i, hm) (by show hm - i < j - i; omega) (Sub.cons rfl (Sub.cons rfl (Sub.cons rfl (Sub.cons rfl (Sub.cons rfl (Sub.cons rfl (Sub.nil _))))))) ⟨by show i ≤ hm; omega, by show hm ≤ n; omega, hi3, by show low ps k ≤ hm; have : ¬ hm < low ps k := fun h9 => hcmp ((lt_low hs hp1).2 h9); omega, E⟩
  · have hij : i = low ps k := by omega
    refine G.exit _ rfl ?_
    refine N.seq ?_
    refine G.seq ?_
    refine G.region ?_
    refine L.val rfl rfl (R.mv rfl) ?_
    refine L.val rfl rfl (R.mv rfl) ?_
    refine L.val rfl rfl (R.mv rfl) ?_
    refine L.val rfl rfl (R.lss rfl rfl) ?_
    refine L.val rfl rfl (R.mv rfl) ?_
    refine L.caseP 39 rfl (fun hg8_4 => ?_) (fun hg8_4 => ?_)
    · refine L.val rfl rfl (R.mv rfl) ?_
      refine L.val rfl rfl (R.mv rfl) ?_
      refine L.val rfl rfl (R.mv rfl) ?_
      obtain ⟨p2, hp2⟩ : ∃ p, ps[i]? = some p := ⟨_, List.getElem?_eq_getElem (by omega)⟩
      obtain ⟨qp2, hqp2, hclp2⟩ := hT.at (by decide) i (by rw [List.length_map]; omega)
      have hep2 : (ps.map pcell)[i]'(by rw [List.length_map]; omega) = pcell p2 := by rw [List.getElem_map]; exact congrArg pcell (List.getElem?_eq_some_iff.1 hp2).2
      rw [hep2] at hclp2
      have hszp2 : (pcell p2).length = 2 := by show p2.2.length + 1 = _; rw [(hok p2 (List.mem_of_getElem? hp2)).1]
      refine L.val rfl rfl (R.idx rfl rfl (by omega) (by omega) qp2 hqp2) ?_
      refine L.val rfl rfl (R.ldN (vs := pcell p2) rfl (hclp2.ext0 E) hszp2) ?_
      refine L.val rfl rfl (R.mv rfl) ?_
      refine L.callV rfl rfl rfl rfl rfl go113 (find1B_ok p2 k _) ?_
      rintro _ w3 ⟨rfl, e3⟩
      replace E := E.trans0 e3
      refine L.val rfl rfl (R.eqI rfl rfl) ?_
      first | refine L.val rfl rfl (R.pickT rfl rfl) ?_ | refine L.val rfl rfl (R.pickF rfl rfl) ?_
      refine L.val rfl rfl (R.as rfl) ?_
      refine L.val rfl rfl (R.as rfl) ?_
      refine L.nil ?_
      refine N.seq ?_
      refine G.ret2 rfl rfl rfl ?_
      first
        | exact ⟨by rw [hfound, ← hij], E⟩
        | exact ⟨by rw [hasK_at hs (by rw [← hij]; exact hp2), ← hij], E⟩
    · have hfound : hasK ps k = false := hasK_end (by omega)
      refine L.pass rfl rfl ?_
      refine L.pass rfl rfl ?_
      refine L.pass rfl rfl ?_
      refine L.pass rfl rfl ?_
      refine L.pass rfl rfl ?_
      refine L.pass rfl rfl ?_
      refine L.pass rfl rfl ?_
      refine L.pass rfl rfl ?_
      first | refine L.val rfl rfl (R.pickT rfl rfl) ?_ | refine L.val rfl rfl (R.pickF rfl rfl) ?_
      refine L.val rfl rfl (R.as rfl) ?_
      refine L.val rfl rfl (R.as rfl) ?_
      refine L.nil ?_
      refine N.seq ?_
      refine G.ret2 rfl rfl rfl ?_
      first
        | exact ⟨by rw [hfound, ← hij], E⟩
        | exact ⟨by rw [hasK_at hs (by rw [← hij]; exact hp2), ← hij], E⟩

theorem findB_ok (m : Nat) (ps : List (Pr (Int))) (S : List Nat) (k : Int) (w : World) (hd : MapAt (κ := Int) 161 165 1 w m ps S) (hl : ps.length ≤ 100000) : Meets Try.prog 96 [.pointer (some ⟨m, 0, none⟩), .int .i64 k] w (fun v w' => v = .tuple #[.int .i64 (low ps k : Int), .bool (hasK ps k)] ∧ Ext [] w w') := by
  refine Meets.enter Try.func96 rfl 14 rfl (Nat.le_of_ble_eq_true rfl) ?_
  have E := Ext.refl [] w
  obtain ⟨a, c, M, rfl, hm0, Bm, om, hok, hs⟩ := hd
  refine G.seq ?_
  refine G.region ?_
  refine L.val rfl rfl (R.as rfl) ?_
  refine L.val rfl rfl (R.as rfl) ?_
  refine L.nil ?_
  refine N.seq ?_
  refine G.seq ?_
  refine G.region ?_
  refine L.val rfl rfl (R.mv rfl) ?_
  refine L.val rfl rfl (R.nilChk rfl) ?_
  refine L.val rfl rfl (R.fld rfl) ?_
  refine L.val rfl rfl (R.ldB rfl Bm rfl) ?_
  refine L.val rfl rfl (R.mv rfl) ?_
  refine L.callF rfl rfl rfl go112 (bsB_ok _ _ _ ps k _ om.cells rfl hok hs (by omega)) ?_
  rintro _ w1 ⟨rfl, e1⟩
  replace E := E.trans0 e1
  refine L.val rfl rfl (R.ext rfl rfl) ?_
  refine L.val rfl rfl (R.ext rfl rfl) ?_
  refine L.val rfl rfl (R.as rfl) ?_
  refine L.val rfl rfl (R.as rfl) ?_
  refine L.nil ?_
  refine N.seq ?_
  refine G.ret2 rfl rfl rfl ?_
  exact ⟨rfl, E⟩

theorem insB_ok (a : Option Addr) (n c : Nat) (ps : List (Pr (Int))) (M : List Nat) (i : Nat) (p : Pr (Int)) (vb : Nat) (w : World) (ho : Own w 165 (1 + 1) a n c (pcells ps) M) (hn : n = ps.length) (hok : OkP 1 ps) (hi : i ≤ n) (hp : p.2.length = 1 ∧ ∀ u ∈ p.2, u.oneCell' = true) (Bv : Blk w vb (pcell p).toArray 165 (0, 0)) (hvM : vb ∉ M) (hnl : n ≤ 100000) : Meets Try.prog 97 [.slice a n c, .int .i64 (i : Int), .slice (some ⟨vb, 0, none⟩) 1 1] w (fun v w' => ∃ a' c' M', v = .slice a' (n + 1) c' ∧ Ext M w w' ∧ (∀ g ∈ M', g ∈ M ∨ w.heap.size ≤ g) ∧ Own w' 165 (1 + 1) a' (n + 1) c' (pcells (ps.take i ++ p :: ps.drop i)) M') := by
  refine Meets.enter Try.func97 rfl 95 rfl (Nat.le_of_ble_eq_true rfl) ?_
  have hl2 : (pcell p).length = 2 := by show p.2.length + 1 = _; rw [hp.1]
  have hp1 : ∀ u ∈ pcell p, u.oneCell' = true := pcell1 hp.2
  have hoc := ho.le
  have hps := (pcells_take (sv := 1) hok.len i (by omega))
  rw [show 1 + 1 = 2 from rfl] at hps
  have hcd : (pcells (ps.drop i)).length = (n - i) * 2 := by rw [pcells_len (sv := 1) (fun q hq => (hok q (List.mem_of_mem_drop hq)).1), List.length_drop, hn]
  have hci : (pcells (ps.take i)).length = i * 2 := by rw [pcells_len (sv := 1) (fun q hq => (hok q (List.mem_of_mem_take hq)).1), List.length_take, Nat.min_eq_left (by omega)]
  have hone := pcell_one hok
  have hone2 : ∀ u ∈ pcells (ps.drop i), u.oneCell' = true := fun u hu => hone u (by have h9 := hps.2; rw [← h9] at hu; exact List.mem_of_mem_drop hu)
  have Cv : Cells w (some ⟨vb, 0, none⟩) (pcell p) := Cells.of_blk Bv 0 _ (fun j v hj => by simpa using hj)
  refine G.seq ?_
  refine G.region ?_
  refine L.val rfl rfl (R.as rfl) ?_
  refine L.nil ?_
  refine N.seq ?_
  refine G.seq ?_
  refine G.region ?_
  refine L.val rfl rfl (R.mv rfl) ?_
  refine L.val rfl rfl (R.mv rfl) ?_
  refine L.val rfl rfl (R.slL rfl rfl (by omega) (by omega)) ?_
  refine L.nil ?_
  refine N.seq ?_
  refine G.seq ?_
  refine G.region ?_
  refine L.val rfl rfl (R.mv rfl) ?_
  refine L.val rfl rfl (R.lenS rfl) ?_
  refine L.val rfl rfl (R.as rfl) ?_
  refine L.nil ?_
  refine N.seq ?_
  refine G.seq ?_
  refine G.seq ?_
  refine G.region ?_
  refine L.val rfl rfl (R.mv rfl) ?_
  refine L.val rfl rfl (R.eqI rfl rfl) ?_
  refine L.nil ?_
  refine N.seq ?_
  refine G.condP rfl (fun h0 => ?_) (fun h0 => ?_)
  · exfalso; omega
  · refine G.skip ?_
    refine N.seq ?_
    refine G.seq ?_
    refine G.region ?_
    refine L.val rfl rfl (R.mv rfl) ?_
    refine L.val rfl rfl (R.lenS rfl) ?_
    refine L.val rfl rfl (R.as rfl) ?_
    refine L.nil ?_
    refine N.seq ?_
    refine G.seq ?_
    refine G.seq ?_
    refine G.region ?_
    refine L.val rfl rfl (R.mv rfl) ?_
    refine L.val rfl rfl (R.mv rfl) ?_
    refine L.val rfl rfl (R.eqI rfl rfl) ?_
    refine L.nil ?_
    refine N.seq ?_
    refine G.condP rfl (fun h1 => ?_) (fun h1 => ?_)
    · obtain rfl : i = n := by omega
      refine G.seq ?_
      refine G.region ?_
      refine L.val rfl rfl (R.mv rfl) ?_
      refine L.val rfl rfl (R.mv rfl) ?_
      refine L.do rfl rfl (R.app rfl rfl ho Cv (by rw [hl2]) hp1 (by simp [maxLen]; omega) (by omega)) ?_
      rintro _ w1 ⟨a1, c1, M1, rfl, e1, hM1, o1⟩
      refine L.val rfl rfl (R.as rfl) ?_
      refine L.nil ?_
      refine N.seq ?_
      refine G.ret1 rfl rfl ?_
      first
        | (have e9 : pcells ps ++ pcell p = pcells (ps.take i ++ p :: ps.drop i) := by rw [← pcells_ins, List.take_of_length_le (by omega), List.drop_of_length_le (by omega)]; simp [pcells]
           rw [e9] at o1; exact ⟨a1, c1, M1, rfl, e1, hM1, o1⟩)
        | (refine ⟨_, c1, [g1], rfl, n3.mono (by simp), fun x hx => .inr (by rw [List.mem_singleton.1 hx]; exact hg1), ?_⟩
           have hfin := hog.1; rw [pcells_ins, ← Nat.add_one_mul, ← Nat.add_mul, show i + 1 + (n - i) = n + 1 by omega] at hfin
           refine ⟨by rw [pcells_len (sv := 1) (fun q hq => (okIns hok hp q hq).1), List.length_append, List.length_cons, List.length_take, List.length_drop]; congr 1; omega, .inr ⟨g1, _, rfl, rfl, B3, by omega, hx1, ?_, hfin⟩⟩
           rw [← Nat.add_one_mul] at hog; rw [hog.2.2]; exact hz1)
        | (refine ⟨_, c, [g0], rfl, hE5, fun x hx => .inl hx, ?_⟩
           have hfin := hoi.1; rw [pcells_ins, ← Nat.add_one_mul] at hfin
           refine ⟨by rw [pcells_len (sv := 1) (fun q hq => (okIns hok hp q hq).1), List.length_append, List.length_cons, List.length_take, List.length_drop]; congr 1; omega, .inr ⟨g0, _, rfl, rfl, B5, by omega, hx0, ?_, hfin⟩⟩
           rw [hoi.2.2]; exact hz0)
    · have hin : i < n := by omega
      refine G.skip ?_
      refine N.seq ?_
      refine G.seq ?_
      refine G.seq ?_
      refine G.region ?_
      refine L.val rfl rfl (R.mv rfl) ?_
      refine L.val rfl rfl (R.mv rfl) ?_
      refine L.val rfl rfl (R.add rfl rfl (by omega)) ?_
      refine L.val rfl rfl (R.mv rfl) ?_
      refine L.val rfl rfl (R.capS rfl) ?_
      refine L.val rfl rfl (R.gtr rfl rfl) ?_
      refine L.nil ?_
      refine N.seq ?_
      refine G.condP rfl (fun h2 => ?_) (fun h2 => ?_)
      · have hgc : c < n + 1 := by omega
        refine G.seq ?_
        refine G.region ?_
        refine L.val rfl rfl (R.mv rfl) ?_
        refine L.val rfl rfl (R.mv rfl) ?_
        refine L.val rfl rfl (R.slH rfl rfl (by omega) (by omega)) ?_
        refine L.be 34 rfl (show _ = Value.slice a i c by rw [subA_zero, Int.toNat_natCast]) ?_
        refine L.val rfl rfl (R.mv rfl) ?_
        refine L.val rfl rfl (R.mv rfl) ?_
        refine L.val rfl rfl (R.add rfl rfl (by omega)) ?_
        refine L.val rfl rfl (R.mv rfl) ?_
        refine L.val rfl rfl (R.sub' rfl rfl (by omega)) ?_
        refine L.be 39 rfl (show _ = Value.int .i64 ((n + 1 - i : Nat) : Int) by congr 1; omega) ?_
        refine L.do rfl rfl (R.appZN (m := n + 1 - i) rfl rfl (ho.pre (i := i) (by omega)) (by intro u hu; simp [Value.cells] at hu; first | (rcases hu with rfl | rfl <;> rfl) | (rcases hu with rfl | rfl | rfl <;> rfl) | (rcases hu with rfl | rfl | rfl | rfl <;> rfl) | (rcases hu with rfl | rfl | rfl | rfl | rfl <;> rfl)) (by simp [maxLen]; omega) (by omega) (by decide) (by decide) (by omega)) ?_
        rintro _ w1 ⟨a1, c1, M1, rfl, e1, o1, hM1⟩
        rw [show i + (n + 1 - i) = n + 1 by omega] at o1 ⊢
        obtain ⟨g1, cur1, rfl, rfl, B1, hc1, hx1, hz1, ht1⟩ := o1.some (by omega)
        have hg1 := hM1 g1 (by simp)
        have hcu : (cur1.toList.take (i * 2)) = pcells (ps.take i) := by
          have h9 := congrArg (List.take (i * 2)) ht1
          rw [List.take_take, Nat.min_eq_left (Nat.mul_le_mul_right _ (by omega))] at h9
          refine h9.trans ?_
          show List.take (i * 2) (List.take (i * 2) (pcells ps) ++ _) = _
          rw [List.take_append_of_le_length (by rw [hps.1, hci]; exact Nat.le_refl _), List.take_take, Nat.min_self]
          exact hps.1
        have hzz : (n + 1) * 2 ≤ cur1.size := Nat.le_trans (Nat.mul_le_mul_right _ hc1) hz1
        have hog := over_grow (c1 := pcell p) (c2 := pcells (ps.drop i)) (s := 2) (K := (n - i) * 2) hcu (by omega) hl2 hcd (by omega)
        refine L.val rfl rfl (R.as rfl) ?_
        refine L.nil ?_
        refine N.seq ?_
        refine G.seq ?_
        refine G.region ?_
        refine L.val rfl rfl (R.mv rfl) ?_
        refine L.val rfl rfl (R.mv rfl) ?_
        refine L.val rfl rfl (R.slL rfl rfl (by omega) (by omega)) ?_
        refine L.be 43 rfl (show _ = Value.slice (some ⟨g1, i * 2, none⟩) (n + 1 - i) (c1 - i) by rw [Int.toNat_natCast, subA_lit (by omega), Nat.zero_add]) ?_
        refine L.val rfl rfl (R.mv rfl) ?_
        refine L.do rfl rfl (R.copyN (m := 1) rfl rfl B1 (Cv.ext0 e1) (Nat.min_eq_left (by omega)) (by rw [hl2]) (by rw [hl2]; omega) hp1) ?_
        rintro _ w2 ⟨rfl, P2⟩
        obtain ⟨e2, hs2, B2⟩ := P2
        have n2 := e1.news2 e2 hg1
        have Cd : Cells w2 (subA a i c 2) (pcells (ps.drop i)) := by
          have h9 := (ho.cells.ext0 n2).sub i c 2 ((n - i) * 2) (by rw [ho.1, show 1 + 1 = 2 from rfl, ← Nat.add_mul]; exact Nat.mul_le_mul_right _ (by omega)) (by omega)
          rw [hps.2, List.take_of_length_le (by omega)] at h9
          exact h9
        refine L.nil ?_
        refine N.seq ?_
        refine G.seq ?_
        refine G.staged [8] [.blocks ([g1])] [fun w' => Ext [] w2 w', fun w' => Ext [g1] w2 w' ∧ Blk w' g1 (Over (Over cur1 (i * 2) (pcell p)) ((i + 1) * 2) (pcells (ps.drop i))) 165 (0, 0)] [] (by decide +kernel) (by decide +kernel) rfl rfl rfl (fun _ h => h) ?_
        refine Z.val rfl rfl rfl rfl rfl (fun w3 => R.mv rfl) ?_
        refine Z.val rfl rfl rfl rfl rfl (fun w3 => R.mv rfl) ?_
        refine Z.val rfl rfl rfl rfl rfl (fun w3 => R.mv rfl) ?_
        refine Z.val rfl rfl rfl rfl rfl (fun w3 => R.add rfl rfl (by omega)) ?_
        refine Z.val rfl rfl rfl rfl rfl (fun w3 => R.slL rfl rfl (by omega) (by omega)) ?_
        refine Z.be 50 rfl (show _ = Value.slice (some ⟨g1, (i + 1) * 2, none⟩) (n - i) (c1 - (i + 1)) by rw [show ((i : Int) + ((1 : Nat) : Int)).toNat = i + 1 by omega, subA_lit (by omega), Nat.zero_add, show n + 1 - (i + 1) = n - i by omega]) ?_
        refine Z.val rfl rfl rfl rfl rfl (fun w3 => R.mv rfl) ?_
        refine Z.val rfl rfl rfl rfl rfl (fun w3 => R.mv rfl) ?_
        refine Z.val rfl rfl rfl rfl rfl (fun w3 => R.slL rfl rfl (by omega) (by omega)) ?_
        refine Z.be 53 rfl (show _ = Value.slice (subA a i c 2) (n - i) (c - i) by rw [Int.toNat_natCast]) ?_
        refine Z.put (A := fun v _ => True) (Lasts.kill (fun _ _ _ _ h => h) (by decide +kernel)) 0 (by decide +kernel) rfl rfl rfl rfl rfl rfl rfl (fun w3 hJ => (R.copyN (m := n - i) rfl rfl (B2.ext0 hJ) (Cd.ext0 hJ) (Nat.min_self _) hcd (by rw [hcd, hog.2.1]; omega) hone2).mono (fun v w9 h => by obtain ⟨_, h1, h2, h3⟩ := h; exact ⟨trivial, h1, h1.after hJ, h3⟩)) ?_
        refine Z.nil rfl rfl (fun w3 hJ => ?_)
        obtain ⟨e3, B3⟩ := hJ
        intro v54 _
        have n3 := n2.news2 e3 hg1
        refine N.seq ?_
        refine G.seq ?_
        refine G.region ?_
        refine L.val rfl rfl (R.mv rfl) ?_
        refine L.val rfl rfl (R.as rfl) ?_
        refine L.nil ?_
        refine N.seq ?_
        refine G.ret1 rfl rfl ?_
        first
          | (have e9 : pcells ps ++ pcell p = pcells (ps.take i ++ p :: ps.drop i) := by rw [← pcells_ins, List.take_of_length_le (by omega), List.drop_of_length_le (by omega)]; simp [pcells]
             rw [e9] at o1; exact ⟨a1, c1, M1, rfl, e1, hM1, o1⟩)
          | (refine ⟨_, c1, [g1], rfl, n3.mono (by simp), fun x hx => .inr (by rw [List.mem_singleton.1 hx]; exact hg1), ?_⟩
             have hfin := hog.1; rw [pcells_ins, ← Nat.add_one_mul, ← Nat.add_mul, show i + 1 + (n - i) = n + 1 by omega] at hfin
             refine ⟨by rw [pcells_len (sv := 1) (fun q hq => (okIns hok hp q hq).1), List.length_append, List.length_cons, List.length_take, List.length_drop]; congr 1; omega, .inr ⟨g1, _, rfl, rfl, B3, by omega, hx1, ?_, hfin⟩⟩
             rw [← Nat.add_one_mul] at hog; rw [hog.2.2]; exact hz1)
          | (refine ⟨_, c, [g0], rfl, hE5, fun x hx => .inl hx, ?_⟩
             have hfin := hoi.1; rw [pcells_ins, ← Nat.add_one_mul] at hfin
             refine ⟨by rw [pcells_len (sv := 1) (fun q hq => (okIns hok hp q hq).1), List.length_append, List.length_cons, List.length_take, List.length_drop]; congr 1; omega, .inr ⟨g0, _, rfl, rfl, B5, by omega, hx0, ?_, hfin⟩⟩
             rw [hoi.2.2]; exact hz0)
      · have hroom : n + 1 ≤ c := by omega
        obtain ⟨g0, cur0, rfl, rfl, B0, hc0, hx0, hz0, ht0⟩ := ho.some (by omega)
        have hzz : (n + 1) * 2 ≤ cur0.size := Nat.le_trans (Nat.mul_le_mul_right _ hroom) hz0
        have hxl : (pcells ps).length = n * 2 := ho.1
        have hoi := over_insert (s := 2) (A := i * 2) (L := n * 2) ht0 hxl (Nat.mul_le_mul_right _ (by omega)) hl2 (by omega)
        rw [hps.1, hps.2] at hoi
        have hro : i * 2 + 2 + (n - i) * 2 ≤ cur0.size := by
          have h9 : (i + 1 + (n - i)) * 2 ≤ cur0.size := by rw [show i + 1 + (n - i) = n + 1 by omega]; exact hzz
          rwa [Nat.add_mul, Nat.add_mul, Nat.one_mul] at h9
        have Cd : Cells w (some ⟨g0, i * 2, none⟩) (pcells (ps.drop i)) := Cells.of_blk B0 (i * 2) (pcells (ps.drop i)) (fun j v hj => by
          rw [← hps.2, ← ht0, List.drop_take, List.getElem?_take] at hj
          split at hj
          · simpa [List.getElem?_drop] using hj
          · cases hj)
        refine G.skip ?_
        refine N.seq ?_
        refine G.seq ?_
        refine G.region ?_
        refine L.val rfl rfl (R.mv rfl) ?_
        refine L.val rfl rfl (R.mv rfl) ?_
        refine L.val rfl rfl (R.mv rfl) ?_
        refine L.val rfl rfl (R.add rfl rfl (by omega)) ?_
        refine L.val rfl rfl (R.slH rfl rfl (by omega) (by omega)) ?_
        refine L.be 60 rfl (show _ = Value.slice (some ⟨g0, 0, none⟩) (n + 1) c by rw [subA_zero, show ((n : Int) + ((1 : Nat) : Int)).toNat = n + 1 by omega]) ?_
        refine L.val rfl rfl (R.as rfl) ?_
        refine L.nil ?_
        refine N.seq ?_
        refine G.seq ?_
        refine G.seq ?_
        refine G.region ?_
        refine L.val rfl rfl (R.mv rfl) ?_
        refine L.val rfl rfl (R.mv rfl) ?_
        refine L.val rfl rfl (R.mv rfl) ?_
        refine L.val rfl rfl (R.mv rfl) ?_
        refine L.val rfl rfl (R.add rfl rfl (by omega)) ?_
        refine L.val rfl rfl (R.slL rfl rfl (by omega) (by omega)) ?_
        refine L.be 66 rfl (show _ = Value.slice (subA (some ⟨g0, 0, none⟩) (i + 1) c 2) (n + 1 - (i + 1)) (c - (i + 1)) by rw [show ((i : Int) + ((1 : Nat) : Int)).toNat = i + 1 by omega]) ?_
        refine L.be 66 rfl (show _ = Value.slice (some ⟨g0, (i + 1) * 2, none⟩) (n - i) (c - (i + 1)) by rw [subA_lit (by omega), Nat.zero_add, show n + 1 - (i + 1) = n - i by omega]) ?_
        refine L.val rfl rfl (R.overlaps (A := (pcell p).toArray) (B := cur0) Try.func115 (by decide) rfl rfl rfl rfl rfl Bv B0 (by simpa using hvM) (by omega)) ?_
        refine L.val rfl rfl (R.not rfl) ?_
        refine L.nil ?_
        refine N.seq ?_
        refine G.condT rfl ?_
        refine G.seq ?_
        refine G.staged [8] [.blocks ([g0])] [fun w' => Ext [] w w', fun w' => Ext [g0] w w' ∧ Blk w' g0 (Over cur0 (i * 2 + 2) (pcells (ps.drop i))) 165 (0, 0)] [] (by decide +kernel) (by decide +kernel) rfl rfl rfl (fun _ h => h) ?_
        refine Z.val rfl rfl rfl rfl rfl (fun w1 => R.mv rfl) ?_
        refine Z.val rfl rfl rfl rfl rfl (fun w1 => R.mv rfl) ?_
        refine Z.val rfl rfl rfl rfl rfl (fun w1 => R.mv rfl) ?_
        refine Z.val rfl rfl rfl rfl rfl (fun w1 => R.add rfl rfl (by omega)) ?_
        refine Z.val rfl rfl rfl rfl rfl (fun w1 => R.slL rfl rfl (by omega) (by omega)) ?_
        refine Z.be 73 rfl (show _ = Value.slice (some ⟨g0, i * 2 + 2, none⟩) (n - i) (c - (i + 1)) by rw [show ((i : Int) + ((1 : Nat) : Int)).toNat = i + 1 by omega, subA_lit (by omega), Nat.zero_add, show n + 1 - (i + 1) = n - i by omega, Nat.add_mul]) ?_
        refine Z.val rfl rfl rfl rfl rfl (fun w1 => R.mv rfl) ?_
        refine Z.val rfl rfl rfl rfl rfl (fun w1 => R.mv rfl) ?_
        refine Z.val rfl rfl rfl rfl rfl (fun w1 => R.slL rfl rfl (by omega) (by omega)) ?_
        refine Z.be 76 rfl (show _ = Value.slice (some ⟨g0, i * 2, none⟩) (n + 1 - i) (c - i) by rw [Int.toNat_natCast, subA_lit (by omega), Nat.zero_add]) ?_
        refine Z.put (A := fun v _ => True) (Lasts.kill (fun _ _ _ _ h => h) (by decide +kernel)) 0 (by decide +kernel) rfl rfl rfl rfl rfl rfl rfl (fun w1 hJ => (R.copyN (m := n - i) rfl rfl (B0.ext0 hJ) (Cd.ext0 hJ) (Nat.min_eq_right (by omega)) hcd (by rw [hcd]; omega) hone2).mono (fun v w9 h => by obtain ⟨_, h1, h2, h3⟩ := h; exact ⟨trivial, h1, h1.after hJ, h3⟩)) ?_
        refine Z.nil rfl rfl (fun w1 hJ => ?_)
        obtain ⟨e3, B3⟩ := hJ
        intro v77 _
        have hvg : vb ≠ g0 := fun h => hvM (by rw [h]; simp)
        refine N.seq ?_
        refine G.seq ?_
        refine G.region ?_
        refine L.val rfl rfl (R.mv rfl) ?_
        refine L.val rfl rfl (R.mv rfl) ?_
        refine L.val rfl rfl (R.slL rfl rfl (by omega) (by omega)) ?_
        refine L.be 80 rfl (show _ = Value.slice (some ⟨g0, i * 2, none⟩) (n + 1 - i) (c - i) by rw [Int.toNat_natCast, subA_lit (by omega), Nat.zero_add]) ?_
        refine L.val rfl rfl (R.mv rfl) ?_
        refine L.do rfl rfl (R.copyN (m := 1) rfl rfl B3 (Cv.ext e3 (by intro q hq; cases hq; simpa using hvg)) (Nat.min_eq_left (by omega)) (by rw [hl2]) (by rw [hl2, hoi.2.1]; omega) hp1) ?_
        rintro _ w5 ⟨rfl, P5⟩
        obtain ⟨e5, hs5, B5⟩ := P5
        have hE5 := e3.transN e5 (fun x hx => .inl hx)
        refine L.nil ?_
        refine N.seq ?_
        refine G.seq ?_
        refine G.region ?_
        refine L.val rfl rfl (R.mv rfl) ?_
        refine L.val rfl rfl (R.as rfl) ?_
        refine L.nil ?_
        refine N.seq ?_
        refine G.ret1 rfl rfl ?_
        first
          | (have e9 : pcells ps ++ pcell p = pcells (ps.take i ++ p :: ps.drop i) := by rw [← pcells_ins, List.take_of_length_le (by omega), List.drop_of_length_le (by omega)]; simp [pcells]
             rw [e9] at o1; exact ⟨a1, c1, M1, rfl, e1, hM1, o1⟩)
          | (refine ⟨_, c1, [g1], rfl, n3.mono (by simp), fun x hx => .inr (by rw [List.mem_singleton.1 hx]; exact hg1), ?_⟩
             have hfin := hog.1; rw [pcells_ins, ← Nat.add_one_mul, ← Nat.add_mul, show i + 1 + (n - i) = n + 1 by omega] at hfin
             refine ⟨by rw [pcells_len (sv := 1) (fun q hq => (okIns hok hp q hq).1), List.length_append, List.length_cons, List.length_take, List.length_drop]; congr 1; omega, .inr ⟨g1, _, rfl, rfl, B3, by omega, hx1, ?_, hfin⟩⟩
             rw [← Nat.add_one_mul] at hog; rw [hog.2.2]; exact hz1)
          | (refine ⟨_, c, [g0], rfl, hE5, fun x hx => .inl hx, ?_⟩
             have hfin := hoi.1; rw [pcells_ins, ← Nat.add_one_mul] at hfin
             refine ⟨by rw [pcells_len (sv := 1) (fun q hq => (okIns hok hp q hq).1), List.length_append, List.length_cons, List.length_take, List.length_drop]; congr 1; omega, .inr ⟨g0, _, rfl, rfl, B5, by omega, hx0, ?_, hfin⟩⟩
             rw [hoi.2.2]; exact hz0)

end Go.Proofs.Ytiiiplhfgblamaa
/-
  Arrays of bytes as values: from slices, compared.
-/
set_option linter.unusedVariables false
namespace Brv
open Go
section
variable {P : Program} {n : Fm} {ρ : Env} {w : World} {d : Nat} {ty : TypeId} {pos : String} {af : Array Edge} {gd : Option (Nat × Bool)}
/-- An array type of bytes, that may be compared. -/
class TyBArr (P : Program) (T : TypeId) (m : outParam Nat) : Prop where
  h : ∃ E, P.underlying T = some (.array m E) ∧ P.underlying E = some (.int .u8) ∧ (P.info? E).map (·.size) = some 1
  g : P.eqGuardType P.depth T = false
end
theorem Cells.none {w : World} {vs : List Value} (h : Cells w none vs) : vs = [] := by
  cases vs with
  | nil => rfl
  | cons v vs => obtain ⟨p, hp, _⟩ := h 0 v rfl; cases hp
end Brv
namespace Brv
open Go
end Brv
/-
  Slices of three bounds; a struct of two parts.
-/
set_option linter.unusedVariables false
namespace Brv
open Go
section
variable {P : Program} {n : Fm} {ρ : Env} {w : World} {d : Nat} {ty : TypeId} {pos : String} {af : Array Edge} {gd : Option (Nat × Bool)}
theorem R.slLHM {T E size bytes : Nat} {z : Value} [t : TySlice P T E size bytes z] {x lo hi mx : Operand} {k k' k'' : IntKind} {a : Option Addr} {m c : Nat} {i j e : Int} (hx : ev ρ x = some (.slice a m c)) (hlo : ev ρ lo = some (.int k i)) (hhi : ev ρ hi = some (.int k' j)) (hmx : ev ρ mx = some (.int k'' e)) (h0 : 0 ≤ i) (h1 : i ≤ j) (h2 : j ≤ e) (h3 : e ≤ c) :
    Runs P n ρ w ⟨some d, .slice T x (some lo) (some hi) (some mx), ty, pos, af, gd⟩ (.slice (subA a i.toNat e.toNat size) (j.toNat - i.toNat) (e.toNat - i.toNat)) w := (fun f hf => by
    have hb : (Instr.sliceBounds true m c (some (.int k i)) (some (.int k' j)) (some (.int k'' e))).run P w = .ok (i.toNat, j.toNat, e.toNat) w := by
      simp [Instr.sliceBounds, sliceBound_ok (P := P) (k := k'') (i := e) (y := c) (code := .slice3Acap) (by omega) h3 w, sliceBound_ok (P := P) (k := k') (i := j) (y := e.toNat) (code := .slice3B) (by omega) (by omega) w, sliceBound_ok (P := P) (k := k) (i := i) (y := j.toNat) (code := .slice3C) h0 (by omega) w]
    have := run_subS (P := P) (T := T) (a := a) w hb
    simp only [execOp, hf.eval hx, hf.eval hlo, hf.eval hhi, hf.eval hmx, Sem.run_bind, Option.map_some, this]
    rfl)
end
/-- Where the elements of a slice lie; nowhere, if there are none. -/
def effA {α : Type} (a : Option Addr) : List α → Option Addr
  | [] => none
  | _ :: _ => a
theorem effA.of {α : Type} {a : Option Addr} {l : List α} {p : Addr} (h : effA a l = some p) : a = some p := by
  cases l with
  | nil => cases h
  | cons x r => exact h
theorem Cells.extE {α : Type} {f : α → Value} {w w' : World} {M : List Nat} {a : Option Addr} {l : List α} (h : Cells w a (l.map f)) (he : Ext M w w') (hm : ∀ p, effA a l = some p → p.block ∉ M) : Cells w' a (l.map f) := by
  cases l with
  | nil => exact Cells.nil _ _
  | cons x r => exact h.ext he hm
theorem Bs.extE {w w' : World} {M : List Nat} {a : Option Addr} {n : Nat} {l : List UInt8} (h : Bs w a n l) (he : Ext M w w') (hm : ∀ p, effA a l = some p → p.block ∉ M) : Bs w' a n l := ⟨Cells.extE (f := vb) h.cells he hm, h.len⟩
theorem Cells.effLt {α : Type} {f : α → Value} {w : World} {a : Option Addr} {l : List α} (h : Cells w a (l.map f)) : ∀ p, effA a l = some p → p.block < w.heap.size := by
  intro p hp
  cases l with
  | nil => cases hp
  | cons x r =>
    obtain ⟨q, hq, hc⟩ := h 0 (f x) rfl
    have : a = some p := hp
    rw [this] at hq; cases hq
    obtain ⟨o, ho, _⟩ : ∃ o : Obj, w.heap[(p.add 0).block]? = some o ∧ True := by
      unfold World.cell? at hc
      cases ho : w.heap[(p.add 0).block]? with
      | none => simp [ho] at hc
      | some o => exact ⟨o, rfl, trivial⟩
    exact (Array.getElem?_eq_some_iff.1 ho).1
theorem Bs.effLt {w : World} {a : Option Addr} {n : Nat} {l : List UInt8} (h : Bs w a n l) : ∀ p, effA a l = some p → p.block < w.heap.size := Cells.effLt (f := vb) h.cells
end Brv
/-
  Functions of the library, at bytes.
-/
set_option linter.unusedVariables false
namespace Go.Proofs.Ytiiiplhfgblamaa
open Go Brv
end Go.Proofs.Ytiiiplhfgblamaa
/-
  The walks of package order.
-/
set_option linter.unusedVariables false
set_option linter.unusedSimpArgs false
set_option maxRecDepth 4000
namespace Go.Proofs.Ytiiiplhfgblamaa
open Go Brv
theorem scB_ok (a : Option Addr) (n c : Nat) (xs : List Value) (w : World) (hb : Cells w a xs) (hl : n * (1 + 1) = xs.length) (hone : ∀ u ∈ xs, u.oneCell' = true) (hn : n ≤ 1000000) : Meets Try.prog 100 [.slice a n c] w (Cloned w 165 (1 + 1) n xs) := by
  refine Meets.enter Try.func100 rfl 8 rfl (Nat.le_of_ble_eq_true rfl) ?_
  refine G.seq ?_
  refine G.region ?_
  refine L.val rfl rfl (R.as rfl) ?_
  refine L.nil ?_
  refine N.seq ?_
  refine G.seq ?_
  refine G.seq ?_
  refine G.region ?_
  refine L.val rfl rfl (R.mv rfl) ?_
  refine L.val rfl rfl (R.eqNilS rfl rfl) ?_
  refine L.nil ?_
  refine N.seq ?_
  refine G.condB rfl (fun h0 => ?_) (fun h0 => ?_)
  · obtain rfl : a = none := by simpa using h0
    obtain rfl := cells_none hb
    obtain rfl : n = 0 := by simp at hl; omega
    refine G.seq ?_
    refine G.region ?_
    refine L.val rfl rfl (R.as rfl) ?_
    refine L.nil ?_
    refine N.seq ?_
    refine G.ret1 rfl rfl ?_
    exact ⟨none, 0, [], rfl, Ext.refl _ _, Own.nil _ _ _, by simp⟩
  · refine G.skip ?_
    refine N.seq ?_
    refine G.seq ?_
    refine G.region ?_
    refine L.do rfl rfl (R.buildS rfl (by decide) rfl) ?_
    rintro _ w1 ⟨b5, rfl, hb5, hs5, e1, B5⟩
    have hb := hb.ext0 e1
    have o0 := Own.blk (n := 0) (size := 1 + 1) B5 (by simp) (by simp [maxLen])
    refine L.val rfl rfl (R.mv rfl) ?_
    refine L.do rfl rfl (R.app rfl rfl o0 hb hl.symm hone (by simp [maxLen]; omega) (by omega)) ?_
    rintro _ w2 ⟨a1, c1, M1, rfl, e2, hM1, o1⟩
    refine L.val rfl rfl (R.as rfl) ?_
    refine L.nil ?_
    refine N.seq ?_
    refine G.ret1 rfl rfl ?_
    exact ⟨a1, c1, M1, by rw [Nat.zero_add] , e1.trans e2 (by simp) (by simp; omega), by simpa using o1, by intro g hg; have := hM1 g hg; have := e1.size; simp at *; omega⟩

theorem onewB_ok  (w : World) : Meets Try.prog 73 [] w (fun v w' => ∃ b, v = .pointer (some ⟨b, 0, none⟩) ∧ w.heap.size ≤ b ∧ Ext [] w w' ∧ MapAt (κ := Int) 161 165 1 w' b [] [b]) := by
  refine Meets.enter Try.func73 rfl 3 rfl (Nat.le_of_ble_eq_true rfl) ?_
  have E := Ext.refl [] w
  refine G.seq ?_
  refine G.region ?_
  refine L.val rfl rfl (R.as rfl) ?_
  refine L.nil ?_
  refine N.seq ?_
  refine G.seq ?_
  refine G.region ?_
  refine L.val rfl rfl (R.build (cs := #[.slice none 0 0]) rfl rfl) ?_
  refine L.do rfl rfl (R.box rfl) ?_
  rintro _ w1 ⟨b, rfl, hb2, hs2, e1, B2⟩
  replace E := E.trans0 e1
  refine L.val rfl rfl (R.as rfl) ?_
  refine L.nil ?_
  refine N.seq ?_
  refine G.ret1 rfl rfl ?_
  exact ⟨b, rfl, by omega, E, MapAt.mk (M := []) (by simp) B2 rfl (Own.nil _ _ _) (by intro p hp; cases hp) List.Pairwise.nil⟩

theorem putB_ok (m : Nat) (ps : List (Pr (Int))) (S : List Nat) (k : Int) (ua : Option Addr) (un uc : Nat) (w : World) (hd : MapAt (κ := Int) 161 165 1 w m ps S) (hl : ps.length ≤ 99999) : Meets Try.prog 74 [.pointer (some ⟨m, 0, none⟩), .int .i64 k, .slice ua un uc] w (fun v w' => v = .bool (!hasK ps k) ∧ ∃ S', Grown S S' w w' ∧ MapAt (κ := Int) 161 165 1 w' m (putK ps k [.slice ua un uc]) S') := by
  refine Meets.enter Try.func74 rfl 39 rfl (Nat.le_of_ble_eq_true rfl) ?_
  have E := Ext.refl [] w
  have hd0 := hd
  obtain ⟨a, c, M, rfl, hm0, Bm, om, hok, hs⟩ := hd
  have hone : ∀ u ∈ ([.slice ua un uc] : List Value), u.oneCell' = true := by intro x hx; rw [List.mem_singleton.1 hx]; rfl
  refine G.seq ?_
  refine G.region ?_
  refine L.val rfl rfl (R.as rfl) ?_
  refine L.nil ?_
  refine N.seq ?_
  refine G.seq ?_
  refine G.seq ?_
  refine G.region ?_
  refine L.val rfl rfl (R.mv rfl) ?_
  refine L.val rfl rfl (R.eqNilP rfl rfl) ?_
  refine L.nil ?_
  refine N.seq ?_
  refine G.condF rfl ?_
  refine G.skip ?_
  refine N.seq ?_
  refine G.seq ?_
  refine G.region ?_
  refine L.val rfl rfl (R.mv rfl) ?_
  refine L.val rfl rfl (R.mv rfl) ?_
  refine L.callF rfl rfl rfl go96 (findB_ok m ps (m :: M) k _ hd0 (by omega)) ?_
  rintro _ w1 ⟨rfl, e1⟩
  replace E := E.trans0 e1
  replace Bm := Bm.ext0 e1
  replace om := om.ext0 e1
  refine L.val rfl rfl (R.mv rfl) ?_
  refine L.val rfl rfl (R.ext rfl rfl) ?_
  refine L.val rfl rfl (R.ext rfl rfl) ?_
  refine L.val rfl rfl (R.as rfl) ?_
  refine L.val rfl rfl (R.as rfl) ?_
  refine L.nil ?_
  refine N.seq ?_
  refine G.seq ?_
  refine G.seq ?_
  refine G.region ?_
  refine L.val rfl rfl (R.mv rfl) ?_
  refine L.nil ?_
  refine N.seq ?_
  refine G.condB rfl (fun h1 => ?_) (fun h1 => ?_)
  · have hk : hasK ps k = true := h1
    have hlt := hasK_lt hk
    obtain ⟨g, cur, rfl, rfl, Bg, hnc, hcm, hcs, ht⟩ := om.some (by omega)
    have hgm : m ≠ g := fun h => hm0 (by simp [h])
    have hsz : low ps k * 2 + 2 ≤ cur.size := by
      have h9 : (low ps k + 1) * 2 ≤ c * 2 := Nat.mul_le_mul_right _ (by omega)
      rw [Nat.add_mul, Nat.one_mul] at h9
      exact Nat.le_trans h9 hcs
    refine G.seq ?_
    refine G.region ?_
    refine L.val rfl rfl (R.mv rfl) ?_
    refine L.val rfl rfl (R.nilChk rfl) ?_
    refine L.val rfl rfl (R.fld rfl) ?_
    refine L.val rfl rfl (R.ldB rfl Bm rfl) ?_
    refine L.val rfl rfl (R.mv rfl) ?_
    refine L.val rfl rfl (R.mv rfl) ?_
    refine L.val rfl rfl (R.idx rfl rfl (by omega) (by omega) _ rfl) ?_
    refine L.be 24 rfl (show _ = Value.pointer (some ⟨g, low ps k * 2, none⟩) by rw [Int.toNat_natCast, Go.Addr.add_lit, Nat.zero_add]) ?_
    refine L.val rfl rfl (R.fld rfl) ?_
    refine L.set rfl (R.st rfl rfl Bg (by omega) rfl) ?_
    rintro w2 ⟨e2, hs2, Bg⟩
    rw [set_at (by omega)] at Bg
    replace Bm := Bm.ext e2 (by simpa using hgm)
    have o2 := own_set (v := [.slice ua un uc]) rfl hok hs hk rfl hnc hcm hcs ht Bg
    have X := e2.after E
    refine L.nil ?_
    refine N.seq ?_
    refine G.seq ?_
    refine G.region ?_
    refine L.val rfl rfl (R.as rfl) ?_
    refine L.nil ?_
    refine N.seq ?_
    refine G.ret1 rfl rfl ?_
    first
      | exact ⟨by rw [hk]; rfl, [m, g], ⟨X.mono (fun x hx => .inl (List.mem_cons_of_mem _ hx)), fun x hx => .inl hx⟩, MapAt.mk hm0 Bm (by rw [put_len, if_pos hk]) o2 (hok.put ⟨rfl, hone⟩) (sorted_put hs _ _)⟩
      | exact ⟨by rw [hk]; rfl, m :: M3, ⟨X, fun x hx => (List.mem_cons.1 hx).elim (fun h => .inl (by simp [h])) (fun h => (hM3 x h).elim (fun h => .inl (List.mem_cons_of_mem _ h)) (fun h => .inr (by omega)))⟩, MapAt.mk hm3 Bm (by rw [put_len, if_neg (by simp [hk])]) (by rw [putK_no hk]; exact o4) (hok.put ⟨rfl, hone⟩) (sorted_put hs _ _)⟩
  · have hk : hasK ps k = false := h1
    have hio := low_le ps k
    have hMl := om.lt
    have hml := Bm.lt
    refine G.skip ?_
    refine N.seq ?_
    refine G.seq ?_
    refine G.region ?_
    refine L.val rfl rfl (R.mv rfl) ?_
    refine L.val rfl rfl (R.mv rfl) ?_
    refine L.val rfl rfl (R.nilChk rfl) ?_
    refine L.val rfl rfl (R.fld rfl) ?_
    refine L.val rfl rfl (R.ldB rfl Bm rfl) ?_
    refine L.val rfl rfl (R.mv rfl) ?_
    refine L.val rfl rfl (R.mv rfl) ?_
    refine L.val rfl rfl (R.mv rfl) ?_
    refine L.val rfl rfl (R.build (cs := #[.int .i64 k, .slice ua un uc]) rfl rfl) ?_
    refine L.do rfl rfl (R.buildA rfl rfl rfl rfl rfl) ?_
    rintro _ w2 ⟨vb, rfl, hvb, hs2, e2, Bv⟩
    replace Bv : Blk w2 vb (pcell ((k, [.slice ua un uc]) : Pr (Int))).toArray 165 (0, 0) := Bv
    replace E := E.trans0 e2
    replace Bm := Bm.ext0 e2
    replace om := om.ext0 e2
    have hvM : vb ∉ M := fun h => by have := hMl vb h; omega
    have hE2 := E.size
    have hws := e2.size
    refine L.callF rfl rfl rfl go97 (insB_ok a ps.length c ps M (low ps k) ((k, [.slice ua un uc]) : Pr (Int)) vb _ om rfl hok hio ⟨rfl, hone⟩ Bv hvM (by omega)) ?_
    rintro _ w3 ⟨a3, c3, M3, rfl, e3, hM3, o3⟩
    replace Bm := Bm.ext e3 hm0
    have hm3 : m ∉ M3 := fun h => (hM3 m h).elim hm0 (by omega)
    refine L.val rfl rfl (R.nilChk rfl) ?_
    refine L.val rfl rfl (R.fld rfl) ?_
    refine L.set rfl (R.st rfl rfl Bm (by show 0 < 1; decide) rfl) ?_
    rintro w4 ⟨e4, hs4, Bm⟩
    replace Bm : Blk w4 m #[.slice a3 (ps.length + 1) c3] 161 (0, 0) := Bm
    have o4 := o3.ext e4 (by intro g hg h; rw [List.mem_singleton.1 h] at hg; exact hm3 hg)
    have X : Ext (m :: M) w w4 := ((e3.after E).mono (fun x hx => .inl (List.mem_cons_of_mem _ hx))).transN e4 (fun x hx => .inl (by rw [List.mem_singleton.1 hx]; simp))
    refine L.nil ?_
    refine N.seq ?_
    refine G.seq ?_
    refine G.region ?_
    refine L.val rfl rfl (R.as rfl) ?_
    refine L.nil ?_
    refine N.seq ?_
    refine G.ret1 rfl rfl ?_
    first
      | exact ⟨by rw [hk]; rfl, [m, g], ⟨X.mono (fun x hx => .inl (List.mem_cons_of_mem _ hx)), fun x hx => .inl hx⟩, MapAt.mk hm0 Bm (by rw [put_len, if_pos hk]) o2 (hok.put ⟨rfl, hone⟩) (sorted_put hs _ _)⟩
      | exact ⟨by rw [hk]; rfl, m :: M3, ⟨X, fun x hx => (List.mem_cons.1 hx).elim (fun h => .inl (by simp [h])) (fun h => (hM3 x h).elim (fun h => .inl (List.mem_cons_of_mem _ h)) (fun h => .inr (by omega)))⟩, MapAt.mk hm3 Bm (by rw [put_len, if_neg (by simp [hk])]) (by rw [putK_no hk]; exact o4) (hok.put ⟨rfl, hone⟩) (sorted_put hs _ _)⟩

end Go.Proofs.Ytiiiplhfgblamaa
/-
  The walks of package order.
-/
set_option linter.unusedVariables false
set_option linter.unusedSimpArgs false
set_option maxRecDepth 4000
namespace Go.Proofs.Ytiiiplhfgblamaa
open Go Brv
theorem pallB_ok (a : Option Addr) (n c : Nat) (w : World) : Meets Try.prog 99 [.slice a n c] w (fun v w' => ∃ b0, v = .func (.func 118) #[] #[.pointer (some ⟨b0, 0, none⟩)] ∧ Ext [] w w' ∧ Blk w' b0 #[.slice a n c] 159 (0, 0) ∧ w.heap.size ≤ b0) := by
  refine Meets.enter Try.func99 rfl 4 rfl (Nat.le_of_ble_eq_true rfl) ?_
  have E := Ext.refl [] w
  refine G.seq ?_
  refine G.region ?_
  refine L.do rfl rfl (R.box rfl) ?_
  rintro _ w1 ⟨b0, rfl, hb1, hs1, e1, B1⟩
  replace E := E.trans0 e1
  refine L.val rfl rfl (R.as rfl) ?_
  refine L.nil ?_
  refine N.seq ?_
  refine G.seq ?_
  refine G.region ?_
  refine L.val rfl rfl (R.mkFunc rfl rfl) ?_
  refine L.val rfl rfl (R.as rfl) ?_
  refine L.nil ?_
  refine N.seq ?_
  refine G.ret1 rfl rfl ?_
  exact ⟨b0, rfl, E, B1, by omega⟩

theorem pall1B_ok (y : Value) (b0 : Nat) (a : Option Addr) (n c : Nat) (ps : List (Pr (Int))) (Ma : List Nat) (D₀ : List Nat) (J Jx : Nat → List Nat → World → Prop) (w : World) (hB0 : Blk w b0 #[.slice a n c] 159 (0, 0)) (ho : Own w 165 (1 + 1) a n c (pcells ps) Ma) (hn : n = ps.length) (hok : OkP 1 ps) (hnl : n ≤ 1000000) (hD : ∀ g ∈ D₀, g < w.heap.size ∧ g ∉ b0 :: Ma ∧ g ∉ ([] : List Nat)) (hJ : ∀ k D W₁ W₂ M', J k D W₁ → Ext M' W₁ W₂ → (∀ g ∈ M', g ∉ D ∧ (g ∈ ([] : List Nat) ∨ w.heap.size ≤ g)) → J k D W₂) (hJx : ∀ k D W₁ W₂ M', Jx k D W₁ → Ext M' W₁ W₂ → (∀ g ∈ M', g ∉ D ∧ (g ∈ ([] : List Nat) ∨ w.heap.size ≤ g)) → Jx k D W₂) (hY : ∀ k D vs W₁, k < n → J k D W₁ → prE (fun k => ps[k]?) k vs W₁ → (∀ g ∈ D, g < W₁.heap.size) → YCall Try.prog y vs W₁ fun b W₂ => ∃ D', Ext D W₁ W₂ ∧ (∀ g ∈ D', g < W₂.heap.size ∧ (g ∈ D ∨ W₁.heap.size ≤ g)) ∧ (b = true → J (k + 1) D' W₂) ∧ (b = false → Jx (k + 1) D' W₂)) (h0 : J 0 D₀ w) : Meets Try.prog 118 [y, .pointer (some ⟨b0, 0, none⟩)] w (fun _ W₂ => (∃ D, J n D W₂ ∧ True) ∨ ∃ k D, k ≤ n ∧ Jx k D W₂ ∧ True) := by
  refine Meets.enter Try.func118 rfl 18 rfl (Nat.le_of_ble_eq_true rfl) ?_
  have hb0D : b0 ∉ D₀ := fun h => (hD _ h).2.1 (by simp)
  have hMD : ∀ g ∈ Ma, g ∉ D₀ := fun g hg h => (hD _ h).2.1 (by simp [hg])
  refine G.seq ?_
  refine G.region ?_
  refine L.val rfl rfl (R.ldB rfl hB0 rfl) ?_
  refine L.val rfl rfl (R.lenS rfl) ?_
  refine L.val rfl rfl (R.mv rfl) ?_
  refine L.nil ?_
  refine N.seq ?_
  refine G.block ?_
  refine G.loop (X := Nat) (fun i => [(0, y), (5, .slice a n c), (6, .int .i64 (n : Int)), (7, .int .i64 (i : Int))]) (fun i w' => i ≤ n ∧ (∃ D, J i D w' ∧ ∀ g ∈ D, g < w'.heap.size ∧ (g ∈ D₀ ∨ w.heap.size ≤ g)) ∧ Ext D₀ w w') (fun i => n - i) (0) (Sub.cons rfl (Sub.cons rfl (Sub.cons rfl (Sub.cons rfl (Sub.nil _))))) ⟨Nat.zero_le _, ⟨D₀, h0, fun g hg => ⟨(hD g hg).1, .inl hg⟩⟩, Ext.refl _ _⟩ ?_
  rintro i w1 ⟨hi, ⟨D, hJi, hDD⟩, e1⟩
  have ho1 := ho.ext e1 hMD
  have B0 := hB0.ext e1 hb0D
  refine G.seq ?_
  refine G.region ?_
  refine L.val rfl rfl (R.lss rfl rfl) ?_
  refine L.nil ?_
  refine N.seq ?_
  refine G.seq ?_
  refine G.condP rfl (fun h0 => ?_) (fun h0 => ?_)
  · have hil : i < n := by omega
    have hes := e1.size
    obtain ⟨p, hp⟩ : ∃ p, ps[i]? = some p := ⟨_, List.getElem?_eq_getElem (by omega)⟩
    obtain ⟨q, hq, hcl⟩ := (Tab.pairs ho1.cells hn hok).at (by decide) i (by rw [List.length_map]; omega)
    have he : (ps.map pcell)[i]'(by rw [List.length_map]; omega) = pcell p := by rw [List.getElem_map]; exact congrArg pcell (List.getElem?_eq_some_iff.1 hp).2
    rw [he] at hcl
    have hsz : (pcell p).length = 2 := by show p.2.length + 1 = _; rw [(hok p (List.mem_of_getElem? hp)).1]
    have hsA : (pcell p).toArray.size = 2 := by rw [List.size_toArray]; exact hsz
    have h1c : ∀ u ∈ (pcell p).toArray.toList, u.oneCell' = true := pcell1 (hok p (List.mem_of_getElem? hp)).2
    refine G.skip ?_
    refine N.seq ?_
    refine G.seq ?_
    refine G.block ?_
    refine G.seq ?_
    refine G.region ?_
    refine L.val rfl rfl (R.mv rfl) ?_
    refine L.val rfl rfl (R.idx rfl rfl (by omega) (by omega) q hq) ?_
    refine L.val rfl rfl (R.ldN (vs := pcell p) rfl hcl hsz) ?_
    refine L.do rfl rfl (R.alloc) ?_
    rintro _ w2 ⟨b4, rfl, hb4, hs4, e2, B4⟩
    have hDb : ∀ g ∈ D, g < b4 := fun g hg => by have := (hDD g hg).1; omega
    replace B4 : Blk w2 b4 (.agg #[.int .i64 0, .slice none 0 0] : Value).cells 165 (0, 0) := B4
    replace hJi := hJ _ D w1 w2 [] hJi e2 (by simp)
    replace hDD := fun g hg => And.intro (Nat.lt_of_lt_of_le (hDD g hg).1 e2.size) (hDD g hg).2
    replace e1 := e1.trans0 e2
    have hws := e1.size
    refine L.val rfl rfl (R.as rfl) ?_
    refine L.set rfl (R.stN rfl rfl B4 hsA (by show 0 + (pcell p).toArray.size ≤ 2; omega) h1c) ?_
    rintro w3 ⟨e3, hs3, B4⟩
    rw [over_all (show (.agg #[.int .i64 0, .slice none 0 0] : Value).cells.size = (pcell p).toArray.size from hsA.symm)] at B4
    replace hJi := hJ _ D w2 w3 [b4] hJi e3 (fun g hg => by rw [List.mem_singleton.1 hg]; exact ⟨fun h => by have := hDb _ h; omega, .inr (by omega)⟩)
    replace hDD := fun g hg => And.intro (Nat.lt_of_lt_of_le (hDD g hg).1 e3.size) (hDD g hg).2
    replace e1 := e1.transN e3 (fun g hg => .inr (by rw [List.mem_singleton.1 hg]; omega))
    refine L.nil ?_
    refine N.seq ?_
    refine G.seq ?_
    refine G.region ?_
    refine L.val rfl rfl (R.mv rfl) ?_
    refine L.val rfl rfl (R.mv rfl) ?_
    refine L.val rfl rfl (R.ldBN rfl B4 hsA) ?_
    refine L.ycall rfl rfl rfl rfl (hY i D _ _ hil hJi ⟨p, _, hp, rfl⟩ (fun g hg => (hDD g hg).1)) ?_
    rintro bb w4 ⟨D2, eD, hD2, hT, hF⟩
    refine L.val rfl rfl (R.not rfl) ?_
    refine L.nil ?_
    refine N.seq ?_
    refine G.condB rfl (fun h1 => ?_) (fun h1 => ?_)
    · obtain rfl : bb = false := by simpa using h1
      refine G.ret0 rfl ?_
      exact .inr ⟨i + 1, D2, by omega, hF rfl, trivial⟩
    · obtain rfl : bb = true := by simpa using h1
      refine G.skip ?_
      refine N.block ?_
      refine N.seq ?_
      refine G.region ?_
      refine L.val rfl rfl (R.add rfl rfl (by omega)) ?_
      refine L.val rfl rfl (R.mv rfl) ?_
      refine L.nil ?_
      exact N.again (i + 1) (by omega) (Sub.cons rfl (Sub.cons rfl (Sub.cons rfl (Sub.cons rfl (Sub.nil _))))) ⟨by omega, ⟨D2, hT rfl, fun g hg => ⟨(hD2 g hg).1, (hD2 g hg).2.elim (fun h => (hDD g h).2) (fun h => .inr (Nat.le_trans e1.size h))⟩⟩, e1.transN eD (fun g hg => (hDD g hg).2)⟩
  · refine G.exit _ rfl ?_
    refine N.end0 rfl ?_
    obtain rfl : i = n := by omega
    exact .inl ⟨D, hJi, trivial⟩

theorem pallB_iter (b0 : Nat) (a : Option Addr) (n c : Nat) (ps : List (Pr (Int))) (Ma : List Nat) (w : World) (hB0 : Blk w b0 #[.slice a n c] 159 (0, 0)) (ho : Own w 165 (1 + 1) a n c (pcells ps) Ma) (hn : n = ps.length) (hok : OkP 1 ps) (hnl : n ≤ 1000000) : Iter Try.prog 118 [.pointer (some ⟨b0, 0, none⟩)] w n (prE (fun k => ps[k]?)) (fun _ _ => True) (b0 :: Ma) [] := by
  intro y D₀ J Jx W hE hD hJ hJx hY h0
  exact pall1B_ok y b0 a n c ps Ma D₀ J Jx W (hB0.ext0 hE) (ho.ext0 hE) hn hok hnl hD (fun k D W₁ W₂ M' h he hm => hJ k D W₁ W₂ M' h he (fun g hg => ⟨(hm g hg).1, (hm g hg).2.imp id (Nat.le_trans hE.size)⟩)) (fun k D W₁ W₂ M' h he hm => hJx k D W₁ W₂ M' h he (fun g hg => ⟨(hm g hg).1, (hm g hg).2.imp id (Nat.le_trans hE.size)⟩)) hY h0

theorem walkB_ok (gf : FuncId) (lb : List Value) (w : World) : Meets Try.prog 98 [.func (.func gf) #[] lb.toArray] w (fun v w' => ∃ b1, v = .func (.func 117) #[] #[.pointer (some ⟨b1, 0, none⟩)] ∧ Ext [] w w' ∧ Blk w' b1 #[.func (.func gf) #[] lb.toArray] 169 (0, 0) ∧ w.heap.size ≤ b1) := by
  refine Meets.enter Try.func98 rfl 4 rfl (Nat.le_of_ble_eq_true rfl) ?_
  have E := Ext.refl [] w
  refine G.seq ?_
  refine G.region ?_
  refine L.do rfl rfl (R.box rfl) ?_
  rintro _ w1 ⟨b1, rfl, hb1, hs1, e1, B1⟩
  replace E := E.trans0 e1
  refine L.val rfl rfl (R.as rfl) ?_
  refine L.nil ?_
  refine N.seq ?_
  refine G.seq ?_
  refine G.region ?_
  refine L.val rfl rfl (R.mkFunc rfl rfl) ?_
  refine L.val rfl rfl (R.as rfl) ?_
  refine L.nil ?_
  refine N.seq ?_
  refine G.ret1 rfl rfl ?_
  exact ⟨b1, rfl, E, B1, by omega⟩

theorem walk1B_ok (y : Value) (b1 : Nat) (gf : FuncId) (lb : List Value) (Nn : Nat) (q : Nat → Option (Pr (Int))) (F : List Nat) (D₀ : List Nat) (J Jx : Nat → List Nat → World → Prop) (w : World) (hB1 : Blk w b1 #[.func (.func gf) #[] lb.toArray] 169 (0, 0)) (eg : ∀ (vs : Array Value) w, (callFunc gf vs).run Try.prog w = .ok (.enter gf vs) w) (hit : ∀ W, Ext [] w W → Iter Try.prog gf lb W Nn (prE q) (fun _ _ => True) F []) (hF : ∀ x ∈ F, x < w.heap.size) (hq : ∀ k (p : Pr (Int)), q k = some p → p.2.length = 1 ∧ ∀ u ∈ p.2, u.oneCell' = true) (hD : ∀ g ∈ D₀, g < w.heap.size ∧ g ∉ b1 :: F ∧ g ∉ ([] : List Nat)) (hJ : ∀ k D W₁ W₂ M', J k D W₁ → Ext M' W₁ W₂ → (∀ g ∈ M', g ∉ D ∧ (g ∈ ([] : List Nat) ∨ w.heap.size ≤ g)) → J k D W₂) (hJx : ∀ k D W₁ W₂ M', Jx k D W₁ → Ext M' W₁ W₂ → (∀ g ∈ M', g ∉ D ∧ (g ∈ ([] : List Nat) ∨ w.heap.size ≤ g)) → Jx k D W₂) (hY : ∀ k D vs W₁, k < Nn → J k D W₁ → (kvE gv1' q) k vs W₁ → (∀ g ∈ D, g < W₁.heap.size) → YCall Try.prog y vs W₁ fun b W₂ => ∃ D', Ext D W₁ W₂ ∧ (∀ g ∈ D', g < W₂.heap.size ∧ (g ∈ D ∨ W₁.heap.size ≤ g)) ∧ (b = true → J (k + 1) D' W₂) ∧ (b = false → Jx (k + 1) D' W₂)) (h0 : J 0 D₀ w) : Meets Try.prog 117 [y, .pointer (some ⟨b1, 0, none⟩)] w (fun _ W₂ => (∃ D, J Nn D W₂ ∧ True) ∨ ∃ k D, k ≤ Nn ∧ Jx k D W₂ ∧ True) := by
  refine Meets.enter Try.func117 rfl 15 rfl (Nat.le_of_ble_eq_true rfl) ?_
  refine G.seq ?_
  refine G.region ?_
  refine L.do rfl rfl (R.box rfl) ?_
  rintro _ w1 ⟨b2, rfl, hb2, hs2, e1, B2⟩
  have hw1 := e1.size
  refine L.nil ?_
  refine N.seq ?_
  refine G.seq ?_
  refine G.region ?_
  refine L.val rfl rfl (R.ldB rfl (hB1.ext0 e1) rfl) ?_
  refine L.nil ?_
  refine N.seq ?_
  refine G.block ?_
  have hD0 : ∀ g ∈ b2 :: D₀, g < w1.heap.size ∧ g ∉ F ∧ g ∉ ([] : List Nat) := by
    intro g hg
    rcases List.mem_cons.1 hg with rfl | hg
    · exact ⟨by omega, fun h => by have := hF _ h; omega, by simp⟩
    · exact ⟨Nat.lt_of_lt_of_le (hD g hg).1 hw1, fun h => (hD g hg).2.1 (List.mem_cons_of_mem _ h), by simp⟩
  have hI0 : wkI J b2 129 y 0 (b2 :: D₀) w1 := ⟨D₀, rfl, fun h => by have := (hD _ h).1; omega, hJ 0 D₀ w w1 [] h0 e1 (by simp), B2⟩
  refine G.range (lb := lb) rfl rfl eg (hit _ e1) (fun _ _ _ h _ => h) (b2 :: D₀) hD0 (fun x h => h.elim (fun h => Nat.lt_of_lt_of_le (hF x h) hw1) (by simp)) (wkI J b2 129 y) (wkX Jx b2) ?_ ?_ hI0 ?_ ?_ ?_
  · rintro k DD W1 W2 M2 ⟨D, rfl, hn2, hj, hb⟩ he hm
    exact ⟨D, rfl, hn2, hJ k D W1 W2 M2 hj he (fun g hg => ⟨fun h => (hm g hg).1 (List.mem_cons_of_mem _ h), (hm g hg).2.imp id (Nat.le_trans hw1)⟩), hb.ext he (fun h => (hm _ h).1 (by simp))⟩
  · rintro c k DD W1 W2 M2 ⟨hc, D, rfl, hn2, hj⟩ he hm
    exact ⟨hc, D, rfl, hn2, hJx k D W1 W2 M2 hj he (fun g hg => ⟨fun h => (hm g hg).1 (List.mem_cons_of_mem _ h), (hm g hg).2.imp id (Nat.le_trans hw1)⟩)⟩
  · rintro l k DD vs W1 hl2 hlt hlD hDl hk ⟨D, rfl, hn2, hj, B2⟩ ⟨p, v0, hp, rfl⟩
    refine ⟨rfl, ?_⟩
    refine G.sub [(7, .agg (pcell p).toArray), (2, .pointer (some ⟨b2, 0, none⟩))] (Sub.cons rfl (Sub.cons rfl (Sub.nil _))) ?_
    have hpl := hq k p hp
    have hsz : (pcell p).length = 2 := by show p.2.length + 1 = _; rw [hpl.1]
    have hsA : (pcell p).toArray.size = 2 := by rw [List.size_toArray]; exact hsz
    have h1c : ∀ u ∈ (pcell p).toArray.toList, u.oneCell' = true := pcell1 hpl.2
    have l2 := B2.lt
    refine G.region ?_
    refine L.do rfl rfl (R.alloc) ?_
    rintro _ w2 ⟨b4, rfl, hb4, hs4, e2, B4⟩
    replace B4 : Blk w2 b4 (.agg #[.int .i64 0, .slice none 0 0] : Value).cells 165 (0, 0) := B4
    refine L.set rfl (R.stN rfl rfl B4 hsA (by show 0 + (pcell p).toArray.size ≤ 2; omega) h1c) ?_
    rintro w3 ⟨e3, hs3, B4⟩
    rw [over_all (show (.agg #[.int .i64 0, .slice none 0 0] : Value).cells.size = (pcell p).toArray.size from hsA.symm)] at B4
    have hEW := e2.news2 e3 (by omega)
    refine L.nil ?_
    refine N.round (hEW) (fun wb hb1 hb2 => ?_)
    replace B4 := B4.still hb2
    replace B2 := (B2.ext0 hEW).still hb2
    have hjw := hJ k D _ wb [l] (hJ k D W1 _ [] hj hEW (by simp)) hb1 (fun g hg => by rw [List.mem_singleton.1 hg]; exact ⟨fun h => hlD (List.mem_cons_of_mem _ h), .inr (by omega)⟩)
    have hDw : ∀ g ∈ D, g < wb.heap.size := fun g hg => Nat.lt_of_lt_of_le (hDl g (List.mem_cons_of_mem _ hg)) (Nat.le_trans hEW.size hb1.size)
    have l2b := B2.lt
    obtain ⟨x, hx⟩ := List.length_eq_one_iff.1 hpl.1
    have hyc := hY k D [.int .i64 p.1, x] wb hk hjw ⟨p, hp, by rw [hx]; rfl⟩ hDw
    have hcy : y.cells = #[y] := by rcases hyc with ⟨l9, rfl, _⟩ | ⟨f9, u9, c9, rfl, _⟩ <;> rfl
    rw [hcy] at B2
    refine G.block ?_
    refine G.seq ?_
    refine G.region ?_
    refine L.val rfl rfl (R.ldB rfl B2 rfl) ?_
    refine L.val rfl rfl (R.fld rfl) ?_
    refine L.val rfl rfl (R.ldB (v := .int .i64 p.1) rfl B4 rfl) ?_
    refine L.val rfl rfl (R.fld rfl) ?_
    refine L.val rfl rfl (R.ldB (v := x) rfl B4 (by show (Key.val p.1 :: p.2).toArray[1]? = _; rw [hx]; rfl)) ?_
    refine L.ycall rfl rfl rfl rfl hyc ?_
    rintro bb w7 ⟨D2, eD, hD2, hT, hFl⟩
    have X : Ext (b2 :: D) wb w7 := eD.mono (fun g hg => .inl (List.mem_cons_of_mem _ hg))
    have hn3 : b2 ∉ D2 := fun h => (hD2 b2 h).2.elim hn2 (fun h => by omega)
    have hDD : ∀ g ∈ b2 :: D2, g < w7.heap.size ∧ (g ∈ b2 :: D ∨ wb.heap.size ≤ g) := by
      intro g hg
      rcases List.mem_cons.1 hg with rfl | hg
      · exact ⟨Nat.lt_of_lt_of_le l2b eD.size, .inl (by simp)⟩
      · exact ⟨(hD2 g hg).1, (hD2 g hg).2.imp (fun h => List.mem_cons_of_mem _ h) id⟩
    refine L.val rfl rfl (R.not rfl) ?_
    refine L.nil ?_
    refine N.seq ?_
    refine G.condB rfl (fun h0 => ?_) (fun h0 => ?_)
    · obtain rfl : bb = false := by simpa using h0
      refine G.ret fun _ _ => ?_
      exact ⟨b2 :: D2, X, hDD, rfl, D2, rfl, hn3, hFl rfl⟩
    · obtain rfl : bb = true := by simpa using h0
      refine G.skip ?_
      refine N.block ?_
      refine N.done fun _ _ => ?_
      exact ⟨b2 :: D2, X, hDD, D2, rfl, hn3, hT rfl, by rw [hcy]; exact B2.ext eD hn2⟩
  · rintro d DD W2 hd hdD hK ⟨D, rfl, hn2, hj, B2⟩ _
    refine N.block ?_
    refine N.end0M rfl (leave1 hK) ?_
    exact .inl ⟨D, hJ Nn D W2 _ [d] hj (Ext.putObj _ _ _) (fun g hg => by rw [List.mem_singleton.1 hg]; exact ⟨fun h => hdD (List.mem_cons_of_mem _ h), .inr (by omega)⟩), trivial⟩
  · rintro d DD k c W2 hd hdD hK hk ⟨rfl, D, rfl, hn2, hj⟩ _
    refine G.ret0M rfl (leave1 hK) ?_
    exact .inr ⟨k, D, hk, hJx k D W2 _ [d] hj (Ext.putObj _ _ _) (fun g hg => by rw [List.mem_singleton.1 hg]; exact ⟨fun h => hdD (List.mem_cons_of_mem _ h), .inr (by omega)⟩), trivial⟩

theorem walkB_iter (b1 : Nat) (gf : FuncId) (lb : List Value) (Nn : Nat) (q : Nat → Option (Pr (Int))) (F : List Nat) (w : World) (hB1 : Blk w b1 #[.func (.func gf) #[] lb.toArray] 169 (0, 0)) (eg : ∀ (vs : Array Value) w, (callFunc gf vs).run Try.prog w = .ok (.enter gf vs) w) (hit : ∀ W, Ext [] w W → Iter Try.prog gf lb W Nn (prE q) (fun _ _ => True) F []) (hF : ∀ x ∈ F, x < w.heap.size) (hq : ∀ k (p : Pr (Int)), q k = some p → p.2.length = 1 ∧ ∀ u ∈ p.2, u.oneCell' = true) : Iter Try.prog 117 [.pointer (some ⟨b1, 0, none⟩)] w Nn (kvE gv1' q) (fun _ _ => True) (b1 :: F) [] := by
  intro y D₀ J Jx W hE hD hJ hJx hY h0
  exact walk1B_ok y b1 gf lb Nn q F D₀ J Jx W (hB1.ext0 hE) eg (fun W' h => hit W' (hE.trans0 h)) (fun x hx => Nat.lt_of_lt_of_le (hF x hx) hE.size) hq hD (fun k D W₁ W₂ M' h he hm => hJ k D W₁ W₂ M' h he (fun g hg => ⟨(hm g hg).1, (hm g hg).2.imp id (Nat.le_trans hE.size)⟩)) (fun k D W₁ W₂ M' h he hm => hJx k D W₁ W₂ M' h he (fun g hg => ⟨(hm g hg).1, (hm g hg).2.imp id (Nat.le_trans hE.size)⟩)) hY h0

end Go.Proofs.Ytiiiplhfgblamaa
/-
  The walks of package order.
-/
set_option linter.unusedVariables false
set_option linter.unusedSimpArgs false
set_option maxRecDepth 4000
namespace Go.Proofs.Ytiiiplhfgblamaa
open Go Brv
theorem oallB_ok (m : Nat) (ps : List (Pr (Int))) (S : List Nat) (w : World) (hd : MapAt (κ := Int) 161 165 1 w m ps S) (hl : ps.length ≤ 99999) : Meets Try.prog 75 [.pointer (some ⟨m, 0, none⟩)] w (fun v w' => ∃ lb F, v = .func (.func 117) #[] (lb : List Value).toArray ∧ Ext [] w w' ∧ (∀ W, Ext [] w' W → Iter Try.prog 117 lb W ps.length (kvE gv1' (fun k => ps[k]?)) (fun _ _ => True) F []) ∧ ∀ x ∈ F, w.heap.size ≤ x ∧ x < w'.heap.size) := by
  refine Meets.enter Try.func75 rfl 15 rfl (Nat.le_of_ble_eq_true rfl) ?_
  have E := Ext.refl [] w
  have hd0 := hd
  obtain ⟨a, c, M, rfl, hm0, Bm, om, hok, hs⟩ := hd
  refine G.seq ?_
  refine G.region ?_
  refine L.val rfl rfl (R.as rfl) ?_
  refine L.nil ?_
  refine N.seq ?_
  refine G.seq ?_
  refine G.seq ?_
  refine G.region ?_
  refine L.val rfl rfl (R.mv rfl) ?_
  refine L.val rfl rfl (R.eqNilP rfl rfl) ?_
  refine L.nil ?_
  refine N.seq ?_
  refine G.condF rfl ?_
  refine G.skip ?_
  refine N.seq ?_
  refine G.seq ?_
  refine G.region ?_
  refine L.val rfl rfl (R.mv rfl) ?_
  refine L.val rfl rfl (R.nilChk rfl) ?_
  refine L.val rfl rfl (R.fld rfl) ?_
  refine L.val rfl rfl (R.ldB rfl Bm rfl) ?_
  refine L.callF rfl rfl rfl go100 (scB_ok _ _ _ _ _ om.cells (by rw [om.1]) (pcell_one hok) (by omega)) ?_
  rintro _ w1 ⟨a1, c1, M1, rfl, e1, o1, hM1⟩
  have hE0 := E.size
  replace E := E.trans0 e1
  have hl1 := o1.lt
  have hE1 := E.size
  refine L.callF rfl rfl rfl go99 (pallB_ok a1 ps.length c1 _) ?_
  rintro _ w2 ⟨b0, rfl, e2, B0, hb0⟩
  have hE2 := E.size
  replace E := E.trans0 e2
  replace o1 := o1.ext0 e2
  have l0 := B0.lt
  have hE3 := E.size
  refine L.callF rfl rfl rfl go98 (walkB_ok 118 [.pointer (some ⟨b0, 0, none⟩)] _) ?_
  rintro _ w3 ⟨b1, rfl, e3, B1, hb1⟩
  replace E := E.trans0 e3
  replace o1 := o1.ext0 e3
  replace B0 := B0.ext0 e3
  have l1 := B1.lt
  have hs3 := e3.size
  have hs2 := e2.size
  have hFl : ∀ y ∈ b1 :: b0 :: M1, w.heap.size ≤ y ∧ y < w3.heap.size := by
    intro y hy
    simp only [List.mem_cons] at hy
    rcases hy with rfl | rfl | hy
    · exact ⟨by omega, l1⟩
    · exact ⟨by omega, by omega⟩
    · have := hl1 y hy; have := hM1 y hy; exact ⟨by omega, by omega⟩
  refine L.val rfl rfl (R.as rfl) ?_
  refine L.nil ?_
  refine N.seq ?_
  refine G.ret1 rfl rfl ?_
  exact ⟨[.pointer (some ⟨b1, 0, none⟩)], b1 :: b0 :: M1, rfl, E, fun W hW => walkB_iter b1 118 [.pointer (some ⟨b0, 0, none⟩)] ps.length (fun k => ps[k]?) (b0 :: M1) W (B1.ext0 hW) go118 (fun W' h => pallB_iter b0 a1 ps.length c1 ps M1 W' (B0.ext0 (hW.trans0 h)) (o1.ext0 (hW.trans0 h)) (by simp) hok (by omega)) (fun y hy => Nat.lt_of_lt_of_le (hFl y (List.mem_cons_of_mem _ hy)).2 hW.size) (fun k p hp => hok p (List.mem_of_getElem? hp)), hFl⟩

end Go.Proofs.Ytiiiplhfgblamaa
/-
  Functions of the library.
-/
set_option linter.unusedVariables false
set_option linter.unusedSimpArgs false
namespace Go.Proofs.Ytiiiplhfgblamaa
open Go Brv
theorem bclone_ok (a : Option Addr) (n c : Nat) (l : List UInt8) (w : World) (hb : Bs w a n l) (hn : n ≤ 140737488355328) : Meets Try.prog 76 [.slice a n c] w (Cloned w 5 1 n (vbs l)) := by
  refine Meets.enter Try.func76 rfl 8 rfl (Nat.le_of_ble_eq_true rfl) ?_
  refine G.seq ?_
  refine G.region ?_
  refine L.val rfl rfl (R.as rfl) ?_
  refine L.nil ?_
  refine N.seq ?_
  refine G.seq ?_
  refine G.seq ?_
  refine G.region ?_
  refine L.val rfl rfl (R.mv rfl) ?_
  refine L.val rfl rfl (R.eqNilS rfl rfl) ?_
  refine L.nil ?_
  refine N.seq ?_
  refine G.condB rfl (fun h0 => ?_) (fun h0 => ?_)
  · obtain rfl : a = none := by simpa using h0
    obtain ⟨rfl, rfl⟩ := hb.none
    refine G.seq ?_
    refine G.region ?_
    refine L.val rfl rfl (R.as rfl) ?_
    refine L.nil ?_
    refine N.seq ?_
    refine G.ret1 rfl rfl ?_
    exact ⟨none, 0, [], rfl, Ext.refl _ _, Own.nil _ _ _, by simp⟩
  · refine G.skip ?_
    refine N.seq ?_
    refine G.seq ?_
    refine G.region ?_
    refine L.do rfl rfl (R.buildS rfl (by decide) rfl) ?_
    rintro _ w1 ⟨b5, rfl, hb5, hs5, e1, B5⟩
    have hb := hb.ext0 e1
    have o0 := Own.blk (n := 0) (size := 1) B5 (by simp) (by simp [maxLen])
    refine L.val rfl rfl (R.mv rfl) ?_
    refine L.do rfl rfl (R.app rfl rfl o0 hb.cells (by rw [vbs_length, Nat.mul_one]; exact hb.len.symm) (vbs_one _) (by simp [maxLen]; omega) (by omega)) ?_
    rintro _ w2 ⟨a1, c1, M1, rfl, e2, hM1, o1⟩
    refine L.val rfl rfl (R.as rfl) ?_
    refine L.nil ?_
    refine N.seq ?_
    refine G.ret1 rfl rfl ?_
    exact ⟨a1, c1, M1, by rw [Nat.zero_add] , e1.trans e2 (by simp) (by simp; omega), by simpa using o1, by intro g hg; have := hM1 g hg; have := e1.size; simp at *; omega⟩

end Go.Proofs.Ytiiiplhfgblamaa
/-
  The walks of package record.
-/
set_option linter.unusedVariables false
set_option linter.unusedSimpArgs false
set_option maxRecDepth 4000
namespace Go.Proofs.Ytiiiplhfgblamaa
open Go Brv
structure MgSt where
  i : Nat
  zs : List WriteV
  S : List Nat
theorem merge_snoc (l : List WriteV) (o : WriteV) : mergeP [] ((l ++ [o]).map wv) = putK (mergeP [] (l.map wv)) o.Block' (vbs o.B') := by
  rw [List.map_append, mergeP_append]; rfl
theorem toQ_map {a b : List WriteV} (h : a.map wv = b.map wv) : (a.map fun o => toQ (wv o)) = b.map fun o => toQ (wv o) := by
  have := congrArg (List.map toQ) h
  rw [List.map_map, List.map_map] at this
  exact this

end Go.Proofs.Ytiiiplhfgblamaa
/-
  Assertions that own blocks, apart from one another, and what they say of a world.
-/
set_option linter.unusedVariables false
set_option linter.unusedSimpArgs false
namespace Brv
open Go

def Apart (X Y : List Nat) : Prop := ∀ b ∈ X, b ∉ Y
theorem Apart.symm {X Y : List Nat} (h : Apart X Y) : Apart Y X := fun b hb hx => h b hx hb
theorem Apart.nilL (Y : List Nat) : Apart [] Y := fun _ h => by cases h
theorem Apart.nilR (X : List Nat) : Apart X [] := fun _ _ h => by cases h
theorem Apart.mono {X Y X' Y' : List Nat} (h : Apart X Y) (hx : X' ⊆ X) (hy : Y' ⊆ Y) : Apart X' Y' := fun b hb hb' => h b (hx hb) (hy hb')
theorem Apart.appL {X Y Z : List Nat} (h : Apart X Z) (k : Apart Y Z) : Apart (X ++ Y) Z := fun b hb => (List.mem_append.1 hb).elim (h b) (k b)
theorem Apart.appR {X Y Z : List Nat} (h : Apart X Y) (k : Apart X Z) : Apart X (Y ++ Z) := (h.symm.appL k.symm).symm

/-- An assertion: what it says, of the blocks that it owns and of those that it shares. -/
structure Asn where
  P : List Nat → List Nat → World → Prop
  ext : ∀ F S M w w', P F S w → Ext M w w' → Apart F M → Apart S M → P F S w'
/-- An assertion that owns nothing. -/
class Pers (A : Asn) : Prop where
  h : ∀ F S w, A.P F S w → A.P [] S w

def Sep : List Asn → List Nat → List Nat → World → Prop
  | [], _, _, _ => True
  | A :: H, F, S, w => ∃ F1 S1 F2 S2, (F1 ⊆ F ∧ F2 ⊆ F ∧ S1 ⊆ S ∧ S2 ⊆ S) ∧ (Apart F1 F2 ∧ Apart F1 S2 ∧ Apart S1 F2) ∧ A.P F1 S1 w ∧ Sep H F2 S2 w

theorem subL {X Y Z : List Nat} (h : X ⊆ Z) (k : Y ⊆ Z) : X ++ Y ⊆ Z := fun b hb => (List.mem_append.1 hb).elim (fun x => h x) (fun x => k x)
theorem inL (X Y : List Nat) : X ⊆ X ++ Y := fun _ h => List.mem_append_left _ h
theorem inR (X Y : List Nat) : Y ⊆ X ++ Y := fun _ h => List.mem_append_right _ h
theorem subT {X Y Z : List Nat} (h : X ⊆ Y) (k : Y ⊆ Z) : X ⊆ Z := fun _ hb => k (h hb)
theorem subR (X : List Nat) : X ⊆ X := fun _ h => h

theorem Sep.mono {H : List Asn} {F S F' S' : List Nat} {w : World} (h : Sep H F S w) (hf : F ⊆ F') (hs : S ⊆ S') : Sep H F' S' w := by
  cases H with
  | nil => trivial
  | cons A H =>
    obtain ⟨F1, S1, F2, S2, ⟨a, b, c, d⟩, hd, hA, hH⟩ := h
    exact ⟨F1, S1, F2, S2, ⟨subT a hf, subT b hf, subT c hs, subT d hs⟩, hd, hA, hH⟩
theorem Sep.ext : ∀ {H : List Asn} {F S M : List Nat} {w w' : World}, Sep H F S w → Ext M w w' → Apart F M → Apart S M → Sep H F S w'
  | [], _, _, _, _, _, _, _, _, _ => trivial
  | A :: H, F, S, M, w, w', ⟨F1, S1, F2, S2, ⟨a, b, c, d⟩, hd, hA, hH⟩, he, hF, hS =>
    ⟨F1, S1, F2, S2, ⟨a, b, c, d⟩, hd, A.ext _ _ _ _ _ hA he (hF.mono a (subR _)) (hS.mono c (subR _)), Sep.ext hH he (hF.mono b (subR _)) (hS.mono d (subR _))⟩
theorem Sep.swap {A B : Asn} {H : List Asn} {F S : List Nat} {w : World} (h : Sep (A :: B :: H) F S w) : Sep (B :: A :: H) F S w := by
  obtain ⟨F1, S1, F2, S2, ⟨a, b, c, d⟩, ⟨p, q, r⟩, hA, F3, S3, F4, S4, ⟨a', b', c', d'⟩, ⟨p', q', r'⟩, hB, hH⟩ := h
  refine ⟨F3, S3, F1 ++ F4, S1 ++ S4, ⟨subT a' b, subL a (subT b' b), subT c' d, subL c (subT d' d)⟩, ⟨?_, ?_, ?_⟩, hB, F1, S1, F4, S4, ⟨inL _ _, inR _ _, inL _ _, inR _ _⟩, ⟨?_, ?_, ?_⟩, hA, hH⟩
  · exact Apart.appR (p.mono (subR _) a').symm p'
  · exact Apart.appR (r.mono (subR _) a').symm q'
  · exact Apart.appR (q.mono (subR _) c').symm r'
  · exact p.mono (subR _) b'
  · exact q.mono (subR _) d'
  · exact r.mono (subR _) b'
theorem Sep.dup {A : Asn} [t : Pers A] {H : List Asn} {F S : List Nat} {w : World} (h : Sep (A :: H) F S w) : Sep (A :: A :: H) F S w := by
  obtain ⟨F1, S1, F2, S2, ⟨a, b, c, d⟩, ⟨p, q, r⟩, hA, hH⟩ := h
  have hA' := t.h _ _ _ hA
  exact ⟨[], S1, F2, S1 ++ S2, ⟨by simp, b, c, subL c d⟩, ⟨Apart.nilL _, Apart.nilL _, r⟩, hA', [], S1, F2, S2, ⟨by simp, subR _, inL _ _, inR _ _⟩, ⟨Apart.nilL _, Apart.nilL _, r⟩, hA', hH⟩

/-- An assertion out of a list, and what is left. One that owns nothing stays. -/
inductive Sel : List Asn → Asn → List Asn → Prop
  | keep {A : Asn} {H : List Asn} [Pers A] : Sel (A :: H) A (A :: H)
  | here {A : Asn} {H : List Asn} : Sel (A :: H) A H
  | there {A B : Asn} {H H' : List Asn} : Sel H A H' → Sel (B :: H) A (B :: H')
inductive Sels : List Asn → List Asn → List Asn → Prop
  | nil {H : List Asn} : Sels H [] H
  | cons {A : Asn} {H H' H0 H1 : List Asn} : Sel H A H' → Sels H' H0 H1 → Sels H (A :: H0) H1
theorem Sel.sep {H : List Asn} {A : Asn} {H' : List Asn} (h : Sel H A H') : ∀ {F S : List Nat} {w : World}, Sep H F S w → Sep (A :: H') F S w := by
  induction h with
  | keep => exact fun h => h.dup
  | here => exact fun h => h
  | there _ ih =>
    rintro F S w ⟨F1, S1, F2, S2, hs, hd, hB, hH⟩
    exact Sep.swap ⟨F1, S1, F2, S2, hs, hd, hB, ih hH⟩
/-- Two lists, apart. -/
def Sep2 (H0 H1 : List Asn) (F S : List Nat) (w : World) : Prop := ∃ F1 S1 F2 S2, (F1 ⊆ F ∧ F2 ⊆ F ∧ S1 ⊆ S ∧ S2 ⊆ S) ∧ (Apart F1 F2 ∧ Apart F1 S2 ∧ Apart S1 F2) ∧ Sep H0 F1 S1 w ∧ Sep H1 F2 S2 w
theorem Sels.split {H H0 H1 : List Asn} (h : Sels H H0 H1) : ∀ {F S : List Nat} {w : World}, Sep H F S w → Sep2 H0 H1 F S w := by
  induction h with
  | nil => exact fun {F S w} h => ⟨[], [], F, S, ⟨by simp, subR _, by simp, subR _⟩, ⟨Apart.nilL _, Apart.nilL _, Apart.nilL _⟩, trivial, h⟩
  | cons h _ ih =>
    intro F S w hs
    obtain ⟨F1, S1, F2, S2, ⟨a, b, c, d⟩, ⟨p, q, r⟩, hA, hH⟩ := h.sep hs
    obtain ⟨F3, S3, F4, S4, ⟨a', b', c', d'⟩, ⟨p', q', r'⟩, h0, h1⟩ := ih hH
    refine ⟨F1 ++ F3, S1 ++ S3, F4, S4, ⟨subL a (subT a' b), subT b' b, subL c (subT c' d), subT d' d⟩, ⟨?_, ?_, ?_⟩, ⟨F1, S1, F3, S3, ⟨inL _ _, inR _ _, inL _ _, inR _ _⟩, ⟨p.mono (subR _) a', q.mono (subR _) c', r.mono (subR _) a'⟩, hA, h0⟩, h1⟩
    · exact Apart.appL (p.mono (subR _) b') p'
    · exact Apart.appL (q.mono (subR _) d') q'
    · exact Apart.appL (r.mono (subR _) b') r'
theorem Sep.join : ∀ {H0 H1 : List Asn} {F S : List Nat} {w : World}, Sep2 H0 H1 F S w → Sep (H0 ++ H1) F S w
  | [], H1, F, S, w, ⟨F1, S1, F2, S2, ⟨_, b, _, d⟩, _, _, h1⟩ => h1.mono b d
  | A :: H0, H1, F, S, w, ⟨F1, S1, F2, S2, ⟨a, b, c, d⟩, ⟨p, q, r⟩, ⟨F3, S3, F4, S4, ⟨a', b', c', d'⟩, ⟨p', q', r'⟩, hA, h0⟩, h1⟩ =>
    ⟨F3, S3, F4 ++ F2, S4 ++ S2, ⟨subT a' a, subL (subT b' a) b, subT c' c, subL (subT d' c) d⟩,
      ⟨Apart.appR p' (p.mono a' (subR _)), Apart.appR q' (q.mono a' (subR _)), Apart.appR r' (r.mono c' (subR _))⟩, hA,
      Sep.join ⟨F4, S4, F2, S2, ⟨inL _ _, inR _ _, inL _ _, inR _ _⟩, ⟨p.mono b' (subR _), q.mono b' (subR _), r.mono d' (subR _)⟩, h0, h1⟩⟩
theorem Sels.all : ∀ (H : List Asn), Sels H H []
  | [] => .nil
  | _ :: H => .cons .here (Sels.all H)

/-- A world, of which a list of assertions holds. -/
structure St (H : List Asn) (F S : List Nat) (w : World) : Prop where
  sep : Sep H F S w
  ltF : ∀ b ∈ F, b < w.heap.size
  ltS : ∀ b ∈ S, b < w.heap.size
/-- Where a piece of code began. -/
structure Org where
  w : World
  F : List Nat
  S : List Nat
structure From (o : Org) (w : World) (F S : List Nat) : Prop where
  ext : Ext o.F o.w w
  fF : ∀ b ∈ F, b ∈ o.F ∨ o.w.heap.size ≤ b
  fS : ∀ b ∈ S, b ∈ o.S ∨ b ∈ o.F ∨ o.w.heap.size ≤ b
theorem From.refl (w : World) (F S : List Nat) : From ⟨w, F, S⟩ w F S := ⟨Ext.refl _ _, fun _ h => .inl h, fun _ h => .inl h⟩
theorem From.trans {o : Org} {w w' : World} {F S F' S' : List Nat} (h : From o w F S) (k : From ⟨w, F, S⟩ w' F' S') : From o w' F' S' :=
  ⟨h.ext.transN k.ext h.fF, fun b hb => (k.fF b hb).elim (h.fF b) (fun q => .inr (Nat.le_trans h.ext.size q)),
   fun b hb => (k.fS b hb).elim (h.fS b) (fun q => q.elim (fun q => .inr (h.fF b q)) (fun q => .inr (.inr (Nat.le_trans h.ext.size q))))⟩
theorem From.sub {o : Org} {w : World} {F S F' S' : List Nat} (h : From o w F S) (hf : F' ⊆ F) (hs : S' ⊆ S) : From o w F' S' := ⟨h.ext, fun b hb => h.fF b (hf hb), fun b hb => h.fS b (hs hb)⟩
def PostS (o : Org) (Φ : Value → List Asn → Prop) (v : Value) (w' : World) : Prop := ∃ H' F' S', Φ v H' ∧ St H' F' S' w' ∧ From o w' F' S'
theorem PostS.mono {o : Org} {Φ Φ' : Value → List Asn → Prop} {v : Value} {w' : World} (h : PostS o Φ v w') (hm : ∀ v H, Φ v H → Φ' v H) : PostS o Φ' v w' := let ⟨H, F, S, a, b, c⟩ := h; ⟨H, F, S, hm _ _ a, b, c⟩

theorem St.take {H H0 H1 : List Asn} {F S : List Nat} {w : World} (s : St H F S w) (h : Sels H H0 H1) :
    ∃ F1 S1, St H0 F1 S1 w ∧ ∀ H' w' F' S', St H' F' S' w' → From ⟨w, F1, S1⟩ w' F' S' → ∃ F'' S'', St (H' ++ H1) F'' S'' w' ∧ From ⟨w, F, S⟩ w' F'' S'' := by
  obtain ⟨F1, S1, F2, S2, ⟨a, b, c, d⟩, ⟨p, q, r⟩, h0, h1⟩ := h.split s.sep
  refine ⟨F1, S1, ⟨h0, fun x hx => s.ltF x (a hx), fun x hx => s.ltS x (c hx)⟩, ?_⟩
  intro H' w' F' S' s' f
  have hsz := f.ext.size
  have h1' := h1.ext f.ext p.symm q.symm
  refine ⟨F' ++ F2, S' ++ S2, ⟨Sep.join ⟨F', S', F2, S2, ⟨inL _ _, inR _ _, inL _ _, inR _ _⟩, ⟨?_, ?_, ?_⟩, s'.sep, h1'⟩, ?_, ?_⟩, ⟨?_, ?_, ?_⟩⟩
  · intro x hx hx2
    exact (f.fF x hx).elim (fun h => p x h hx2) (fun h => by have := s.ltF x (b hx2); simp only at h; omega)
  · intro x hx hx2
    exact (f.fF x hx).elim (fun h => q x h hx2) (fun h => by have := s.ltS x (d hx2); simp only at h; omega)
  · intro x hx hx2
    exact (f.fS x hx).elim (fun h => r x h hx2) (fun h => h.elim (fun h => p x h hx2) (fun h => by have := s.ltF x (b hx2); simp only at h; omega))
  · intro x hx
    exact (List.mem_append.1 hx).elim (s'.ltF x) (fun h => Nat.lt_of_lt_of_le (s.ltF x (b h)) hsz)
  · intro x hx
    exact (List.mem_append.1 hx).elim (s'.ltS x) (fun h => Nat.lt_of_lt_of_le (s.ltS x (d h)) hsz)
  · exact f.ext.mono (fun x hx => .inl (a hx))
  · intro x hx
    exact (List.mem_append.1 hx).elim (fun h => (f.fF x h).elim (fun h => .inl (a h)) .inr) (fun h => .inl (b h))
  · intro x hx
    exact (List.mem_append.1 hx).elim (fun h => (f.fS x h).elim (fun h => .inl (c h)) (fun h => h.elim (fun h => .inr (.inl (a h))) (fun h => .inr (.inr h)))) (fun h => .inl (d h))
theorem St.sels {H H0 H1 : List Asn} {F S : List Nat} {w : World} (s : St H F S w) (h : Sels H H0 H1) : ∃ F1 S1, (F1 ⊆ F ∧ S1 ⊆ S) ∧ St H0 F1 S1 w := by
  obtain ⟨F1, S1, F2, S2, ⟨a, b, c, d⟩, _, h0, _⟩ := h.split s.sep
  exact ⟨F1, S1, ⟨a, c⟩, h0, fun x hx => s.ltF x (a hx), fun x hx => s.ltS x (c hx)⟩
theorem St.sel {H H' : List Asn} {A : Asn} {F S : List Nat} {w : World} (s : St H F S w) (h : Sel H A H') : ∃ F1 S1, (F1 ⊆ F ∧ S1 ⊆ S) ∧ A.P F1 S1 w := by
  obtain ⟨F1, S1, F2, S2, ⟨a, b, c, d⟩, _, hA, _⟩ := h.sep s.sep
  exact ⟨F1, S1, ⟨a, c⟩, hA⟩
/-- A list that follows. -/
def Imp (H H' : List Asn) : Prop := ∀ F S w, St H F S w → ∃ F' S', St H' F' S' w ∧ From ⟨w, F, S⟩ w F' S'
theorem Imp.refl (H : List Asn) : Imp H H := fun F S w h => ⟨F, S, h, From.refl _ _ _⟩
theorem Imp.trans {H H' H'' : List Asn} (h : Imp H H') (k : Imp H' H'') : Imp H H'' := fun F S w s =>
  let ⟨F', S', s', f'⟩ := h F S w s
  let ⟨F'', S'', s'', f''⟩ := k F' S' w s'
  ⟨F'', S'', s'', f'.trans f''⟩
theorem Imp.sels {H H0 H1 : List Asn} (h : Sels H H0 H1) : Imp H H0 := fun F S w s =>
  let ⟨F1, S1, hs, s1⟩ := s.sels h
  ⟨F1, S1, s1, (From.refl w F S).sub hs.1 hs.2⟩
theorem Imp.at {H H' : List Asn} {F S : List Nat} {w : World} {o : Org} (h : Imp H H') (s : St H F S w) (f : From o w F S) : ∃ F' S', St H' F' S' w ∧ From o w F' S' :=
  let ⟨F', S', s', f'⟩ := h F S w s
  ⟨F', S', s', f.trans f'⟩
/-- What holds of any world that keeps the shared blocks. -/
def sh (p : World → Prop) : Asn where
  P := fun _ S w => ∀ M w', Ext M w w' → Apart S M → p w'
  ext := fun F S M w w' h he _ hS M' w'' he' hS' => h (M ++ M') w'' ((he.mono (fun x hx => .inl (List.mem_append_left _ hx))).transN he' (fun x hx => .inl (List.mem_append_right _ hx))) (Apart.appR hS hS')
instance instPersSh (p : World → Prop) : Pers (sh p) := ⟨fun _ _ _ h => h⟩
theorem St.sh {H H' : List Asn} {p : World → Prop} {F S : List Nat} {w : World} (s : St H F S w) (h : Sel H (sh p) H') : p w := by
  obtain ⟨F1, S1, _, hA⟩ := s.sel h
  exact hA [] w (Ext.refl _ _) (Apart.nilR _)
/-- What was true of the old blocks. -/
theorem sh_old {p : World → Prop} {w : World} (h : ∀ w', Ext [] w w' → p w') (F : List Nat) : (sh p).P F (List.range w.heap.size) w := fun M w' he hM =>
  h w' (he.mono (fun x hx => by
    rcases Nat.lt_or_ge x w.heap.size with hlt | hge
    · exact absurd hx (hM x (List.mem_range.2 hlt))
    · exact .inr hge))
/-- A block of its own. -/
def blk (b : Nat) (cs : List Value) (T : TypeId) : Asn where
  P := fun F _ w => F = [b] ∧ Blk w b cs.toArray T (0, 0)
  ext := fun F S M w w' h he hF _ => ⟨h.1, h.2.ext he (hF b (by rw [h.1]; simp))⟩
theorem St.blk {H H' : List Asn} {b : Nat} {cs : List Value} {T : TypeId} {F S : List Nat} {w : World} (s : St H F S w) (h : Sel H (blk b cs T) H') : Blk w b cs.toArray T (0, 0) := (s.sel h).elim fun _ h => h.elim fun _ h => h.2.2
/-- A row that a slice owns. -/
def own (E size : Nat) (a : Option Addr) (n c : Nat) (xs : List Value) : Asn where
  P := fun F _ w => Own w E size a n c xs F
  ext := fun F S M w w' h he hF _ => h.ext he hF
theorem St.own {H H' : List Asn} {E size : Nat} {a : Option Addr} {n c : Nat} {xs : List Value} {F S : List Nat} {w : World} (s : St H F S w) (h : Sel H (own E size a n c xs) H') : ∃ M, Own w E size a n c xs M := (s.sel h).elim fun F1 h => h.elim fun _ h => ⟨F1, h.2⟩
theorem St.ownC {H H' : List Asn} {E size : Nat} {a : Option Addr} {n c : Nat} {xs : List Value} {F S : List Nat} {w : World} (s : St H F S w) (h : Sel H (Brv.own E size a n c xs) H') : Cells w a xs := (s.own h).elim fun _ h => h.cells
/-- One assertion is told otherwise: (it may give up blocks to be shared). -/
theorem Imp.turn {H H' : List Asn} {A B : Asn} (h : Sel H A H') (hp : ∀ F S w, A.P F S w → ∃ F' S', B.P F' S' w ∧ F' ⊆ F ∧ S' ⊆ F ++ S ∧ Apart F' S' ∨ B.P F S w) : Imp H (B :: H') := fun F S w s => by
  obtain ⟨F1, S1, F2, S2, ⟨a, b, c, d⟩, ⟨p, q, r⟩, hA, hH⟩ := h.sep s.sep
  rcases hp _ _ _ hA with ⟨F', S', ⟨hB, hF, hS, _⟩ | hB⟩
  · refine ⟨F' ++ F2, S' ++ S2, ⟨⟨F', S', F2, S2, ⟨inL _ _, inR _ _, inL _ _, inR _ _⟩, ⟨p.mono hF (subR _), q.mono hF (subR _), fun x hx => (List.mem_append.1 (hS hx)).elim (p x) (r x)⟩, hB, hH⟩, ?_, ?_⟩, ⟨Ext.refl _ _, ?_, ?_⟩⟩
    · intro x hx
      exact (List.mem_append.1 hx).elim (fun h => s.ltF x (a (hF h))) (fun h => s.ltF x (b h))
    · intro x hx
      exact (List.mem_append.1 hx).elim (fun h => (List.mem_append.1 (hS h)).elim (fun h => s.ltF x (a h)) (fun h => s.ltS x (c h))) (fun h => s.ltS x (d h))
    · intro x hx
      exact .inl ((List.mem_append.1 hx).elim (fun h => a (hF h)) (fun h => b h))
    · intro x hx
      exact (List.mem_append.1 hx).elim (fun h => (List.mem_append.1 (hS h)).elim (fun h => .inr (.inl (a h))) (fun h => .inl (c h))) (fun h => .inl (d h))
  · exact ⟨F, S, ⟨⟨F1, S1, F2, S2, ⟨a, b, c, d⟩, ⟨p, q, r⟩, hB, hH⟩, s.ltF, s.ltS⟩, From.refl _ _ _⟩
/-- Frozen: it is only read from here on. -/
theorem Imp.freeze {H H' : List Asn} {A : Asn} {p : World → Prop} (h : Sel H A H') (hp : ∀ F S w, A.P F S w → p w) : Imp H (Brv.sh p :: H') :=
  Imp.turn h fun F S w hA => ⟨[], F ++ S, .inl ⟨fun M w' he hS => hp F S w' (A.ext _ _ _ _ _ hA he (hS.mono (inL _ _) (subR _)) (hS.mono (inR _ _) (subR _))), by simp, subR _, Apart.nilL _⟩⟩
theorem Imp.weak {H H' : List Asn} {p q : World → Prop} (h : Sel H (Brv.sh p) H') (hp : ∀ w, p w → q w) : Imp H (Brv.sh q :: H') :=
  Imp.turn h fun F S w hA => ⟨F, S, .inr (fun M w' he hS => hp _ (hA M w' he hS))⟩
theorem Imp.same {H H' : List Asn} {A B : Asn} (h : Sel H A H') (hp : ∀ F S w, A.P F S w → B.P F S w) : Imp H (B :: H') :=
  Imp.turn h fun F S w hA => ⟨F, S, .inr (hp F S w hA)⟩

/-! ## What an operation does -/
section
variable (P : Program) (n : Fm)
/-- The operation runs, or calls a function that returns, and Φ holds of what it gives. -/
def Acts (ρ : Env) (w : World) (o : Oper) (Φ : Value → World → Prop) : Prop :=
  (∃ v w', Runs P n ρ w o v w' ∧ Φ v w') ∨ (o.dst = none ∧ ∃ w', (∀ a, Fr n ρ a → (execOp a.eval o).run P w = .ok .skip w') ∧ Φ undef w') ∨
  (∃ f vs, (∀ a, Fr n ρ a → (execOp a.eval o).run P w = .ok (.enter f vs) w) ∧ Calls P f vs w (Ret Φ)) ∨
  (∃ l fn tmps assign body, (∀ a, Fr n ρ a → (execOp a.eval o).run P w = .ok (.round l fn tmps assign body) w) ∧ RoundIn Fence.wide 0 P l fn tmps assign body w (Ret Φ))
/-- One step of code, from one list of assertions to another one. -/
def CS (o : Org) (ρ : Env) (H : List Asn) (op : Oper) (Ψ : Value → List Asn → Prop) : Prop := ∀ w F S, St H F S w → From o w F S → Acts P n ρ w op (PostS o Ψ)
end
section
variable {P : Program} {n : Fm}
theorem Ret.mono {Φ Φ' : Value → World → Prop} (hm : ∀ v w', Φ v w' → Φ' v w') (e : Ending) (w : World) (h : Ret Φ e w) : Ret Φ' e w := by
  cases e <;> first | exact hm _ _ h | exact h
theorem Acts.mono {ρ : Env} {w : World} {o : Oper} {Φ Φ' : Value → World → Prop} (h : Acts P n ρ w o Φ) (hm : ∀ v w', Φ v w' → Φ' v w') : Acts P n ρ w o Φ' := by
  rcases h with ⟨v, w', h, k⟩ | ⟨hd, w', h, k⟩ | ⟨f, vs, h, k⟩ | ⟨l, fn, tmps, asv, body, h, k⟩
  · exact .inl ⟨v, w', h, hm _ _ k⟩
  · exact .inr (.inl ⟨hd, w', h, hm _ _ k⟩)
  · exact .inr (.inr (.inl ⟨f, vs, h, Calls.mono k (Ret.mono hm)⟩))
  · exact .inr (.inr (.inr ⟨l, fn, tmps, asv, body, h, RoundIn.mono k (Ret.mono hm)⟩))
theorem Acts.wp {ρ : Env} {w : World} {o : Oper} {Φ : Value → World → Prop} {Q : Exit → Act → World → Prop} (h : Acts P n ρ w o Φ) (hdf : isDefer o.op = false) {a a₀ : Act} (ha : Fr n ρ a₀) (he : execOp a.eval o = execOp a₀.eval o) :
    o.wpIn (fen n.ro) 0 P a w (fun a' w' => ∃ v, a' = a.put o.dst v ∧ Φ v w') Q := by
  have hcg : ∀ {r}, (execOp a₀.eval o).run P w = r → (execOp a.eval o).run P w = r := fun h => (congrArg (fun s => s.run P w) he).trans h
  rcases h with ⟨v, w', h, k⟩ | ⟨hd, w', h, k⟩ | ⟨f, vs, h, k⟩ | ⟨l, fn, tmps, asv, body, h, k⟩
  · exact wpIn_run hdf (hcg (h a₀ ha)) ⟨v, rfl, k⟩
  · exact wpIn_run hdf (hcg (h a₀ ha)) ⟨undef, hd ▸ rfl, k⟩
  · refine wpIn_run hdf (hcg (h a₀ ha)) ⟨fun h => (by rw [fen_depth] at h; cases h), fen_calls ?_⟩
    refine Calls.mono k ?_
    intro e w' he
    cases e with
    | returned v => exact ⟨v, rfl, he⟩
    | panicked c => exact he.elim
    | outgrown => exact he.elim
  · refine wpIn_run hdf (hcg (h a₀ ha)) ⟨fun h => (by rw [fen_depth] at h; cases h), ?_⟩
    have hr2 : RoundIn (fen n.ro) 0 P l fn tmps asv body w (Ret Φ) := by
      cases n.ro
      · exact k
      · exact k
    refine RoundIn.mono hr2 ?_
    intro e w' he
    cases e with
    | returned v => exact ⟨v, rfl, he⟩
    | panicked c => exact he.elim
    | outgrown => exact he.elim
theorem CS.of {o : Org} {ρ : Env} {H H0 H1 : List Asn} {op : Oper} {Φ : Value → List Asn → Prop} (sel : Sels H H0 H1) (h : ∀ w F S F1 S1, St H F S w → St H0 F1 S1 w → Acts P n ρ w op (PostS ⟨w, F1, S1⟩ Φ)) :
    CS P n o ρ H op (fun v H' => ∃ H'', Φ v H'' ∧ H' = H'' ++ H1) := by
  intro w F S s f
  obtain ⟨F1, S1, s1, hj⟩ := s.take sel
  refine (h w F S F1 S1 s s1).mono ?_
  rintro v w' ⟨H', F', S', hΦ, s', f'⟩
  obtain ⟨F'', S'', s'', f''⟩ := hj H' w' F' S' s' f'
  exact ⟨H' ++ H1, F'', S'', ⟨H', hΦ, rfl⟩, s'', f.trans f''⟩
theorem CS.mono {o : Org} {ρ : Env} {H : List Asn} {op : Oper} {Ψ Ψ' : Value → List Asn → Prop} (h : CS P n o ρ H op Ψ) (hm : ∀ v H', Ψ v H' → Ψ' v H') : CS P n o ρ H op Ψ' := fun w F S s f => (h w F S s f).mono fun _ _ k => k.mono hm
theorem CS.imp {o : Org} {ρ : Env} {H K : List Asn} {op : Oper} {Ψ : Value → List Asn → Prop} (i : Imp H K) (h : CS P n o ρ K op Ψ) : CS P n o ρ H op Ψ := fun w F S s f =>
  let ⟨F', S', s', f'⟩ := i.at s f
  h w F' S' s' f'
/-- A function's contract. -/
def SpecS (P : Program) (f : FuncId) (vs : List Value) (H : List Asn) (Φ : Value → List Asn → Prop) : Prop := ∀ w F S, St H F S w → Meets P f vs w (PostS ⟨w, F, S⟩ Φ)
theorem SpecS.mono {f : FuncId} {vs : List Value} {H : List Asn} {Φ Φ' : Value → List Asn → Prop} (h : SpecS P f vs H Φ) (hm : ∀ v H', Φ v H' → Φ' v H') : SpecS P f vs H Φ' := fun w F S s => (h w F S s).mono fun _ _ k => k.mono hm
theorem Acts.callV {ρ : Env} {w : World} {d : Option Nat} {x : Operand} {f : FuncId} {first cap : Array Value} {args : Array Operand} {ats : Array TypeId} {ty : TypeId} {pos : String} {af : Array Edge} {gd : Option (Nat × Bool)} {asv vs : List Value} {Φ : Value → World → Prop}
    (hx : ev ρ x = some (.func (.func f) first cap)) (hargs : evs ρ args.toList = some asv) (hvs : first.toList ++ asv ++ cap.toList = vs) (hc : ∀ (vs : Array Value) w, (callFunc f vs).run P w = .ok (.enter f vs) w) (hf : Meets P f vs w Φ) :
    Acts P n ρ w ⟨d, .call ⟨.value x, args, ats⟩, ty, pos, af, gd⟩ Φ :=
  .inr (.inr (.inl ⟨f, vs.toArray, fun a ha => run_callV (ha.eval hx) (ha.evals hargs) hvs (hc _) w, hf⟩))
/-- A call of the function that an iterator was handed. -/
theorem Acts.ycall {ρ : Env} {w : World} {d : Option Nat} {x : Operand} {y : Value} {args : Array Operand} {ats : Array TypeId} {ty : TypeId} {pos : String} {af : Array Edge} {gd : Option (Nat × Bool)} {vs : List Value} {R : Bool → World → Prop}
    (hx : ev ρ x = some y) (hargs : evs ρ args.toList = some vs) (hY : YCall P y vs w R) : Acts P n ρ w ⟨d, .call ⟨.value x, args, ats⟩, ty, pos, af, gd⟩ (fun v w' => ∃ b, v = .bool b ∧ R b w') := by
  rcases hY with ⟨l, rfl, fn, tmps, assign, body, hrun, hround⟩ | ⟨f, first, cap, rfl, hc, hf⟩
  · refine .inr (.inr (.inr ⟨l, fn, tmps, assign, body, fun a ha => run_callY (ha.eval hx) (ha.evals hargs) w hrun, RoundIn.mono hround ?_⟩))
    rintro e w' ⟨b, rfl, hR⟩
    exact ⟨b, rfl, hR⟩
  · exact Acts.callV hx hargs rfl hc hf
/-- What a call of a consumer does. -/
def YSpec (P : Program) (y : Value) (vs : List Value) (H : List Asn) (Ψ : Bool → List Asn → Prop) : Prop := ∀ w F S, St H F S w → YCall P y vs w (fun b w' => PostS ⟨w, F, S⟩ (fun _ H' => Ψ b H') undef w')
section
variable {o : Org} {ρ : Env} {H H0 H1 : List Asn} {d : Option Nat} {ty : TypeId} {pos : String} {af : Array Edge} {gd : Option (Nat × Bool)}
theorem CS.callV {x : Operand} {f : FuncId} {first cap : Array Value} {args : Array Operand} {ats : Array TypeId} {asv vs : List Value} {Φ : Value → List Asn → Prop}
    (hx : ev ρ x = some (.func (.func f) first cap)) (hargs : evs ρ args.toList = some asv) (hvs : first.toList ++ asv ++ cap.toList = vs) (hc : ∀ (vs : Array Value) w, (callFunc f vs).run P w = .ok (.enter f vs) w)
    (hf : SpecS P f vs H0 Φ) (sel : Sels H H0 H1) : CS P n o ρ H ⟨d, .call ⟨.value x, args, ats⟩, ty, pos, af, gd⟩ (fun v H' => ∃ H'', Φ v H'' ∧ H' = H'' ++ H1) :=
  CS.of sel fun w F S F1 S1 _ s1 => Acts.callV hx hargs hvs hc (hf w F1 S1 s1)
theorem CS.call {f : FuncId} {args : Array Operand} {ats : Array TypeId} {vs : List Value} {Φ : Value → List Asn → Prop}
    (hargs : evs ρ args.toList = some vs) (hc : ∀ (vs : Array Value) w, (callFunc f vs).run P w = .ok (.enter f vs) w)
    (hf : SpecS P f vs H0 Φ) (sel : Sels H H0 H1) : CS P n o ρ H ⟨d, .call ⟨.value (.func f), args, ats⟩, ty, pos, af, gd⟩ (fun v H' => ∃ H'', Φ v H'' ∧ H' = H'' ++ H1) :=
  CS.callV (x := .func f) (first := #[]) (cap := #[]) rfl hargs (by simp) hc hf sel
/-- A call that changes nothing, by facts of the whole. -/
theorem CS.callR {f : FuncId} {args : Array Operand} {ats : Array TypeId} {vs : List Value} {φ : Value → Prop}
    (hargs : evs ρ args.toList = some vs) (hc : ∀ (vs : Array Value) w, (callFunc f vs).run P w = .ok (.enter f vs) w)
    (hf : ∀ w F S, St H F S w → Meets P f vs w (fun v w' => φ v ∧ Ext [] w w')) : CS P n o ρ H ⟨d, .call ⟨.value (.func f), args, ats⟩, ty, pos, af, gd⟩ (fun v H' => φ v ∧ H' = H) :=
  fun w F S s fr => Acts.callV (x := .func f) (first := #[]) (cap := #[]) rfl hargs (by simp) hc ((hf w F S s).mono fun v w' hv =>
    ⟨H, F, S, ⟨hv.1, rfl⟩, ⟨s.sep.ext hv.2 (Apart.nilR _) (Apart.nilR _), fun b hb => Nat.lt_of_lt_of_le (s.ltF b hb) hv.2.size, fun b hb => Nat.lt_of_lt_of_le (s.ltS b hb) hv.2.size⟩, ⟨fr.ext.trans0 hv.2, fr.fF, fr.fS⟩⟩)
theorem CS.yield {x : Operand} {y : Value} {args : Array Operand} {ats : Array TypeId} {vs : List Value} {Ψ : Bool → List Asn → Prop} (hx : ev ρ x = some y) (hargs : evs ρ args.toList = some vs) (hY : YSpec P y vs H0 Ψ) (sel : Sels H H0 H1) :
    CS P n o ρ H ⟨d, .call ⟨.value x, args, ats⟩, ty, pos, af, gd⟩ (fun v H' => ∃ H'', (∃ b, v = .bool b ∧ Ψ b H'') ∧ H' = H'' ++ H1) :=
  CS.of sel fun w F S F1 S1 _ s1 => (Acts.ycall hx hargs (hY w F1 S1 s1)).mono (by rintro v w' ⟨b, rfl, H', F', S', h1, h2, h3⟩; exact ⟨H', F', S', ⟨b, rfl, h1⟩, h2, h3⟩)
/-- New blocks. -/
theorem St.grow {F S : List Nat} {w w' : World} {A : Asn} {F' S' : List Nat} (s : St H F S w) (fr : From o w F S) (he : Ext [] w w') (hF : ∀ b ∈ F', w.heap.size ≤ b ∧ b < w'.heap.size) (hS : ∀ b ∈ S', b < w'.heap.size ∧ (w.heap.size ≤ b ∨ b ∈ S)) (hA : A.P F' S' w') (hFS : Apart S' F) :
    ∃ F'' S'', St (A :: H) F'' S'' w' ∧ From o w' F'' S'' := by
  have hsz := he.size
  refine ⟨F' ++ F, S' ++ S, ⟨⟨F', S', F, S, ⟨inL _ _, inR _ _, inL _ _, inR _ _⟩, ⟨fun x hx hy => ?_, fun x hx hy => ?_, hFS⟩, hA, s.sep.ext he (Apart.nilR _) (Apart.nilR _)⟩, ?_, ?_⟩, ⟨fr.ext.trans0 he, ?_, ?_⟩⟩
  · have := (hF x hx).1; have := s.ltF x hy; omega
  · have := (hF x hx).1; have := s.ltS x hy; omega
  · intro x hx; exact (List.mem_append.1 hx).elim (fun h => (hF x h).2) (fun h => Nat.lt_of_lt_of_le (s.ltF x h) hsz)
  · intro x hx; exact (List.mem_append.1 hx).elim (fun h => (hS x h).1) (fun h => Nat.lt_of_lt_of_le (s.ltS x h) hsz)
  · intro x hx; exact (List.mem_append.1 hx).elim (fun h => .inr (Nat.le_trans fr.ext.size (hF x h).1)) (fr.fF x)
  · intro x hx; exact (List.mem_append.1 hx).elim (fun h => (hS x h).2.elim (fun h => .inr (.inr (Nat.le_trans fr.ext.size h))) (fr.fS x)) (fr.fS x)
theorem CS.new {op : Oper} {cs : List Value} {T : TypeId} {φ : Value → Nat → Prop} (h : ∀ w F S, St H F S w → ∃ v w', Runs P n ρ w op v w' ∧ ∃ b, φ v b ∧ w.heap.size = b ∧ w'.heap.size = b + 1 ∧ Ext [] w w' ∧ Blk w' b cs.toArray T (0, 0)) :
    CS P n o ρ H op (fun v H' => ∃ b, φ v b ∧ H' = blk b cs T :: H) := fun w F S s fr => by
  obtain ⟨v, w', hr, b, hφ, hb, hs, he, hB⟩ := h w F S s
  obtain ⟨F', S', s', f'⟩ := s.grow fr he (A := blk b cs T) (F' := [b]) (S' := []) (fun x hx => by rw [List.mem_singleton.1 hx]; omega) (fun x hx => by cases hx) ⟨rfl, hB⟩ (Apart.nilL _)
  exact .inl ⟨v, w', hr, _, F', S', ⟨b, hφ, rfl⟩, s', f'⟩
theorem CS.alloc {T : TypeId} {z : Value} [t : TyZero P T z] {d : Nat} (cs : List Value) (hz : z.cells.toList = cs) : CS P n o ρ H ⟨some d, .alloc T, ty, pos, af, gd⟩ (fun v H' => ∃ b, v = .pointer (some ⟨b, 0, none⟩) ∧ H' = blk b cs T :: H) :=
  CS.new fun w F S s => by
    obtain ⟨v, w', hr, b, h1, h2, h3, h4, h5⟩ := R.alloc (P := P) (n := n) (ρ := ρ) (w := w) (d := d) (ty := ty) (pos := pos) (af := af) (gd := gd) (T := T) (z := z)
    exact ⟨v, w', hr, b, h1, h2, h3, h4, by rw [← hz]; exact h5⟩
theorem CS.box {T : TypeId} {x : Operand} {v : Value} {d : Nat} (hx : ev ρ x = some v) (cs : List Value) (hz : v.cells.toList = cs) : CS P n o ρ H ⟨some d, .box T x, ty, pos, af, gd⟩ (fun v H' => ∃ b, v = .pointer (some ⟨b, 0, none⟩) ∧ H' = blk b cs T :: H) :=
  CS.new fun w F S s => by
    obtain ⟨v, w', hr, b, h1, h2, h3, h4, h5⟩ := R.box (P := P) (n := n) (w := w) (d := d) (ty := ty) (pos := pos) (af := af) (gd := gd) (T := T) hx
    exact ⟨v, w', hr, b, h1, h2, h3, h4, by rw [← hz]; exact h5⟩
/-- A new block, however it is made. -/
theorem CS.mk {op : Oper} {cs : List Value} {E : TypeId} {len cap : Nat} {A : Array Value} (h : ∀ w, Does P n ρ w op (NewS w A E len cap)) (hA : A.toList = cs) : CS P n o ρ H op (fun v H' => ∃ b, v = .slice (some ⟨b, 0, none⟩) len cap ∧ H' = blk b cs E :: H) :=
  CS.new fun w F S s => by
    obtain ⟨v, w', hr, b, h1, h2, h3, h4, h5⟩ := h w
    exact ⟨v, w', hr, b, h1, h2, h3, h4, by rw [← hA]; exact h5⟩
/-- A cell of a block is written. -/
inductive SetAt : List Value → Nat → Value → List Value → Prop
  | here {v x : Value} {l : List Value} : SetAt (x :: l) 0 v (v :: l)
  | there {v x : Value} {l l' : List Value} {k : Nat} : SetAt l k v l' → SetAt (x :: l) (k + 1) v (x :: l')
theorem SetAt.eq {l l' : List Value} {k : Nat} {v : Value} (h : SetAt l k v l') : k < l.length ∧ l' = l.set k v := by
  induction h with
  | here => exact ⟨by simp, rfl⟩
  | there _ ih => exact ⟨by simpa using ih.1, by rw [ih.2]; rfl⟩
/-- One assertion in the place of another one. -/
inductive Upd : List Asn → Asn → Asn → List Asn → Prop
  | here {A B : Asn} {H : List Asn} : Upd (A :: H) A B (B :: H)
  | there {A B C : Asn} {H H' : List Asn} : Upd H A B H' → Upd (C :: H) A B (C :: H')
theorem Upd.sel {H : List Asn} {A B : Asn} {H' : List Asn} (h : Upd H A B H') : ∃ H1, Sel H A H1 ∧ ∀ F S w, Sep (B :: H1) F S w → Sep H' F S w := by
  induction h with
  | here => exact ⟨_, .here, fun _ _ _ h => h⟩
  | there _ ih =>
    obtain ⟨H1, h1, h2⟩ := ih
    refine ⟨_, .there h1, fun F S w h => ?_⟩
    obtain ⟨F1, S1, F2, S2, a, b, hC, hH⟩ := h.swap
    exact ⟨F1, S1, F2, S2, a, b, hC, h2 _ _ _ hH⟩
theorem CS.upd {op : Oper} {A : Asn} {φ : Value → Asn → Prop} {H1 : List Asn} (sel : Sel H A H1) (h : ∀ w F S F1 S1, St H F S w → A.P F1 S1 w → (∀ b ∈ F1, b < w.heap.size) → Acts P n ρ w op (fun v w' => ∃ A' F' S', φ v A' ∧ A'.P F' S' w' ∧ (∀ b ∈ F', b < w'.heap.size) ∧ (∀ b ∈ S', b < w'.heap.size) ∧ From ⟨w, F1, S1⟩ w' F' S')) :
    CS P n o ρ H op (fun v H' => ∃ A', φ v A' ∧ H' = A' :: H1) := by
  refine CS.mono (CS.of (Sels.cons sel .nil) (Φ := fun v H' => ∃ A', φ v A' ∧ H' = [A']) fun w F S F1 S1 s s1 => ?_) ?_
  · obtain ⟨Fa, Sa, Fb, Sb, ⟨a, b, c, d⟩, _, hA, _⟩ := s1.sep
    refine (h w F S Fa Sa s hA (fun x hx => s1.ltF x (a hx))).mono ?_
    rintro v w' ⟨A', F', S', h1, h2, h3, h4, f⟩
    refine ⟨[A'], F', S', ⟨A', h1, rfl⟩, ⟨⟨F', S', [], [], ⟨subR _, by simp, subR _, by simp⟩, ⟨Apart.nilR _, Apart.nilR _, Apart.nilR _⟩, h2, trivial⟩, h3, h4⟩, ⟨f.ext.mono (fun x hx => .inl (a hx)), fun x hx => (f.fF x hx).imp (fun h => a h) id, fun x hx => (f.fS x hx).imp (fun h => c h) (fun h => h.imp (fun h => a h) id)⟩⟩
  · rintro v H' ⟨_, ⟨A', h1, rfl⟩, rfl⟩
    exact ⟨A', h1, rfl⟩
theorem CS.st {T : TypeId} [t : TyOne P T] {x y : Operand} {b k : Nat} {cs cs' : List Value} {U : TypeId} {v : Value} {H1 : List Asn} (hx : ev ρ x = some (.pointer (some ⟨b, k, none⟩))) (hy : ev ρ y = some v) (sel : Sel H (blk b cs U) H1) (hs : SetAt cs k v cs') (h1 : v.oneCell' = true) :
    CS P n o ρ H ⟨none, .store T x y, ty, pos, af, gd⟩ (fun _ H' => H' = blk b cs' U :: H1) := by
  refine CS.mono (CS.upd sel (φ := fun _ A' => A' = blk b cs' U) fun w F S F1 S1 s hA hlt => ?_) (by rintro v H' ⟨_, rfl, rfl⟩; rfl)
  obtain ⟨rfl, hB⟩ := hA
  obtain ⟨w', hr, he, hsz, hB'⟩ := R.st (P := P) (n := n) (T := T) (ty := ty) (pos := pos) (af := af) (gd := gd) hx hy hB (by simpa using hs.eq.1) h1
  refine .inr (.inl ⟨rfl, w', hr, _, [b], [], rfl, ⟨rfl, by rw [hs.eq.2]; simpa using hB'⟩, fun x hx => by have := hlt x hx; omega, by simp, ⟨he, fun x hx => .inl hx, by simp⟩⟩)
end
end
end Brv
/-
  Walks over assertions: the goals carry what is known of the world.
-/
set_option linter.unusedVariables false
set_option linter.unusedSimpArgs false
namespace Brv
open Go
section
variable (P : Program) (B : Exit → Act → World → Prop) (n : Fm) (o : Org)
def SG (ks : List K) (ρ : Env) (H : List Asn) (c : Code) : Prop := ∀ w F S, St H F S w → From o w F S → G P B n ks ρ w c
def SN (ks : List K) (ρ : Env) (H : List Asn) : Prop := ∀ w F S, St H F S w → From o w F S → N P B n ks ρ w
def SL (ops : List Oper) (ks : List K) (ρ : Env) (H : List Asn) (l : List Oper) : Prop := ∀ w F S, St H F S w → From o w F S → L P B n ops ks ρ w l
end
section
variable {P : Program} {B : Exit → Act → World → Prop} {n : Fm} {o : Org} {ks : List K} {ρ : Env} {H : List Asn}
theorem SG.sub {c : Code} (ρ' : Env) (hs : Sub ρ' ρ) (h : SG P B n o ks ρ' H c) : SG P B n o ks ρ H c := fun w F S s f => G.sub ρ' hs (h w F S s f)
theorem SN.sub (ρ' : Env) (hs : Sub ρ' ρ) (h : SN P B n o ks ρ' H) : SN P B n o ks ρ H := fun w F S s f => N.sub ρ' hs (h w F S s f)
theorem SG.imp {c : Code} {H' : List Asn} (i : Imp H H') (h : SG P B n o ks ρ H' c) : SG P B n o ks ρ H c := fun w F S s f => let ⟨F', S', s', f'⟩ := i.at s f; h w F' S' s' f'
theorem SN.imp {H' : List Asn} (i : Imp H H') (h : SN P B n o ks ρ H') : SN P B n o ks ρ H := fun w F S s f => let ⟨F', S', s', f'⟩ := i.at s f; h w F' S' s' f'
theorem SG.seq {x y : Code} (h : SG P B n o (.seq y :: ks) ρ H x) : SG P B n o ks ρ H (.seq x y) := fun w F S s f => G.seq (h w F S s f)
theorem SG.block {id : Nat} {c : Code} (h : SG P B n o (.block id :: ks) ρ H c) : SG P B n o ks ρ H (.block id c) := fun w F S s f => G.block (h w F S s f)
theorem SG.skip (h : SN P B n o ks ρ H) : SG P B n o ks ρ H .skip := fun w F S s f => G.skip (h w F S s f)
theorem SG.region {id : Nat} {l : List Oper} (h : SL P B n o l ks ρ H l) : SG P B n o ks ρ H (.region id l.toArray false) := fun w F S s f => G.region (h w F S s f)
theorem SN.seq {y : Code} (h : SG P B n o ks ρ H y) : SN P B n o (.seq y :: ks) ρ H := fun w F S s f => N.seq (h w F S s f)
theorem SN.block {id : Nat} (h : SN P B n o ks ρ H) : SN P B n o (.block id :: ks) ρ H := fun w F S s f => N.block (h w F S s f)
theorem SG.exit {id : Nat} (ks' : List K) (h : popTo id ks = some ks') (hn : SN P B n o ks' ρ H) : SG P B n o ks ρ H (.exit id) := fun w F S s f => G.exit ks' h (hn w F S s f)
theorem SG.condT {c : Operand} {x y : Code} (hc : ev ρ c = some (.bool true)) (h : SG P B n o ks ρ H x) : SG P B n o ks ρ H (.cond c x y) := fun w F S s f => G.condT hc (h w F S s f)
theorem SG.condF {c : Operand} {x y : Code} (hc : ev ρ c = some (.bool false)) (h : SG P B n o ks ρ H y) : SG P B n o ks ρ H (.cond c x y) := fun w F S s f => G.condF hc (h w F S s f)
theorem SG.condB {c : Operand} {x y : Code} {b : Bool} (hc : ev ρ c = some (.bool b)) (ht : b = true → SG P B n o ks ρ H x) (hf : b = false → SG P B n o ks ρ H y) : SG P B n o ks ρ H (.cond c x y) :=
  fun w F S s f => G.condB hc (fun h => ht h w F S s f) (fun h => hf h w F S s f)
theorem SG.condP {c : Operand} {x y : Code} {p : Prop} {dp : Decidable p} (hc : ev ρ c = some (.bool (@decide p dp))) (ht : p → SG P B n o ks ρ H x) (hf : ¬ p → SG P B n o ks ρ H y) : SG P B n o ks ρ H (.cond c x y) :=
  fun w F S s f => G.condP hc (fun h => ht h w F S s f) (fun h => hf h w F S s f)
theorem SG.be {v v' : Value} {c : Code} (d : Nat) (hv : look ρ d = some v) (e : v = v') (h : SG P B n o ks ((d, v') :: ρ) H c) : SG P B n o ks ρ H c := fun w F S s f => G.be d hv e (h w F S s f)
/-- The ways meet again. -/
theorem SG.cut {X : Type} (ρJ : X → Env) (HJ : X → List Asn) (J : X → Prop) {c : Code}
    (h : SG P B n o (.hand (fun a' w' => ∃ x, Fr n (ρJ x) a' ∧ J x ∧ ∃ F S, St (HJ x) F S w' ∧ From o w' F S) :: ks) ρ H c) (hn : ∀ x, J x → SN P B n o ks (ρJ x) (HJ x)) : SG P B n o ks ρ H c :=
  fun w F S s f => G.cut ρJ (fun x w' => J x ∧ ∃ F S, St (HJ x) F S w' ∧ From o w' F S) (h w F S s f) (fun x w' ⟨hj, F', S', s', f'⟩ => hn x hj w' F' S' s' f')
theorem SN.handX {X : Type} {ρJ : X → Env} {HJ : X → List Asn} {J : X → Prop} (x : X) (hs : Sub (ρJ x) ρ) (i : Imp H (HJ x)) (h : J x) :
    SN P B n o (.hand (fun a' w' => ∃ x, Fr n (ρJ x) a' ∧ J x ∧ ∃ F S, St (HJ x) F S w' ∧ From o w' F S) :: ks) ρ H :=
  fun _ _ _ s f => N.hand fun _ ha => ⟨x, ha.sub hs, h, i.at s f⟩
theorem SG.loop {X : Type} (ρI : X → Env) (HI : X → List Asn) (I : X → Prop) (μ : X → Nat) (x₀ : X) {c : Code} (hs : Sub (ρI x₀) ρ) (i : Imp H (HI x₀)) (h₀ : I x₀)
    (round : ∀ x, I x → SG P B n o (.hand (fun a' w' => ∃ x', μ x' < μ x ∧ Fr n (ρI x') a' ∧ I x' ∧ ∃ F S, St (HI x') F S w' ∧ From o w' F S) :: ks) (ρI x) (HI x) c) : SG P B n o ks ρ H (.loop c) :=
  fun w F S s f => G.loop ρI (fun x w' => I x ∧ ∃ F S, St (HI x) F S w' ∧ From o w' F S) μ x₀ hs ⟨h₀, i.at s f⟩ (fun x w' ⟨hi, F', S', s', f'⟩ => round x hi w' F' S' s' f')
theorem SN.again {X : Type} {ρI : X → Env} {HI : X → List Asn} {I : X → Prop} {μ : X → Nat} {x : X} (x' : X) (hlt : μ x' < μ x) (hs : Sub (ρI x') ρ) (i : Imp H (HI x')) (h : I x') :
    SN P B n o (.hand (fun a' w' => ∃ x', μ x' < μ x ∧ Fr n (ρI x') a' ∧ I x' ∧ ∃ F S, St (HI x') F S w' ∧ From o w' F S) :: ks) ρ H :=
  fun _ _ _ s f => N.hand fun _ ha => ⟨x', hlt, ha.sub hs, h, i.at s f⟩
end
section
variable {P : Program} {n : Nat} {o : Org} {ks : List K} {ρ : Env} {H H' : List Asn} {fn : Func} {Φ : Value → List Asn → Prop}
theorem post_of {w : World} {F S : List Nat} {v : Value} (i : Imp H H') (h : Φ v H') (s : St H F S w) (f : From o w F S) : PostS o Φ v w := let ⟨F', S', s', f'⟩ := i.at s f; ⟨H', F', S', h, s', f'⟩
theorem SG.ret1 {t : Nat} {v : Value} (hr : fn.results = #[.tmp t]) (hv : look ρ t = some v) (i : Imp H H') (h : Φ v H') : SG P (Func.base P fn (PostS o Φ)) ⟨n, [], none⟩ o ks ρ H .ret := fun _ _ _ s f => G.ret1 hr hv (post_of i h s f)
theorem SG.ret2 {t u : Nat} {v x : Value} (hr : fn.results = #[.tmp t, .tmp u]) (hv : look ρ t = some v) (hx : look ρ u = some x) (i : Imp H H') (h : Φ (.tuple #[v, x]) H') : SG P (Func.base P fn (PostS o Φ)) ⟨n, [], none⟩ o ks ρ H .ret := fun _ _ _ s f => G.ret2 hr hv hx (post_of i h s f)
theorem SG.ret3 {t u r : Nat} {v x y : Value} (hr : fn.results = #[.tmp t, .tmp u, .tmp r]) (hv : look ρ t = some v) (hx : look ρ u = some x) (hy : look ρ r = some y) (i : Imp H H') (h : Φ (.tuple #[v, x, y]) H') : SG P (Func.base P fn (PostS o Φ)) ⟨n, [], none⟩ o ks ρ H .ret := fun _ _ _ s f => G.ret3 hr hv hx hy (post_of i h s f)
theorem SG.ret0 (hr : fn.results = #[]) (i : Imp H H') (h : Φ (.tuple #[]) H') : SG P (Func.base P fn (PostS o Φ)) ⟨n, [], none⟩ o ks ρ H .ret := fun _ _ _ s f => G.ret0 hr (post_of i h s f)
theorem SN.end0 (hr : fn.results = #[]) (i : Imp H H') (h : Φ (.tuple #[]) H') : SN P (Func.base P fn (PostS o Φ)) ⟨n, [], none⟩ o [] ρ H := fun _ _ _ s f => N.end0 hr (post_of i h s f)
theorem SpecS.enter {f : FuncId} {c : Code} {args : List Value} (hf : P.funcs[f]? = some fn) (hb : fn.body = some c) (n : Nat) (hn : fn.ntmps = n) (hl : args.length ≤ n)
    (h : ∀ o, SG P (Func.base P fn (PostS o Φ)) ⟨n, [], none⟩ o [] (argEnv 0 args) H c) : SpecS P f args H Φ := fun w F S s => Meets.enter hf hb n hn hl (h ⟨w, F, S⟩ w F S s (From.refl w F S))
end
section
variable {P : Program} {B : Exit → Act → World → Prop} {n : Fm} {o : Org} {ops : List Oper} {ks : List K} {ρ : Env} {H : List Asn} {rest : List Oper}
theorem SL.nil (h : SN P B n o ks ρ H) : SL P B n o ops ks ρ H [] := fun w F S s f => L.nil (h w F S s f)
theorem SL.imp {l : List Oper} {H' : List Asn} (i : Imp H H') (h : SL P B n o ops ks ρ H' l) : SL P B n o ops ks ρ H l := fun w F S s f => let ⟨F', S', s', f'⟩ := i.at s f; h w F' S' s' f'
theorem SL.sub {l : List Oper} (ρ' : Env) (hs : Sub ρ' ρ) (h : SL P B n o ops ks ρ' H l) : SL P B n o ops ks ρ H l := fun w F S s f => L.sub ρ' hs (h w F S s f)
theorem SL.step {d : Nat} {op : Op} {ty : TypeId} {pos : String} {af : Array Edge} {gd : Option (Nat × Bool)} {Ψ : Value → List Asn → Prop} (hg : wants ops ρ gd = some true) (hd : Nat.blt d n = true)
    (h : CS P n o ρ H ⟨some d, op, ty, pos, af, gd⟩ Ψ) (k : ∀ v H', Ψ v H' → SL P B n o ops ks ((d, v) :: ρ) H' rest) (hdf : isDefer op = false := by rfl) : SL P B n o ops ks ρ H (⟨some d, op, ty, pos, af, gd⟩ :: rest) := by
  intro w F S s f a ha
  have hd' : d < n := by simpa [Nat.blt_eq] using hd
  unfold wpListIn
  rw [if_pos (wants_spec ha hg)]
  refine Oper.wpIn_mono ?_ ((h w F S s f).wp hdf ha rfl)
  rintro a' w' ⟨v, rfl, H', F', S', hΨ, s', f'⟩
  exact k v H' hΨ w' F' S' s' f' _ (ha.put hd' v)
theorem SL.step0 {op : Op} {ty : TypeId} {pos : String} {af : Array Edge} {gd : Option (Nat × Bool)} {Ψ : Value → List Asn → Prop} (hg : wants ops ρ gd = some true)
    (h : CS P n o ρ H ⟨none, op, ty, pos, af, gd⟩ Ψ) (k : ∀ v H', Ψ v H' → SL P B n o ops ks ρ H' rest) (hdf : isDefer op = false := by rfl) : SL P B n o ops ks ρ H (⟨none, op, ty, pos, af, gd⟩ :: rest) := by
  intro w F S s f a ha
  unfold wpListIn
  rw [if_pos (wants_spec ha hg)]
  refine Oper.wpIn_mono ?_ ((h w F S s f).wp hdf ha rfl)
  rintro a' w' ⟨v, rfl, H', F', S', hΨ, s', f'⟩
  exact k v H' hΨ w' F' S' s' f' _ ha
theorem SL.val {d : Nat} {op : Op} {ty : TypeId} {pos : String} {af : Array Edge} {gd : Option (Nat × Bool)} {v : Value} (hg : wants ops ρ gd = some true) (hd : Nat.blt d n = true)
    (hrun : ∀ w F S, St H F S w → Runs P n ρ w ⟨some d, op, ty, pos, af, gd⟩ v w) (h : SL P B n o ops ks ((d, v) :: ρ) H rest) (hdf : isDefer op = false := by rfl) : SL P B n o ops ks ρ H (⟨some d, op, ty, pos, af, gd⟩ :: rest) :=
  fun w F S s f => L.val hg hd (hrun w F S s) (h w F S s f) hdf
theorem SL.pass {d : Nat} {op : Op} {ty : TypeId} {pos : String} {af : Array Edge} {gd : Option (Nat × Bool)} (hg : wants ops ρ gd = some false) (hd : Nat.blt d n = true)
    (h : SL P B n o ops ks ((d, undef) :: ρ) H rest) : SL P B n o ops ks ρ H (⟨some d, op, ty, pos, af, gd⟩ :: rest) := fun w F S s f => L.pass hg hd (h w F S s f)
theorem SL.pass0 {op : Op} {ty : TypeId} {pos : String} {af : Array Edge} {gd : Option (Nat × Bool)} (hg : wants ops ρ gd = some false)
    (h : SL P B n o ops ks ρ H rest) : SL P B n o ops ks ρ H (⟨none, op, ty, pos, af, gd⟩ :: rest) := fun w F S s f => L.pass0 hg (h w F S s f)
theorem SL.caseB {b : Bool} (d : Nat) (hv : look ρ d = some (.bool b)) (ht : b = true → SL P B n o ops ks ((d, .bool true) :: ρ) H rest) (hf : b = false → SL P B n o ops ks ((d, .bool false) :: ρ) H rest) : SL P B n o ops ks ρ H rest :=
  fun w F S s f => L.caseB d hv (fun h => ht h w F S s f) (fun h => hf h w F S s f)
theorem SL.caseP {p : Prop} {dp : Decidable p} (d : Nat) (hv : look ρ d = some (.bool (@decide p dp))) (ht : p → SL P B n o ops ks ((d, .bool true) :: ρ) H rest) (hf : ¬ p → SL P B n o ops ks ((d, .bool false) :: ρ) H rest) : SL P B n o ops ks ρ H rest :=
  SL.caseB d hv (fun h => ht (of_decide_eq_true h)) (fun h => hf (of_decide_eq_false h))
theorem SL.isT {b : Bool} (d : Nat) (hv : look ρ d = some (.bool b)) (e : b = true) (h : SL P B n o ops ks ((d, .bool true) :: ρ) H rest) : SL P B n o ops ks ρ H rest := SL.caseB d hv (fun _ => h) (fun h' => by rw [e] at h'; cases h')
theorem SL.isF {b : Bool} (d : Nat) (hv : look ρ d = some (.bool b)) (e : b = false) (h : SL P B n o ops ks ((d, .bool false) :: ρ) H rest) : SL P B n o ops ks ρ H rest := SL.caseB d hv (fun h' => by rw [e] at h'; cases h') (fun _ => h)
theorem SL.be {v v' : Value} (d : Nat) (hv : look ρ d = some v) (e : v = v') (h : SL P B n o ops ks ((d, v') :: ρ) H rest) : SL P B n o ops ks ρ H rest := fun w F S s f => L.be d hv e (h w F S s f)
theorem SL.fact {l : List Oper} {φ : Prop} (hφ : ∀ w F S, St H F S w → φ) (h : φ → SL P B n o ops ks ρ H l) : SL P B n o ops ks ρ H l := fun w F S s f => h (hφ w F S s) w F S s f
theorem SG.fact {c : Code} {φ : Prop} (hφ : ∀ w F S, St H F S w → φ) (h : φ → SG P B n o ks ρ H c) : SG P B n o ks ρ H c := fun w F S s f => h (hφ w F S s) w F S s f
theorem SN.fact {φ : Prop} (hφ : ∀ w F S, St H F S w → φ) (h : φ → SN P B n o ks ρ H) : SN P B n o ks ρ H := fun w F S s f => h (hφ w F S s) w F S s f
end
end Brv
/-
  Regions that draw their order: those operations that turn the world stand in a chain, the others read, and what they read stays while they may run. One walk serves every order.
-/
set_option linter.unusedVariables false
set_option linter.unusedSimpArgs false
namespace Brv
open Go

def extE : Option Nat → Value → Env → Env
  | some d, v, ρ => (d, v) :: ρ
  | none, _, ρ => ρ
abbrev Pend := List (Nat × (List Asn → Prop))
def piOf (ops : List Oper) : List Nat → List (Nat × Oper)
  | [] => []
  | i :: r => match ops[i]? with
    | some o => (i, o) :: piOf ops r
    | none => piOf ops r
def Obl (ops : List Oper) (i : Nat) : Pend → List Asn → Prop
  | [], _ => True
  | (j, g) :: r, H => (reachIn (masks ops ops.length) i j = true ∨ g H) ∧ Obl ops i r H
theorem Obl.all {ops : List Oper} {i : Nat} {H : List Asn} : ∀ {p : Pend}, Obl ops i p H → ∀ j g, (j, g) ∈ p → reachIn (masks ops ops.length) i j = true ∨ g H
  | [], _, j, g, h => by cases h
  | (j', g') :: r, ⟨h1, h2⟩, j, g, h => by
    rcases List.mem_cons.1 h with h | h
    · cases h; exact h1
    · exact Obl.all h2 j g h

section
variable (P : Program) (n : Fm) (ops : List Oper) (Q : Exit → Act → World → Prop) (o : Org) (σ : List Nat)
/-- An operation that only reads. -/
def Fl (ρ : Env) (w : World) (op : Oper) (v : Value) : Prop := (wants ops ρ op.guard = some true ∧ Runs P n ρ w op v w) ∨ (wants ops ρ op.guard = some false ∧ v = undef)
def SW : List (Nat × Oper) → Pend → Env → List Asn → Prop
  | [], _, ρ, H => ∀ w F S, St H F S w → From o w F S → ∀ a, Fr n ρ a → Q .normal a w
  | (i, op) :: π, pend, ρ, H => (∃ w F S, St H F S w ∧ From o w F S) → isSelect op.op = false ∧ (∀ d, op.dst = some d → d < n.n) ∧
    ((σ.any (Nat.beq i) = true ∧ ∃ Ψ : Value → List Asn → Prop, ((wants ops ρ op.guard = some true ∧ CS P n o ρ H op Ψ) ∨ (wants ops ρ op.guard = some false ∧ Ψ = fun v H' => v = undef ∧ H' = H)) ∧
        ∀ v H', Ψ v H' → Obl ops i pend H' ∧ SW π pend (extE op.dst v ρ) H') ∨
     (σ.any (Nat.beq i) = false ∧ ∃ v, op.dst ≠ none ∧ ((∀ w, Fl P n ops ρ w op v) ∧ SW π pend (extE op.dst v ρ) H ∨
        ∃ g : List Asn → Prop, g H ∧ (∀ H w F S, g H → St H F S w → From o w F S → Fl P n ops ρ w op v) ∧ SW π ((i, g) :: pend) (extE op.dst v ρ) H)))
end

/-- Is the order told one in which the others run as early as they may? -/
def chkOrd (ops : List Oper) (σ : List Nat) : List Nat → List Nat → List Nat → Bool
  | _, _, [] => true
  | done, ch, i :: r => Nat.blt i ops.length && !done.any (Nat.beq i) && (afters ops i).all (fun k => done.any (Nat.beq k)) && ch.all (fun c => reachIn (masks ops ops.length) i c) && chkOrd ops σ (i :: done) (if σ.any (Nat.beq i) then i :: ch else ch) r
def chkPi (ops : List Oper) (σ π : List Nat) : Bool := chk ops [] && (List.range ops.length).all (fun i => π.any (Nat.beq i)) && chkOrd ops σ [] [] π

section
variable {P : Program} {n : Fm} {ops : List Oper} {Q : Exit → Act → World → Prop} {o : Org} {σ : List Nat}

def envOf (ops : List Oper) (val : Nat → Value) (ρ₀ : Env) : List Nat → Env
  | [] => ρ₀
  | i :: d => extE ((ops[i]?).bind (·.dst)) (val i) (envOf ops val ρ₀ d)
/-- The environment that operation i was walked in. -/
def envB (ops : List Oper) (val : Nat → Value) (ρ₀ : Env) (i : Nat) : List Nat → Env
  | [] => ρ₀
  | j :: d => if j = i then envOf ops val ρ₀ d else envB ops val ρ₀ i d
def DoneOk (ops : List Oper) : List Nat → Prop
  | [] => True
  | i :: d => i ∉ d ∧ i < ops.length ∧ (∀ k ∈ afters ops i, k ∈ d) ∧ DoneOk ops d
theorem look_envOf {val : Nat → Value} {ρ₀ : Env} {t : Nat} {u : Value} : ∀ {d : List Nat}, look (envOf ops val ρ₀ d) t = some u → (∃ j op, j ∈ d ∧ ops[j]? = some op ∧ op.dst = some t ∧ u = val j) ∨ (look ρ₀ t = some u ∧ ∀ j op, j ∈ d → ops[j]? = some op → op.dst ≠ some t)
  | [], h => .inr ⟨h, fun j op hj => by cases hj⟩
  | i :: d, h => by
    simp only [envOf] at h
    cases ho : ops[i]? with
    | none =>
      rw [ho] at h
      rcases look_envOf h with ⟨j, op, h1, h2⟩ | ⟨h1, h2⟩
      · exact .inl ⟨j, op, by simp [h1], h2⟩
      · refine .inr ⟨h1, fun j op hj hop => ?_⟩
        rcases List.mem_cons.1 hj with rfl | hj
        · rw [ho] at hop; cases hop
        · exact h2 j op hj hop
    | some op =>
      rw [ho] at h
      simp only [Option.bind_some] at h
      cases hd : op.dst with
      | none =>
        rw [hd] at h
        rcases look_envOf h with ⟨j, op, h1, h2⟩ | ⟨h1, h2⟩
        · exact .inl ⟨j, op, by simp [h1], h2⟩
        · refine .inr ⟨h1, fun j op' hj hop => ?_⟩
          rcases List.mem_cons.1 hj with rfl | hj
          · rw [ho] at hop; cases hop; rw [hd]; simp
          · exact h2 j op' hj hop
      | some s =>
        rw [hd] at h
        simp only [extE] at h
        rw [look_cons] at h
        split at h
        · rename_i e; subst e; cases h
          exact .inl ⟨i, op, by simp, ho, hd, rfl⟩
        · rename_i e
          rcases look_envOf h with ⟨j, op, h1, h2⟩ | ⟨h1, h2⟩
          · exact .inl ⟨j, op, by simp [h1], h2⟩
          · refine .inr ⟨h1, fun j op' hj hop => ?_⟩
            rcases List.mem_cons.1 hj with rfl | hj
            · rw [ho] at hop; cases hop; rw [hd]; simpa using e
            · exact h2 j op' hj hop
theorem envB_of {val : Nat → Value} {ρ₀ : Env} {i : Nat} : ∀ {d : List Nat}, DoneOk ops d → i ∈ d → ∃ d', envB ops val ρ₀ i d = envOf ops val ρ₀ d' ∧ (∀ k ∈ afters ops i, k ∈ d') ∧ i ∉ d' ∧ DoneOk ops d' ∧ ∀ x ∈ d', x ∈ d
  | j :: d, ⟨h1, h2, h3, h4⟩, hi => by
    simp only [envB]
    split
    · rename_i e; subst e; exact ⟨d, rfl, h3, h1, h4, fun x hx => List.mem_cons_of_mem _ hx⟩
    · rename_i e
      obtain ⟨d', q1, q2, q3, q4, q5⟩ := envB_of h4 ((List.mem_cons.1 hi).resolve_left (fun q => e q.symm))
      exact ⟨d', q1, q2, q3, q4, fun x hx => List.mem_cons_of_mem _ (q5 x hx)⟩
theorem envOf_congr {val val' : Nat → Value} {ρ₀ : Env} : ∀ {d : List Nat}, (∀ j ∈ d, val j = val' j) → envOf ops val ρ₀ d = envOf ops val' ρ₀ d
  | [], _ => rfl
  | i :: d, h => by simp only [envOf]; rw [h i (by simp), envOf_congr (fun j hj => h j (by simp [hj]))]
theorem envB_congr {val val' : Nat → Value} {ρ₀ : Env} {i : Nat} : ∀ {d : List Nat}, (∀ j ∈ d, val j = val' j) → envB ops val ρ₀ i d = envB ops val' ρ₀ i d
  | [], _ => rfl
  | j :: d, h => by
    simp only [envB]
    rw [envOf_congr (fun k hk => h k (by simp [hk])), envB_congr (fun k hk => h k (by simp [hk]))]
theorem DoneOk.back : ∀ {d : List Nat} {j k : Nat}, DoneOk ops d → j ∈ d → k ∈ afters ops j → k ∈ d
  | i :: d, j, k, ⟨_, _, h3, h4⟩, hj, hk => by
    rcases List.mem_cons.1 hj with rfl | hj
    · exact List.mem_cons_of_mem _ (h3 k hk)
    · exact List.mem_cons_of_mem _ (DoneOk.back h4 hj hk)

/-- What is so while the region runs. -/
structure SInv (P : Program) (n : Fm) (ops : List Oper) (Q : Exit → Act → World → Prop) (o : Org) (σ : List Nat) (ρ₀ : Env) (listed : Array Bool) (a : Act) (w : World) (done rest ch : List Nat) (pend : Pend) (H : List Asn) (F S : List Nat) (val : Nat → Value) : Prop where
  lsz : listed.size = ops.length
  tsz : a.tmps.size = n.n
  tdf : a.defers = n.df
  closed : Closed ops (fun i => listed[i]? = some true)
  ok : DoneOk ops done
  ord : chkOrd ops σ done ch rest = true
  chs : ∀ c ∈ ch, c ∈ done
  cover : ∀ i, i < ops.length → i ∈ done ∨ i ∈ rest
  sw : SW P n ops Q o σ (piOf ops rest) pend (envOf ops val ρ₀ done) H
  st : St H F S w
  fr : From o w F S
  ldone : ∀ i, listed[i]? = some true → i ∈ done
  cdone : ∀ i ∈ done, σ.any (Nat.beq i) = true → listed[i]? = some true
  pok : ∀ (i : Nat) (op : Oper), i ∈ done → listed[i]? ≠ some true → ops[i]? = some op → isSelect op.op = false ∧ (∀ d, op.dst = some d → d < n.n) ∧ op.dst ≠ none ∧ ((∀ w, Fl P n ops (envB ops val ρ₀ i done) w op (val i)) ∨ ∃ g : List Asn → Prop, (i, g) ∈ pend ∧ g H ∧ ∀ H w F S, g H → St H F S w → From o w F S → Fl P n ops (envB ops val ρ₀ i done) w op (val i))
  d1 : ∀ (i : Nat) (op : Oper) (d : Nat), listed[i]? = some true → ops[i]? = some op → op.dst = some d → a.tmps[d]? = some (val i)
  d2 : ∀ t v, look ρ₀ t = some v → (∀ (i : Nat) (op : Oper), listed[i]? = some true → ops[i]? = some op → op.dst ≠ some t) → a.tmps[t]? = some v
  lt0 : ∀ t v, look ρ₀ t = some v → t < n.n
  ltd : ∀ (i : Nat) (op : Oper) (d : Nat), i ∈ done → ops[i]? = some op → op.dst = some d → d < n.n

/-- The slots that an operation looks at are as its environment has them. -/
theorem SInv.slots {ρ₀ : Env} {listed : Array Bool} {a : Act} {w : World} {done rest ch : List Nat} {pend : Pend} {H : List Asn} {F S : List Nat} {val : Nat → Value} (C : Chk ops []) (I : SInv P n ops Q o σ ρ₀ listed a w done rest ch pend H F S val)
    {i : Nat} {op : Oper} (hi : ops[i]? = some op) (hnl : listed[i]? ≠ some true) (haft : ∀ k ∈ afters ops i, listed[k]? = some true) {d : List Nat} (hd : DoneOk ops d) (hda : ∀ k ∈ afters ops i, k ∈ d) (hid : i ∉ d) :
    ∀ t ∈ slots ops op, ∀ u, look (envOf ops val ρ₀ d) t = some u → a.tmps[t]? = some u := by
  intro t ht u hu
  rcases look_envOf hu with ⟨j, oj, hj, hoj, hdj, rfl⟩ | ⟨h0, hno⟩
  · rcases C.share i op hi t ht j oj hoj hdj with e | e | e
    · exact absurd (e ▸ hj) hid
    · exact I.d1 j oj t (haft j e) hoj hdj
    · exact absurd (hd.back hj e) hid
  · refine I.d2 t u h0 (fun j oj hlj hoj hdj => ?_)
    rcases C.share i op hi t ht j oj hoj hdj with e | e | e
    · exact hnl (e ▸ hlj)
    · exact hno j oj (hda j e) hoj hdj
    · exact hnl (I.closed j hlj i e)
/-- A frame that has all of an environment, and the slots that an operation looks at as they are. -/
theorem frame_for {ρ : Env} {a : Act} (hsz : a.tmps.size = n.n) (hlt : ∀ t v, look ρ t = some v → t < n.n) (op : Oper) (hs : ∀ t ∈ slots ops op, ∀ u, look ρ t = some u → a.tmps[t]? = some u) :
    ∃ a₀, Fr n ρ a₀ ∧ ∀ t ∈ slots ops op, a.tmps.getD t undef = a₀.tmps.getD t undef ∧ a.tmps[t]? = a₀.tmps[t]? := by
  refine ⟨{ tmps := Array.ofFn (n := n.n) fun t => match look ρ t.1 with | some v => v | none => a.tmps.getD t.1 undef, defers := n.df }, ⟨by simp, rfl, ?_⟩, ?_⟩
  · intro t v hv
    have := hlt t v hv
    simp [this, hv]
  · intro t ht
    have key : a.tmps[t]? = (Array.ofFn (n := n.n) fun t => match look ρ t.1 with | some v => v | none => a.tmps.getD t.1 undef)[t]? := by
      rcases Nat.lt_or_ge t n.n with hlt' | hge
      · rw [Array.getElem?_ofFn, dif_pos hlt']
        cases hv : look ρ t with
        | some v => rw [hs t ht v hv]
        | none =>
          simp only []
          have : t < a.tmps.size := by omega
          rw [Array.getElem?_eq_getElem this, Array.getD_eq_getD_getElem?, Array.getElem?_eq_getElem this]
          rfl
      · rw [Array.getElem?_eq_none (by omega), Array.getElem?_eq_none (by simp; omega)]
    exact ⟨by rw [Array.getD_eq_getD_getElem?, Array.getD_eq_getD_getElem?, key], key⟩
theorem wanted_for {ρ : Env} {a a₀ : Act} {op : Oper} {b : Bool} (hg : wants ops ρ op.guard = some b) (ha : Fr n ρ a₀) (hag : ∀ t ∈ slots ops op, a.tmps.getD t undef = a₀.tmps.getD t undef ∧ a.tmps[t]? = a₀.tmps[t]?) : Region.wanted op (yielded ops.toArray a.tmps) = b :=
  wanted_virtual (ρ := ρ) hg ha hag (fun _ _ _ h => h)
theorem piOf_cons {i : Nat} {r : List Nat} {op : Oper} (h : ops[i]? = some op) : piOf ops (i :: r) = (i, op) :: piOf ops r := by simp [piOf, h]
theorem lt_env {val : Nat → Value} {ρ₀ : Env} {d : List Nat} (h0 : ∀ t v, look ρ₀ t = some v → t < n.n) (hd : ∀ i op t, i ∈ d → ops[i]? = some op → op.dst = some t → t < n.n) : ∀ t v, look (envOf ops val ρ₀ d) t = some v → t < n.n := by
  intro t v h
  rcases look_envOf h with ⟨j, op, h1, h2, h3, _⟩ | ⟨h1, _⟩
  · exact hd j op t h1 h2 h3
  · exact h0 t v h1

/-- The walk goes on over all that only read. -/
theorem SInv.adv {ρ₀ : Env} {listed : Array Bool} {a : Act} {w : World} : ∀ {rest done ch : List Nat} {pend : Pend} {H : List Asn} {F S : List Nat} {val : Nat → Value}, SInv P n ops Q o σ ρ₀ listed a w done rest ch pend H F S val →
    ∃ done' rest' ch' pend' val', SInv P n ops Q o σ ρ₀ listed a w done' rest' ch' pend' H F S val' ∧ (rest' = [] ∨ ∃ c r, rest' = c :: r ∧ σ.any (Nat.beq c) = true)
  | [], done, ch, pend, H, F, S, val, I => ⟨done, [], ch, pend, val, I, .inl rfl⟩
  | i :: r, done, ch, pend, H, F, S, val, I => by
    cases hc : σ.any (Nat.beq i) with
    | true => exact ⟨done, i :: r, ch, pend, val, I, .inr ⟨i, r, rfl, hc⟩⟩
    | false =>
      have ho := I.ord
      simp only [chkOrd, Bool.and_eq_true, hc, Bool.not_eq_true', Nat.blt_eq] at ho
      obtain ⟨⟨⟨⟨h1, h2⟩, h3⟩, h4⟩, h5⟩ := ho
      have hid : i ∉ done := fun h => by have := any_beq.2 h; rw [h2] at this; cases this
      have hia : ∀ k ∈ afters ops i, k ∈ done := fun k hk => any_beq.1 (List.all_eq_true.1 h3 k hk)
      have hop : ops[i]? = some ops[i] := List.getElem?_eq_getElem h1
      have hsw := I.sw
      rw [piOf_cons hop] at hsw
      obtain ⟨q1, q2, q⟩ := hsw ⟨w, F, S, I.st, I.fr⟩
      rcases q with ⟨q, _⟩ | ⟨_, v, q3, q⟩
      · rw [hc] at q; cases q
      have hnl : listed[i]? ≠ some true := fun h => hid (I.ldone i h)
      obtain ⟨val', hv'⟩ : ∃ val' : Nat → Value, val' = fun j => if j = i then v else val j := ⟨_, rfl⟩
      have hvi : val' i = v := by rw [hv']; simp
      have hvd : ∀ j ∈ done, val j = val' j := fun j hj => by rw [hv']; simp only [if_neg (fun e : j = i => hid (e ▸ hj))]
      have hE : envOf ops val' ρ₀ (i :: done) = extE ops[i].dst v (envOf ops val ρ₀ done) := by
        simp only [envOf, hop, Option.bind_some, hvi]
        rw [envOf_congr (fun j hj => (hvd j hj).symm)]
      have hB : envB ops val' ρ₀ i (i :: done) = envOf ops val ρ₀ done := by simp only [envB, if_true]; exact envOf_congr (fun j hj => (hvd j hj).symm)
      have hB2 : ∀ j, j ∈ done → envB ops val' ρ₀ j (i :: done) = envB ops val ρ₀ j done := fun j hj => by
        simp only [envB]
        rw [if_neg (fun e : i = j => hid (e ▸ hj))]
        exact envB_congr (fun j hj => (hvd j hj).symm)
      have hcover : ∀ j, j < ops.length → j ∈ i :: done ∨ j ∈ r := fun j hj => (I.cover j hj).elim (fun h => .inl (by simp [h])) (fun h => (List.mem_cons.1 h).elim (fun e => .inl (by simp [e])) .inr)
      have hd1 : ∀ j op d, listed[j]? = some true → ops[j]? = some op → op.dst = some d → a.tmps[d]? = some (val' j) := fun j op d h1 h2 h3 => by rw [← hvd j (I.ldone j h1)]; exact I.d1 j op d h1 h2 h3
      have hltd : ∀ j op d, j ∈ i :: done → ops[j]? = some op → op.dst = some d → d < n.n := fun j op d hj hoj hdj => by
        rcases List.mem_cons.1 hj with rfl | hj
        · rw [hop] at hoj; cases hoj; exact q2 d hdj
        · exact I.ltd j op d hj hoj hdj
      have hcd : ∀ j ∈ i :: done, σ.any (Nat.beq j) = true → listed[j]? = some true := fun j hj hs => by
        rcases List.mem_cons.1 hj with rfl | hj
        · rw [hc] at hs; cases hs
        · exact I.cdone j hj hs
      rcases q with ⟨q4, q5⟩ | ⟨g, q4, q5, q6⟩
      · exact SInv.adv (rest := r) (done := i :: done) (ch := ch) (pend := pend) (H := H) (F := F) (S := S) (val := val') ⟨I.lsz, I.tsz, I.tdf, I.closed, ⟨hid, h1, hia, I.ok⟩, by simpa [hc] using h5, fun c hc => by simp [I.chs c hc], hcover, by rw [hE]; exact q5, I.st, I.fr, fun j hj => by simp [I.ldone j hj], hcd,
          fun j op hj hnj hoj => by
            rcases List.mem_cons.1 hj with rfl | hj
            · rw [hop] at hoj; cases hoj
              exact ⟨q1, q2, q3, .inl (by rw [hB, hvi]; exact q4)⟩
            · rw [hB2 j hj, ← hvd j hj]
              exact I.pok j op hj hnj hoj, hd1, I.d2, I.lt0, hltd⟩
      · exact SInv.adv (rest := r) (done := i :: done) (ch := ch) (pend := (i, g) :: pend) (H := H) (F := F) (S := S) (val := val') ⟨I.lsz, I.tsz, I.tdf, I.closed, ⟨hid, h1, hia, I.ok⟩, by simpa [hc] using h5, fun c hc => by simp [I.chs c hc], hcover, by rw [hE]; exact q6, I.st, I.fr, fun j hj => by simp [I.ldone j hj], hcd,
          fun j op hj hnj hoj => by
            rcases List.mem_cons.1 hj with rfl | hj
            · rw [hop] at hoj; cases hoj
              exact ⟨q1, q2, q3, .inr ⟨g, by simp, q4, by rw [hB, hvi]; exact q5⟩⟩
            · rw [hB2 j hj, ← hvd j hj]
              obtain ⟨k1, k2, k3, k4⟩ := I.pok j op hj hnj hoj
              exact ⟨k1, k2, k3, k4.imp id (fun ⟨g', m1, m2⟩ => ⟨g', by simp [m1], m2⟩)⟩, hd1, I.d2, I.lt0, hltd⟩

theorem listed_set {listed : Array Bool} {i j : Nat} (hi : i < listed.size) : (listed.setIfInBounds i true)[j]? = some true ↔ j = i ∨ listed[j]? = some true := by
  rw [Array.getElem?_setIfInBounds]
  by_cases e : i = j
  · subst e; simp [hi]
  · simp only [if_neg e]
    exact ⟨.inr, fun h => h.resolve_left (fun q => e q.symm)⟩
/-- One operation is done, which was walked over. -/
theorem SInv.float {ρ₀ : Env} {listed : Array Bool} {a : Act} {w : World} {done rest ch : List Nat} {pend : Pend} {H : List Asn} {F S : List Nat} {val : Nat → Value} (C : Chk ops []) (I : SInv P n ops Q o σ ρ₀ listed a w done rest ch pend H F S val)
    {i : Nat} {op : Oper} (hi : ops[i]? = some op) (hid : i ∈ done) (hnl : listed[i]? ≠ some true) (haft : ∀ k ∈ afters ops i, listed[k]? = some true) (hcs : σ.any (Nat.beq i) = false) :
    SInv P n ops Q o σ ρ₀ (listed.setIfInBounds i true) (a.put op.dst (val i)) w done rest ch pend H F S val := by
  have hlt : i < listed.size := by rw [I.lsz]; exact (List.getElem?_eq_some_iff.1 hi).1
  obtain ⟨d, hd⟩ : ∃ d, op.dst = some d := by
    have := (I.pok i op hid hnl hi).2.2.1
    cases h : op.dst with
    | none => exact absurd h this
    | some d => exact ⟨d, rfl⟩
  have hdn : d < a.tmps.size := by rw [I.tsz]; exact (I.pok i op hid hnl hi).2.1 d hd
  refine ⟨by simpa using I.lsz, by rw [hd]; simpa [Act.put] using I.tsz, by rw [hd]; simpa [Act.put] using I.tdf, ?_, I.ok, I.ord, I.chs, I.cover, I.sw, I.st, I.fr, ?_, ?_, ?_, ?_, ?_, I.lt0, I.ltd⟩
  · intro x hx y hy
    rw [listed_set hlt] at hx ⊢
    rcases hx with rfl | hx
    · exact .inr (haft y hy)
    · exact .inr (I.closed x hx y hy)
  · intro x hx
    rcases (listed_set hlt).1 hx with rfl | hx
    · exact hid
    · exact I.ldone x hx
  · intro x hx hs
    exact (listed_set hlt).2 (.inr (I.cdone x hx hs))
  · intro x ox hx hnx hox
    exact I.pok x ox hx (fun h => hnx ((listed_set hlt).2 (.inr h))) hox
  · intro x ox dx hx hox hdx
    rw [hd]
    simp only [Act.put]
    rcases (listed_set hlt).1 hx with rfl | hx
    · rw [hi] at hox; cases hox
      rw [hd] at hdx; cases hdx
      rw [Array.getElem?_setIfInBounds]; simp [hdn]
    · have hne : d ≠ dx := by
        intro e; subst e
        have := C.apart x ox d hox hdx i op hi hd
        exact hnl (this ▸ hx)
      rw [Array.getElem?_setIfInBounds_ne hne]
      exact I.d1 x ox dx hx hox hdx
  · intro t v hv hno
    have hne : d ≠ t := fun e => hno i op ((listed_set hlt).2 (.inl rfl)) hi (by rw [hd, e])
    rw [hd]
    simp only [Act.put]
    rw [Array.getElem?_setIfInBounds_ne hne]
    exact I.d2 t v hv (fun j oj hj => hno j oj ((listed_set hlt).2 (.inr hj)))

/-- The next one of the chain is done. -/
theorem SInv.chain {ρ₀ : Env} {listed : Array Bool} {a : Act} {w : World} {done r ch : List Nat} {pend : Pend} {H : List Asn} {F S : List Nat} {val : Nat → Value} (C : Chk ops []) {i : Nat} {op : Oper} (I : SInv P n ops Q o σ ρ₀ listed a w done (i :: r) ch pend H F S val)
    (hi : ops[i]? = some op) (hnl : listed[i]? ≠ some true) (haft : ∀ k ∈ afters ops i, listed[k]? = some true) (hid : i ∉ done) (hia : ∀ k ∈ afters ops i, k ∈ done) (hcs : σ.any (Nat.beq i) = true) (hdn : ∀ d, op.dst = some d → d < n.n) (hord : chkOrd ops σ (i :: done) (i :: ch) r = true)
    {v : Value} {H' : List Asn} {F' S' : List Nat} {w' : World} (hob : Obl ops i pend H') (hsw : SW P n ops Q o σ (piOf ops r) pend (extE op.dst v (envOf ops val ρ₀ done)) H') (s' : St H' F' S' w') (f' : From o w' F' S') :
    SInv P n ops Q o σ ρ₀ (listed.setIfInBounds i true) (a.put op.dst v) w' (i :: done) r (i :: ch) pend H' F' S' (fun j => if j = i then v else val j) := by
  have hll := (List.getElem?_eq_some_iff.1 hi).1
  have hlt : i < listed.size := by rw [I.lsz]; exact hll
  obtain ⟨val', hv'⟩ : ∃ val' : Nat → Value, val' = fun j => if j = i then v else val j := ⟨_, rfl⟩
  rw [← hv']
  have hvi : val' i = v := by rw [hv']; simp
  have hvd : ∀ j ∈ done, val j = val' j := fun j hj => by rw [hv']; simp only [if_neg (fun e : j = i => hid (e ▸ hj))]
  have hE : envOf ops val' ρ₀ (i :: done) = extE op.dst v (envOf ops val ρ₀ done) := by
    simp only [envOf, hi, Option.bind_some, hvi]
    rw [envOf_congr (fun j hj => (hvd j hj).symm)]
  have hB2 : ∀ j, j ∈ done → envB ops val' ρ₀ j (i :: done) = envB ops val ρ₀ j done := fun j hj => by
    simp only [envB]
    rw [if_neg (fun e : i = j => hid (e ▸ hj))]
    exact envB_congr (fun j hj => (hvd j hj).symm)
  refine ⟨by simpa using I.lsz, ?_, ?_, ?_, ⟨hid, hll, hia, I.ok⟩, hord, ?_, ?_, by rw [hE]; exact hsw, s', f', ?_, ?_, ?_, ?_, ?_, I.lt0, ?_⟩
  · cases hd : op.dst <;> simp [Act.put, I.tsz]
  · cases hd : op.dst <;> simp [Act.put, I.tdf]
  · intro x hx y hy
    rw [listed_set hlt] at hx ⊢
    rcases hx with rfl | hx
    · exact .inr (haft y hy)
    · exact .inr (I.closed x hx y hy)
  · intro c hc
    rcases List.mem_cons.1 hc with rfl | hc
    · simp
    · simp [I.chs c hc]
  · intro j hj
    rcases I.cover j hj with h | h
    · exact .inl (by simp [h])
    · rcases List.mem_cons.1 h with rfl | h
      · exact .inl (by simp)
      · exact .inr h
  · intro x hx
    rcases (listed_set hlt).1 hx with rfl | hx
    · simp
    · simp [I.ldone x hx]
  · intro x hx hs
    rcases List.mem_cons.1 hx with rfl | hx
    · exact (listed_set hlt).2 (.inl rfl)
    · exact (listed_set hlt).2 (.inr (I.cdone x hx hs))
  · intro x ox hx hnx hox
    have hxi : x ≠ i := fun e => hnx ((listed_set hlt).2 (.inl e))
    have hxd := (List.mem_cons.1 hx).resolve_left hxi
    have hnx' : listed[x]? ≠ some true := fun h => hnx ((listed_set hlt).2 (.inr h))
    obtain ⟨k1, k2, k3, k4⟩ := I.pok x ox hxd hnx' hox
    rw [hB2 x hxd, ← hvd x hxd]
    refine ⟨k1, k2, k3, k4.imp id (fun ⟨g, m1, m2, m3⟩ => ⟨g, m1, ?_, m3⟩)⟩
    rcases hob.all x g m1 with hr | hg
    · exact absurd (masks_spec _ _ _ hr (fun y => listed[y]? = some true) I.closed haft) hnx'
    · exact hg
  · intro x ox dx hx hox hdx
    rcases (listed_set hlt).1 hx with rfl | hx
    · rw [hi] at hox; cases hox
      rw [hdx, hvi]
      simp only [Act.put]
      rw [Array.getElem?_setIfInBounds]; simp [I.tsz, hdn dx hdx]
    · rw [← hvd x (I.ldone x hx)]
      have := I.d1 x ox dx hx hox hdx
      cases hd : op.dst with
      | none => exact this
      | some d =>
        simp only [Act.put]
        have hne : d ≠ dx := by
          intro e; subst e
          have := C.apart x ox d hox hdx i op hi hd
          exact hnl (this ▸ hx)
        rw [Array.getElem?_setIfInBounds_ne hne]
        exact this
  · intro t u hu hno
    have h2 := I.d2 t u hu (fun j oj hj => hno j oj ((listed_set hlt).2 (.inr hj)))
    cases hd : op.dst with
    | none => exact h2
    | some d =>
      have hne : d ≠ t := fun e => hno i op ((listed_set hlt).2 (.inl rfl)) hi (by rw [hd, e])
      simp only [Act.put]
      rw [Array.getElem?_setIfInBounds_ne hne]
      exact h2
  · intro j oj dj hj hoj hdj
    rcases List.mem_cons.1 hj with rfl | hj
    · rw [hi] at hoj; cases hoj; exact hdn dj hdj
    · exact I.ltd j oj dj hj hoj hdj
theorem chkOrd_reach : ∀ {r done ch : List Nat}, chkOrd ops σ done ch r = true → ∀ i ∈ r, ∀ c ∈ ch, reachIn (masks ops ops.length) i c = true
  | j :: r, done, ch, h, i, hi, c, hc => by
    simp only [chkOrd, Bool.and_eq_true] at h
    obtain ⟨⟨_, h4⟩, h5⟩ := h
    rcases List.mem_cons.1 hi with rfl | hi
    · exact List.all_eq_true.1 h4 c hc
    · refine chkOrd_reach h5 i hi c ?_
      split
      · simp [hc]
      · exact hc

theorem SW.sound {ρ₀ : Env} {π : List Nat} {H : List Asn} {F S : List Nat} (hchk : chkPi ops σ π = true) (hn : ∀ t v, look ρ₀ t = some v → t < n.n) (h : SW P n ops Q o σ (piOf ops π) [] ρ₀ H)
    {a : Act} {w : World} (s : St H F S w) (fr : From o w F S) (ha : Fr n ρ₀ a) : wpAnyIn (fen n.ro) 0 P .any ops.toArray Q ops.length (Array.replicate ops.length false) a w := by
  simp only [chkPi, Bool.and_eq_true] at hchk
  obtain ⟨⟨hc1, hc2⟩, hc3⟩ := hchk
  have C := chk_spec hc1
  have hready : ∀ (listed : Array Bool) (i : Nat), i ∈ Region.ready .any ops.toArray listed → i < ops.length ∧ listed[i]? ≠ some true ∧ ∀ k ∈ afters ops i, listed[k]? = some true := by
    intro listed i hi
    simp only [Region.ready, List.mem_filter, List.mem_range, Bool.and_eq_true] at hi
    obtain ⟨h1, h2, h3⟩ := hi
    have h1' : i < ops.length := by simpa using h1
    refine ⟨h1', ?_, ?_⟩
    · intro e
      simp [Array.getD_eq_getD_getElem?, e] at h2
    · intro k hk
      rw [List.getElem?_toArray, List.getElem?_eq_getElem h1'] at h3
      simp only [Option.map_some, Option.getD_some] at h3
      simp only [afters, List.getElem?_eq_getElem h1'] at hk
      simp only [List.mem_map, List.mem_filter] at hk
      obtain ⟨e, ⟨he, hb⟩, rfl⟩ := hk
      have := (Array.all_eq_true_iff_forall_mem.1 h3) e (by simpa using he)
      simp only [bindsAny] at hb
      simp only [hb, Bool.not_true, Bool.false_or] at this
      simp only [Array.getD_eq_getD_getElem?] at this
      cases hq : listed[e.on]? with
      | none => simp [hq] at this
      | some b => simp [hq] at this; subst this; rfl
  have allReady : ∀ (listed : Array Bool), listed.size = ops.length → Closed ops (fun i => listed[i]? = some true) → (∀ m, m < ops.length → listed[m]? ≠ some true → ∃ i, i ∈ Region.ready .any ops.toArray listed) := by
    intro listed hsz hcl m
    induction m using Nat.strongRecOn with
    | _ m ih =>
      intro hm hne
      by_cases hall : ∀ k ∈ afters ops m, listed[k]? = some true
      · refine ⟨m, ?_⟩
        simp only [Region.ready, List.mem_filter, List.mem_range, Bool.and_eq_true]
        refine ⟨by simpa using hm, ?_, ?_⟩
        · have hlt : m < listed.size := by omega
          rw [Array.getD_eq_getD_getElem?, Array.getElem?_eq_getElem hlt]
          rw [Array.getElem?_eq_getElem hlt] at hne
          cases hv : listed[m] with
          | true => rw [hv] at hne; exact absurd rfl hne
          | false => rfl
        · rw [List.getElem?_toArray, List.getElem?_eq_getElem hm]
          simp only [Option.map_some, Option.getD_some]
          rw [Array.all_eq_true_iff_forall_mem]
          intro e he
          cases hb : Region.binds .any e with
          | false => rfl
          | true =>
            have := hall e.on (by
              simp only [afters, List.getElem?_eq_getElem hm, List.mem_map, List.mem_filter]
              exact ⟨e, ⟨by simpa using he, hb⟩, rfl⟩)
            simp [Array.getD_eq_getD_getElem?, this]
      · have hex : ∃ k, k ∈ afters ops m ∧ ¬ listed[k]? = some true := Classical.byContradiction fun hno => hall fun k hk => Classical.byContradiction fun hk' => hno ⟨k, hk, hk'⟩
        obtain ⟨k, hk, hk'⟩ := hex
        have hlt := C.back m _ (List.getElem?_eq_getElem hm) k hk
        exact ih k hlt (by omega) hk'
  have key : ∀ (fuel : Nat) (listed : Array Bool) (a : Act) (w : World) (done rest ch : List Nat) (pend : Pend) (H : List Asn) (F S : List Nat) (val : Nat → Value), ((List.range ops.length).filter (fun i => listed[i]? ≠ some true)).length ≤ fuel →
      SInv P n ops Q o σ ρ₀ listed a w done rest ch pend H F S val → wpAnyIn (fen n.ro) 0 P .any ops.toArray Q fuel listed a w := by
    intro fuel
    have finish : ∀ (listed : Array Bool) (a : Act) (w : World) (done rest ch : List Nat) (pend : Pend) (H : List Asn) (F S : List Nat) (val : Nat → Value), SInv P n ops Q o σ ρ₀ listed a w done rest ch pend H F S val → (∀ i, i < ops.length → listed[i]? = some true) → Q .normal a w := by
      intro listed a w done rest ch pend H F S val I hall
      obtain ⟨done, rest, ch, pend, val, I, hr⟩ := I.adv
      rcases hr with rfl | ⟨c, r, rfl, hcs⟩
      · refine I.sw w F S I.st I.fr a ⟨I.tsz, I.tdf, fun t v hv => ?_⟩
        rcases look_envOf hv with ⟨j, op, h1, h2, h3, rfl⟩ | ⟨h1, h2⟩
        · exact I.d1 j op t (hall j (List.getElem?_eq_some_iff.1 h2).1) h2 h3
        · exact I.d2 t v h1 (fun j op hj hop => h2 j op (I.ldone j hj) hop)
      · exfalso
        have ho := I.ord
        simp only [chkOrd, Bool.and_eq_true, Bool.not_eq_true', Nat.blt_eq] at ho
        have := any_beq.2 (I.ldone c (hall c ho.1.1.1.1))
        rw [ho.1.1.1.2] at this; cases this
    induction fuel with
    | zero =>
      intro listed a w done rest ch pend H F S val hcnt I
      have hall : ∀ i, i < ops.length → listed[i]? = some true := by
        intro i hi
        refine Classical.byContradiction fun hne => ?_
        have hmem : i ∈ (List.range ops.length).filter (fun i => listed[i]? ≠ some true) := by
          rw [List.mem_filter]; exact ⟨List.mem_range.2 hi, by simpa using hne⟩
        have : (List.range ops.length).filter (fun i => listed[i]? ≠ some true) = [] := List.eq_nil_of_length_eq_zero (by omega)
        rw [this] at hmem; cases hmem
      refine ⟨?_, finish listed a w done rest ch pend H F S val I hall⟩
      apply List.eq_nil_iff_forall_not_mem.2
      intro i hi
      have := hready listed i hi
      exact this.2.1 (hall i this.1)
    | succ fuel ih =>
      intro listed a w done rest ch pend H F S val hcnt I
      refine ⟨fun hnil => ?_, fun i hi => ?_⟩
      · refine finish listed a w done rest ch pend H F S val I (fun i hi => Classical.byContradiction fun hne => ?_)
        obtain ⟨x, hx⟩ := allReady listed I.lsz I.closed i hi hne
        rw [hnil] at hx; cases hx
      · obtain ⟨hlt, hnl, haft⟩ := hready listed i hi
        obtain ⟨done, rest, ch, pend, val, I, hr⟩ := I.adv
        have hoi : ops[i]? = some ops[i] := List.getElem?_eq_getElem hlt
        have hlz : i < listed.size := by rw [I.lsz]; exact hlt
        have hless : ((List.range ops.length).filter (fun j => (listed.setIfInBounds i true)[j]? ≠ some true)).length ≤ fuel := by
          have gen : ∀ (l : List Nat), l.Nodup → ((i ∈ l → (l.filter (fun j => (listed.setIfInBounds i true)[j]? ≠ some true)).length + 1 ≤ (l.filter (fun j => listed[j]? ≠ some true)).length) ∧ (l.filter (fun j => (listed.setIfInBounds i true)[j]? ≠ some true)).length ≤ (l.filter (fun j => listed[j]? ≠ some true)).length) := by
            intro l
            induction l with
            | nil => exact fun _ => ⟨fun h => (by cases h), Nat.le_refl _⟩
            | cons x r ihl =>
              intro hnd
              have hnd' := List.nodup_cons.1 hnd
              obtain ⟨k1, k2⟩ := ihl hnd'.2
              by_cases hxi : x = i
              · subst hxi
                have e1 : (decide ((listed.setIfInBounds x true)[x]? ≠ some true)) = false := by simp [listed_set hlz]
                have e2 : (decide (listed[x]? ≠ some true)) = true := by simpa using hnl
                simp only [List.filter_cons, e1, e2, if_true, List.length_cons]
                simp only [Bool.false_eq_true, if_false]
                exact ⟨fun _ => Nat.succ_le_succ k2, Nat.le_succ_of_le k2⟩
              · have e1 : (decide ((listed.setIfInBounds i true)[x]? ≠ some true)) = (decide (listed[x]? ≠ some true)) := by
                  rw [decide_eq_decide]; simp [listed_set hlz, hxi]
                simp only [List.filter_cons, e1]
                split
                · simp only [List.length_cons]
                  exact ⟨fun h => Nat.succ_le_succ (k1 ((List.mem_cons.1 h).resolve_left (fun e => hxi e.symm))), Nat.succ_le_succ k2⟩
                · exact ⟨fun h => k1 ((List.mem_cons.1 h).resolve_left (fun e => hxi e.symm)), k2⟩
          have := (gen _ List.nodup_range).1 (List.mem_range.2 hlt)
          omega
        by_cases hid : i ∈ done
        · have hcs : σ.any (Nat.beq i) = false := by
            cases h : σ.any (Nat.beq i) with
            | false => rfl
            | true => exact absurd (I.cdone i hid h) hnl
          obtain ⟨p1, p2, p3, p4⟩ := I.pok i _ hid hnl hoi
          have hfl : Fl P n ops (envB ops val ρ₀ i done) w ops[i] (val i) := p4.elim (fun h => h w) (fun ⟨g, _, h1, h2⟩ => h2 H w F S h1 I.st I.fr)
          obtain ⟨d', hd1, hd2, hd3, hd4, hd5⟩ := envB_of (val := val) (ρ₀ := ρ₀) I.ok hid
          rw [hd1] at hfl
          have hsl := I.slots C hoi hnl haft hd4 hd2 hd3
          have hltE := lt_env (ops := ops) (n := n) (val := val) I.lt0 (fun j op t hj => I.ltd j op t (hd5 j hj))
          obtain ⟨a₀, hfr, hag⟩ := frame_for I.tsz hltE ops[i] hsl
          have hwp : wpo P n ops Q ops[i] (fun a' w' => a' = a.put ops[i].dst (val i) ∧ w' = w) a w := by
            unfold wpo
            rcases hfl with ⟨hg, hrun⟩ | ⟨hg, hv⟩
            · rw [wanted_for hg hfr hag]
              simp only [if_true]
              refine wpIn_run (nodef p1) ((congrArg (fun s => s.run P w) (eval_virtual hag (nosel p1))).trans (hrun a₀ hfr)) ?_
              exact ⟨rfl, rfl⟩
            · rw [wanted_for hg hfr hag]
              simp only [Bool.false_eq_true, if_false]
              rw [hv]; exact ⟨rfl, trivial⟩
          refine wpo_wpOp hoi hwp ?_
          rintro a' w' ⟨rfl, rfl⟩
          exact ih _ _ _ done rest ch pend H F S val hless (I.float C hoi hid hnl haft hcs)
        · have hir := (I.cover i hlt).resolve_left hid
          rcases hr with rfl | ⟨c, r, rfl, hcs⟩
          · cases hir
          · have ho := I.ord
            simp only [chkOrd, Bool.and_eq_true, Bool.not_eq_true', Nat.blt_eq, hcs, if_true] at ho
            obtain ⟨⟨⟨⟨h1, h2⟩, h3⟩, h4⟩, h5⟩ := ho
            by_cases hic : i = c
            · subst hic
              have hia : ∀ k ∈ afters ops i, k ∈ done := fun k hk => any_beq.1 (List.all_eq_true.1 h3 k hk)
              have hsw := I.sw
              rw [piOf_cons hoi] at hsw
              obtain ⟨q1, q2, q⟩ := hsw ⟨w, F, S, I.st, I.fr⟩
              rcases q with ⟨_, Ψ, hΨ, hk⟩ | ⟨q, _⟩
              · have hsl := I.slots C hoi hnl haft I.ok hia hid
                have hltE := lt_env (ops := ops) (n := n) (val := val) I.lt0 (fun j op t hj => I.ltd j op t hj)
                obtain ⟨a₀, hfr, hag⟩ := frame_for I.tsz hltE ops[i] hsl
                have hwp : wpo P n ops Q ops[i] (fun a' w' => ∃ v, a' = a.put ops[i].dst v ∧ PostS o Ψ v w') a w := by
                  unfold wpo
                  rcases hΨ with ⟨hg, hrun⟩ | ⟨hg, hv⟩
                  · rw [wanted_for hg hfr hag]
                    simp only [if_true]
                    exact (hrun w F S I.st I.fr).wp (nodef q1) hfr (eval_virtual hag (nosel q1))
                  · rw [wanted_for hg hfr hag]
                    simp only [Bool.false_eq_true, if_false]
                    exact ⟨undef, rfl, H, F, S, by rw [hv]; exact ⟨rfl, rfl⟩, I.st, I.fr⟩
                refine wpo_wpOp hoi hwp ?_
                rintro a' w' ⟨v, rfl, H', F', S', hv, s', f'⟩
                obtain ⟨k1, k2⟩ := hk v H' hv
                exact ih _ _ _ (i :: done) r (i :: ch) pend H' F' S' _ hless (I.chain C hoi hnl haft hid hia hcs q2 h5 k1 k2 s' f')
              · rw [hcs] at q; cases q
            · exfalso
              have hir' := (List.mem_cons.1 hir).resolve_left hic
              have hb := masks_spec _ _ _ (chkOrd_reach h5 i hir' c (by simp)) (fun x => listed[x]? = some true) I.closed haft
              have := any_beq.2 (I.ldone c hb)
              rw [h2] at this; cases this
  refine key _ _ a w [] π [] [] H F S (fun _ => undef) (Nat.le_trans (List.length_filter_le _ _) (by simp)) ⟨by simp, ha.size, ha.defers, ?_, trivial, hc3, by simp, ?_, h, s, fr, ?_, by simp, by simp, ?_, fun t v hv _ => ha.vals t v hv, hn, by simp⟩
  · intro x hx
    simp [Array.getElem?_replicate] at hx
  · intro i hi
    exact .inr (any_beq.1 (List.all_eq_true.1 hc2 i (List.mem_range.2 hi)))
  · intro i hi
    simp [Array.getElem?_replicate] at hi
  · intro j o d hj
    simp [Array.getElem?_replicate] at hj

/-! ### the rules -/
def Rd1 (P : Program) (n : Fm) (o : Org) (ρ : Env) (op : Oper) (v : Value) (H : List Asn) : Prop := ∀ w F S, St H F S w → Runs P n ρ w op v w
theorem SG.draw [hm : Mixed P] {B : Exit → Act → World → Prop} {ks : List K} {ρ : Env} {H : List Asn} {id : Nat} (σ π : List Nat) (hchk : chkPi ops σ π = true) (hlt : ρ.all (fun p => Nat.blt p.1 n) = true) (h : SW P n ops (sem P n.ro B ks) o σ (piOf ops π) [] ρ H) :
    SG P B n o ks ρ H (.region id ops.toArray true) := by
  intro w F S s f a ha
  refine wpIn_region_any hm.h ?_
  have hd := Ext.drawn w
  have := SW.sound (P := P) (n := n) (a := a) (w := { w with drawn := w.drawn + 1 }) hchk (fun t v hv => by
      have hmem : ∀ (r : Env) t v, look r t = some v → (t, v) ∈ r := by
        intro r
        induction r with
        | nil => intro t v h; cases h
        | cons p r ih =>
          obtain ⟨s, u⟩ := p
          intro t v h
          rw [look_cons] at h
          split at h
          · rename_i e; subst e; cases h; simp
          · exact List.mem_cons_of_mem _ (ih t v h)
      have := List.all_eq_true.1 hlt (t, v) (hmem ρ t v hv)
      simpa [Nat.blt_eq] using this) h ⟨s.sep.ext hd (Apart.nilR _) (Apart.nilR _), fun b hb => Nat.lt_of_lt_of_le (s.ltF b hb) hd.size, fun b hb => Nat.lt_of_lt_of_le (s.ltS b hb) hd.size⟩ ⟨f.ext.trans0 hd, f.fF, f.fS⟩ ha
  simpa using this
section
variable {π : List (Nat × Oper)} {pend : Pend} {ρ : Env} {H : List Asn} {i d : Nat} {op : Op} {ty : TypeId} {pos : String} {af : Array Edge} {gd : Option (Nat × Bool)}
theorem SW.pure {v : Value} (hc : σ.any (Nat.beq i) = false) (hg : wants ops ρ gd = some true) (hd : Nat.blt d n = true) (hs : isSelect op = false) (hrun : ∀ w, Runs P n ρ w ⟨some d, op, ty, pos, af, gd⟩ v w) (h : SW P n ops Q o σ π pend ((d, v) :: ρ) H) :
    SW P n ops Q o σ ((i, ⟨some d, op, ty, pos, af, gd⟩) :: π) pend ρ H :=
  fun _ => ⟨hs, fun d' e => by cases e; simpa [Nat.blt_eq] using hd, .inr ⟨hc, v, by simp, .inl ⟨fun w => .inl ⟨hg, hrun w⟩, h⟩⟩⟩
theorem SW.pass {hd : Nat.blt d n = true} (hc : σ.any (Nat.beq i) = false) (hg : wants ops ρ gd = some false) (hs : isSelect op = false) (h : SW P n ops Q o σ π pend ((d, undef) :: ρ) H) :
    SW P n ops Q o σ ((i, ⟨some d, op, ty, pos, af, gd⟩) :: π) pend ρ H :=
  fun _ => ⟨hs, fun d' e => by cases e; simpa [Nat.blt_eq] using hd, .inr ⟨hc, undef, by simp, .inl ⟨fun w => .inr ⟨hg, rfl⟩, h⟩⟩⟩
theorem SW.read {v : Value} (hc : σ.any (Nat.beq i) = false) (hg : wants ops ρ gd = some true) (hd : Nat.blt d n = true) (hs : isSelect op = false) (hrun : Rd1 P n o ρ ⟨some d, op, ty, pos, af, gd⟩ v H) (h : SW P n ops Q o σ π ((i, Rd1 P n o ρ ⟨some d, op, ty, pos, af, gd⟩ v) :: pend) ((d, v) :: ρ) H) :
    SW P n ops Q o σ ((i, ⟨some d, op, ty, pos, af, gd⟩) :: π) pend ρ H :=
  fun _ => ⟨hs, fun d' e => by cases e; simpa [Nat.blt_eq] using hd, .inr ⟨hc, v, by simp, .inr ⟨_, hrun, fun H w F S h s f => .inl ⟨hg, h w F S s⟩, h⟩⟩⟩
theorem SW.step {Ψ : Value → List Asn → Prop} (hc : σ.any (Nat.beq i) = true) (hg : wants ops ρ gd = some true) (hd : Nat.blt d n = true) (hs : isSelect op = false) (h : CS P n o ρ H ⟨some d, op, ty, pos, af, gd⟩ Ψ)
    (k : ∀ v H', Ψ v H' → Obl ops i pend H' ∧ SW P n ops Q o σ π pend ((d, v) :: ρ) H') : SW P n ops Q o σ ((i, ⟨some d, op, ty, pos, af, gd⟩) :: π) pend ρ H :=
  fun _ => ⟨hs, fun d' e => by cases e; simpa [Nat.blt_eq] using hd, .inl ⟨hc, Ψ, .inl ⟨hg, h⟩, k⟩⟩
theorem SW.step0 {Ψ : Value → List Asn → Prop} (hc : σ.any (Nat.beq i) = true) (hg : wants ops ρ gd = some true) (hs : isSelect op = false) (h : CS P n o ρ H ⟨none, op, ty, pos, af, gd⟩ Ψ)
    (k : ∀ v H', Ψ v H' → Obl ops i pend H' ∧ SW P n ops Q o σ π pend ρ H') : SW P n ops Q o σ ((i, ⟨none, op, ty, pos, af, gd⟩) :: π) pend ρ H :=
  fun _ => ⟨hs, fun d' e => (by cases e), .inl ⟨hc, Ψ, .inl ⟨hg, h⟩, k⟩⟩
theorem SW.passS (hc : σ.any (Nat.beq i) = true) (hg : wants ops ρ gd = some false) (hd : Nat.blt d n = true) (hs : isSelect op = false) (k : Obl ops i pend H ∧ SW P n ops Q o σ π pend ((d, undef) :: ρ) H) :
    SW P n ops Q o σ ((i, ⟨some d, op, ty, pos, af, gd⟩) :: π) pend ρ H :=
  fun _ => ⟨hs, fun d' e => by cases e; simpa [Nat.blt_eq] using hd, .inl ⟨hc, _, .inr ⟨hg, rfl⟩, by rintro v H' ⟨rfl, rfl⟩; exact k⟩⟩
theorem SW.fact {φ : Prop} (hφ : ∀ w F S, St H F S w → φ) (h : φ → SW P n ops Q o σ π pend ρ H) : SW P n ops Q o σ π pend ρ H := by
  cases π with
  | nil => exact fun w F S s f => h (hφ w F S s) w F S s f
  | cons p π => exact fun ⟨w, F, S, s, f⟩ => h (hφ w F S s) ⟨w, F, S, s, f⟩
theorem wants_congr {ρ ρ' : Env} (hl : ∀ t, look ρ t = look ρ' t) (g : Option (Nat × Bool)) : wants ops ρ g = wants ops ρ' g := by
  unfold wants
  split
  · rfl
  · split
    · rw [hl]
    · rfl
theorem Fr.congr {ρ ρ' : Env} {a : Act} (hl : ∀ t, look ρ t = look ρ' t) (h : Fr n ρ' a) : Fr n ρ a := ⟨h.size, h.defers, fun t v hv => h.vals t v (by rw [← hl]; exact hv)⟩
theorem Acts.congr {ρ ρ' : Env} {w : World} {op : Oper} {Φ : Value → World → Prop} (hl : ∀ t, look ρ t = look ρ' t) (h : Acts P n ρ w op Φ) : Acts P n ρ' w op Φ := by
  rcases h with ⟨v, w', h, k⟩ | ⟨hd, w', h, k⟩ | ⟨f, vs, h, k⟩ | ⟨l, fn, tmps, asv, body, h, k⟩
  · exact .inl ⟨v, w', fun a ha => h a (ha.congr hl), k⟩
  · exact .inr (.inl ⟨hd, w', fun a ha => h a (ha.congr hl), k⟩)
  · exact .inr (.inr (.inl ⟨f, vs, fun a ha => h a (ha.congr hl), k⟩))
  · exact .inr (.inr (.inr ⟨l, fn, tmps, asv, body, fun a ha => h a (ha.congr hl), k⟩))
theorem Fl.congr {ρ ρ' : Env} {w : World} {op : Oper} {v : Value} (hl : ∀ t, look ρ t = look ρ' t) (h : Fl P n ops ρ w op v) : Fl P n ops ρ' w op v := by
  unfold Fl at h ⊢
  rw [← wants_congr hl]
  exact h.imp (fun ⟨a, b⟩ => ⟨a, fun x hx => b x (hx.congr hl)⟩) id
theorem extE_congr {ρ ρ' : Env} (hl : ∀ t, look ρ t = look ρ' t) (d : Option Nat) (v : Value) (t : Nat) : look (extE d v ρ) t = look (extE d v ρ') t := by
  cases d with
  | none => exact hl t
  | some d => simp only [extE]; rw [look_cons, look_cons, hl]
theorem SW.congr : ∀ {π : List (Nat × Oper)} {pend : Pend} {ρ ρ' : Env} {H : List Asn}, (∀ t, look ρ t = look ρ' t) → SW P n ops Q o σ π pend ρ H → SW P n ops Q o σ π pend ρ' H
  | [], _, _, _, _, hl, h => fun w F S s f a ha => h w F S s f a (ha.congr hl)
  | (i, op) :: π, pend, ρ, ρ', H, hl, h => fun he => by
    obtain ⟨q1, q2, q⟩ := h he
    refine ⟨q1, q2, ?_⟩
    rcases q with ⟨c, Ψ, hΨ, hk⟩ | ⟨c, v, hn, q⟩
    · refine .inl ⟨c, Ψ, ?_, fun v H' hv => ⟨(hk v H' hv).1, SW.congr (extE_congr hl _ _) (hk v H' hv).2⟩⟩
      rw [← wants_congr hl]
      exact hΨ.imp (fun ⟨a, b⟩ => ⟨a, fun w F S s f => (b w F S s f).congr hl⟩) id
    · refine .inr ⟨c, v, hn, ?_⟩
      rcases q with ⟨h1, h2⟩ | ⟨g, h1, h2, h3⟩
      · exact .inl ⟨fun w => (h1 w).congr hl, SW.congr (extE_congr hl _ _) h2⟩
      · exact .inr ⟨g, h1, fun H w F S a b c => (h2 H w F S a b c).congr hl, SW.congr (extE_congr hl _ _) h3⟩
theorem SW.be {v v' : Value} (d : Nat) (hv : look ρ d = some v) (e : v = v') (h : SW P n ops Q o σ π pend ((d, v') :: ρ) H) : SW P n ops Q o σ π pend ρ H := by
  subst e
  refine h.congr (fun t => ?_)
  rw [look_cons]
  split
  · rename_i e; subst e; exact hv.symm
  · rfl
theorem SW.caseB {b : Bool} (d : Nat) (hv : look ρ d = some (.bool b)) (ht : b = true → SW P n ops Q o σ π pend ((d, .bool true) :: ρ) H) (hf : b = false → SW P n ops Q o σ π pend ((d, .bool false) :: ρ) H) : SW P n ops Q o σ π pend ρ H := by
  cases b
  · exact SW.be d hv rfl (hf rfl)
  · exact SW.be d hv rfl (ht rfl)
theorem SW.caseP {p : Prop} {dp : Decidable p} (d : Nat) (hv : look ρ d = some (.bool (@decide p dp))) (ht : p → SW P n ops Q o σ π pend ((d, .bool true) :: ρ) H) (hf : ¬ p → SW P n ops Q o σ π pend ((d, .bool false) :: ρ) H) : SW P n ops Q o σ π pend ρ H :=
  SW.caseB d hv (fun h => ht (of_decide_eq_true h)) (fun h => hf (of_decide_eq_false h))
theorem SW.isT {b : Bool} (d : Nat) (hv : look ρ d = some (.bool b)) (e : b = true) (h : SW P n ops Q o σ π pend ((d, .bool true) :: ρ) H) : SW P n ops Q o σ π pend ρ H := SW.be d hv (congrArg Value.bool e) h
theorem SW.isF {b : Bool} (d : Nat) (hv : look ρ d = some (.bool b)) (e : b = false) (h : SW P n ops Q o σ π pend ((d, .bool false) :: ρ) H) : SW P n ops Q o σ π pend ρ H := SW.be d hv (congrArg Value.bool e) h
theorem SW.nil {B : Exit → Act → World → Prop} {ks : List K} (h : SN P B n o ks ρ H) : SW P n ops (sem P n.ro B ks) o σ [] pend ρ H := fun w F S s f a ha => h w F S s f a ha
end
end
end Brv
/-
  A return of a struct that lives in a block.
-/
set_option linter.unusedVariables false
namespace Brv
open Go
section
variable {P : Program} {n : Nat} {ks : List K} {ρ : Env} {w : World} {fn : Func} {Φ : Value → World → Prop}
theorem G.retC {t : Nat} {T : TypeId} {s b : Nat} [ta : TyAgg P T s] {cs : Array Value} {U : TypeId} {fz : Nat × Nat} (hr : fn.results = #[.cell t T]) (hv : look ρ t = some (.pointer (some ⟨b, 0, none⟩)))
    (hb : Blk w b cs U fz) (hs : cs.size = s) (h : Φ (.agg cs) w) : G P (Func.base P fn Φ) ⟨n, [], none⟩ ks ρ w .ret := by
  refine G.retM (n := ⟨n, [], none⟩) rfl (fun a ha => ?_) h
  have h1 := ha.vals t _ hv
  have hl := run_loadN (P := P) (T := T) (s := s) (w := w) (p := ⟨b, 0, none⟩) (vs := cs.toList) hb.cellsAll (by simpa using hs)
  simp only [Instr.loadAt, Instr.sureAddr] at hl
  simp [results, hr, h1, asAddr] at hl ⊢
  simp [hl]
end
end Brv
/-
  Operations on rows that are owned.
-/
set_option linter.unusedVariables false
set_option linter.unusedSimpArgs false
namespace Brv
open Go
/-- Bytes that stay. -/
def bs (a : Option Addr) (n : Nat) (l : List UInt8) : Asn := sh (fun w => Bs w a n l)
instance (a : Option Addr) (n : Nat) (l : List UInt8) : Pers (bs a n l) := ⟨fun _ _ _ h => h⟩
theorem St.bs {H H' : List Asn} {a : Option Addr} {n : Nat} {l : List UInt8} {F S : List Nat} {w : World} (s : St H F S w) (h : Sel H (Brv.bs a n l) H') : Bs w a n l := s.sh h
theorem Imp.add {H : List Asn} {A : Asn} (h : ∀ w, A.P [] [] w) : Imp H (A :: H) := fun F S w s =>
  ⟨F, S, ⟨⟨[], [], F, S, ⟨by simp, subR _, by simp, subR _⟩, ⟨Apart.nilL _, Apart.nilL _, Apart.nilL _⟩, h w, s.sep⟩, s.ltF, s.ltS⟩, From.refl _ _ _⟩
theorem Imp.ownBlk {H H' : List Asn} {E size b k : Nat} {cs : List Value} (h : Sel H (blk b cs E) H') (hk : cs.length = k * size) (hm : k ≤ maxLen) : Imp H (own E size (some ⟨b, 0, none⟩) k k cs :: H') :=
  Imp.same h fun F S w hA => by
    obtain ⟨rfl, hB⟩ := hA
    have := Own.blk (size := size) hB (by simpa using hk) hm
    rw [List.toList_toArray] at this
    exact this
theorem Imp.ownBs {H H' : List Asn} {E k c : Nat} {a : Option Addr} {l : List UInt8} (h : Sel H (own E 1 a k c (vbs l)) H') : Imp H (bs a k l :: H') :=
  Imp.freeze h fun F S w hA => by
    have hA : Own w E 1 a k c (vbs l) F := hA
    have hl := hA.len
    rw [vbs_length] at hl
    obtain rfl : k = l.length := by omega
    exact Bs.of_own hA
theorem Imp.blkSh {H H' : List Asn} {b : Nat} {cs : List Value} {T : TypeId} {p : World → Prop} (h : Sel H (blk b cs T) H') (hp : ∀ w, Blk w b cs.toArray T (0, 0) → p w) : Imp H (sh p :: H') := Imp.freeze h fun F S w hA => hp w hA.2
/-- Two facts that stay are one. -/
theorem Imp.both {H H' H'' : List Asn} {p q : World → Prop} (h : Sel H (sh p) H') (k : Sel H' (sh q) H'') : Imp H (sh (fun w => p w ∧ q w) :: H'') := fun F S w s => by
  obtain ⟨F1, S1, F2, S2, ⟨a, b, c, d⟩, ⟨e, f, g⟩, hA, hH⟩ := h.sep s.sep
  obtain ⟨F3, S3, F4, S4, ⟨a', b', c', d'⟩, ⟨e', f', g'⟩, hB, hH'⟩ := k.sep hH
  exact ⟨F, S, ⟨⟨[], S1 ++ S3, F4, S4, ⟨by simp, subT b' b, subL c (subT c' d), subT d' d⟩, ⟨Apart.nilL _, Apart.nilL _, Apart.appL (g.mono (subR _) b') g'⟩,
    fun M w' he hM => ⟨hA M w' he (hM.mono (inL _ _) (subR _)), hB M w' he (hM.mono (inR _ _) (subR _))⟩, hH'⟩, s.ltF, s.ltS⟩, From.refl _ _ _⟩
theorem Imp.pure {H : List Asn} {p : World → Prop} (h : ∀ w, p w) : Imp H (sh p :: H) := Imp.add fun w M w' _ _ => h w'
theorem Imp.under {H H' : List Asn} {A : Asn} (h : Imp H H') : Imp (A :: H) (A :: H') := fun F S w s => by
  obtain ⟨F1, S1, F2, S2, ⟨a, b, c, d⟩, ⟨e, f, g⟩, hA, hH⟩ := s.sep
  obtain ⟨F', S', s', f'⟩ := h F2 S2 w ⟨hH, fun x hx => s.ltF x (b hx), fun x hx => s.ltS x (d hx)⟩
  have hF : ∀ x ∈ F', x ∈ F2 := fun x hx => (f'.fF x hx).elim id (fun h => absurd (s'.ltF x hx) (by simp only at h; omega))
  have hS : ∀ x ∈ S', x ∈ S2 ∨ x ∈ F2 := fun x hx => (f'.fS x hx).elim .inl (fun h => h.elim .inr (fun h => absurd (s'.ltS x hx) (by simp only at h; omega)))
  refine ⟨F1 ++ F', S1 ++ S', ⟨⟨F1, S1, F', S', ⟨inL _ _, inR _ _, inL _ _, inR _ _⟩, ⟨fun x hx hy => e x hx (hF x hy), fun x hx hy => (hS x hy).elim (f x hx) (e x hx), fun x hx hy => g x hx (hF x hy)⟩, hA, s'.sep⟩, ?_, ?_⟩, ⟨Ext.refl _ _, ?_, ?_⟩⟩
  · intro x hx; exact (List.mem_append.1 hx).elim (fun h => s.ltF x (a h)) (fun h => s'.ltF x h)
  · intro x hx; exact (List.mem_append.1 hx).elim (fun h => s.ltS x (c h)) (fun h => s'.ltS x h)
  · intro x hx; exact (List.mem_append.1 hx).elim (fun h => .inl (a h)) (fun h => .inl (b (hF x h)))
  · intro x hx; exact (List.mem_append.1 hx).elim (fun h => .inl (c h)) (fun h => (hS x h).elim (fun h => .inl (d h)) (fun h => .inr (.inl (b h))))
/-- A list in a new order, some left out. -/
theorem Imp.pick {H H0 H1 : List Asn} (h : Sels H H0 H1) : Imp H H0 := Imp.sels h
theorem St.ownG {H H' : List Asn} {E size : Nat} {a : Option Addr} {n c : Nat} {xs : List Value} {F S : List Nat} {w : World} (s : St H F S w) (h : Sel H (Brv.own E size a n c xs) H') (hn : 0 < n) : ∃ g, a = some ⟨g, 0, none⟩ := by
  obtain ⟨M, hM⟩ := s.own h
  rcases hM.2 with ⟨_, rfl, _⟩ | ⟨g, cur, rfl, _⟩
  · omega
  · exact ⟨g, rfl⟩
theorem St.ownL {H H' : List Asn} {E size : Nat} {a : Option Addr} {n c : Nat} {xs : List Value} {F S : List Nat} {w : World} (s : St H F S w) (h : Sel H (Brv.own E size a n c xs) H') : xs.length = n * size ∧ n ≤ c := by
  obtain ⟨M, hM⟩ := s.own h
  exact ⟨hM.len, hM.le⟩
section
variable {P : Program} {n : Fm} {o : Org} {ρ : Env} {H H0 H1 : List Asn} {d : Option Nat} {ty : TypeId} {pos : String} {af : Array Edge} {gd : Option (Nat × Bool)}
theorem CS.app {T E size bytes : Nat} {z : Value} [t : TySlice P T E size bytes z] {d : Nat} {s x : Operand} {a : Option Addr} {m0 cap : Nat} {xs : List Value} {b : Option Addr} {m c : Nat} {news : List Value}
    (hs : ev ρ s = some (.slice a m0 cap)) (hx : ev ρ x = some (.slice b m c)) (sel : Sel H (own E size a m0 cap xs) H1) (hnews : ∀ w F S, St H F S w → Cells w b news) (hl : news.length = m * size) (h1 : ∀ u ∈ news, u.oneCell' = true) (h63 : m0 + m ≤ maxLen) (hby : (m0 + m) * bytes ≤ 140737488355328) :
    CS P n o ρ H ⟨some d, .call ⟨.builtin .append, #[s, x], #[T, T]⟩, ty, pos, af, gd⟩ (fun v H' => ∃ a' c', v = .slice a' (m0 + m) c' ∧ H' = own E size a' (m0 + m) c' (xs ++ news) :: H1) := by
  refine CS.mono (CS.upd sel (φ := fun v A' => ∃ a' c', v = .slice a' (m0 + m) c' ∧ A' = own E size a' (m0 + m) c' (xs ++ news)) fun w F S F1 S1 st hA hlt => ?_) (by rintro v H' ⟨_, ⟨a', c', rfl, rfl⟩, rfl⟩; exact ⟨a', c', rfl, rfl⟩)
  obtain ⟨v, w', hr, a', c', M', rfl, he, hM, ho⟩ := R.app (P := P) (n := n) (d := d) (ty := ty) (pos := pos) (af := af) (gd := gd) (T := T) hs hx hA (hnews w F S st) hl h1 h63 hby
  exact .inl ⟨_, w', hr, _, M', [], ⟨a', c', rfl, rfl⟩, ho, ho.lt, by simp, ⟨he, hM, by simp⟩⟩
theorem CS.strBytes {S T E : TypeId} [s : TyStr P S] [t : TyBytes P T E] {d : Nat} {x : Operand} {l : List UInt8} (hx : ev ρ x = some (.string (str l))) :
    CS P n o ρ H ⟨some d, .convert S T x, ty, pos, af, gd⟩ (fun v H' => ∃ a c, v = .slice a l.length c ∧ l.length ≤ c ∧ H' = bs a l.length l :: H) := fun w F Sh st fr => by
  obtain ⟨v, w', hr, b, cap, rfl, hb, hlt, hc, he, hcl⟩ := R.strBytes (P := P) (n := n) (d := d) (ty := ty) (pos := pos) (af := af) (gd := gd) (S := S) (T := T) (E := E) (w := w) hx
  obtain ⟨F', S', s', f'⟩ := st.grow fr he (A := bs (some ⟨b, 0, none⟩) l.length l) (F' := []) (S' := [b]) (by simp) (fun x hx => by rw [List.mem_singleton.1 hx]; exact ⟨hlt, .inl (by omega)⟩)
    (fun M w'' he' hM => ⟨hcl.ext he' (fun p hp => by cases hp; exact hM b (by simp)), rfl⟩) (fun x hx hy => by rw [List.mem_singleton.1 hx] at hy; have := st.ltF b hy; omega)
  exact .inl ⟨_, w', hr, _, F', S', ⟨_, cap, rfl, hc, rfl⟩, s', f'⟩
theorem CS.make {T E size bytes : Nat} {z : Value} [t : TySlice P T E size bytes z] {d : Nat} {x y : Operand} {k k' : IntKind} {l c : Int} (hx : ev ρ x = some (.int k l)) (hy : ev ρ y = some (.int k' c)) (h0 : 0 ≤ l) (h1 : l ≤ c) (h2 : (bytes : Int) * c ≤ 281474976710656) (h3 : c ≤ 9223372036854775807) (cs : List Value) (hcs : (madeCells z.cells (c.toNat * size)).toList = cs) :
    CS P n o ρ H ⟨some d, .makeSlice T x y, ty, pos, af, gd⟩ (fun v H' => ∃ b, v = .slice (some ⟨b, 0, none⟩) l.toNat c.toNat ∧ H' = blk b cs E :: H) :=
  CS.mk (fun w => R.make hx hy h0 h1 h2 h3) hcs
theorem CS.buildS {T E size bytes : Nat} {z : Value} [t : TySlice P T E size bytes z] {d len : Nat} {parts : Array (Nat × Operand)} {vs : List (Nat × Value)} {A : Array Value} (hp : evps ρ parts.toList = some vs) (hl : len * size ≤ 16777216)
    (hf : Instr.fill (fun i => some (i * size, size)) ((Array.range (len * size)).map (fun i => z.cells[i % z.cells.size]!)) vs = some A) (cs : List Value) (hcs : A.toList = cs) :
    CS P n o ρ H ⟨some d, .buildSlice T len parts, ty, pos, af, gd⟩ (fun v H' => ∃ b, v = .slice (some ⟨b, 0, none⟩) len len ∧ H' = blk b cs E :: H) :=
  CS.mk (fun w => R.buildS hp hl hf) hcs
/-- A struct is stored over a part of a block. -/
theorem CS.stN {T : TypeId} {s : Nat} [t : TyAgg P T s] {x y : Operand} {b k : Nat} {cs cs' vs : List Value} {U : TypeId} (hx : ev ρ x = some (.pointer (some ⟨b, k, none⟩))) (hy : ev ρ y = some (.agg vs.toArray)) (sel : Sel H (blk b cs U) H1) (hs : vs.length = s) (ho : k + vs.length ≤ cs.length) (h1 : ∀ u ∈ vs, u.oneCell' = true) (hcs : cs.take k ++ vs ++ cs.drop (k + vs.length) = cs') :
    CS P n o ρ H ⟨none, .store T x y, ty, pos, af, gd⟩ (fun _ H' => H' = blk b cs' U :: H1) := by
  refine CS.mono (CS.upd sel (φ := fun _ A' => A' = blk b cs' U) fun w F S F1 S1 st hA hlt => ?_) (by rintro v H' ⟨_, rfl, rfl⟩; rfl)
  obtain ⟨rfl, hB⟩ := hA
  obtain ⟨w', hr, he, hsz, hB'⟩ := R.stN (P := P) (n := n) (T := T) (ty := ty) (pos := pos) (af := af) (gd := gd) hx hy hB (by simpa using hs) (by simpa using ho) (by simpa using h1)
  refine .inr (.inl ⟨rfl, w', hr, _, [b], [], rfl, ⟨rfl, by rw [← hcs]; simpa using hB'⟩, fun x hx => by have := hlt x hx; omega, by simp, ⟨he, fun x hx => .inl hx, by simp⟩⟩)
/-- A struct is stored over a whole block. -/
theorem CS.stA {T : TypeId} {s : Nat} [t : TyAgg P T s] {x y : Operand} {b : Nat} {cs vs : List Value} {U : TypeId} (hx : ev ρ x = some (.pointer (some ⟨b, 0, none⟩))) (hy : ev ρ y = some (.agg vs.toArray)) (sel : Sel H (blk b cs U) H1) (hs : vs.length = s) (ho : cs.length = s) (h1 : ∀ u ∈ vs, u.oneCell' = true) :
    CS P n o ρ H ⟨none, .store T x y, ty, pos, af, gd⟩ (fun _ H' => H' = blk b vs U :: H1) :=
  CS.stN hx hy sel hs (by omega) h1 (by rw [List.take_zero, List.nil_append, Nat.zero_add, List.drop_eq_nil_of_le (by omega), List.append_nil])
/-- A cell of a row that is owned is written. -/
theorem CS.stO {T : TypeId} [t : TyOne P T] {x y : Operand} {E size g j k c : Nat} {xs : List Value} {v : Value} (hx : ev ρ x = some (.pointer (some ⟨g, j, none⟩))) (hy : ev ρ y = some v) (sel : Sel H (own E size (some ⟨g, 0, none⟩) k c xs) H1) (hj : j < k * size) (h1 : v.oneCell' = true) :
    CS P n o ρ H ⟨none, .store T x y, ty, pos, af, gd⟩ (fun _ H' => H' = own E size (some ⟨g, 0, none⟩) k c (xs.set j v) :: H1) := by
  refine CS.mono (CS.upd sel (φ := fun _ A' => A' = own E size (some ⟨g, 0, none⟩) k c (xs.set j v)) fun w F S F1 S1 st hA hlt => ?_) (by rintro v H' ⟨_, rfl, rfl⟩; rfl)
  rcases hA with ⟨hlen, ⟨h, _⟩ | ⟨g', cur, hg, hF, hB, hkc, hcm, hcs, ht⟩⟩
  · cases h
  · cases hg
    subst hF
    have hsz : j < cur.size := by have := Nat.mul_le_mul_right size hkc; omega
    obtain ⟨w', hr, he, hsz', hB'⟩ := R.st (P := P) (n := n) (T := T) (ty := ty) (pos := pos) (af := af) (gd := gd) hx hy hB hsz h1
    refine .inr (.inl ⟨rfl, w', hr, _, [g], [], rfl, ⟨by simpa using hlen, .inr ⟨g, _, rfl, rfl, hB', hkc, hcm, by simpa using hcs, ?_⟩⟩, fun x hx => by have := hlt x hx; omega, by simp, ⟨he, fun x hx => .inl hx, by simp⟩⟩)
    rw [Array.toList_setIfInBounds, List.take_set, ht]
end
section
variable {P : Program} {n : Nat} {o : Org} {ks : List K} {ρ : Env} {H H' : List Asn} {fn : Func} {Φ : Value → List Asn → Prop}
theorem SG.retC {t : Nat} {T : TypeId} {s b : Nat} [ta : TyAgg P T s] {cs : List Value} {U : TypeId} {H1 : List Asn} (hr : fn.results = #[.cell t T]) (hv : look ρ t = some (.pointer (some ⟨b, 0, none⟩))) (hb : Sel H (blk b cs U) H1) (hl : cs.length = s) (i : Imp H H') (h : Φ (.agg cs.toArray) H') :
    SG P (Func.base P fn (PostS o Φ)) ⟨n, [], none⟩ o ks ρ H .ret := fun w F S st f => G.retC hr hv (st.blk hb) (by simpa using hl) (post_of i h st f)
theorem SG.retCT {t u : Nat} {T : TypeId} {s b : Nat} [ta : TyAgg P T s] {cs : List Value} {U : TypeId} {H1 : List Asn} {x : Value} (hr : fn.results = #[.cell t T, .tmp u]) (hv : look ρ t = some (.pointer (some ⟨b, 0, none⟩))) (hx : look ρ u = some x) (hb : Sel H (blk b cs U) H1) (hl : cs.length = s) (i : Imp H H') (h : Φ (.tuple #[.agg cs.toArray, x]) H') :
    SG P (Func.base P fn (PostS o Φ)) ⟨n, [], none⟩ o ks ρ H .ret := fun w F S st f => G.retCT hr hv hx (st.blk hb) (by simpa using hl) (post_of i h st f)
end
end Brv
