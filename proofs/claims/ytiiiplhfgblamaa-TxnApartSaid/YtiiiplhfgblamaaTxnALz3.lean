/-
  Texts of this claim, put together.
-/
import Derived.MapKept
import Derived.Test.YtiiiplhfgblamaaTxnALz2
/-
  Plain laws on the document's merging: the least key that is left, its last write.
-/
set_option linter.unusedVariables false
set_option linter.unusedSimpArgs false
namespace Brv
open Go
def gtl : Option Int → Int → Prop
  | none, _ => True
  | some x, k => x < k
instance (l : Option Int) (k : Int) : Decidable (gtl l k) := by cases l <;> (simp only [gtl]; infer_instance)
def lastW (out : List Wr) : Option Int := out.getLast?.map Prod.fst
structure Best1 (all : List Wr) (last : Option Int) (i b : Nat) (w : Wr) : Prop where
  lt : b < i
  at' : all[b]? = some w
  gt : gtl last w.1
  least : ∀ j x, j < i → all[j]? = some x → gtl last x.1 → w.1 ≤ x.1
  last : ∀ j x, b < j → j < i → all[j]? = some x → x.1 ≠ w.1
def BestAt (all : List Wr) (last : Option Int) (i : Nat) (best : Int) : Prop :=
  (best = -1 ∧ ∀ j x, j < i → all[j]? = some x → ¬ gtl last x.1) ∨ ∃ (b : Nat) (w : Wr), best = b ∧ Best1 all last i b w
theorem BestAt.zero (all : List Wr) (last : Option Int) : BestAt all last 0 (-1) := .inl ⟨rfl, fun j x h => by omega⟩
theorem BestAt.take {all : List Wr} {last : Option Int} {i : Nat} {best : Int} {w : Wr} (h : BestAt all last i best) (hw : all[i]? = some w) (hg : gtl last w.1) (hb : best < 0 ∨ ∃ x, all[best.toNat]? = some x ∧ w.1 ≤ x.1) : BestAt all last (i + 1) i := by
  refine .inr ⟨i, w, rfl, by omega, hw, hg, ?_, fun j x h1 h2 => by omega⟩
  intro j x hj hx hgx
  by_cases hji : j = i
  · subst hji; rw [hw] at hx; cases hx; exact Int.le_refl _
  · rcases h with ⟨rfl, hno⟩ | ⟨b, v, rfl, B⟩
    · exact absurd hgx (hno j x (by omega) hx)
    · rcases hb with hb | ⟨y, hy, hle⟩
      · omega
      · rw [Int.toNat_natCast, B.at'] at hy; cases hy
        exact Int.le_trans hle (B.least j x (by omega) hx hgx)
theorem BestAt.pass {all : List Wr} {last : Option Int} {i : Nat} {best : Int} {w : Wr} (h : BestAt all last i best) (hw : all[i]? = some w) (hn : gtl last w.1 → ¬ (best < 0) ∧ ∀ x, all[best.toNat]? = some x → ¬ w.1 ≤ x.1) : BestAt all last (i + 1) best := by
  rcases h with ⟨rfl, hno⟩ | ⟨b, v, rfl, B⟩
  · refine .inl ⟨rfl, fun j x hj hx hg => ?_⟩
    by_cases hji : j = i
    · subst hji; rw [hw] at hx; cases hx; exact (hn hg).1 (by decide)
    · exact hno j x (by omega) hx hg
  · refine .inr ⟨b, v, rfl, by have := B.lt; omega, B.at', B.gt, fun j x hj hx hg => ?_, fun j x h1 h2 hx he => ?_⟩
    · by_cases hji : j = i
      · subst hji; rw [hw] at hx; cases hx
        have := (hn hg).2 v (by rw [Int.toNat_natCast]; exact B.at')
        omega
      · exact B.least j x (by omega) hx hg
    · by_cases hji : j = i
      · subst hji; rw [hw] at hx; cases hx
        have := (hn (by rw [he]; exact B.gt)).2 v (by rw [Int.toNat_natCast]; exact B.at')
        omega
      · exact B.last j x h1 (by omega) hx he
theorem BestAt.cell {all : List Wr} {last : Option Int} {i : Nat} {best : Int} (h : BestAt all last i best) (hb : ¬ best < 0) : ∃ (b : Nat) (w : Wr), best = b ∧ Best1 all last i b w := by
  rcases h with ⟨rfl, _⟩ | h
  · exact absurd (by decide) hb
  · exact h
theorem lastOf_idx : ∀ {all : List Wr} {b : Nat} {w : Wr}, all[b]? = some w → (∀ j x, b < j → all[j]? = some x → x.1 ≠ w.1) → lastOf all w.1 = some w.2
  | y :: r, 0, w, h, hl => by
    simp only [List.getElem?_cons_zero, Option.some.injEq] at h; subst h
    have hn : lastOf r y.1 = none := by
      have : ∀ (r : List Wr), (∀ (j : Nat) (x : Wr), r[j]? = some x → x.1 ≠ y.1) → lastOf r y.1 = none := by
        intro r
        induction r with
        | nil => intro _; rfl
        | cons z r ih =>
          intro h
          simp only [lastOf]
          rw [ih (fun j x hx => h (j + 1) x hx), if_neg (h 0 z rfl)]
      exact this r (fun j x hx => hl (j + 1) x (by omega) hx)
    simp only [lastOf]; rw [hn]; simp
  | y :: r, b + 1, w, h, hl => by
    simp only [lastOf]
    rw [lastOf_idx (all := r) (b := b) h (fun j x hj hx => hl (j + 1) x (by omega) hx)]
theorem lastOf_mem : ∀ {all : List Wr} {k : Int} {b : List UInt8}, lastOf all k = some b → ∃ x ∈ all, x.1 = k
  | y :: r, k, b, h => by
    simp only [lastOf] at h
    cases hr : lastOf r k with
    | some b' => obtain ⟨x, hx, e⟩ := lastOf_mem hr; exact ⟨x, List.mem_cons_of_mem _ hx, e⟩
    | none =>
      rw [hr] at h
      by_cases e : y.1 = k
      · exact ⟨y, by simp, e⟩
      · rw [if_neg e] at h; cases h
structure OutOk (all out : List Wr) : Prop where
  sorted : Sorted (out.map toQ)
  mem : ∀ x ∈ out, lastOf all x.1 = some x.2
  rest : ∀ x ∈ all, (∃ y ∈ out, y.1 = x.1) ∨ gtl (lastW out) x.1
theorem OutOk.nil (all : List Wr) : OutOk all [] := ⟨List.Pairwise.nil, by simp, fun x _ => .inr trivial⟩
theorem sorted_le_last {out : List Wr} {x : Wr} (h : Sorted (out.map toQ)) (hx : x ∈ out) {k : Int} (hk : gtl (lastW out) k) : x.1 < k := by
  obtain ⟨r, z, rfl⟩ : ∃ r z, out = r ++ [z] := by
    rcases List.eq_nil_or_concat out with rfl | ⟨r, z, h⟩
    · cases hx
    · exact ⟨r, z, by simpa using h⟩
  simp only [lastW, List.getLast?_append, List.getLast?_singleton, Option.some_or, Option.map_some, gtl] at hk
  rcases List.mem_append.1 hx with hx | hx
  · rw [List.map_append] at h
    have := (List.pairwise_append.1 h).2.2 (toQ x) (List.mem_map.2 ⟨x, hx, rfl⟩) (toQ z) (by simp)
    have h2 : Key.lt x.1 z.1 = true := this
    have : x.1 < z.1 := of_decide_eq_true h2
    omega
  · rw [List.mem_singleton.1 hx]; exact hk
theorem lastW_snoc (out : List Wr) (w : Wr) : lastW (out ++ [w]) = some w.1 := by simp [lastW]
theorem OutOk.step {all out : List Wr} {b : Nat} {w : Wr} (h : OutOk all out) (B : Best1 all (lastW out) all.length b w) : OutOk all (out ++ [w]) := by
  refine ⟨?_, ?_, ?_⟩
  · rw [List.map_append]
    refine List.pairwise_append.2 ⟨h.sorted, List.pairwise_singleton _ _, ?_⟩
    intro p hp q hq
    obtain ⟨x, hx, rfl⟩ := List.mem_map.1 hp
    rw [List.map_cons, List.map_nil] at hq
    rw [List.mem_singleton.1 hq]
    exact decide_eq_true (sorted_le_last h.sorted hx B.gt)
  · intro x hx
    rcases List.mem_append.1 hx with hx | hx
    · exact h.mem x hx
    · rw [List.mem_singleton.1 hx]
      exact lastOf_idx B.at' (fun j y hj hy => B.last j y hj (List.getElem?_eq_some_iff.1 hy).1 hy)
  · intro x hx
    rcases h.rest x hx with ⟨y, hy, e⟩ | hg
    · exact .inl ⟨y, List.mem_append_left _ hy, e⟩
    · obtain ⟨j, hj⟩ := List.getElem?_of_mem hx
      have := B.least j x (List.getElem?_eq_some_iff.1 hj).1 hj hg
      rw [lastW_snoc]
      by_cases e : x.1 = w.1
      · exact .inl ⟨w, by simp, e.symm⟩
      · exact .inr (show w.1 < x.1 by omega)
theorem OutOk.done {all out : List Wr} (h : OutOk all out) (hb : BestAt all (lastW out) all.length (-1)) : out.map toQ = mergeP [] all := by
  have hno : ∀ x ∈ all, ¬ gtl (lastW out) x.1 := by
    rcases hb with ⟨_, hno⟩ | ⟨b, w, e, _⟩
    · intro x hx
      obtain ⟨j, hj⟩ := List.getElem?_of_mem hx
      exact hno j x (List.getElem?_eq_some_iff.1 hj).1 hj
    · omega
  refine sorted_ext h.sorted (mergeP_sorted nil_sorted all) fun p => ?_
  rw [mem_mergeP nil_sorted]
  constructor
  · intro hp
    obtain ⟨x, hx, rfl⟩ := List.mem_map.1 hp
    exact .inl ⟨x.2, h.mem x hx, rfl⟩
  · rintro (⟨b, h1, h2⟩ | ⟨_, h2⟩)
    · obtain ⟨x, hx, e⟩ := lastOf_mem h1
      rcases h.rest x hx with ⟨y, hy, e2⟩ | hg
      · have h3 := h.mem y hy
        rw [e2, e, h1] at h3; cases h3
        refine List.mem_map.2 ⟨y, hy, ?_⟩
        obtain ⟨k, u⟩ := p
        simp only at e e2 h2 ⊢
        rw [toQ, e2, e, h2]
      · exact absurd hg (hno x hx)
    · cases h2
theorem nodup_le : ∀ {l m : List Int}, l.Nodup → (∀ k ∈ l, k ∈ m) → l.length ≤ m.length
  | [], _, _, _ => Nat.zero_le _
  | x :: l, m, hn, hs => by
    obtain ⟨h1, h2⟩ := List.nodup_cons.1 hn
    have hx := hs x (by simp)
    have := nodup_le (l := l) (m := m.erase x) h2 (fun k hk => (List.mem_erase_of_ne (fun e => h1 (by rw [← e]; exact hk))).2 (hs k (by simp [hk])))
    rw [List.length_erase_of_mem hx] at this
    have := List.length_pos_of_mem hx
    simp only [List.length_cons]; omega
theorem OutOk.len {all out : List Wr} (h : OutOk all out) : out.length ≤ all.length := by
  have hk : (out.map Prod.fst).Nodup := by
    have := h.sorted
    rw [Sorted, List.pairwise_map] at this
    rw [List.Nodup, List.pairwise_map]
    refine this.imp fun {a b} hab => ?_
    intro e
    have h2 : Key.lt a.1 b.1 = true := hab
    have h3 : a.1 < b.1 := of_decide_eq_true h2
    omega
  have hs : ∀ k ∈ out.map Prod.fst, k ∈ all.map Prod.fst := by
    intro k hk
    obtain ⟨x, hx, rfl⟩ := List.mem_map.1 hk
    obtain ⟨y, hy, e⟩ := lastOf_mem (h.mem x hx)
    exact List.mem_map.2 ⟨y, hy, e⟩
  have := nodup_le hk hs
  simpa using this
end Brv
/-
  The walks of package record.
-/
set_option linter.unusedVariables false
set_option linter.unusedSimpArgs false
set_option maxRecDepth 4000
namespace Go.Proofs.Ytiiiplhfgblamaa
open Go Brv
structure MgO where
  os : List WriteV
  oa : Option Addr
  oc : Nat
structure MgA where
  i : Nat
  a : Option Addr
  c : Nat

end Go.Proofs.Ytiiiplhfgblamaa
/-
  The walks of package txn.
-/
set_option linter.unusedVariables false
set_option linter.unusedSimpArgs false
set_option maxRecDepth 4000
namespace Go.Proofs.Ytiiiplhfgblamaa
open Go Brv
end Go.Proofs.Ytiiiplhfgblamaa
/-
  The walks of package txn.
-/
set_option linter.unusedVariables false
set_option linter.unusedSimpArgs false
set_option maxRecDepth 4000
namespace Go.Proofs.Ytiiiplhfgblamaa
open Go Brv
theorem f_wrE : wrE 4 [((1 : Int), ([] : List Wr))] 1 2 (0 :: 3 :: List.replicate 62 (0 : UInt8)).length = 0 := by decide +kernel
theorem f_wrM : wrM 4 [((1 : Int), ([] : List Wr))] 1 2 (0 :: 3 :: List.replicate 62 (0 : UInt8)) = [((1 : Int), [((2 : Int), (0 :: 3 :: List.replicate 62 (0 : UInt8)))])] := by
  unfold wrM
  rw [if_pos f_wrE]
  rfl
theorem f_rdV : rdV 4 [((1 : Int), [((2 : Int), (0 :: 3 :: List.replicate 62 (0 : UInt8)))])] 1 2 = some (0 :: 3 :: List.replicate 62 (0 : UInt8)) ∧ rdE 4 [((1 : Int), [((2 : Int), (0 :: 3 :: List.replicate 62 (0 : UInt8)))])] 1 2 = 0 := ⟨rfl, rfl⟩
theorem f_rdV1 : rdV 4 [((1 : Int), [((2 : Int), (0 :: 3 :: List.replicate 62 (0 : UInt8)))])] 1 1 = none ∧ rdE 4 [((1 : Int), [((2 : Int), (0 :: 3 :: List.replicate 62 (0 : UInt8)))])] 1 1 = 0 := ⟨rfl, rfl⟩
theorem f_mg : mgW ((getT [((1 : Int), [((2 : Int), (0 :: 3 :: List.replicate 62 (0 : UInt8)))])] 1).getD []) = [((2 : Int), (0 :: 3 :: List.replicate 62 (0 : UInt8)))] ∧ ofE [((1 : Int), [((2 : Int), (0 :: 3 :: List.replicate 62 (0 : UInt8)))])] 1 = 0 ∧ delT [((1 : Int), [((2 : Int), (0 :: 3 :: List.replicate 62 (0 : UInt8)))])] 1 = [] ∧ ofE ([] : List (Int × List Wr)) 1 = 40 ∧ delT ([] : List (Int × List Wr)) 1 = [] := ⟨rfl, rfl, rfl, rfl, rfl⟩
theorem begin1 (b : Nat) : SpecS Try.prog 29 [.pointer (some ⟨b, 0, none⟩)] [bk b 4 0 []] (fun v H' => v = .tuple #[.int .i64 1, .int .i64 0] ∧ H' = [bk b 4 1 [((1 : Int), ([] : List Wr))]]) := beginS b 4 0 [] (by decide) (by decide) (by decide)
theorem one_row {r : RowW} {x : Wr} (h : r.os.map wv = [x]) : ∃ z, r.os[0]? = some z ∧ wv z = x ∧ r.os.length = 1 := by
  match hr : r.os, h with
  | [z], h => exact ⟨z, rfl, by simpa using h, rfl⟩

set_option maxHeartbeats 1000000 in
theorem first13_ok  : SpecS Try.prog 27 [] [] (fun v H' => v = .bool true ∧ H' = []) := by
  refine SpecS.enter Try.func27 rfl 109 rfl (Nat.le_of_ble_eq_true rfl) (fun o => ?_)
  refine SG.seq ?_
  refine SG.region ?_
  refine SL.val rfl rfl (fun w9 F9 S9 s => R.as rfl) ?_
  refine SL.nil ?_
  refine SN.seq ?_
  refine SG.seq ?_
  refine SG.region ?_
  refine SL.step rfl rfl (CS.call rfl go28 (newS 4 (by decide) (by decide)) (by repeat (first | exact Sels.nil | apply Sels.cons | exact Sel.keep | exact Sel.here | apply Sel.there))) ?_
  rintro _ _ ⟨_, ⟨b, rfl, rfl⟩, rfl⟩
  refine SL.n1 ?_
  refine SL.val rfl rfl (fun w9 F9 S9 s => R.mv rfl) ?_
  refine SL.val rfl rfl (fun w9 F9 S9 s => R.ext rfl rfl) ?_
  refine SL.val rfl rfl (fun w9 F9 S9 s => R.ext rfl rfl) ?_
  refine SL.val rfl rfl (fun w9 F9 S9 s => R.as rfl) ?_
  refine SL.val rfl rfl (fun w9 F9 S9 s => R.as rfl) ?_
  refine SL.nil ?_
  refine SN.seq ?_
  refine SG.seq ?_
  refine SG.region ?_
  refine SL.val rfl rfl (fun w9 F9 S9 s => R.mv rfl) ?_
  refine SL.step rfl rfl (CS.call rfl go29 (begin1 b) (by repeat (first | exact Sels.nil | apply Sels.cons | exact Sel.keep | exact Sel.here | apply Sel.there))) ?_
  rintro _ _ ⟨_, ⟨rfl, rfl⟩, rfl⟩
  refine SL.n1 ?_
  refine SL.val rfl rfl (fun w9 F9 S9 s => R.mv rfl) ?_
  refine SL.val rfl rfl (fun w9 F9 S9 s => R.ext rfl rfl) ?_
  refine SL.val rfl rfl (fun w9 F9 S9 s => R.ext rfl rfl) ?_
  refine SL.val rfl rfl (fun w9 F9 S9 s => R.as rfl) ?_
  refine SL.val rfl rfl (fun w9 F9 S9 s => R.as rfl) ?_
  refine SL.nil ?_
  refine SN.seq ?_
  refine SG.seq ?_
  refine SG.region ?_
  refine SL.step rfl rfl (CS.make rfl rfl (by decide) (by decide) (by decide) (by decide) (vbs (List.replicate 64 0)) (madeCells_bytes 64)) ?_
  rintro _ _ ⟨b24, rfl, rfl⟩
  refine SL.val rfl rfl (fun w9 F9 S9 s => R.as rfl) ?_
  refine SL.nil ?_
  refine SN.seq ?_
  refine SG.seq ?_
  refine SG.region ?_
  refine SL.val rfl rfl (fun w9 F9 S9 s => R.mv rfl) ?_
  refine SL.val rfl rfl (fun w9 F9 S9 s => R.idxO (i := 1) rfl rfl (by decide) (by decide) rfl 1 (by decide)) ?_
  refine SL.step0 rfl (CS.st (cs' := vbs (0 :: 3 :: List.replicate 62 (0 : UInt8))) rfl rfl (by repeat (first | exact Sel.keep | exact Sel.here | apply Sel.there)) (SetAt.there SetAt.here) rfl) ?_
  rintro _ _ rfl
  refine SL.nil ?_
  refine SN.imp (Imp.blkSh (p := fun w => Bs w (some ⟨b24, 0, none⟩) 64 (0 :: 3 :: List.replicate 62 (0 : UInt8))) (show Sel _ (blk b24 (vbs (0 :: 3 :: List.replicate 62 (0 : UInt8))) _) _ from (by repeat (first | exact Sel.keep | exact Sel.here | apply Sel.there))) (fun w h => ⟨Cells.of_blk h 0 _ (fun j v hj => by simpa using hj), by decide +kernel⟩)) ?_
  refine SN.seq ?_
  refine SG.seq ?_
  refine SG.region ?_
  refine SL.val rfl rfl (fun w9 F9 S9 s => R.mv rfl) ?_
  refine SL.val rfl rfl (fun w9 F9 S9 s => R.mv rfl) ?_
  refine SL.val rfl rfl (fun w9 F9 S9 s => R.mv rfl) ?_
  refine SL.step rfl rfl (CS.call rfl go30 (writeS b 4 1 [((1 : Int), ([] : List Wr))] 1 2 (some ⟨b24, 0, none⟩) 64 64 (0 :: 3 :: List.replicate 62 (0 : UInt8)) (by decide) (by simp) (by decide) (by decide) (by decide +kernel)) (by repeat (first | exact Sels.nil | apply Sels.cons | exact Sel.keep | exact Sel.here | apply Sel.there))) ?_
  rintro _ _ ⟨_, ⟨rfl, rfl⟩, rfl⟩
  refine SL.n1 ?_
  rw [f_wrE, f_wrM]
  refine SL.val rfl rfl (fun w9 F9 S9 s => R.as rfl) ?_
  refine SL.nil ?_
  refine SN.seq ?_
  refine SG.seq ?_
  refine SG.region ?_
  refine SL.val rfl rfl (fun w9 F9 S9 s => R.mv rfl) ?_
  refine SL.val rfl rfl (fun w9 F9 S9 s => R.mv rfl) ?_
  refine SL.step rfl rfl (CS.call rfl go31 (readS b 4 1 [((1 : Int), [((2 : Int), (0 :: 3 :: List.replicate 62 (0 : UInt8)))])] 1 2 (by decide) (by simp)) (by repeat (first | exact Sels.nil | apply Sels.cons | exact Sel.keep | exact Sel.here | apply Sel.there))) ?_
  rintro _ _ ⟨_, ⟨a34, n34, c34, rfl, hn34, rfl⟩, rfl⟩
  refine SL.n2 ?_
  rw [f_rdV.1, f_rdV.2]
  refine SL.val rfl rfl (fun w9 F9 S9 s => R.mv rfl) ?_
  refine SL.val rfl rfl (fun w9 F9 S9 s => R.ext rfl rfl) ?_
  refine SL.val rfl rfl (fun w9 F9 S9 s => R.ext rfl rfl) ?_
  refine SL.val rfl rfl (fun w9 F9 S9 s => R.ext rfl rfl) ?_
  refine SL.val rfl rfl (fun w9 F9 S9 s => R.as rfl) ?_
  refine SL.val rfl rfl (fun w9 F9 S9 s => R.as rfl) ?_
  refine SL.val rfl rfl (fun w9 F9 S9 s => R.as rfl) ?_
  refine SL.nil ?_
  refine SN.seq ?_
  refine SG.seq ?_
  refine SG.region ?_
  refine SL.val rfl rfl (fun w9 F9 S9 s => R.mv rfl) ?_
  refine SL.val rfl rfl (fun w9 F9 S9 s => R.mv rfl) ?_
  refine SL.step rfl rfl (CS.call rfl go31 (readS b 4 1 [((1 : Int), [((2 : Int), (0 :: 3 :: List.replicate 62 (0 : UInt8)))])] 1 1 (by decide) (by simp)) (by repeat (first | exact Sels.nil | apply Sels.cons | exact Sel.keep | exact Sel.here | apply Sel.there))) ?_
  rintro _ _ ⟨_, ⟨a41, n41, c41, rfl, hn41, rfl⟩, rfl⟩
  refine SL.n2 ?_
  rw [f_rdV1.1, f_rdV1.2]
  refine SL.val rfl rfl (fun w9 F9 S9 s => R.mv rfl) ?_
  refine SL.val rfl rfl (fun w9 F9 S9 s => R.ext rfl rfl) ?_
  refine SL.val rfl rfl (fun w9 F9 S9 s => R.ext rfl rfl) ?_
  refine SL.val rfl rfl (fun w9 F9 S9 s => R.ext rfl rfl) ?_
  refine SL.val rfl rfl (fun w9 F9 S9 s => R.as rfl) ?_
  refine SL.val rfl rfl (fun w9 F9 S9 s => R.as rfl) ?_
  refine SL.val rfl rfl (fun w9 F9 S9 s => R.as rfl) ?_
  refine SL.nil ?_
  refine SN.seq ?_
  refine SG.seq ?_
  refine SG.region ?_
  refine SL.val rfl rfl (fun w9 F9 S9 s => R.mv rfl) ?_
  refine SL.val rfl rfl (fun w9 F9 S9 s => R.mv rfl) ?_
  refine SL.step rfl rfl (CS.call rfl go32 (writesS b 4 1 [((1 : Int), [((2 : Int), (0 :: 3 :: List.replicate 62 (0 : UInt8)))])] 1 (by decide) (by simp)) (by repeat (first | exact Sels.nil | apply Sels.cons | exact Sel.keep | exact Sel.here | apply Sel.there))) ?_
  rintro _ _ ⟨_, ⟨r48, rfl, hr48, rfl⟩, rfl⟩
  refine SL.n2 ?_
  rw [f_mg.1] at hr48
  rw [f_mg.2.1]
  refine SL.val rfl rfl (fun w9 F9 S9 s => R.mv rfl) ?_
  refine SL.val rfl rfl (fun w9 F9 S9 s => R.ext rfl rfl) ?_
  refine SL.val rfl rfl (fun w9 F9 S9 s => R.ext rfl rfl) ?_
  refine SL.val rfl rfl (fun w9 F9 S9 s => R.as rfl) ?_
  refine SL.val rfl rfl (fun w9 F9 S9 s => R.as rfl) ?_
  refine SL.nil ?_
  obtain ⟨z, hz, hzv, hzl⟩ := one_row hr48
  refine SN.fact (fun w9 F9 S9 s => rowlen (s.row2 (show Sel _ (sh (fun w => RowW.ok w r48)) _ from (by repeat (first | exact Sel.keep | exact Sel.here | apply Sel.there))))) (fun hf9 => ?_)
  have hrl := hf9; clear hf9
  refine SN.fact (fun w9 F9 S9 s => rowpt (s.row2 (show Sel _ (sh (fun w => RowW.ok w r48)) _ from (by repeat (first | exact Sel.keep | exact Sel.here | apply Sel.there)))) hz) (fun hf9 => ?_)
  obtain ⟨q, hq⟩ := hf9
  refine SN.seq ?_
  refine SG.seq ?_
  refine SG.region ?_
  refine SL.val rfl rfl (fun w9 F9 S9 s => R.mv rfl) ?_
  refine SL.val rfl rfl (fun w9 F9 S9 s => R.eqI rfl rfl) ?_
  refine SL.val rfl rfl (fun w9 F9 S9 s => R.mv rfl) ?_
  refine SL.isT 53 rfl (rfl) ?_
  refine SL.val rfl rfl (fun w9 F9 S9 s => R.mv rfl) ?_
  refine SL.val rfl rfl (fun w9 F9 S9 s => R.eqI rfl rfl) ?_
  first | refine SL.val rfl rfl (fun w9 F9 S9 s => R.pickT rfl rfl) ?_ | refine SL.val rfl rfl (fun w9 F9 S9 s => R.pickF rfl rfl) ?_
  refine SL.val rfl rfl (fun w9 F9 S9 s => R.mv rfl) ?_
  refine SL.isT 57 rfl (rfl) ?_
  refine SL.val rfl rfl (fun w9 F9 S9 s => R.mv rfl) ?_
  refine SL.val rfl rfl (fun w9 F9 S9 s => R.eqI rfl rfl) ?_
  first | refine SL.val rfl rfl (fun w9 F9 S9 s => R.pickT rfl rfl) ?_ | refine SL.val rfl rfl (fun w9 F9 S9 s => R.pickF rfl rfl) ?_
  refine SL.val rfl rfl (fun w9 F9 S9 s => R.mv rfl) ?_
  refine SL.isT 61 rfl (rfl) ?_
  refine SL.val rfl rfl (fun w9 F9 S9 s => R.mv rfl) ?_
  refine SL.val rfl rfl (fun w9 F9 S9 s => R.eqI rfl rfl) ?_
  first | refine SL.val rfl rfl (fun w9 F9 S9 s => R.pickT rfl rfl) ?_ | refine SL.val rfl rfl (fun w9 F9 S9 s => R.pickF rfl rfl) ?_
  refine SL.val rfl rfl (fun w9 F9 S9 s => R.mv rfl) ?_
  refine SL.isT 65 rfl (rfl) ?_
  refine SL.val rfl rfl (fun w9 F9 S9 s => R.mv rfl) ?_
  first | refine SL.val rfl rfl (fun w9 F9 S9 s => R.pickT rfl rfl) ?_ | refine SL.val rfl rfl (fun w9 F9 S9 s => R.pickF rfl rfl) ?_
  refine SL.val rfl rfl (fun w9 F9 S9 s => R.mv rfl) ?_
  refine SL.isT 68 rfl (rfl) ?_
  refine SL.val rfl rfl (fun w9 F9 S9 s => R.mv rfl) ?_
  refine SL.val rfl rfl (fun w9 F9 S9 s => R.not rfl) ?_
  first | refine SL.val rfl rfl (fun w9 F9 S9 s => R.pickT rfl rfl) ?_ | refine SL.val rfl rfl (fun w9 F9 S9 s => R.pickF rfl rfl) ?_
  refine SL.val rfl rfl (fun w9 F9 S9 s => R.mv rfl) ?_
  refine SL.isT 72 rfl (rfl) ?_
  refine SL.val rfl rfl (fun w9 F9 S9 s => R.mv rfl) ?_
  refine SL.val rfl rfl (fun w9 F9 S9 s => R.strB rfl (s.sh (p := fun w => Bs w a34 n34 ((some (0 :: 3 :: List.replicate 62 (0 : UInt8))).getD [])) (by repeat (first | exact Sel.keep | exact Sel.here | apply Sel.there)))) ?_
  refine SL.val rfl rfl (fun w9 F9 S9 s => R.mv rfl) ?_
  refine SL.val rfl rfl (fun w9 F9 S9 s => R.strB rfl (s.sh (p := fun w => Bs w (some ⟨b24, 0, none⟩) 64 (0 :: 3 :: List.replicate 62 (0 : UInt8))) (by repeat (first | exact Sel.keep | exact Sel.here | apply Sel.there)))) ?_
  refine SL.val rfl rfl (fun w9 F9 S9 s => R.eqStr rfl rfl) ?_
  first | refine SL.val rfl rfl (fun w9 F9 S9 s => R.pickT rfl rfl) ?_ | refine SL.val rfl rfl (fun w9 F9 S9 s => R.pickF rfl rfl) ?_
  refine SL.val rfl rfl (fun w9 F9 S9 s => R.mv rfl) ?_
  refine SL.isT 79 rfl (decide_eq_true rfl) ?_
  refine SL.val rfl rfl (fun w9 F9 S9 s => R.mv rfl) ?_
  refine SL.val rfl rfl (fun w9 F9 S9 s => R.lenS rfl) ?_
  refine SL.val rfl rfl (fun w9 F9 S9 s => R.eqI rfl rfl) ?_
  first | refine SL.val rfl rfl (fun w9 F9 S9 s => R.pickT rfl rfl) ?_ | refine SL.val rfl rfl (fun w9 F9 S9 s => R.pickF rfl rfl) ?_
  refine SL.val rfl rfl (fun w9 F9 S9 s => R.mv rfl) ?_
  refine SL.isT 84 rfl (decide_eq_true (by omega)) ?_
  refine SL.val rfl rfl (fun w9 F9 S9 s => R.mv rfl) ?_
  refine SL.val rfl rfl (fun w9 F9 S9 s => R.idx (i := 0) rfl rfl (by omega) (by omega) q hq) ?_
  refine SL.val rfl rfl (fun w9 F9 S9 s => R.fldA rfl) ?_
  refine SL.val rfl rfl (fun w9 F9 S9 s => R.ld (v := .int .i64 z.Block') rfl ((rowcells (s.row2 (show Sel _ (sh (fun w => RowW.ok w r48)) _ from (by repeat (first | exact Sel.keep | exact Sel.here | apply Sel.there)))) hq hz).load (j := 0) rfl)) ?_
  refine SL.val rfl rfl (fun w9 F9 S9 s => R.eqI rfl rfl) ?_
  first | refine SL.val rfl rfl (fun w9 F9 S9 s => R.pickT rfl rfl) ?_ | refine SL.val rfl rfl (fun w9 F9 S9 s => R.pickF rfl rfl) ?_
  refine SL.val rfl rfl (fun w9 F9 S9 s => R.mv rfl) ?_
  refine SL.isT 91 rfl (decide_eq_true (congrArg Prod.fst hzv)) ?_
  refine SL.val rfl rfl (fun w9 F9 S9 s => R.mv rfl) ?_
  refine SL.step rfl rfl (CS.call rfl go35 (openS b 4 1 [((1 : Int), [((2 : Int), (0 :: 3 :: List.replicate 62 (0 : UInt8)))])] (by decide)) (by repeat (first | exact Sels.nil | apply Sels.cons | exact Sel.keep | exact Sel.here | apply Sel.there))) ?_
  rintro _ _ ⟨_, ⟨a93, c93, rfl, rfl⟩, rfl⟩
  refine SL.n2 ?_
  refine SL.val rfl rfl (fun w9 F9 S9 s => R.lenS rfl) ?_
  refine SL.val rfl rfl (fun w9 F9 S9 s => R.eqI rfl rfl) ?_
  first | refine SL.val rfl rfl (fun w9 F9 S9 s => R.pickT rfl rfl) ?_ | refine SL.val rfl rfl (fun w9 F9 S9 s => R.pickF rfl rfl) ?_
  refine SL.val rfl rfl (fun w9 F9 S9 s => R.mv rfl) ?_
  refine SL.isT 97 rfl (rfl) ?_
  refine SL.val rfl rfl (fun w9 F9 S9 s => R.mv rfl) ?_
  refine SL.val rfl rfl (fun w9 F9 S9 s => R.mv rfl) ?_
  refine SL.step rfl rfl (CS.call rfl go33 (endS b 4 1 [((1 : Int), [((2 : Int), (0 :: 3 :: List.replicate 62 (0 : UInt8)))])] 1 (by decide)) (by repeat (first | exact Sels.nil | apply Sels.cons | exact Sel.keep | exact Sel.here | apply Sel.there))) ?_
  rintro _ _ ⟨_, ⟨rfl, rfl⟩, rfl⟩
  refine SL.n1 ?_
  rw [f_mg.2.1, f_mg.2.2.1]
  refine SL.val rfl rfl (fun w9 F9 S9 s => R.eqI rfl rfl) ?_
  first | refine SL.val rfl rfl (fun w9 F9 S9 s => R.pickT rfl rfl) ?_ | refine SL.val rfl rfl (fun w9 F9 S9 s => R.pickF rfl rfl) ?_
  refine SL.val rfl rfl (fun w9 F9 S9 s => R.mv rfl) ?_
  refine SL.isT 103 rfl (rfl) ?_
  refine SL.val rfl rfl (fun w9 F9 S9 s => R.mv rfl) ?_
  refine SL.val rfl rfl (fun w9 F9 S9 s => R.mv rfl) ?_
  refine SL.step rfl rfl (CS.call rfl go33 (endS b 4 1 [] 1 (by decide)) (by repeat (first | exact Sels.nil | apply Sels.cons | exact Sel.keep | exact Sel.here | apply Sel.there))) ?_
  rintro _ _ ⟨_, ⟨rfl, rfl⟩, rfl⟩
  refine SL.n1 ?_
  rw [f_mg.2.2.2.1, f_mg.2.2.2.2]
  refine SL.val rfl rfl (fun w9 F9 S9 s => R.eqI rfl rfl) ?_
  first | refine SL.val rfl rfl (fun w9 F9 S9 s => R.pickT rfl rfl) ?_ | refine SL.val rfl rfl (fun w9 F9 S9 s => R.pickF rfl rfl) ?_
  refine SL.val rfl rfl (fun w9 F9 S9 s => R.as rfl) ?_
  refine SL.nil ?_
  refine SN.seq ?_
  exact SG.ret1 rfl rfl (Imp.sels Sels.nil) (⟨congrArg Value.bool (decide_eq_true rfl), rfl⟩)

end Go.Proofs.Ytiiiplhfgblamaa
/-
  The walks of package txn.
-/
set_option linter.unusedVariables false
set_option linter.unusedSimpArgs false
set_option maxRecDepth 4000
namespace Go.Proofs.Ytiiiplhfgblamaa
open Go Brv
structure OpV where
  mk ::
  (Kind' : Int)
  (H' : Int)
  (Block' : Int)
  (B'a : Option Addr) (B'n B'c : Nat) (B' : List UInt8)
def OpV.cells (o : OpV) : List Value := [.int .i64 o.Kind', .int .i64 o.H', .int .i64 o.Block', .slice o.B'a o.B'n o.B'c]
def OpV.ok (w : World) (o : OpV) : Prop := (Lit.int .i64 o.Kind').wf = true ∧ (Lit.int .i64 o.H').wf = true ∧ (Lit.int .i64 o.Block').wf = true ∧ (o.B'n ≤ o.B'c ∧ o.B'c ≤ 140737488351232 ∧ Bs w o.B'a o.B'n o.B')
theorem OpV.ok.ext0 {w w' : World} {o : OpV} (h : o.ok w) (he : Ext [] w w') : o.ok w' := by
  obtain ⟨h0, h1, h2, h3⟩ := h
  exact ⟨h0, h1, h2, ⟨h3.1, h3.2.1, h3.2.2.ext0 he⟩⟩
theorem OpV.cells.length (o : OpV) : o.cells.length = 4 := rfl
theorem OpV.cells.one (o : OpV) : ∀ u ∈ o.cells.toArray.toList, u.oneCell' = true := by
  intro u hu
  simp only [OpV.cells, List.mem_cons, List.not_mem_nil, or_false] at hu
  rcases hu with rfl | rfl | rfl | rfl <;> rfl
set_option maxRecDepth 100000 in
theorem opV_of {w : World} {f : Nat} {cs : List Value} (h : Rd Try.prog w f 55 cs) : ∃ o : OpV, cs = o.cells ∧ o.ok w := by
  cases f with
  | zero => exact h.elim
  | succ f =>
    unfold Rd at h
    rw [Try.underlying55] at h
    obtain ⟨hl, hf⟩ := h
    rw [show Try.prog.cellsOf 55 = 4 from by kernel_rfl] at hl
    obtain ⟨v0, v1, v2, v3, rfl⟩ : ∃ v0 v1 v2 v3, cs = [v0, v1, v2, v3] := by
      match cs, hl with
      | [v0, v1, v2, v3], _ => exact ⟨v0, v1, v2, v3, rfl⟩
    have r0 : Rd Try.prog w f 3 (List.take (Try.prog.cellsOf 3) (List.drop 0 [v0, v1, v2, v3])) := hf 0 _ rfl
    rw [show Try.prog.cellsOf 3 = 1 from by kernel_rfl] at r0
    replace r0 : Rd Try.prog w f 3 [v0] := r0
    have r1 : Rd Try.prog w f 3 (List.take (Try.prog.cellsOf 3) (List.drop 1 [v0, v1, v2, v3])) := hf 1 _ rfl
    rw [show Try.prog.cellsOf 3 = 1 from by kernel_rfl] at r1
    replace r1 : Rd Try.prog w f 3 [v1] := r1
    have r2 : Rd Try.prog w f 3 (List.take (Try.prog.cellsOf 3) (List.drop 2 [v0, v1, v2, v3])) := hf 2 _ rfl
    rw [show Try.prog.cellsOf 3 = 1 from by kernel_rfl] at r2
    replace r2 : Rd Try.prog w f 3 [v2] := r2
    have r3 : Rd Try.prog w f 25 (List.take (Try.prog.cellsOf 25) (List.drop 3 [v0, v1, v2, v3])) := hf 3 _ rfl
    rw [show Try.prog.cellsOf 25 = 1 from by kernel_rfl] at r3
    replace r3 : Rd Try.prog w f 25 [v3] := r3
    obtain ⟨x0, e0, w0⟩ := r0.int
    cases e0
    obtain ⟨x1, e1, w1⟩ := r1.int
    cases e1
    obtain ⟨x2, e2, w2⟩ := r2.int
    cases e2
    obtain ⟨a3, n3, c3, l3, e3, z3, _, y3, b3⟩ := r3.bytes (by kernel_rfl) (by kernel_rfl)
    cases e3
    exact ⟨⟨x0, x1, x2, a3, n3, c3, l3⟩, rfl, ⟨w0, w1, w2, ⟨z3, y3, b3⟩⟩⟩
set_option maxRecDepth 100000 in
theorem opV_rows47 {w : World} {f : Nat} {cs : List Value} (h : Rd Try.prog w f 47 cs) : ∃ a n c, ∃ os : List OpV, cs = [.slice a n c] ∧ n ≤ c ∧ c * 48 ≤ 140737488351232 ∧ Tab w a n 4 (os.map OpV.cells) ∧ ∀ o ∈ os, o.ok w := by
  cases f with
  | zero => exact h.elim
  | succ f =>
    unfold Rd at h
    rw [Try.underlying47] at h
    obtain ⟨a, n, c, rfl, hnc, _, hb, vss, hl, hcell, hv⟩ := h
    rw [show Try.prog.bytesOf 55 = 48 from by kernel_rfl] at hb
    have hex : ∃ os : List OpV, vss = os.map OpV.cells ∧ ∀ o ∈ os, o.ok w := by
      clear hcell hl
      induction vss with
      | nil => exact ⟨[], rfl, by simp⟩
      | cons vs r ih =>
        obtain ⟨o, rfl, ho⟩ := opV_of (hv vs (by simp)).2
        obtain ⟨os, rfl, hos⟩ := ih (fun x hx => hv x (by simp [hx]))
        exact ⟨o :: os, rfl, fun x hx => (List.mem_cons.1 hx).elim (fun e => e ▸ ho) (hos x)⟩
    obtain ⟨os, rfl, hos⟩ := hex
    exact ⟨a, n, c, os, rfl, hnc, hb, ⟨hcell, hl.symm, fun vs hvs => by obtain ⟨o, _, rfl⟩ := List.mem_map.1 hvs; rfl⟩, hos⟩

structure OpsOk (w : World) (a : Option Addr) (n : Nat) (os : List OpV) : Prop where
  len : n = os.length
  tab : Tab w a n 4 (os.map OpV.cells)
  ok : ∀ o ∈ os, o.ok w
theorem OpsOk.ext0 {w w' : World} {a : Option Addr} {n : Nat} {os : List OpV} (h : OpsOk w a n os) (he : Ext [] w w') : OpsOk w' a n os := ⟨h.len, h.tab.ext0 he, fun o ho => (h.ok o ho).ext0 he⟩
theorem ops_pt {w : World} {a : Option Addr} {n : Nat} {os : List OpV} {i : Nat} {o : OpV} (h : OpsOk w a n os) (ho : os[i]? = some o) : ∃ q, a = some q := by
  obtain ⟨hi, _⟩ := List.getElem?_eq_some_iff.1 ho
  obtain ⟨q, hq, _⟩ := h.tab.at (by decide) i (by simpa using hi)
  exact ⟨q, hq⟩
theorem ops_cells {w : World} {a : Option Addr} {n : Nat} {os : List OpV} {i : Nat} {o : OpV} {p : Addr} (h : OpsOk w a n os) (hp : a = some p) (ho : os[i]? = some o) : Cells w (some (p.add ((i : Int).toNat * 4))) (OpV.cells o) := by
  obtain ⟨hi, rfl⟩ := List.getElem?_eq_some_iff.1 ho
  obtain ⟨q, hq, hc⟩ := h.tab.at (by decide) i (by simpa using hi)
  rw [hp] at hq; cases hq
  simpa [Int.toNat_natCast] using hc
/-- What is so of the transactions after i operations. -/
structure PlOk (i : Nat) (L : Int) (M : List (Int × List Wr)) : Prop where
  lo : 0 ≤ L
  hi : L ≤ i
  srt : Srt M
  top : ∀ e ∈ M, e.1 ≤ L
  few : M.length ≤ 8
  short : ∀ e ∈ M, e.2.length ≤ i
  rows : ∀ e ∈ M, Srt e.2
theorem PlOk.same {i : Nat} {L : Int} {M : List (Int × List Wr)} (h : PlOk i L M) : PlOk (i + 1) L M := ⟨h.lo, by have := h.hi; omega, h.srt, h.top, h.few, fun e he => Nat.le_succ_of_le (h.short e he), h.rows⟩
theorem PlOk.clear {i : Nat} {L : Int} {M : List (Int × List Wr)} (h : PlOk i L M) : PlOk (i + 1) L [] := ⟨h.lo, by have := h.hi; omega, List.Pairwise.nil, by simp, by simp, by simp, by simp⟩
theorem putT_fst {α : Type} {l : List (Int × α)} {k : Int} {v : α} (hs : Srt l) (h : hasT l k = true) : Srt (putT l k v) ∧ (putT l k v).length = l.length ∧ ∀ p ∈ putT l k v, ∃ q ∈ l, q.1 = p.1 := by
  obtain ⟨p, hp, rfl⟩ := hasT_mem h
  rw [putT_at hs (lowT_at hs hp ▸ hp)]
  have hm := List.mem_of_getElem? hp
  obtain ⟨hi, he⟩ := List.getElem?_eq_some_iff.1 hp
  refine ⟨?_, by simp, fun q hq => ?_⟩
  · have hmap : (l.set (lowT l p.1) (p.1, v)).map Prod.fst = l.map Prod.fst := by
      rw [List.map_set]
      apply List.ext_getElem?
      intro j
      rw [List.getElem?_set]
      split
      · rename_i e; subst e
        rw [List.getElem?_map, hp]; simp [hi]
      · rfl
    have key : ∀ {β : Type} (m : List (Int × β)), Srt m ↔ (m.map Prod.fst).Pairwise (· < ·) := fun m => by unfold Srt; rw [List.pairwise_map]
    rw [key, hmap, ← key]; exact hs
  · rcases List.mem_or_eq_of_mem_set hq with h | h
    · exact ⟨q, h, rfl⟩
    · exact ⟨p, hm, by rw [h]⟩
theorem mgW_len (l : List Wr) : (mgW l).length ≤ l.length := by
  have h1 := congrArg List.length (mgW_toQ l)
  rw [List.length_map] at h1
  have key : ∀ (l : List Wr) (ps : List (Pr Int)), (mergeP ps l).length ≤ ps.length + l.length := by
    intro l
    induction l with
    | nil => intro ps; exact Nat.le_refl _
    | cons w l ih =>
      intro ps
      have := ih (putK ps w.1 (vbs w.2))
      have h2 := put_len (ps := ps) w.1 (vbs w.2)
      rw [List.length_cons]
      show (mergeP (putK ps w.1 (vbs w.2)) l).length ≤ _
      split at h2 <;> omega
  have := key l []
  rw [List.length_nil] at this
  omega
theorem PlOk.write {i : Nat} {L : Int} {M : List (Int × List Wr)} (hp : PlOk i L M) (B h k : Int) (d : List UInt8) : PlOk (i + 1) L (wrM B M h k d) := by
  unfold wrM
  split
  · rename_i he
    have hh : hasT M h = true := by
      unfold wrE at he
      split at he
      · assumption
      · cases he
    obtain ⟨p1, p2, p3⟩ := putT_fst (v := mgW ((getT M h).getD [] ++ [(k, d)])) hp.srt hh
    refine ⟨hp.lo, by have := hp.hi; omega, p1, fun e he => ?_, by rw [p2]; exact hp.few, fun e he => ?_, fun e he => ?_⟩
    · obtain ⟨q, hq, e1⟩ := p3 e he; rw [← e1]; exact hp.top q hq
    · rcases mem_putT he with rfl | he
      · refine Nat.le_trans (mgW_len _) ?_
        rw [List.length_append]
        obtain ⟨v, hv⟩ := hasT_get hh
        rw [hv]
        exact Nat.succ_le_succ (hp.short _ (getT_some hv))
      · exact Nat.le_succ_of_le (hp.short e he)
    · rcases mem_putT he with rfl | he
      · exact mgW_sorted _
      · exact hp.rows e he
  · exact hp.same
theorem PlOk.got {i : Nat} {L : Int} {M : List (Int × List Wr)} (hp : PlOk i L M) (h : Int) : mgW ((getT M h).getD []) = (getT M h).getD [] := by
  refine mgW_again ?_
  cases hg : getT M h with
  | none => exact List.Pairwise.nil
  | some x => exact hp.rows _ (getT_some hg)

end Go.Proofs.Ytiiiplhfgblamaa
/-
  The language's own maps.
-/
set_option linter.unusedVariables false
set_option linter.unusedSimpArgs false
namespace Brv
open Go
section
variable {κ : Type} [DecidableEq κ]
/-- A map's entries, in the order in which they came. -/
def mput : List (κ × Value) → κ → Value → List (κ × Value)
  | [], k, v => [(k, v)]
  | p :: r, k, v => if p.1 = k then (k, v) :: r else p :: mput r k v
def mget : List (κ × Value) → κ → Option Value
  | [], _ => none
  | p :: r, k => if p.1 = k then some p.2 else mget r k
theorem mget_put (ps : List (κ × Value)) (k j : κ) (v : Value) : mget (mput ps k v) j = if k = j then some v else mget ps j := by
  induction ps with
  | nil => simp [mput, mget]
  | cons p r ih =>
    unfold mput
    split
    · rename_i e
      subst e
      simp only [mget]
      split <;> simp_all
    · rename_i e
      simp only [mget, ih]
      split
      · rename_i e2; subst e2
        rw [if_neg (fun h => e h.symm)]
      · rfl
theorem mput_len (ps : List (κ × Value)) (k : κ) (v : Value) : (mput ps k v).length = if (mget ps k).isSome then ps.length else ps.length + 1 := by
  induction ps with
  | nil => rfl
  | cons p r ih =>
    unfold mput mget
    split
    · rfl
    · simp only [List.length_cons, ih]
      split <;> rfl
end
section
variable {κ : Type} [Key κ]
/-- A map's type. -/
class MapT (P : Program) (T : TypeId) (κ : Type) [Key κ] (K E : outParam TypeId) (d : outParam TypeDesc) : Prop where
  h : P.underlying T = some (.map K E)
  hk : P.underlying K = some d
  key : ∀ k : κ, MapKept.IsKey d (Key.val k)
  inj : ∀ a b : κ, Key.val a = Key.val b → a = b
def ents (l : List MapEntry) (ps : List (κ × Value)) : Prop := l.map (fun e => (e.key, e.val)) = ps.map (fun p => (Key.val p.1, p.2))
def GM (w : World) (b : Nat) (ps : List (κ × Value)) : Prop := ∃ es clock, w.heap[b]? = some (.map es clock) ∧ ents es.toList ps
theorem GM.lt {w : World} {b : Nat} {ps : List (κ × Value)} (h : GM w b ps) : b < w.heap.size := let ⟨_, _, h, _⟩ := h; (Array.getElem?_eq_some_iff.1 h).1
theorem GM.ext {M : List Nat} {w w' : World} {b : Nat} {ps : List (κ × Value)} (h : GM w b ps) (he : Ext M w w') (hb : b ∉ M) : GM w' b ps :=
  let ⟨es, c, h1, h2⟩ := h; ⟨es, c, (he.keep b (Array.getElem?_eq_some_iff.1 h1).1 hb).trans h1, h2⟩
/-- A map of one's own. -/
def gm (b : Nat) (ps : List (κ × Value)) : Asn where
  P := fun F _ w => F = [b] ∧ GM w b ps
  ext := fun F S M w w' h he hF _ => ⟨h.1, h.2.ext he (hF b (by rw [h.1]; simp))⟩
theorem St.gm {b : Nat} {ps : List (κ × Value)} {H H' : List Asn} {F S : List Nat} {w : World} (s : St H F S w) (h : Sel H (Brv.gm b ps) H') : GM w b ps := (s.sel h).elim fun _ h => h.elim fun _ h => h.2.2
variable [DecidableEq κ]
theorem find_ents {d : TypeDesc} (hkey : ∀ k : κ, MapKept.IsKey d (Key.val k)) (inj : ∀ a b : κ, Key.val a = Key.val b → a = b) (k : κ) : ∀ (l : List MapEntry) (ps : List (κ × Value)) (n : Nat), ents l ps →
    (mget ps k = none ∧ Instr.findNow d (Key.val k) l n = some none ∧ ∀ v, mput ps k v = ps ++ [(k, v)]) ∨
    (∃ j e, l[j]? = some e ∧ e.key = Key.val k ∧ mget ps k = some e.val ∧ Instr.findNow d (Key.val k) l n = some (some (n + j, e.val)) ∧ ∀ v, mput ps k v = ps.set j (k, v))
  | [], [], n, _ => .inl ⟨rfl, rfl, fun _ => rfl⟩
  | [], p :: ps, n, h => by simp [ents] at h
  | e :: l, [], n, h => by simp [ents] at h
  | e :: l, p :: ps, n, h => by
    simp only [ents, List.map_cons, List.cons.injEq, Prod.mk.injEq] at h
    obtain ⟨⟨h1, h2⟩, h3⟩ := h
    obtain ⟨r, hr, hi⟩ := MapKept.sameNow_of_keys (b := e.key) (hkey k) (by rw [h1]; exact hkey p.1)
    by_cases hp : p.1 = k
    · refine .inr ⟨0, e, rfl, by rw [h1, hp], ?_, ?_, ?_⟩
      · simp only [mget]; rw [if_pos hp, h2]
      · have : r = true := hi.2 (by rw [h1, hp])
        simp only [Instr.findNow, hr, this]; rfl
      · intro v; simp only [mput]; rw [if_pos hp]; rfl
    · have hrf : r = false := by
        cases hq : r with
        | false => rfl
        | true => exact (hp (inj _ _ (by rw [← h1]; exact (hi.1 hq).symm))).elim
      rcases find_ents hkey inj k l ps (n + 1) h3 with ⟨q1, q2, q3⟩ | ⟨j, e', q1, q2, q3, q4, q5⟩
      · refine .inl ⟨?_, ?_, ?_⟩
        · simp only [mget]; rw [if_neg hp, q1]
        · simp only [Instr.findNow, hr, hrf]; exact q2
        · intro v; simp only [mput]; rw [if_neg hp, q3]; rfl
      · refine .inr ⟨j + 1, e', by simpa using q1, q2, ?_, ?_, ?_⟩
        · simp only [mget]; rw [if_neg hp, q3]
        · simp only [Instr.findNow, hr, hrf]; rw [q4, show n + 1 + j = n + (j + 1) by omega]
        · intro v; simp only [mput]; rw [if_neg hp, q5]; rfl
section
variable {P : Program} {n : Fm} {o : Org} {ρ : Env} {H H1 : List Asn} {d : Nat} {ty : TypeId} {pos : String} {af : Array Edge} {gd : Option (Nat × Bool)} {T K E : TypeId} {dd : TypeDesc} {w : World}
theorem CS.makeMap (κ : Type) [Key κ] : CS P n o ρ H ⟨some d, .makeMap T none, ty, pos, af, gd⟩ (fun v H' => ∃ b, v = .map (some b) ∧ H' = gm (κ := κ) b [] :: H) := fun w F S s fr => by
  have hB : GM (κ := κ) (w.alloc (.map #[] 0)) w.heap.size [] := ⟨#[], 0, by show (w.heap.push _)[w.heap.size]? = _; simp, rfl⟩
  obtain ⟨F', S', s', f'⟩ := s.grow fr (Ext.alloc w (.map #[] 0)) (A := gm (κ := κ) w.heap.size []) (F' := [w.heap.size]) (S' := []) (fun x hx => by rw [List.mem_singleton.1 hx]; exact ⟨Nat.le_refl _, by simp⟩) (fun x hx => by cases hx) ⟨rfl, hB⟩ (Apart.nilL _)
  refine .inl ⟨.map (some w.heap.size), w.alloc (.map #[] 0), fun a ha => ?_, _, F', S', ⟨_, rfl, rfl⟩, s', f'⟩
  simp [execOp, Instr.makeMap]
theorem R.look [t : MapT P T κ K E dd] {z : Value} [tz : TyZero P E z] {x y : Operand} {b : Nat} {ps : List (κ × Value)} {k : κ} (hx : ev ρ x = some (.map (some b))) (hy : ev ρ y = some (Key.val k)) (hb : GM w b ps) :
    Runs P n ρ w ⟨some d, .lookup T x y false, ty, pos, af, gd⟩ ((mget ps k).getD z) w := fun f hf => by
  obtain ⟨es, c, h1, h2⟩ := hb
  have hz : (zeroValue E).run P w = .ok z w := by
    have hz := tz.h
    cases hq : P.info? E with
    | none => simp [hq] at hz
    | some i => have hz' : i.zero = some z := by simpa [hq] using hz
                simp [zeroValue, typeInfo, hq, hz']
  rcases find_ents t.key t.inj k es.toList ps 0 h2 with ⟨q1, q2, _⟩ | ⟨j, e, q1, q2, q3, q4, _⟩
  · simp [execOp, Instr.lookup, hf.eval hx, hf.eval hy, run_underlying t.h, MapKept.run_getObj_map h1, MapKept.run_checkKey t.hk (t.key k), MapKept.run_findKey t.hk q2, hz, Result.andThen, q1]
  · simp [execOp, Instr.lookup, hf.eval hx, hf.eval hy, run_underlying t.h, MapKept.run_getObj_map h1, MapKept.run_checkKey t.hk (t.key k), MapKept.run_findKey t.hk q4, Result.andThen, q3]
theorem R.lookOk [t : MapT P T κ K E dd] {z : Value} [tz : TyZero P E z] {x y : Operand} {b : Nat} {ps : List (κ × Value)} {k : κ} (hx : ev ρ x = some (.map (some b))) (hy : ev ρ y = some (Key.val k)) (hb : GM w b ps) :
    Runs P n ρ w ⟨some d, .lookup T x y true, ty, pos, af, gd⟩ (.tuple #[(mget ps k).getD z, .bool (mget ps k).isSome]) w := fun f hf => by
  obtain ⟨es, c, h1, h2⟩ := hb
  have hz : (zeroValue E).run P w = .ok z w := by
    have hz := tz.h
    cases hq : P.info? E with
    | none => simp [hq] at hz
    | some i => have hz' : i.zero = some z := by simpa [hq] using hz
                simp [zeroValue, typeInfo, hq, hz']
  rcases find_ents t.key t.inj k es.toList ps 0 h2 with ⟨q1, q2, _⟩ | ⟨j, e, q1, q2, q3, q4, _⟩
  · simp [execOp, Instr.lookup, hf.eval hx, hf.eval hy, run_underlying t.h, MapKept.run_getObj_map h1, MapKept.run_checkKey t.hk (t.key k), MapKept.run_findKey t.hk q2, hz, Result.andThen, q1]
  · simp [execOp, Instr.lookup, hf.eval hx, hf.eval hy, run_underlying t.h, MapKept.run_getObj_map h1, MapKept.run_checkKey t.hk (t.key k), MapKept.run_findKey t.hk q4, Result.andThen, q3]
theorem CS.mapUpd [t : MapT P T κ K E dd] {x y u : Operand} {b : Nat} {ps : List (κ × Value)} {k : κ} {v : Value} (hx : ev ρ x = some (.map (some b))) (hy : ev ρ y = some (Key.val k)) (hu : ev ρ u = some v) (sel : Sel H (gm b ps) H1) :
    CS P n o ρ H ⟨none, .mapUpdate T x y u, ty, pos, af, gd⟩ (fun _ H' => H' = gm b (mput ps k v) :: H1) := by
  refine CS.mono (CS.upd sel (φ := fun _ A' => A' = gm b (mput ps k v)) fun w F S F1 S1 s hA hlt => ?_) (by rintro v H' ⟨_, rfl, rfl⟩; rfl)
  obtain ⟨rfl, es, c, h1, h2⟩ := hA
  have hbs := (Array.getElem?_eq_some_iff.1 h1).1
  have hext : ∀ ob : Obj, Ext [b] w { w with heap := w.heap.setIfInBounds b ob } := fun ob => ⟨rfl, rfl, rfl, by simp, fun k _ hm => by
    show (w.heap.setIfInBounds b ob)[k]? = _
    rw [Array.getElem?_setIfInBounds_ne (fun e => hm (by simp [e]))]⟩
  have hget : ∀ ob : Obj, (w.heap.setIfInBounds b ob)[b]? = some ob := fun ob => by simp [hbs]
  rcases find_ents t.key t.inj k es.toList ps 0 h2 with ⟨q1, q2, q3⟩ | ⟨j, e, q1, q2, q3, q4, q5⟩
  · refine .inr (.inl ⟨rfl, { w with heap := w.heap.setIfInBounds b (.map (es.push { key := Key.val k, val := v, born := c }) (c + 1)) }, fun f hf => ?_, gm b (mput ps k v), [b], [], rfl, ⟨rfl, ⟨_, _, hget _, ?_⟩⟩, fun x hx => by rw [List.mem_singleton.1 hx]; simpa using hbs, by simp, ⟨hext _, fun x hx => .inl hx, by simp⟩⟩)
    · simp [execOp, Instr.mapUpdate, hf.eval hx, hf.eval hy, hf.eval hu, run_underlying t.h, MapKept.run_getObj_map h1, MapKept.run_checkKey t.hk (t.key k), MapKept.run_findKey t.hk q2, MapKept.run_setObj_map _ h1, Result.andThen]
    · rw [q3]; unfold ents at h2 ⊢; simp [h2]
  · have hj : es[j]? = some e := by simpa using q1
    have hjl : j < es.size := (Array.getElem?_eq_some_iff.1 hj).1
    refine .inr (.inl ⟨rfl, { w with heap := w.heap.setIfInBounds b (.map (es.modify j fun e => { e with key := Key.val k, val := v }) c) }, fun f hf => ?_, gm b (mput ps k v), [b], [], rfl, ⟨rfl, ⟨_, _, hget _, ?_⟩⟩, fun x hx => by rw [List.mem_singleton.1 hx]; simpa using hbs, by simp, ⟨hext _, fun x hx => .inl hx, by simp⟩⟩)
    · rw [Nat.zero_add] at q4
      simp [execOp, Instr.mapUpdate, hf.eval hx, hf.eval hy, hf.eval hu, run_underlying t.h, MapKept.run_getObj_map h1, MapKept.run_checkKey t.hk (t.key k), MapKept.run_findKey t.hk q4, hj, q2, MapKept.run_keyThatStays (t.key k), MapKept.run_setObj_map _ h1, Result.andThen]
    · rw [q5]
      unfold ents at h2 ⊢
      apply List.ext_getElem?
      intro i
      have h3 := congrArg (fun l => l[i]?) h2
      simp only [List.getElem?_map, Array.getElem?_toList] at h3
      simp only [List.getElem?_map, Array.getElem?_toList, Array.getElem?_modify, List.getElem?_set]
      by_cases hij : j = i
      · subst hij
        have hjp : j < ps.length := by have := congrArg List.length h2; simp at this; omega
        simp [hj, hjp]
      · simp only [hij, if_false]; exact h3
end
end
end Brv
/-
  The walks of package txn.
-/
set_option linter.unusedVariables false
set_option linter.unusedSimpArgs false
set_option maxRecDepth 4000
namespace Go.Proofs.Ytiiiplhfgblamaa
open Go Brv
instance : MapT Try.prog 53 Int 3 9 (.int .i64) := ⟨Try.underlying53, Try.underlying3, fun _ => rfl, fun a b h => by cases h; rfl⟩
/-- What is so of one transaction's writes, and of the map of the last ones. -/
structure WrOk (i : Nat) (R : List Wr) (ps : List (Int × Value)) : Prop where
  srt : Srt R
  len : R.length ≤ i
  get : ∀ k, mget ps k = (getT R k).map (fun d => Value.string (str d))
  cnt : ps.length = R.length
theorem WrOk.nil : WrOk 0 [] [] := ⟨List.Pairwise.nil, Nat.le_refl _, fun k => rfl, rfl⟩
theorem WrOk.same {i : Nat} {R : List Wr} {ps : List (Int × Value)} (h : WrOk i R ps) : WrOk (i + 1) R ps := ⟨h.srt, Nat.le_succ_of_le h.len, h.get, h.cnt⟩
theorem mgW_put {R : List Wr} (hs : Srt R) (k : Int) (d : List UInt8) : mgW (R ++ [(k, d)]) = putT R k d := by
  have h := mgW_again hs
  unfold mgW at h ⊢
  rw [List.foldl_append, h]; rfl
theorem putT_len {α : Type} (l : List (Int × α)) (k : Int) (v : α) : (putT l k v).length = if (getT l k).isSome then l.length else l.length + 1 := by
  unfold putT
  cases hh : hasT l k with
  | true =>
    obtain ⟨v, hv⟩ := hasT_get hh
    rw [hv]; simp
  | false =>
    rw [getT_not hh]
    have : lowT l k ≤ l.length := by unfold lowT; exact (List.takeWhile_sublist _).length_le
    simp; omega
theorem WrOk.step {i : Nat} {R : List Wr} {ps : List (Int × Value)} (h : WrOk i R ps) (k : Int) (d : List UInt8) : WrOk (i + 1) (mgW (R ++ [(k, d)])) (mput ps k (.string (str d))) := by
  refine ⟨mgW_sorted _, Nat.le_trans (mgW_len _) (by rw [List.length_append]; exact Nat.succ_le_succ h.len), fun j => ?_, ?_⟩
  · rw [mget_put, mgW_get, lastOf_append, h.get]
    have hR : lastOf R j = getT R j := by rw [← mgW_get, mgW_again h.srt]
    simp only [lastOf]
    split
    · rfl
    · exact congrArg _ hR.symm
  · rw [mput_len, mgW_put h.srt, putT_len, h.get, h.cnt]
    cases getT R k <;> rfl
theorem begin8 (b : Nat) : SpecS Try.prog 29 [.pointer (some ⟨b, 0, none⟩)] [bk b 8 0 []] (fun v H' => v = .tuple #[.int .i64 1, .int .i64 0] ∧ H' = [bk b 8 1 [((1 : Int), ([] : List Wr))]]) := beginS b 8 0 [] (by decide) (by decide) (by decide)
structure WrS where
  i : Nat
  R : List Wr
  ps : List (Int × Value)
theorem WrOk.last {i j : Nat} {R : List Wr} {ps : List (Int × Value)} (h : WrOk i R ps) {k : Int} {d : List UInt8} (hz : R[j]? = some (k, d)) : mget ps k = some (.string (str d)) := by rw [h.get, getT_at h.srt hz]; rfl
end Go.Proofs.Ytiiiplhfgblamaa
/-
  The walks of package txn.
-/
set_option linter.unusedVariables false
set_option linter.unusedSimpArgs false
set_option maxRecDepth 4000
namespace Go.Proofs.Ytiiiplhfgblamaa
open Go Brv
theorem mergeO (b39 b40 : Nat) (a : Option Addr) (n c : Nat) (d : List UInt8) (k : Int) (txs : List (Int × RowW)) (h : Int) (hnc : n ≤ c) (hn : n ≤ 140737488351232) (hnd : n = d.length) (hl : (ofV txs h).os.length ≤ 1000) :
    SpecS Try.prog 25 [.slice (some ⟨b40, 0, none⟩) 2 2] [blk b40 ([ofV txs h, (⟨some ⟨b39, 0, none⟩, 1, 1, [(⟨k, a, n, c, d⟩ : WriteV)]⟩ : RowW)].map RowW.val) 22, blk b39 (WriteV.cells (⟨k, a, n, c, d⟩ : WriteV)) 40, own 5 1 a n c (vbs d), sh (fun w => ∀ t ∈ txs, RowW.ok w t.2)]
      (fun v H' => ∃ r : RowW, v = .slice r.a r.n r.c ∧ r.os.map wv = mgW ((allW [ofV txs h, (⟨some ⟨b39, 0, none⟩, 1, 1, [(⟨k, a, n, c, d⟩ : WriteV)]⟩ : RowW)]).map wv) ∧ r.n ≤ 50000 ∧ r.os.length = r.n ∧ H' = [sh (fun w => r.ok w), blk b40 ([ofV txs h, (⟨some ⟨b39, 0, none⟩, 1, 1, [(⟨k, a, n, c, d⟩ : WriteV)]⟩ : RowW)].map RowW.val) 22, blk b39 (WriteV.cells (⟨k, a, n, c, d⟩ : WriteV)) 40, own 5 1 a n c (vbs d), sh (fun w => ∀ t ∈ txs, RowW.ok w t.2)]) :=
  (SpecS.ofFresh (φ := fun v A => ∃ r : RowW, v = .slice r.a r.n r.c ∧ r.os.map wv = mgW ((allW [ofV txs h, (⟨some ⟨b39, 0, none⟩, 1, 1, [(⟨k, a, n, c, d⟩ : WriteV)]⟩ : RowW)]).map wv) ∧ r.n ≤ 50000 ∧ r.os.length = r.n ∧ A = sh (fun w => r.ok w)) fun w F S s => (mergeF_ok (some ⟨b40, 0, none⟩) 2 2 [ofV txs h, (⟨some ⟨b39, 0, none⟩, 1, 1, [(⟨k, a, n, c, d⟩ : WriteV)]⟩ : RowW)] w (s.blkC .here) rfl
    (fun r hr => by
      simp only [List.mem_cons, List.not_mem_nil, or_false] at hr
      rcases hr with rfl | rfl
      · exact ofV_ok (s.sh (p := fun w => ∀ t ∈ txs, RowW.ok w t.2) (.there (.there (.there .here)))) h
      · have hc : Cells w (some ⟨b39, 0, none⟩) (cellsW [(⟨k, a, n, c, d⟩ : WriteV)]) := s.blkC (.there .here)
        exact ⟨⟨Nat.le_refl _, by show 1 ≤ _; decide⟩, tabW hc rfl, fun o ho => by rw [List.mem_singleton.1 ho]; exact ⟨hnc, hn, s.ownC (.there (.there .here)), hnd⟩⟩) (by simp [allW]; omega) (by decide)).mono fun v w' ⟨a, n, c, os, h1, h2, h3, h4, h5, h6, F', h7, h8⟩ =>
    ⟨_, [], F', ⟨⟨a, n, c, os⟩, h1, mgW_of (by rw [List.map_map]; exact h5), h4, h3.symm, rfl⟩, h6, (fun M w'' he hS => ⟨⟨h2, by show n ≤ _; omega⟩, (h8 M w'' he hS).1, (h8 M w'' he hS).2⟩), by simp, h7⟩).mono fun v H' ⟨A, ⟨r, h1, h2, h3, h4, h5⟩, h6⟩ => ⟨r, h1, h2, h3, h4, by rw [h6, h5]⟩

theorem txwrite2_ok (b m : Nat) (B L : Int) (txs : List (Int × RowW)) (h k : Int) (a : Option Addr) (n c : Nat) (d : List UInt8) (hl : txs.length ≤ 1000) (hol : ∀ t ∈ txs, t.2.os.length ≤ 1000) (hnc : n ≤ c) (hn : n ≤ 140737488351232) (hnd : n = d.length) : SpecS Try.prog 30 [.pointer (some ⟨b, 0, none⟩), .int .i64 h, .int .i64 k, .slice a n c] [blk b [.int .i64 B, .int .i64 L, .pointer (some ⟨m, 0, none⟩)] 137, mp (κ := Int) 174 176 1 m (psT txs), sh (fun w => ∀ t ∈ txs, RowW.ok w t.2), own 5 1 a n c (vbs d)] (fun v H' => ∃ txs', v = .int .i64 (wrE B txs h k d.length) ∧ absT txs' = wrM B (absT txs) h k d ∧ H' = [own 5 1 a n c (vbs d), blk b [.int .i64 B, .int .i64 L, .pointer (some ⟨m, 0, none⟩)] 137, mp (κ := Int) 174 176 1 m (psT txs'), sh (fun w => ∀ t ∈ txs', RowW.ok w t.2)]) := by
  refine SpecS.enter Try.func30 rfl 43 rfl (Nat.le_of_ble_eq_true rfl) (fun o => ?_)
  refine SG.seq ?_
  refine SG.region ?_
  refine SL.val rfl rfl (fun w9 F9 S9 s => R.as rfl) ?_
  refine SL.nil ?_
  refine SN.seq ?_
  refine SG.seq ?_
  refine SG.region ?_
  refine SL.val rfl rfl (fun w9 F9 S9 s => R.mv rfl) ?_
  refine SL.val rfl rfl (fun w9 F9 S9 s => R.mv rfl) ?_
  refine SL.step rfl rfl (CS.call rfl go80 (txof_ok b m B L txs h hl) (by repeat (first | exact Sels.nil | apply Sels.cons | exact Sel.keep | exact Sel.here | apply Sel.there))) ?_
  rintro _ _ ⟨_, ⟨rfl, rfl⟩, rfl⟩
  refine SL.n3 ?_
  refine SL.val rfl rfl (fun w9 F9 S9 s => R.mv rfl) ?_
  refine SL.val rfl rfl (fun w9 F9 S9 s => R.ext rfl rfl) ?_
  refine SL.val rfl rfl (fun w9 F9 S9 s => R.ext rfl rfl) ?_
  refine SL.val rfl rfl (fun w9 F9 S9 s => R.as rfl) ?_
  refine SL.val rfl rfl (fun w9 F9 S9 s => R.as rfl) ?_
  refine SL.nil ?_
  refine SN.seq ?_
  refine SG.seq ?_
  refine SG.block ?_
  refine SG.seq ?_
  refine SG.region ?_
  refine SL.val rfl rfl (fun w9 F9 S9 s => R.mv rfl) ?_
  refine SL.val rfl rfl (fun w9 F9 S9 s => R.neI rfl rfl) ?_
  refine SL.val rfl rfl (fun w9 F9 S9 s => R.as rfl) ?_
  refine SL.nil ?_
  refine SN.seq ?_
  refine SG.condP rfl (fun h0 => ?_) (fun h0 => ?_)
  · obtain ⟨hno, hE⟩ := ofE_no h0
    have hwE : wrE B txs h k d.length = 40 := by unfold wrE; rw [hno]; rfl
    rw [hE]
    refine SG.seq ?_
    refine SG.region ?_
    refine SL.val rfl rfl (fun w9 F9 S9 s => R.mv rfl) ?_
    refine SL.val rfl rfl (fun w9 F9 S9 s => R.as rfl) ?_
    refine SL.nil ?_
    refine SN.seq ?_
    exact SG.ret1 rfl rfl ((Imp.sels (by repeat (first | exact Sels.nil | apply Sels.cons | exact Sel.keep | exact Sel.here | apply Sel.there)))) (⟨txs, congrArg (Value.int .i64) hwE.symm, by unfold wrM; rw [wrE_abs, if_neg (by rw [hwE]; decide)], rfl⟩)
  · have hhas := ofE_zero h0
    refine SG.seq ?_
    refine SG.region ?_
    refine SL.val rfl rfl (fun w9 F9 S9 s => R.mv rfl) ?_
    refine SL.val rfl rfl (fun w9 F9 S9 s => R.mv rfl) ?_
    refine SL.step rfl rfl (CS.call rfl go81 (txthere_ok b B L (.pointer (some ⟨m, 0, none⟩)) k) (by repeat (first | exact Sels.nil | apply Sels.cons | exact Sel.keep | exact Sel.here | apply Sel.there))) ?_
    rintro _ _ ⟨_, ⟨rfl, rfl⟩, rfl⟩
    refine SL.n1 ?_
    refine SL.val rfl rfl (fun w9 F9 S9 s => R.not rfl) ?_
    refine SL.val rfl rfl (fun w9 F9 S9 s => R.as rfl) ?_
    refine SL.nil ?_
    refine SN.seq ?_
    refine SG.condB rfl (fun h1 => ?_) (fun h1 => ?_)
    · have hwE : wrE B txs h k d.length = 41 := by unfold wrE; rw [hhas, show inB B k = false by simpa using h1]; rfl
      refine SG.seq ?_
      refine SG.region ?_
      refine SL.val rfl rfl (fun w9 F9 S9 s => R.as rfl) ?_
      refine SL.nil ?_
      refine SN.seq ?_
      exact SG.ret1 rfl rfl ((Imp.sels (by repeat (first | exact Sels.nil | apply Sels.cons | exact Sel.keep | exact Sel.here | apply Sel.there)))) (⟨txs, congrArg (Value.int .i64) hwE.symm, by unfold wrM; rw [wrE_abs, if_neg (by rw [hwE]; decide)], rfl⟩)
    · refine SG.seq ?_
      refine SG.region ?_
      refine SL.val rfl rfl (fun w9 F9 S9 s => R.mv rfl) ?_
      refine SL.val rfl rfl (fun w9 F9 S9 s => R.lenS rfl) ?_
      refine SL.val rfl rfl (fun w9 F9 S9 s => R.neI rfl rfl) ?_
      refine SL.val rfl rfl (fun w9 F9 S9 s => R.as rfl) ?_
      refine SL.nil ?_
      refine SN.seq ?_
      refine SG.condP rfl (fun h2 => ?_) (fun h2 => ?_)
      · have hwE : wrE B txs h k d.length = 42 := by unfold wrE; rw [hhas, show inB B k = true by simpa using h1, if_pos rfl, if_pos rfl, if_neg (by omega)]
        refine SG.seq ?_
        refine SG.region ?_
        refine SL.val rfl rfl (fun w9 F9 S9 s => R.as rfl) ?_
        refine SL.nil ?_
        refine SN.seq ?_
        exact SG.ret1 rfl rfl ((Imp.sels (by repeat (first | exact Sels.nil | apply Sels.cons | exact Sel.keep | exact Sel.here | apply Sel.there)))) (⟨txs, congrArg (Value.int .i64) hwE.symm, by unfold wrM; rw [wrE_abs, if_neg (by rw [hwE]; decide)], rfl⟩)
      · have hwE : wrE B txs h k d.length = 0 := by unfold wrE; rw [hhas, show inB B k = true by simpa using h1, if_pos rfl, if_pos rfl, if_pos (by omega)]
        have hvl := ofV_len hol h
        refine SG.skip ?_
        refine SN.block ?_
        refine SN.seq ?_
        refine SG.seq ?_
        refine SG.draw [9, 10, 11, 12] [0, 1, 2, 3, 4, 5, 6, 7, 8, 9, 10, 11, 12] (by decide +kernel) rfl ?_
        refine SW.pure rfl rfl rfl rfl (fun w9 => R.mv rfl) ?_
        refine SW.pure rfl rfl rfl rfl (fun w9 => R.nilChk rfl) ?_
        refine SW.pure rfl rfl rfl rfl (fun w9 => R.fld rfl) ?_
        refine SW.read rfl rfl rfl rfl (fun w9 F9 S9 s => R.ldB rfl (s.cel (by repeat (first | exact SelB.blk | exact SelB.fz | apply SelB.there))) (by rfl)) ?_
        refine SW.pure rfl rfl rfl rfl (fun w9 => R.mv rfl) ?_
        refine SW.pure rfl rfl rfl rfl (fun w9 => R.mv rfl) ?_
        refine SW.pure rfl rfl rfl rfl (fun w9 => R.mv rfl) ?_
        refine SW.pure rfl rfl rfl rfl (fun w9 => R.mv rfl) ?_
        refine SW.pure rfl rfl rfl rfl (fun w9 => R.build (cs := (WriteV.cells (⟨k, a, n, c, d⟩ : WriteV)).toArray) rfl rfl) ?_
        refine SW.step rfl rfl rfl rfl (CS.buildA rfl rfl rfl rfl rfl (WriteV.cells (⟨k, a, n, c, d⟩ : WriteV)) rfl) ?_
        rintro _ _ ⟨b39, rfl, rfl⟩
        refine ⟨⟨.inr (fun w9 F9 S9 s => R.ldB rfl (s.cel (by repeat (first | exact SelB.blk | exact SelB.fz | apply SelB.there))) (by rfl)), trivial⟩, ?_⟩
        refine SW.step rfl rfl rfl rfl (CS.buildA rfl rfl rfl rfl rfl ([ofV txs h, (⟨some ⟨b39, 0, none⟩, 1, 1, [(⟨k, a, n, c, d⟩ : WriteV)]⟩ : RowW)].map RowW.val) rfl) ?_
        rintro _ _ ⟨b40, rfl, rfl⟩
        refine ⟨⟨.inr (fun w9 F9 S9 s => R.ldB rfl (s.cel (by repeat (first | exact SelB.blk | exact SelB.fz | apply SelB.there))) (by rfl)), trivial⟩, ?_⟩
        refine SW.step rfl rfl rfl rfl (CS.call rfl go25 (mergeO b39 b40 a n c d k txs h hnc hn hnd hvl) (by repeat (first | exact Sels.nil | apply Sels.cons | exact Sel.keep | exact Sel.here | apply Sel.there))) ?_
        rintro _ _ ⟨_, ⟨r9, rfl, hr9, hr9n, hr9l, rfl⟩, rfl⟩
        refine ⟨⟨.inr (fun w9 F9 S9 s => R.ldB rfl (s.cel (by repeat (first | exact SelB.blk | exact SelB.fz | apply SelB.there))) (by rfl)), trivial⟩, ?_⟩
        refine SW.n5 ?_
        refine SW.step rfl rfl rfl rfl (CS.call rfl go79 (putTx m txs h r9 (by omega)) (by repeat (first | exact Sels.nil | apply Sels.cons | exact Sel.keep | exact Sel.here | apply Sel.there))) ?_
        rintro _ _ ⟨_, ⟨rfl, rfl⟩, rfl⟩
        refine ⟨⟨.inl (by decide +kernel), trivial⟩, ?_⟩
        refine SW.n1 ?_
        refine SW.nil ?_
        refine SN.imp (Imp.both (p := fun w => ∀ t ∈ txs, RowW.ok w t.2) (q := fun w => r9.ok w) (by repeat (first | exact Sel.keep | exact Sel.here | apply Sel.there)) (by repeat (first | exact Sel.keep | exact Sel.here | apply Sel.there))) ?_
        refine SN.imp (Imp.weak (p := fun w => (∀ t ∈ txs, RowW.ok w t.2) ∧ r9.ok w) (q := fun w => ∀ t ∈ putT txs h r9, RowW.ok w t.2) (by repeat (first | exact Sel.keep | exact Sel.here | apply Sel.there)) (fun w hw => put_ok2 hw.1 hw.2)) ?_
        refine SN.seq ?_
        refine SG.seq ?_
        refine SG.region ?_
        refine SL.val rfl rfl (fun w9 F9 S9 s => R.as rfl) ?_
        refine SL.nil ?_
        refine SN.seq ?_
        exact SG.ret1 rfl rfl ((Imp.sels (by repeat (first | exact Sels.nil | apply Sels.cons | exact Sel.keep | exact Sel.here | apply Sel.there)))) (⟨putT txs h r9, congrArg (Value.int .i64) hwE.symm, wrM_put hwE (by rw [hr9]; simp [allW, wv]), rfl⟩)

theorem write2S (b : Nat) (B L : Int) (M : List (Int × List Wr)) (h k : Int) (a : Option Addr) (n c : Nat) (d : List UInt8) (hl : M.length ≤ 1000) (hw : ∀ e ∈ M, e.2.length ≤ 1000) (hnc : n ≤ c) (hn : n ≤ 140737488351232) (hnd : n = d.length) : SpecS Try.prog 30 [.pointer (some ⟨b, 0, none⟩), .int .i64 h, .int .i64 k, .slice a n c] [bk b B L M, own 5 1 a n c (vbs d)] (fun v H' => v = .int .i64 (wrE B M h k d.length) ∧ H' = [own 5 1 a n c (vbs d), bk b B L (wrM B M h k d)]) :=
  SpecS.opened fun ⟨⟨m, txs⟩, hM⟩ => by
    subst hM
    have hl' : txs.length ≤ 1000 := by rw [← absT_len]; exact hl
    exact SpecS.closed (txwrite2_ok b m B L txs h k a n c d hl' (abs_len hw) hnc hn hnd) fun v H' ⟨txs', h1, h2, h3⟩ => ⟨_, by rw [h3]; exact Imp.under (bk_close h2), by rw [wrE_abs]; exact h1, rfl⟩
theorem begin8b (b : Nat) : SpecS Try.prog 29 [.pointer (some ⟨b, 0, none⟩)] [bk b 8 1 [((1 : Int), ([] : List Wr))]] (fun v H' => v = .tuple #[.int .i64 2, .int .i64 0] ∧ H' = [bk b 8 2 [((1 : Int), ([] : List Wr)), (2, [])]]) := beginS b 8 1 [((1 : Int), ([] : List Wr))] (by decide) (by decide) (by decide)
theorem wrM2_one {S0 : List Wr} {k : Int} {d : List UInt8} (he : wrE 8 [((1 : Int), S0), (2, [])] 1 k d.length = 0) : wrM 8 [((1 : Int), S0), (2, [])] 1 k d = [((1 : Int), mgW (S0 ++ [(k, d)])), (2, [])] := by
  unfold wrM; rw [if_pos he]; rfl
theorem wrM2_none {S0 : List Wr} {k : Int} {d : List UInt8} (he : ¬ wrE 8 [((1 : Int), S0), (2, [])] 1 k d.length = 0) : wrM 8 [((1 : Int), S0), (2, [])] 1 k d = [((1 : Int), S0), (2, [])] := by
  unfold wrM; rw [if_neg he]
theorem wrE_len {S0 : List Wr} {k : Int} {n : Nat} (he : wrE 8 [((1 : Int), S0), (2, [])] 1 k n = 0) : n = 64 := by
  unfold wrE at he
  split at he
  · split at he
    · split at he
      · assumption
      · cases he
    · cases he
  · cases he
theorem find_get {l : List Wr} (hs : Srt l) (k : Int) : (l.find? (fun x => x.1 == k)).map Prod.snd = getT l k := by
  cases hf : l.find? (fun x => x.1 == k) with
  | none =>
    rw [List.find?_eq_none] at hf
    rw [getT_no (fun p hp e => by have := hf p hp; simp [e] at this)]; rfl
  | some x =>
    have h1 := List.mem_of_find?_eq_some hf
    have h2 := List.find?_some hf
    obtain ⟨i, hi⟩ := List.getElem?_of_mem h1
    have h3 : x.1 = k := by simpa using h2
    rw [← h3, getT_at hs hi]; rfl
theorem rd2_one {S0 : List Wr} (hs : Srt S0) {k : Nat} (hk : k < 8) : rdV 8 [((1 : Int), S0), (2, [])] 1 (k : Int) = getT S0 (k : Int) := by
  rw [← find_get hs]
  unfold rdV
  rw [show hasT [((1 : Int), S0), (2, [])] 1 = true from rfl, if_pos rfl, show inB 8 (k : Int) = true by unfold inB; simp; omega, if_pos rfl]
  rfl
theorem rd2_two {S0 : List Wr} (k : Int) : rdV 8 [((1 : Int), S0), (2, [])] 2 k = none := by
  unfold rdV
  rw [show hasT [((1 : Int), S0), (2, [])] 2 = true from rfl, if_pos rfl]
  cases inB 8 k <;> rfl
theorem two_len {S0 : List Wr} (h : S0.length ≤ 1000) : ∀ e ∈ [((1 : Int), S0), (2, [])], e.2.length ≤ 1000 := fun e he => by
  simp only [List.mem_cons, List.not_mem_nil, or_false] at he
  rcases he with rfl | rfl
  · exact h
  · exact Nat.zero_le _

theorem own_zero {w : World} {g : Nat} {xs : List Value} {v : Value} (h : Cells w (some ⟨g, 0, none⟩) xs) (hx : xs[0]? = some v) : w.cell? (⟨g, 0, none⟩ : Addr) = some v := by
  have := h.load (j := 0) hx
  simpa [Addr.add] using this

set_option maxHeartbeats 4000000 in
theorem apart_law (la : Option Addr) (ln lc : Nat) (os : List OpV) (w : World) (hO : OpsOk w la ln os) : Meets Try.prog 7 [.slice la ln lc] w (fun v w' => v = .bool true ∧ Ext [] w w') := by
  refine Meets.law Try.func7 rfl 132 rfl (Nat.le_of_ble_eq_true rfl) (law_cons (p := fun w => OpsOk w la ln os) (fun w9 he => hO.ext0 he) (law_nil w)) ?_
  refine SG.seq ?_
  refine SG.region ?_
  refine SL.val rfl rfl (fun w9 F9 S9 s => R.as rfl) ?_
  refine SL.nil ?_
  refine SN.seq ?_
  refine SG.seq ?_
  refine SG.seq ?_
  refine SG.region ?_
  refine SL.step rfl rfl (CS.call rfl go27 (first13_ok) (by repeat (first | exact Sels.nil | apply Sels.cons | exact Sel.keep | exact Sel.here | apply Sel.there))) ?_
  rintro _ _ ⟨_, ⟨rfl, rfl⟩, rfl⟩
  refine SL.n0 ?_
  refine SL.val rfl rfl (fun w9 F9 S9 s => R.not rfl) ?_
  refine SL.nil ?_
  refine SN.seq ?_
  refine SG.condF rfl ?_
  refine SG.skip ?_
  refine SN.seq ?_
  refine SG.seq ?_
  refine SG.region ?_
  refine SL.step rfl rfl (CS.call rfl go28 (newS 8 (by decide) (by decide)) (by repeat (first | exact Sels.nil | apply Sels.cons | exact Sel.keep | exact Sel.here | apply Sel.there))) ?_
  rintro _ _ ⟨_, ⟨b, rfl, rfl⟩, rfl⟩
  refine SL.n1 ?_
  refine SL.val rfl rfl (fun w9 F9 S9 s => R.mv rfl) ?_
  refine SL.val rfl rfl (fun w9 F9 S9 s => R.ext rfl rfl) ?_
  refine SL.val rfl rfl (fun w9 F9 S9 s => R.ext rfl rfl) ?_
  refine SL.val rfl rfl (fun w9 F9 S9 s => R.as rfl) ?_
  refine SL.val rfl rfl (fun w9 F9 S9 s => R.as rfl) ?_
  refine SL.nil ?_
  refine SN.seq ?_
  refine SG.seq ?_
  refine SG.region ?_
  refine SL.val rfl rfl (fun w9 F9 S9 s => R.mv rfl) ?_
  refine SL.step rfl rfl (CS.call rfl go29 (begin8 b) (by repeat (first | exact Sels.nil | apply Sels.cons | exact Sel.keep | exact Sel.here | apply Sel.there))) ?_
  rintro _ _ ⟨_, ⟨rfl, rfl⟩, rfl⟩
  refine SL.n1 ?_
  refine SL.val rfl rfl (fun w9 F9 S9 s => R.mv rfl) ?_
  refine SL.val rfl rfl (fun w9 F9 S9 s => R.ext rfl rfl) ?_
  refine SL.val rfl rfl (fun w9 F9 S9 s => R.ext rfl rfl) ?_
  refine SL.val rfl rfl (fun w9 F9 S9 s => R.as rfl) ?_
  refine SL.val rfl rfl (fun w9 F9 S9 s => R.as rfl) ?_
  refine SL.nil ?_
  refine SN.seq ?_
  refine SG.seq ?_
  refine SG.region ?_
  refine SL.val rfl rfl (fun w9 F9 S9 s => R.mv rfl) ?_
  refine SL.step rfl rfl (CS.call rfl go29 (begin8b b) (by repeat (first | exact Sels.nil | apply Sels.cons | exact Sel.keep | exact Sel.here | apply Sel.there))) ?_
  rintro _ _ ⟨_, ⟨rfl, rfl⟩, rfl⟩
  refine SL.n1 ?_
  refine SL.val rfl rfl (fun w9 F9 S9 s => R.mv rfl) ?_
  refine SL.val rfl rfl (fun w9 F9 S9 s => R.ext rfl rfl) ?_
  refine SL.val rfl rfl (fun w9 F9 S9 s => R.ext rfl rfl) ?_
  refine SL.val rfl rfl (fun w9 F9 S9 s => R.as rfl) ?_
  refine SL.val rfl rfl (fun w9 F9 S9 s => R.as rfl) ?_
  refine SL.nil ?_
  refine SN.seq ?_
  refine SG.seq ?_
  refine SG.region ?_
  refine SL.step rfl rfl (CS.makeMap Int) ?_
  rintro _ _ ⟨b40, rfl, rfl⟩
  refine SL.val rfl rfl (fun w9 F9 S9 s => R.as rfl) ?_
  refine SL.nil ?_
  refine SN.seq ?_
  refine SG.seq ?_
  refine SG.seq ?_
  refine SG.region ?_
  refine SL.val rfl rfl (fun w9 F9 S9 s => R.mv rfl) ?_
  refine SL.val rfl rfl (fun w9 F9 S9 s => R.lenS rfl) ?_
  refine SL.val rfl rfl (fun w9 F9 S9 s => R.mv rfl) ?_
  refine SL.nil ?_
  refine SN.fact (fun w9 F9 S9 s => (s.sh (p := fun w => OpsOk w la ln os) (by repeat (first | exact Sel.keep | exact Sel.here | apply Sel.there))).len) (fun hf9 => ?_)
  have hln := hf9; clear hf9
  refine SN.seq ?_
  refine SG.block ?_
  refine SG.loop (X := WrS) (fun x => [(3, .pointer (some ⟨b, 0, none⟩)), (5, .int .i64 1), (7, .int .i64 2), (9, .map (some b40)), (41, .slice la ln lc), (42, .int .i64 (ln : Int)), (43, .int .i64 (x.i : Int))]) (fun x => [bk b 8 2 [((1 : Int), x.R), (2, [])], gm b40 x.ps, sh (fun w => OpsOk w la ln os)]) (fun x => x.i ≤ ln ∧ x.i ≤ 40 ∧ WrOk x.i x.R x.ps) (fun x => ln - x.i) (⟨0, [], []⟩) (Sub.cons rfl (Sub.cons rfl (Sub.cons rfl (Sub.cons rfl (Sub.cons rfl (Sub.cons rfl (Sub.cons rfl (Sub.nil _)))))))) ((Imp.sels (by repeat (first | exact Sels.nil | apply Sels.cons | exact Sel.keep | exact Sel.here | apply Sel.there)))) (⟨Nat.zero_le _, Nat.zero_le _, WrOk.nil⟩) ?_
  rintro ⟨i, Rw, ps⟩ ⟨hi, hi4, hW⟩
  dsimp only at hi hi4 hW
  show SG _ _ _ _ _ [(3, .pointer (some ⟨b, 0, none⟩)), (5, .int .i64 1), (7, .int .i64 2), (9, .map (some b40)), (41, .slice la ln lc), (42, .int .i64 (ln : Int)), (43, .int .i64 (i : Int))] [bk b 8 2 [((1 : Int), Rw), (2, [])], gm b40 ps, sh (fun w => OpsOk w la ln os)] _
  refine SG.seq ?_
  refine SG.region ?_
  refine SL.val rfl rfl (fun w9 F9 S9 s => R.lss rfl rfl) ?_
  refine SL.nil ?_
  refine SN.seq ?_
  refine SG.seq ?_
  refine SG.condP rfl (fun h1 => ?_) (fun h1 => ?_)
  · obtain ⟨o, ho⟩ : ∃ o, os[i]? = some o := ⟨_, List.getElem?_eq_getElem (by omega)⟩
    refine SG.fact (fun w9 F9 S9 s => ops_pt (s.sh (p := fun w => OpsOk w la ln os) (by repeat (first | exact Sel.keep | exact Sel.here | apply Sel.there))) ho) (fun hf9 => ?_)
    obtain ⟨q, hq⟩ := hf9
    have hRl := hW.len
    refine SG.skip ?_
    refine SN.seq ?_
    refine SG.seq ?_
    refine SG.block ?_
    refine SG.seq ?_
    refine SG.region ?_
    refine SL.val rfl rfl (fun w9 F9 S9 s => R.mv rfl) ?_
    refine SL.val rfl rfl (fun w9 F9 S9 s => R.idx rfl rfl (by omega) (by omega) q hq) ?_
    refine SL.val rfl rfl (fun w9 F9 S9 s => R.ldN (vs := OpV.cells o) rfl (ops_cells (s.sh (p := fun w => OpsOk w la ln os) (by repeat (first | exact Sel.keep | exact Sel.here | apply Sel.there))) hq ho) rfl) ?_
    refine SL.step rfl rfl (CS.alloc [.int .i64 0, .int .i64 0, .int .i64 0, .slice none 0 0] rfl) ?_
    rintro _ _ ⟨b11, rfl, rfl⟩
    refine SL.val rfl rfl (fun w9 F9 S9 s => R.as rfl) ?_
    refine SL.step0 rfl (CS.stA (vs := OpV.cells o) rfl rfl (by repeat (first | exact Sel.keep | exact Sel.here | apply Sel.there)) (by rfl) (by rfl) (by intro u hu; exact OpV.cells.one _ u (by simpa using hu))) ?_
    rintro _ _ rfl
    refine SL.nil ?_
    refine SN.seq ?_
    refine SG.seq ?_
    refine SG.seq ?_
    refine SG.region ?_
    refine SL.val rfl rfl (fun w9 F9 S9 s => R.mv rfl) ?_
    refine SL.val rfl rfl (fun w9 F9 S9 s => R.geq rfl rfl) ?_
    refine SL.val rfl rfl (fun w9 F9 S9 s => R.mv rfl) ?_
    refine SL.caseP 50 rfl (fun hg10_2 => ?_) (fun hg10_2 => ?_)
    · refine SL.pass rfl rfl ?_
      refine SL.pass rfl rfl ?_
      refine SL.pass rfl rfl ?_
      refine SL.pass rfl rfl ?_
      first | refine SL.val rfl rfl (fun w9 F9 S9 s => R.pickT rfl rfl) ?_ | refine SL.val rfl rfl (fun w9 F9 S9 s => R.pickF rfl rfl) ?_
      refine SL.nil ?_
      refine SN.seq ?_
      refine SG.condT rfl ?_
      refine SG.seq ?_
      refine SG.region ?_
      refine SL.val rfl rfl (fun w9 F9 S9 s => R.as rfl) ?_
      refine SL.nil ?_
      refine SN.seq ?_
      exact SG.ret1 rfl rfl ((Imp.sels (by repeat (first | exact Sels.nil | apply Sels.cons | exact Sel.keep | exact Sel.here | apply Sel.there)))) (rfl)
    · refine SL.val rfl rfl (fun w9 F9 S9 s => R.fld rfl) ?_
      refine SL.val rfl rfl (fun w9 F9 S9 s => R.ldB (v := .slice o.B'a o.B'n o.B'c) rfl (s.cel (by repeat (first | exact SelB.blk | exact SelB.fz | apply SelB.there))) (by rfl)) ?_
      refine SL.val rfl rfl (fun w9 F9 S9 s => R.lenS rfl) ?_
      refine SL.val rfl rfl (fun w9 F9 S9 s => R.gtr rfl rfl) ?_
      first | refine SL.val rfl rfl (fun w9 F9 S9 s => R.pickT rfl rfl) ?_ | refine SL.val rfl rfl (fun w9 F9 S9 s => R.pickF rfl rfl) ?_
      refine SL.nil ?_
      refine SN.seq ?_
      refine SG.condP rfl (fun h2 => ?_) (fun h2 => ?_)
      · refine SG.seq ?_
        refine SG.region ?_
        refine SL.val rfl rfl (fun w9 F9 S9 s => R.as rfl) ?_
        refine SL.nil ?_
        refine SN.seq ?_
        exact SG.ret1 rfl rfl ((Imp.sels (by repeat (first | exact Sels.nil | apply Sels.cons | exact Sel.keep | exact Sel.here | apply Sel.there)))) (rfl)
      · refine SG.skip ?_
        refine SN.seq ?_
        refine SG.seq ?_
        refine SG.imp (Imp.weak (p := fun w => OpsOk w la ln os) (q := fun w => Bs w o.B'a o.B'n o.B') (by repeat (first | exact Sel.keep | exact Sel.here | apply Sel.there)) (fun w hw => (hw.ok o (List.mem_of_getElem? ho)).2.2.2.2.2)) ?_
        refine SG.fact (fun w9 F9 S9 s => (s.sh (p := fun w => Bs w o.B'a o.B'n o.B') (by repeat (first | exact Sel.keep | exact Sel.here | apply Sel.there))).len) (fun hf9 => ?_)
        have hol := hf9; clear hf9
        refine SG.region ?_
        refine SL.step rfl rfl (CS.buildA rfl rfl rfl rfl rfl [] rfl) ?_
        rintro _ _ ⟨b56, rfl, rfl⟩
        refine SL.imp (Imp.ownBlk (size := 1) (k := 0) (show Sel _ (blk b56 [] 5) _ from (by repeat (first | exact Sel.keep | exact Sel.here | apply Sel.there))) rfl (Nat.zero_le _)) ?_
        refine SL.val rfl rfl (fun w9 F9 S9 s => R.fld rfl) ?_
        refine SL.val rfl rfl (fun w9 F9 S9 s => R.ldB (v := .slice o.B'a o.B'n o.B'c) rfl (s.cel (by repeat (first | exact SelB.blk | exact SelB.fz | apply SelB.there))) (by rfl)) ?_
        refine SL.step rfl rfl (CS.app rfl rfl (by repeat (first | exact Sel.keep | exact Sel.here | apply Sel.there)) (fun w9 F9 S9 s => (s.sh (p := fun w => Bs w o.B'a o.B'n o.B') (by repeat (first | exact Sel.keep | exact Sel.here | apply Sel.there))).cells) (by rw [vbs_length]; omega) (vbs_one _) (by simp [maxLen]; omega) (by omega)) ?_
        rintro _ _ ⟨a59, c59, rfl, rfl⟩
        refine SL.val rfl rfl (fun w9 F9 S9 s => R.as rfl) ?_
        refine SL.nil ?_
        refine SN.fact (fun w9 F9 S9 s => s.ownL (show Sel _ (own 5 1 a59 (0 + o.B'n) c59 ([] ++ vbs o.B')) _ from (by repeat (first | exact Sel.keep | exact Sel.here | apply Sel.there)))) (fun hf9 => ?_)
        obtain ⟨_, hc59⟩ := hf9
        refine SN.seq ?_
        refine SG.seq ?_
        refine SG.region ?_
        refine SL.val rfl rfl (fun w9 F9 S9 s => R.mv rfl) ?_
        refine SL.val rfl rfl (fun w9 F9 S9 s => R.mv rfl) ?_
        refine SL.val rfl rfl (fun w9 F9 S9 s => R.fld rfl) ?_
        refine SL.val rfl rfl (fun w9 F9 S9 s => R.ldB rfl (s.cel (by repeat (first | exact SelB.blk | exact SelB.fz | apply SelB.there))) (by rfl)) ?_
        refine SL.val rfl rfl (fun w9 F9 S9 s => R.mv rfl) ?_
        refine SL.step rfl rfl (CS.call rfl go30 (write2S b 8 2 [((1 : Int), Rw), (2, [])] 1 o.Block' a59 (0 + o.B'n) c59 o.B' (by simp) (two_len (by omega)) hc59 (by omega) (by omega)) (by repeat (first | exact Sels.nil | apply Sels.cons | exact Sel.keep | exact Sel.here | apply Sel.there))) ?_
        rintro _ _ ⟨_, ⟨rfl, rfl⟩, rfl⟩
        refine SL.n2 ?_
        refine SL.val rfl rfl (fun w9 F9 S9 s => R.eqI rfl rfl) ?_
        refine SL.nil ?_
        refine SN.seq ?_
        refine SG.condP rfl (fun h3 => ?_) (fun h3 => ?_)
        · rw [wrM2_one h3]
          have h64 := wrE_len h3
          refine SG.seq ?_
          refine SG.region ?_
          refine SL.val rfl rfl (fun w9 F9 S9 s => R.mv rfl) ?_
          refine SL.val rfl rfl (fun w9 F9 S9 s => R.fld rfl) ?_
          refine SL.val rfl rfl (fun w9 F9 S9 s => R.ldB rfl (s.cel (by repeat (first | exact SelB.blk | exact SelB.fz | apply SelB.there))) (by rfl)) ?_
          refine SL.val rfl rfl (fun w9 F9 S9 s => R.fld rfl) ?_
          refine SL.val rfl rfl (fun w9 F9 S9 s => R.ldB rfl (s.cel (by repeat (first | exact SelB.blk | exact SelB.fz | apply SelB.there))) (by rfl)) ?_
          refine SL.val rfl rfl (fun w9 F9 S9 s => R.strB rfl (s.sh (p := fun w => Bs w o.B'a o.B'n o.B') (by repeat (first | exact Sel.keep | exact Sel.here | apply Sel.there)))) ?_
          refine SL.step0 rfl (CS.mapUpd (κ := Int) rfl rfl rfl (by repeat (first | exact Sel.keep | exact Sel.here | apply Sel.there))) ?_
          rintro _ _ rfl
          refine SL.nil ?_
          refine SN.seq ?_
          refine SG.fact (fun w9 F9 S9 s => s.ownG (show Sel _ (own 5 1 a59 (0 + o.B'n) c59 (vbs o.B')) _ from (by repeat (first | exact Sel.keep | exact Sel.here | apply Sel.there))) (by omega)) (fun hf9 => ?_)
          obtain ⟨g, hg⟩ := hf9
          subst hg
          obtain ⟨y, ys, hys⟩ : ∃ y ys, o.B' = y :: ys := by
            cases hB : o.B' with
            | nil => rw [hB] at h64; simp at h64
            | cons y ys => exact ⟨y, ys, rfl⟩
          refine SG.region ?_
          refine SL.val rfl rfl (fun w9 F9 S9 s => R.mv rfl) ?_
          refine SL.val rfl rfl (fun w9 F9 S9 s => R.idxO (i := 0) rfl rfl (by omega) (by omega) rfl 0 (by decide)) ?_
          refine SL.val rfl rfl (fun w9 F9 S9 s => R.ld (v := .int .u8 (y.toNat : Int)) rfl (own_zero (s.ownC (show Sel _ (own 5 1 (some ⟨g, 0, none⟩) (0 + o.B'n) c59 (vbs o.B')) _ from (by repeat (first | exact Sel.keep | exact Sel.here | apply Sel.there)))) (by rw [hys]; rfl))) ?_
          refine SL.val rfl rfl (fun w9 F9 S9 s => R.addW rfl rfl _ rfl) ?_
          refine SL.val rfl rfl (fun w9 F9 S9 s => R.idxO (i := 0) rfl rfl (by omega) (by omega) rfl 0 (by decide)) ?_
          refine SL.step0 rfl (CS.stO (j := 0) rfl rfl (show Sel _ (own 5 1 (some ⟨g, 0, none⟩) (0 + o.B'n) c59 (vbs o.B')) _ from (by repeat (first | exact Sel.keep | exact Sel.here | apply Sel.there))) (by omega) rfl) ?_
          rintro _ _ rfl
          refine SL.nil ?_
          refine SN.block ?_
          refine SN.seq ?_
          refine SG.region ?_
          refine SL.val rfl rfl (fun w9 F9 S9 s => R.add rfl rfl (by omega)) ?_
          refine SL.val rfl rfl (fun w9 F9 S9 s => R.mv rfl) ?_
          refine SL.nil ?_
          exact SN.again (⟨i + 1, mgW (Rw ++ [(o.Block', o.B')]), mput ps o.Block' (.string (str o.B'))⟩) (by show ln - (i + 1) < ln - i; omega) (Sub.cons rfl (Sub.cons rfl (Sub.cons rfl (Sub.cons rfl (Sub.cons rfl (Sub.cons rfl (Sub.cons rfl (Sub.nil _)))))))) ((Imp.sels (by repeat (first | exact Sels.nil | apply Sels.cons | exact Sel.keep | exact Sel.here | apply Sel.there)))) (⟨by show i + 1 ≤ ln; omega, by show i + 1 ≤ 40; omega, hW.step _ _⟩)
        · rw [wrM2_none h3]
          refine SG.skip ?_
          refine SN.block ?_
          refine SN.seq ?_
          refine SG.region ?_
          refine SL.val rfl rfl (fun w9 F9 S9 s => R.add rfl rfl (by omega)) ?_
          refine SL.val rfl rfl (fun w9 F9 S9 s => R.mv rfl) ?_
          refine SL.nil ?_
          exact SN.again (⟨i + 1, Rw, ps⟩) (by show ln - (i + 1) < ln - i; omega) (Sub.cons rfl (Sub.cons rfl (Sub.cons rfl (Sub.cons rfl (Sub.cons rfl (Sub.cons rfl (Sub.cons rfl (Sub.nil _)))))))) ((Imp.sels (by repeat (first | exact Sels.nil | apply Sels.cons | exact Sel.keep | exact Sel.here | apply Sel.there)))) (⟨by show i + 1 ≤ ln; omega, by show i + 1 ≤ 40; omega, hW.same⟩)
  · have hRl := hW.len
    refine SG.exit _ rfl ?_
    refine SN.seq ?_
    refine SG.seq ?_
    refine SG.seq ?_
    refine SG.region ?_
    refine SL.val rfl rfl (fun w9 F9 S9 s => R.mv rfl) ?_
    refine SL.nil ?_
    refine SN.seq ?_
    refine SG.block ?_
    refine SG.loop (X := Nat) (fun k => [(3, .pointer (some ⟨b, 0, none⟩)), (5, .int .i64 1), (7, .int .i64 2), (9, .map (some b40)), (79, .int .i64 (k : Int))]) (fun k => [bk b 8 2 [((1 : Int), Rw), (2, [])], gm b40 ps]) (fun k => k ≤ 8) (fun k => 8 - k) (0) (Sub.cons rfl (Sub.cons rfl (Sub.cons rfl (Sub.cons rfl (Sub.cons rfl (Sub.nil _)))))) ((Imp.sels (by repeat (first | exact Sels.nil | apply Sels.cons | exact Sel.keep | exact Sel.here | apply Sel.there)))) (Nat.zero_le _) ?_
    intro k hk
    show SG _ _ _ _ _ [(3, .pointer (some ⟨b, 0, none⟩)), (5, .int .i64 1), (7, .int .i64 2), (9, .map (some b40)), (79, .int .i64 (k : Int))] [bk b 8 2 [((1 : Int), Rw), (2, [])], gm b40 ps] _
    refine SG.seq ?_
    refine SG.region ?_
    refine SL.val rfl rfl (fun w9 F9 S9 s => R.lss rfl rfl) ?_
    refine SL.nil ?_
    refine SN.seq ?_
    refine SG.seq ?_
    refine SG.condP rfl (fun h4 => ?_) (fun h4 => ?_)
    · have hgk := hW.get (k : Int)
      refine SG.skip ?_
      refine SN.seq ?_
      refine SG.seq ?_
      refine SG.block ?_
      refine SG.seq ?_
      refine SG.region ?_
      refine SL.val rfl rfl (fun w9 F9 S9 s => R.mv rfl) ?_
      refine SL.val rfl rfl (fun w9 F9 S9 s => R.as rfl) ?_
      refine SL.nil ?_
      refine SN.seq ?_
      refine SG.seq ?_
      refine SG.region ?_
      refine SL.val rfl rfl (fun w9 F9 S9 s => R.mv rfl) ?_
      refine SL.val rfl rfl (fun w9 F9 S9 s => R.mv rfl) ?_
      refine SL.val rfl rfl (fun w9 F9 S9 s => R.mv rfl) ?_
      refine SL.step rfl rfl (CS.call rfl go31 (readS b 8 2 [((1 : Int), Rw), (2, [])] 1 (k : Int) (by simp) (two_len (by omega))) (by repeat (first | exact Sels.nil | apply Sels.cons | exact Sel.keep | exact Sel.here | apply Sel.there))) ?_
      rintro _ _ ⟨_, ⟨a86, n86, c86, rfl, hn86, rfl⟩, rfl⟩
      refine SL.n2 ?_
      rw [rd2_one hW.srt (by omega)]
      refine SL.val rfl rfl (fun w9 F9 S9 s => R.mv rfl) ?_
      refine SL.val rfl rfl (fun w9 F9 S9 s => R.ext rfl rfl) ?_
      refine SL.val rfl rfl (fun w9 F9 S9 s => R.ext rfl rfl) ?_
      refine SL.val rfl rfl (fun w9 F9 S9 s => R.ext rfl rfl) ?_
      refine SL.val rfl rfl (fun w9 F9 S9 s => R.as rfl) ?_
      refine SL.val rfl rfl (fun w9 F9 S9 s => R.as rfl) ?_
      refine SL.val rfl rfl (fun w9 F9 S9 s => R.as rfl) ?_
      refine SL.nil ?_
      refine SN.seq ?_
      refine SG.seq ?_
      refine SG.region ?_
      refine SL.val rfl rfl (fun w9 F9 S9 s => R.mv rfl) ?_
      refine SL.val rfl rfl (fun w9 F9 S9 s => R.mv rfl) ?_
      refine SL.val rfl rfl (fun w9 F9 S9 s => R.lookOk (κ := Int) (k := (k : Int)) rfl rfl (s.gm (κ := Int) (by repeat (first | exact Sel.keep | exact Sel.here | apply Sel.there)))) ?_
      refine SL.val rfl rfl (fun w9 F9 S9 s => R.mv rfl) ?_
      refine SL.val rfl rfl (fun w9 F9 S9 s => R.ext rfl rfl) ?_
      refine SL.val rfl rfl (fun w9 F9 S9 s => R.ext rfl rfl) ?_
      refine SL.val rfl rfl (fun w9 F9 S9 s => R.as rfl) ?_
      refine SL.val rfl rfl (fun w9 F9 S9 s => R.as rfl) ?_
      refine SL.nil ?_
      refine SN.be 17 rfl (show (mget ps (k : Int)).getD (Value.string ByteArray.empty) = .string (str ((getT Rw (k : Int)).getD [])) by rw [hgk]; cases getT Rw (k : Int) <;> rfl) ?_
      refine SN.be 18 rfl (show Value.bool (mget ps (k : Int)).isSome = .bool (getT Rw (k : Int)).isSome by rw [hgk, Option.isSome_map]) ?_
      refine SN.seq ?_
      refine SG.seq ?_
      refine SG.region ?_
      refine SL.val rfl rfl (fun w9 F9 S9 s => R.mv rfl) ?_
      refine SL.val rfl rfl (fun w9 F9 S9 s => R.mv rfl) ?_
      refine SL.val rfl rfl (fun w9 F9 S9 s => R.mv rfl) ?_
      refine SL.step rfl rfl (CS.call rfl go31 (readS b 8 2 [((1 : Int), Rw), (2, [])] 2 (k : Int) (by simp) (two_len (by omega))) (by repeat (first | exact Sels.nil | apply Sels.cons | exact Sel.keep | exact Sel.here | apply Sel.there))) ?_
      rintro _ _ ⟨_, ⟨a100, n100, c100, rfl, hn100, rfl⟩, rfl⟩
      refine SL.n2 ?_
      rw [rd2_two]
      refine SL.val rfl rfl (fun w9 F9 S9 s => R.mv rfl) ?_
      refine SL.val rfl rfl (fun w9 F9 S9 s => R.ext rfl rfl) ?_
      refine SL.val rfl rfl (fun w9 F9 S9 s => R.ext rfl rfl) ?_
      refine SL.val rfl rfl (fun w9 F9 S9 s => R.ext rfl rfl) ?_
      refine SL.val rfl rfl (fun w9 F9 S9 s => R.as rfl) ?_
      refine SL.val rfl rfl (fun w9 F9 S9 s => R.as rfl) ?_
      refine SL.val rfl rfl (fun w9 F9 S9 s => R.as rfl) ?_
      refine SL.nil ?_
      refine SN.seq ?_
      refine SG.seq ?_
      refine SG.region ?_
      refine SL.val rfl rfl (fun w9 F9 S9 s => R.mv rfl) ?_
      refine SL.val rfl rfl (fun w9 F9 S9 s => R.mv rfl) ?_
      refine SL.val rfl rfl (fun w9 F9 S9 s => R.neB rfl rfl) ?_
      refine SL.val rfl rfl (fun w9 F9 S9 s => R.mv rfl) ?_
      refine SL.caseB 107 rfl (fun hg23_3 => ?_) (fun hg23_3 => ?_)
      · exfalso
        simp at hg23_3
      · refine SL.val rfl rfl (fun w9 F9 S9 s => R.mv rfl) ?_
        refine SL.val rfl rfl (fun w9 F9 S9 s => R.strB rfl (s.sh (p := fun w => Bs w a86 n86 ((getT Rw (k : Int)).getD [])) (by repeat (first | exact Sel.keep | exact Sel.here | apply Sel.there)))) ?_
        refine SL.val rfl rfl (fun w9 F9 S9 s => R.mv rfl) ?_
        refine SL.val rfl rfl (fun w9 F9 S9 s => R.neStr rfl rfl) ?_
        first | refine SL.val rfl rfl (fun w9 F9 S9 s => R.pickT rfl rfl) ?_ | refine SL.val rfl rfl (fun w9 F9 S9 s => R.pickF rfl rfl) ?_
        refine SL.val rfl rfl (fun w9 F9 S9 s => R.mv rfl) ?_
        refine SL.caseP 113 rfl (fun hg23_9 => ?_) (fun hg23_9 => ?_)
        · exact absurd rfl hg23_9
        · refine SL.val rfl rfl (fun w9 F9 S9 s => R.mv rfl) ?_
          first | refine SL.val rfl rfl (fun w9 F9 S9 s => R.pickT rfl rfl) ?_ | refine SL.val rfl rfl (fun w9 F9 S9 s => R.pickF rfl rfl) ?_
          refine SL.nil ?_
          refine SN.seq ?_
          refine SG.condF rfl ?_
          refine SG.skip ?_
          refine SN.block ?_
          refine SN.seq ?_
          refine SG.region ?_
          refine SL.val rfl rfl (fun w9 F9 S9 s => R.add rfl rfl (by omega)) ?_
          refine SL.val rfl rfl (fun w9 F9 S9 s => R.mv rfl) ?_
          refine SL.nil ?_
          exact SN.again (k + 1) (by show 8 - (k + 1) < 8 - k; omega) (Sub.cons rfl (Sub.cons rfl (Sub.cons rfl (Sub.cons rfl (Sub.cons rfl (Sub.nil _)))))) ((Imp.sels (by repeat (first | exact Sels.nil | apply Sels.cons | exact Sel.keep | exact Sel.here | apply Sel.there)))) (by show k + 1 ≤ 8; omega)
    · refine SG.exit _ rfl ?_
      refine SN.seq ?_
      refine SG.seq ?_
      refine SG.region ?_
      refine SL.val rfl rfl (fun w9 F9 S9 s => R.mv rfl) ?_
      refine SL.val rfl rfl (fun w9 F9 S9 s => R.mv rfl) ?_
      refine SL.step rfl rfl (CS.call rfl go32 (writesS b 8 2 [((1 : Int), Rw), (2, [])] 2 (by simp) (two_len (by omega))) (by repeat (first | exact Sels.nil | apply Sels.cons | exact Sel.keep | exact Sel.here | apply Sel.there))) ?_
      rintro _ _ ⟨_, ⟨r, rfl, hr, rfl⟩, rfl⟩
      refine SL.n2 ?_
      refine SL.val rfl rfl (fun w9 F9 S9 s => R.mv rfl) ?_
      refine SL.val rfl rfl (fun w9 F9 S9 s => R.ext rfl rfl) ?_
      refine SL.val rfl rfl (fun w9 F9 S9 s => R.ext rfl rfl) ?_
      refine SL.val rfl rfl (fun w9 F9 S9 s => R.as rfl) ?_
      refine SL.val rfl rfl (fun w9 F9 S9 s => R.as rfl) ?_
      refine SL.nil ?_
      refine SN.fact (fun w9 F9 S9 s => rowlen (s.row2 (show Sel _ (sh (fun w => RowW.ok w r)) _ from (by repeat (first | exact Sel.keep | exact Sel.here | apply Sel.there))))) (fun hf9 => ?_)
      have hrl := hf9; clear hf9
      have hr0 : r.os.length = 0 := by have := congrArg List.length hr; rw [List.length_map] at this; exact this
      refine SN.seq ?_
      refine SG.seq ?_
      refine SG.region ?_
      refine SL.val rfl rfl (fun w9 F9 S9 s => R.mv rfl) ?_
      refine SL.val rfl rfl (fun w9 F9 S9 s => R.lenS rfl) ?_
      refine SL.val rfl rfl (fun w9 F9 S9 s => R.eqI rfl rfl) ?_
      refine SL.val rfl rfl (fun w9 F9 S9 s => R.mv rfl) ?_
      refine SL.isT 126 rfl (decide_eq_true (by omega)) ?_
      refine SL.val rfl rfl (fun w9 F9 S9 s => R.mv rfl) ?_
      refine SL.val rfl rfl (fun w9 F9 S9 s => R.mv rfl) ?_
      refine SL.val rfl rfl (fun w9 F9 S9 s => R.add rfl rfl (by omega)) ?_
      refine SL.val rfl rfl (fun w9 F9 S9 s => R.eqI rfl rfl) ?_
      first | refine SL.val rfl rfl (fun w9 F9 S9 s => R.pickT rfl rfl) ?_ | refine SL.val rfl rfl (fun w9 F9 S9 s => R.pickF rfl rfl) ?_
      refine SL.val rfl rfl (fun w9 F9 S9 s => R.as rfl) ?_
      refine SL.nil ?_
      refine SN.seq ?_
      exact SG.ret1 rfl rfl ((Imp.sels (by repeat (first | exact Sels.nil | apply Sels.cons | exact Sel.keep | exact Sel.here | apply Sel.there)))) (congrArg Value.bool (decide_eq_true rfl))

end Go.Proofs.Ytiiiplhfgblamaa
