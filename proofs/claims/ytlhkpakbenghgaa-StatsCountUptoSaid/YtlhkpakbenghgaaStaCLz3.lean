/-
  Texts of this claim, put together.
-/
import Derived.Test.YtlhkpakbenghgaaStaCLz2
/-
  The walks of package stats.
-/
set_option linter.unusedVariables false
set_option linter.unusedSimpArgs false
set_option maxRecDepth 4000
namespace Go.Proofs.Ytlhkpakbenghgaa
open Go Brv Brv.Stats
structure WriteV where
  mk ::
  (Block' : Int)
  (B'a : Option Addr) (B'n B'c : Nat) (B' : List UInt8)
def WriteV.cells (o : WriteV) : List Value := [.int .i64 o.Block', .slice o.B'a o.B'n o.B'c]
def WriteV.ok (w : World) (o : WriteV) : Prop := (Lit.int .i64 o.Block').wf = true ∧ (o.B'n ≤ o.B'c ∧ o.B'c ≤ 140737488351232 ∧ Bs w o.B'a o.B'n o.B')
theorem WriteV.ok.ext0 {w w' : World} {o : WriteV} (h : o.ok w) (he : Ext [] w w') : o.ok w' := by
  obtain ⟨h0, h1⟩ := h
  exact ⟨h0, ⟨h1.1, h1.2.1, h1.2.2.ext0 he⟩⟩
theorem WriteV.cells.length (o : WriteV) : o.cells.length = 2 := rfl
theorem WriteV.cells.one (o : WriteV) : ∀ u ∈ o.cells.toArray.toList, u.oneCell' = true := by
  intro u hu
  simp only [WriteV.cells, List.mem_cons, List.not_mem_nil, or_false] at hu
  rcases hu with rfl | rfl <;> rfl
structure RecV where
  mk ::
  (Kind' : Int)
  (Timeline' : Int)
  (Number' : Int)
  (Writes'a : Option Addr) (Writes'n Writes'c : Nat) (Writes' : List WriteV)
def RecV.cells (o : RecV) : List Value := [.int .i64 o.Kind', .int .i64 o.Timeline', .int .i64 o.Number', .slice o.Writes'a o.Writes'n o.Writes'c]
def RecV.ok (w : World) (o : RecV) : Prop := (Lit.int .i64 o.Kind').wf = true ∧ (Lit.int .i64 o.Timeline').wf = true ∧ (Lit.int .i64 o.Number').wf = true ∧ (o.Writes'n ≤ o.Writes'c ∧ o.Writes'c * 32 ≤ 140737488351232 ∧ Tab w o.Writes'a o.Writes'n 2 (o.Writes'.map WriteV.cells) ∧ ∀ x ∈ o.Writes', x.ok w)
theorem RecV.ok.ext0 {w w' : World} {o : RecV} (h : o.ok w) (he : Ext [] w w') : o.ok w' := by
  obtain ⟨h0, h1, h2, h3⟩ := h
  exact ⟨h0, h1, h2, ⟨h3.1, h3.2.1, h3.2.2.1.ext0 he, fun x hx => (h3.2.2.2 x hx).ext0 he⟩⟩
theorem RecV.cells.length (o : RecV) : o.cells.length = 4 := rfl
theorem RecV.cells.one (o : RecV) : ∀ u ∈ o.cells.toArray.toList, u.oneCell' = true := by
  intro u hu
  simp only [RecV.cells, List.mem_cons, List.not_mem_nil, or_false] at hu
  rcases hu with rfl | rfl | rfl | rfl <;> rfl
/-- A record of which the writes can be read. -/
def RecX (w : World) (x : RecV) : Prop := Tab w x.Writes'a x.Writes'n 2 (x.Writes'.map WriteV.cells) ∧ x.Writes'n * 32 ≤ 140737488355328 ∧ ∀ z ∈ x.Writes', z.ok w
theorem RecX.of {w : World} {x : RecV} (h : x.ok w) : RecX w x := by
  obtain ⟨_, _, _, h1, h2, h3, h4⟩ := h
  exact ⟨h3, by omega, h4⟩
structure RecsOk (w : World) (a : Option Addr) (n : Nat) (l : List RecV) : Prop where
  len : n = l.length
  tab : Tab w a n 4 (l.map RecV.cells)
  ok : ∀ x ∈ l, RecX w x
theorem RecX.ext0 {w w' : World} {x : RecV} (h : RecX w x) (he : Ext [] w w') : RecX w' x := ⟨h.1.ext0 he, h.2.1, fun z hz => (h.2.2 z hz).ext0 he⟩
theorem RecsOk.ext0 {w w' : World} {a : Option Addr} {n : Nat} {l : List RecV} (h : RecsOk w a n l) (he : Ext [] w w') : RecsOk w' a n l := ⟨h.len, h.tab.ext0 he, fun x hx => (h.ok x hx).ext0 he⟩
theorem recs_ok {w : World} {a : Option Addr} {n : Nat} {l : List RecV} (h : RecsOk w a n l) {k : Nat} {x : RecV} (hx : l[k]? = some x) : RecX w x := h.ok x (List.mem_of_getElem? hx)
theorem recs_pt {w : World} {a : Option Addr} {n k : Nat} {l : List RecV} (h : RecsOk w a n l) {x : RecV} (hx : l[k]? = some x) : ∃ q, a = some q := tabR_pt h.tab (by decide) (show (l.map RecV.cells)[k]? = some x.cells by rw [List.getElem?_map, hx]; rfl)
theorem recs_ld {w : World} {a : Option Addr} {n k : Nat} {l : List RecV} (h : RecsOk w a n l) {x : RecV} {q : Addr} (hq : a = some q) (hx : l[k]? = some x) : Cells w (some (q.add ((k : Int).toNat * 4))) x.cells := tabR_ld h.tab (by decide) hq (show (l.map RecV.cells)[k]? = some x.cells by rw [List.getElem?_map, hx]; rfl)
theorem rec_at {w : World} {x : RecV} (h : RecX w x) : Tab w x.Writes'a x.Writes'n 2 (x.Writes'.map WriteV.cells) ∧ x.Writes'n * 32 ≤ 140737488355328 ∧ x.Writes'n = x.Writes'.length := ⟨h.1, h.2.1, by have := h.1.len; simpa using this⟩
theorem wrs_pt {w : World} {r : RecV} (h : Tab w r.Writes'a r.Writes'n 2 (r.Writes'.map WriteV.cells)) {k : Nat} {x : WriteV} (hx : r.Writes'[k]? = some x) : ∃ q, r.Writes'a = some q := tabR_pt h (by decide) (show (r.Writes'.map WriteV.cells)[k]? = some x.cells by rw [List.getElem?_map, hx]; rfl)
theorem wrs_ld {w : World} {r : RecV} (h : Tab w r.Writes'a r.Writes'n 2 (r.Writes'.map WriteV.cells)) {k : Nat} {x : WriteV} {q : Addr} (hq : r.Writes'a = some q) (hx : r.Writes'[k]? = some x) : Cells w (some (q.add ((k : Int).toNat * 2))) x.cells := tabR_ld h (by decide) hq (show (r.Writes'.map WriteV.cells)[k]? = some x.cells by rw [List.getElem?_map, hx]; rfl)
def blksR (r : RecV) : List Int := r.Writes'.map fun z => z.Block'
def bump (num : Int) (o : Option V2) : V2 := (wr ((o.getD (0, 0)).1 + 1), num)
abbrev BzS := List (Int × V2) × List (Int × Int)
def bzW (i num : Int) (st : BzS) (q : Int) : BzS := (if hasT st.2 q then st.1 else putT st.1 q (bump num (getT st.1 q)), putT st.2 q i)
def bzR (T : List (Int × V2)) (i num : Int) (qs : List Int) : List (Int × V2) := (qs.foldl (bzW i num) (T, [])).1
def bzL (l : List RecV) : Nat → List (Int × V2)
  | 0 => []
  | k + 1 => match l[k]? with
    | some r => bzR (bzL l k) k r.Number' (blksR r)
    | none => bzL l k
def bzT (l : List RecV) : List (Int × V2) := bzL l l.length
def bzJ (l : List RecV) (k : Nat) (r : RecV) (j : Nat) : BzS := ((blksR r).take j).foldl (bzW k r.Number') (bzL l k, [])
def wsK (l : List RecV) (k : Nat) : Nat := ((l.take k).map fun r => r.Writes'.length).sum
def wsL (l : List RecV) : Nat := (l.map fun r => r.Writes'.length).sum
theorem wsK_step {l : List RecV} {k : Nat} {r : RecV} (h : l[k]? = some r) : wsK l (k + 1) = wsK l k + r.Writes'.length := by unfold wsK; rw [List.take_add_one, h]; simp
theorem wsK_le (l : List RecV) : ∀ k, wsK l k ≤ wsL l := by
  intro k
  unfold wsK wsL
  conv => rhs; rw [← List.take_append_drop k l, List.map_append, List.sum_append]
  omega
theorem bzW_len (i num : Int) (qs : List Int) : ∀ st : BzS, (qs.foldl (bzW i num) st).1.length ≤ st.1.length + qs.length ∧ (qs.foldl (bzW i num) st).2.length ≤ st.2.length + qs.length := by
  induction qs with
  | nil => exact fun st => ⟨Nat.le_refl _, Nat.le_refl _⟩
  | cons q qs ih =>
    intro st
    have h := ih (bzW i num st q)
    have h1 := putT_len3 st.1 q (bump num (getT st.1 q))
    have h2 := putT_len3 st.2 q i
    have e1 : (bzW i num st q).1.length ≤ st.1.length + 1 := by unfold bzW; dsimp only; split <;> omega
    have e2 : (bzW i num st q).2.length ≤ st.2.length + 1 := h2
    rw [List.foldl_cons, List.length_cons]
    exact ⟨by omega, by omega⟩
theorem bzL_len {l : List RecV} : ∀ k, (bzL l k).length ≤ wsK l k := by
  intro k
  induction k with
  | zero => exact Nat.zero_le _
  | succ k ih =>
    rw [bzL]
    cases hr : l[k]? with
    | none =>
      have : wsK l (k + 1) = wsK l k := by unfold wsK; rw [List.take_add_one, hr]; simp
      simp only; omega
    | some r =>
      have h := (bzW_len k r.Number' (blksR r) (bzL l k, [])).1
      rw [wsK_step hr]
      have : (blksR r).length = r.Writes'.length := by unfold blksR; rw [List.length_map]
      show (bzR _ _ _ _).length ≤ _
      unfold bzR
      simp only at h
      omega
theorem bzJ_len {l : List RecV} (k : Nat) (r : RecV) (j : Nat) : (bzJ l k r j).1.length ≤ wsK l k + j ∧ (bzJ l k r j).2.length ≤ j := by
  have h := bzW_len k r.Number' ((blksR r).take j) (bzL l k, [])
  have h2 := bzL_len (l := l) k
  have : ((blksR r).take j).length ≤ j := by rw [List.length_take]; omega
  unfold bzJ
  simp only [List.length_nil] at h
  exact ⟨by omega, by omega⟩
theorem bzJ_step {l : List RecV} {k : Nat} {r : RecV} {j : Nat} {z : WriteV} (h : r.Writes'[j]? = some z) : bzJ l k r (j + 1) = bzW k r.Number' (bzJ l k r j) z.Block' := by
  unfold bzJ
  rw [List.take_add_one, show (blksR r)[j]? = some z.Block' by unfold blksR; rw [List.getElem?_map, h]; rfl]
  simp
theorem bzJ_snd {l : List RecV} {k : Nat} {r : RecV} {j : Nat} {z : WriteV} (h : r.Writes'[j]? = some z) : putT (bzJ l k r j).2 z.Block' k = (bzJ l k r (j + 1)).2 := by rw [bzJ_step h]; rfl
theorem bzJ_old {l : List RecV} {k : Nat} {r : RecV} {j : Nat} {z : WriteV} (h : r.Writes'[j]? = some z) (hh : hasT (bzJ l k r j).2 z.Block' = true) : (bzJ l k r j).1 = (bzJ l k r (j + 1)).1 := by rw [bzJ_step h]; unfold bzW; rw [hh]; rfl
theorem bzJ_new {l : List RecV} {k : Nat} {r : RecV} {j : Nat} {z : WriteV} (h : r.Writes'[j]? = some z) (hh : hasT (bzJ l k r j).2 z.Block' = false) : putT (bzJ l k r j).1 z.Block' (bump r.Number' (getT (bzJ l k r j).1 z.Block')) = (bzJ l k r (j + 1)).1 := by rw [bzJ_step h]; unfold bzW; rw [hh]; rfl
theorem bzJ_all {l : List RecV} {k : Nat} {r : RecV} (hr : l[k]? = some r) {j : Nat} (hj : j = r.Writes'.length) : (bzJ l k r j).1 = bzL l (k + 1) := by
  unfold bzJ
  rw [List.take_of_length_le (by unfold blksR; rw [List.length_map]; omega), bzL, hr]; rfl
theorem psB_at {T : List (Int × V2)} {k : Nat} {q : Int × List Value} (h : (psB T)[k]? = some q) : ∃ p, T[k]? = some p ∧ q = (p.1, bz3 p.1 p.2) := by
  unfold psB at h
  rw [mapK_at] at h
  cases hp : T[k]? with
  | none => rw [hp] at h; cases h
  | some p => rw [hp] at h; cases h; exact ⟨p, rfl, rfl⟩
theorem bCells_take {T : List (Int × V2)} {k : Nat} {p : Int × V2} (h : T[k]? = some p) : (bCells (T.take k)).flatten ++ bz3 p.1 p.2 = (bCells (T.take (k + 1))).flatten := take_flat (fun p : Int × V2 => bz3 p.1 p.2) h
theorem putI (m : Nat) (T T' : List (Int × Int)) (k : Int) (v : Int) (hl : T.length ≤ 999999) (hT : putT T k v = T') : SpecS Try.prog 19 [.pointer (some ⟨m, 0, none⟩), .int .i64 k, .int .i64 v] [mp (κ := Int) 112 114 1 m (psI T)] (fun v H' => v = .bool (!hasT T k) ∧ H' = [mp (κ := Int) 112 114 1 m (psI T')]) := by
  have := SpecS.ofMap (φ := fun v => v = .bool (!hasK (psI T) k)) (fun w S hm => putI_ok m (psI T) S k v w hm (by unfold psI; rw [mapK_len]; exact hl))
  subst hT
  rw [← hasT_eq, ← putT_eq] at this
  unfold psI at this ⊢
  rw [hasT_mapK, show ([.int .i64 v] : List Value) = in1 k v from rfl, putT_mapK] at this
  exact this

theorem getB (m : Nat) (T : List (Int × V2)) (k : Int) (S : List Nat) (w : World) (hm : MapAt (κ := Int) 109 117 3 w m (psB T) S) (hl : T.length ≤ 999999) : Meets Try.prog 20 [.pointer (some ⟨m, 0, none⟩), .int .i64 k] w (fun v w' => v = .tuple #[.agg (bz3 (if hasT T k then k else 0) ((getT T k).getD (0, 0))).toArray, .bool (hasT T k)] ∧ Ext [] w w') :=
  (getApiBusy_ok m (psB T) S k w hm (by unfold psB; rw [mapK_len]; exact hl)).mono fun v w' ⟨h1, h2⟩ => ⟨by
    rw [h1, ← hasT_eq, ← getT_eq]
    unfold psB
    rw [hasT_mapK, getT_mapK, hasT_isSome]
    cases getT T k <;> rfl, h2⟩
theorem putB (m : Nat) (T T' : List (Int × V2)) (k : Int) (v : V2) (hl : T.length ≤ 999999) (hT : putT T k v = T') : SpecS Try.prog 21 [.pointer (some ⟨m, 0, none⟩), .int .i64 k, .agg (bz3 k v).toArray] [mp (κ := Int) 109 117 3 m (psB T)] (fun v H' => v = .bool (!hasT T k) ∧ H' = [mp (κ := Int) 109 117 3 m (psB T')]) := by
  have := SpecS.ofMap (φ := fun v => v = .bool (!hasK (psB T) k)) (fun w S hm => putApiBusy_ok m (psB T) S k (bz3 k v) w hm (by unfold psB; rw [mapK_len]; exact hl) ⟨rfl, bz3_one k v⟩)
  subst hT
  rw [← hasT_eq, ← putT_eq] at this
  unfold psB at this ⊢
  rw [hasT_mapK, putT_mapK] at this
  exact this

theorem Blocks_ok (a : Option Addr) (n c : Nat) (its : List RecV) (hb : n * 48 ≤ 140737488355328) (hw : wsL its ≤ 900000) : SpecS Try.prog 7 [.slice a n c] [sh (fun w => RecsOk w a n its)] (fun v H' => ∃ a' c', v = .slice a' (bzT its).length c' ∧ H' = [own 32 3 a' ((bzT its).length) c' (bCells (bzT its)).flatten]) := by
  refine SpecS.enter Try.func7 rfl 66 rfl (Nat.le_of_ble_eq_true rfl) (fun o => ?_)
  refine SG.fact (fun w9 F9 S9 s => (s.sh (p := fun w => RecsOk w a n its) (by repeat (first | exact Sel.keep | exact Sel.here | apply Sel.there))).len) (fun hf9 => ?_)
  have hln := hf9; clear hf9
  refine SG.seq ?_
  refine SG.region ?_
  refine SL.val rfl rfl (fun w9 F9 S9 s => R.as rfl) ?_
  refine SL.nil ?_
  refine SN.seq ?_
  refine SG.seq ?_
  refine SG.region ?_
  refine SL.step rfl rfl (CS.call rfl go17 (SpecS.ofNew (fun w => onewApiBusy_ok w)) (by repeat (first | exact Sels.nil | apply Sels.cons | exact Sel.keep | exact Sel.here | apply Sel.there))) ?_
  rintro _ _ ⟨_, ⟨m, rfl, rfl⟩, rfl⟩
  refine SL.n1 ?_
  refine SL.val rfl rfl (fun w9 F9 S9 s => R.as rfl) ?_
  refine SL.nil ?_
  refine SN.seq ?_
  refine SG.seq ?_
  refine SG.seq ?_
  refine SG.region ?_
  refine SL.val rfl rfl (fun w9 F9 S9 s => R.mv rfl) ?_
  refine SL.val rfl rfl (fun w9 F9 S9 s => R.lenS rfl) ?_
  refine SL.val rfl rfl (fun w9 F9 S9 s => R.mv rfl) ?_
  refine SL.nil ?_
  refine SN.seq ?_
  refine SG.block ?_
  refine SG.loop (X := Nat) (fun k => [(0, .slice a n c), (3, .pointer (some ⟨m, 0, none⟩)), (15, .slice a n c), (16, .int .i64 (n : Int)), (17, .int .i64 (k : Int))]) (fun k => [mp (κ := Int) 109 117 3 m (psB (bzL its k)), sh (fun w => RecsOk w a n its)]) (fun k => k ≤ n) (fun k => n - k) (0) (Sub.cons rfl (Sub.cons rfl (Sub.cons rfl (Sub.cons rfl (Sub.cons rfl (Sub.nil _)))))) ((Imp.sels (by repeat (first | exact Sels.nil | apply Sels.cons | exact Sel.keep | exact Sel.here | apply Sel.there)))) (Nat.zero_le _) ?_
  intro k hk
  show SG _ _ _ _ _ [(0, .slice a n c), (3, .pointer (some ⟨m, 0, none⟩)), (15, .slice a n c), (16, .int .i64 (n : Int)), (17, .int .i64 (k : Int))] [mp (κ := Int) 109 117 3 m (psB (bzL its k)), sh (fun w => RecsOk w a n its)] _
  refine SG.seq ?_
  refine SG.region ?_
  refine SL.val rfl rfl (fun w9 F9 S9 s => R.lss rfl rfl) ?_
  refine SL.nil ?_
  refine SN.seq ?_
  refine SG.seq ?_
  refine SG.condP rfl (fun h0 => ?_) (fun h0 => ?_)
  · obtain ⟨r, hr⟩ : ∃ r, its[k]? = some r := ⟨_, List.getElem?_eq_getElem (by omega)⟩
    have hkw := wsK_le its (k + 1)
    rw [wsK_step hr] at hkw
    refine SG.fact (fun w9 F9 S9 s => recs_pt (s.sh (p := fun w => RecsOk w a n its) (by repeat (first | exact Sel.keep | exact Sel.here | apply Sel.there))) hr) (fun hf9 => ?_)
    obtain ⟨q, hq⟩ := hf9
    refine SG.fact (fun w9 F9 S9 s => (rec_at (recs_ok (s.sh (p := fun w => RecsOk w a n its) (by repeat (first | exact Sel.keep | exact Sel.here | apply Sel.there))) hr)).2) (fun hf9 => ?_)
    have hwn := hf9; clear hf9
    refine SG.skip ?_
    refine SN.seq ?_
    refine SG.seq ?_
    refine SG.block ?_
    refine SG.seq ?_
    refine SG.region ?_
    refine SL.val rfl rfl (fun w9 F9 S9 s => R.mv rfl) ?_
    refine SL.val rfl rfl (fun w9 F9 S9 s => R.idx rfl rfl (by omega) (by omega) q hq) ?_
    refine SL.val rfl rfl (fun w9 F9 S9 s => R.ldN (vs := r.cells) rfl (recs_ld (s.sh (p := fun w => RecsOk w a n its) (by repeat (first | exact Sel.keep | exact Sel.here | apply Sel.there))) hq hr) rfl) ?_
    refine SL.step rfl rfl (CS.alloc [.int .i64 0, .int .i64 0, .int .i64 0, .slice none 0 0] rfl) ?_
    rintro _ _ ⟨b5, rfl, rfl⟩
    refine SL.val rfl rfl (fun w9 F9 S9 s => R.as rfl) ?_
    refine SL.step0 rfl (CS.stA (vs := r.cells) rfl rfl (by repeat (first | exact Sel.keep | exact Sel.here | apply Sel.there)) rfl (by rfl) (RecV.cells.one r)) ?_
    rintro _ _ rfl
    refine SL.nil ?_
    refine SN.seq ?_
    refine SG.seq ?_
    refine SG.region ?_
    refine SL.step rfl rfl (CS.call rfl go18 (SpecS.ofNew (fun w => onewI_ok w)) (by repeat (first | exact Sels.nil | apply Sels.cons | exact Sel.keep | exact Sel.here | apply Sel.there))) ?_
    rintro _ _ ⟨_, ⟨m6, rfl, rfl⟩, rfl⟩
    refine SL.n1 ?_
    refine SL.val rfl rfl (fun w9 F9 S9 s => R.as rfl) ?_
    refine SL.nil ?_
    refine SN.seq ?_
    refine SG.seq ?_
    refine SG.region ?_
    refine SL.val rfl rfl (fun w9 F9 S9 s => R.fld rfl) ?_
    refine SL.val rfl rfl (fun w9 F9 S9 s => R.ldB (v := .slice r.Writes'a r.Writes'n r.Writes'c) rfl (s.cel (by repeat (first | exact SelB.blk | exact SelB.fz | apply SelB.there))) (by rfl)) ?_
    refine SL.val rfl rfl (fun w9 F9 S9 s => R.lenS rfl) ?_
    refine SL.val rfl rfl (fun w9 F9 S9 s => R.mv rfl) ?_
    refine SL.nil ?_
    refine SN.imp (Imp.weak (p := fun w => RecsOk w a n its) (q := fun w => Tab w r.Writes'a r.Writes'n 2 (r.Writes'.map WriteV.cells)) (by repeat (first | exact Sel.keep | exact Sel.here | apply Sel.there)) (fun w h => (rec_at (recs_ok h hr)).1)) ?_
    refine SN.seq ?_
    refine SG.block ?_
    refine SG.loop (X := Nat) (fun j => [(0, .slice a n c), (3, .pointer (some ⟨m, 0, none⟩)), (4, .int .i64 (k : Int)), (5, .pointer (some ⟨b5, 0, none⟩)), (6, .pointer (some ⟨m6, 0, none⟩)), (15, .slice a n c), (16, .int .i64 (n : Int)), (17, .int .i64 (k : Int)), (24, .slice r.Writes'a r.Writes'n r.Writes'c), (25, .int .i64 (r.Writes'n : Int)), (26, .int .i64 (j : Int))]) (fun j => [mp (κ := Int) 109 117 3 m (psB (bzJ its k r j).1), mp (κ := Int) 112 114 1 m6 (psI (bzJ its k r j).2), blk b5 r.cells 50, sh (fun w => Tab w r.Writes'a r.Writes'n 2 (r.Writes'.map WriteV.cells)), sh (fun w => RecsOk w a n its)]) (fun j => j ≤ r.Writes'n) (fun j => r.Writes'n - j) (0) (Sub.cons rfl (Sub.cons rfl (Sub.cons rfl (Sub.cons rfl (Sub.cons rfl (Sub.cons rfl (Sub.cons rfl (Sub.cons rfl (Sub.cons rfl (Sub.cons rfl (Sub.cons rfl (Sub.nil _)))))))))))) ((Imp.sels (by repeat (first | exact Sels.nil | apply Sels.cons | exact Sel.keep | exact Sel.here | apply Sel.there)))) (Nat.zero_le _) ?_
    intro j hj
    show SG _ _ _ _ _ [(0, .slice a n c), (3, .pointer (some ⟨m, 0, none⟩)), (4, .int .i64 (k : Int)), (5, .pointer (some ⟨b5, 0, none⟩)), (6, .pointer (some ⟨m6, 0, none⟩)), (15, .slice a n c), (16, .int .i64 (n : Int)), (17, .int .i64 (k : Int)), (24, .slice r.Writes'a r.Writes'n r.Writes'c), (25, .int .i64 (r.Writes'n : Int)), (26, .int .i64 (j : Int))] [mp (κ := Int) 109 117 3 m (psB (bzJ its k r j).1), mp (κ := Int) 112 114 1 m6 (psI (bzJ its k r j).2), blk b5 r.cells 50, sh (fun w => Tab w r.Writes'a r.Writes'n 2 (r.Writes'.map WriteV.cells)), sh (fun w => RecsOk w a n its)] _
    refine SG.seq ?_
    refine SG.region ?_
    refine SL.val rfl rfl (fun w9 F9 S9 s => R.lss rfl rfl) ?_
    refine SL.nil ?_
    refine SN.seq ?_
    refine SG.seq ?_
    refine SG.condP rfl (fun h1 => ?_) (fun h1 => ?_)
    · obtain ⟨z, hz⟩ : ∃ z, r.Writes'[j]? = some z := ⟨_, List.getElem?_eq_getElem (by omega)⟩
      have hjl := bzJ_len (l := its) k r j
      refine SG.fact (fun w9 F9 S9 s => wrs_pt (s.sh (p := fun w => Tab w r.Writes'a r.Writes'n 2 (r.Writes'.map WriteV.cells)) (by repeat (first | exact Sel.keep | exact Sel.here | apply Sel.there))) hz) (fun hf9 => ?_)
      obtain ⟨q2, hq2⟩ := hf9
      refine SG.skip ?_
      refine SN.seq ?_
      refine SG.seq ?_
      refine SG.block ?_
      refine SG.seq ?_
      refine SG.region ?_
      refine SL.val rfl rfl (fun w9 F9 S9 s => R.idx rfl rfl (by omega) (by omega) q2 hq2) ?_
      refine SL.val rfl rfl (fun w9 F9 S9 s => R.ldN (vs := z.cells) rfl (wrs_ld (s.sh (p := fun w => Tab w r.Writes'a r.Writes'n 2 (r.Writes'.map WriteV.cells)) (by repeat (first | exact Sel.keep | exact Sel.here | apply Sel.there))) hq2 hz) rfl) ?_
      refine SL.step rfl rfl (CS.alloc [.int .i64 0, .slice none 0 0] rfl) ?_
      rintro _ _ ⟨b8, rfl, rfl⟩
      refine SL.step0 rfl (CS.stA (vs := z.cells) rfl rfl (by repeat (first | exact Sel.keep | exact Sel.here | apply Sel.there)) rfl (by rfl) (WriteV.cells.one z)) ?_
      rintro _ _ rfl
      refine SL.nil ?_
      refine SN.seq ?_
      refine SG.seq ?_
      refine SG.seq ?_
      refine SG.region ?_
      refine SL.val rfl rfl (fun w9 F9 S9 s => R.mv rfl) ?_
      refine SL.val rfl rfl (fun w9 F9 S9 s => R.fld rfl) ?_
      refine SL.val rfl rfl (fun w9 F9 S9 s => R.ldB (v := .int .i64 z.Block') rfl (s.cel (by repeat (first | exact SelB.blk | exact SelB.fz | apply SelB.there))) (by rfl)) ?_
      refine SL.val rfl rfl (fun w9 F9 S9 s => R.mv rfl) ?_
      refine SL.step rfl rfl (CS.call rfl go19 (putI m6 (bzJ its k r j).2 (bzJ its k r (j + 1)).2 z.Block' k (by omega) (bzJ_snd hz)) (by repeat (first | exact Sels.nil | apply Sels.cons | exact Sel.keep | exact Sel.here | apply Sel.there))) ?_
      rintro _ _ ⟨_, ⟨rfl, rfl⟩, rfl⟩
      refine SL.n1 ?_
      refine SL.val rfl rfl (fun w9 F9 S9 s => R.not rfl) ?_
      refine SL.nil ?_
      refine SN.seq ?_
      refine SG.condB rfl (fun h2 => ?_) (fun h2 => ?_)
      · have hh : hasT (bzJ its k r j).2 z.Block' = true := by simpa using h2
        rw [bzJ_old hz hh]
        refine SG.exit _ rfl ?_
        refine SN.seq ?_
        refine SG.region ?_
        refine SL.val rfl rfl (fun w9 F9 S9 s => R.add rfl rfl (by omega)) ?_
        refine SL.val rfl rfl (fun w9 F9 S9 s => R.mv rfl) ?_
        refine SL.nil ?_
        exact SN.again (j + 1) (by show r.Writes'n - (j + 1) < r.Writes'n - j; omega) (Sub.cons rfl (Sub.cons rfl (Sub.cons rfl (Sub.cons rfl (Sub.cons rfl (Sub.cons rfl (Sub.cons rfl (Sub.cons rfl (Sub.cons rfl (Sub.cons rfl (Sub.cons rfl (Sub.nil _)))))))))))) ((Imp.sels (by repeat (first | exact Sels.nil | apply Sels.cons | exact Sel.keep | exact Sel.here | apply Sel.there)))) (by show j + 1 ≤ r.Writes'n; omega)
      · have hh : hasT (bzJ its k r j).2 z.Block' = false := by simpa using h2
        refine SG.skip ?_
        refine SN.seq ?_
        refine SG.seq ?_
        refine SG.region ?_
        refine SL.val rfl rfl (fun w9 F9 S9 s => R.mv rfl) ?_
        refine SL.val rfl rfl (fun w9 F9 S9 s => R.fld rfl) ?_
        refine SL.val rfl rfl (fun w9 F9 S9 s => R.ldB (v := .int .i64 z.Block') rfl (s.cel (by repeat (first | exact SelB.blk | exact SelB.fz | apply SelB.there))) (by rfl)) ?_
        refine SL.step rfl rfl (CS.callR rfl go20 (fun w9 F9 S9 s => (s.mp (show Sel _ (mp (κ := Int) 109 117 3 m (psB (bzJ its k r j).1)) _ from (by repeat (first | exact Sel.keep | exact Sel.here | apply Sel.there)))).elim fun S9 h9 => getB m (bzJ its k r j).1 z.Block' S9 w9 h9 (by omega))) ?_
        rintro _ _ ⟨rfl, rfl⟩
        refine SL.val rfl rfl (fun w9 F9 S9 s => R.mv rfl) ?_
        refine SL.val rfl rfl (fun w9 F9 S9 s => R.ext rfl rfl) ?_
        refine SL.val rfl rfl (fun w9 F9 S9 s => R.ext rfl rfl) ?_
        refine SL.step rfl rfl (CS.alloc [.int .i64 0, .int .i64 0, .int .i64 0] rfl) ?_
        rintro _ _ ⟨b9, rfl, rfl⟩
        refine SL.step0 rfl (CS.stA (vs := bz3 (if hasT (bzJ its k r j).1 z.Block' then z.Block' else 0) ((getT (bzJ its k r j).1 z.Block').getD (0, 0))) rfl rfl (by repeat (first | exact Sel.keep | exact Sel.here | apply Sel.there)) rfl (by rfl) (bz3_one _ _)) ?_
        rintro _ _ rfl
        refine SL.val rfl rfl (fun w9 F9 S9 s => R.as rfl) ?_
        refine SL.nil ?_
        refine SN.seq ?_
        refine SG.region ?_
        refine SL.val rfl rfl (fun w9 F9 S9 s => R.mv rfl) ?_
        refine SL.val rfl rfl (fun w9 F9 S9 s => R.fld rfl) ?_
        refine SL.val rfl rfl (fun w9 F9 S9 s => R.ldB (v := .int .i64 z.Block') rfl (s.cel (by repeat (first | exact SelB.blk | exact SelB.fz | apply SelB.there))) (by rfl)) ?_
        refine SL.val rfl rfl (fun w9 F9 S9 s => R.fld rfl) ?_
        refine SL.val rfl rfl (fun w9 F9 S9 s => R.ldB (v := .int .i64 z.Block') rfl (s.cel (by repeat (first | exact SelB.blk | exact SelB.fz | apply SelB.there))) (by rfl)) ?_
        refine SL.val rfl rfl (fun w9 F9 S9 s => R.fld rfl) ?_
        refine SL.val rfl rfl (fun w9 F9 S9 s => R.ldB (v := .int .i64 ((getT (bzJ its k r j).1 z.Block').getD (0, 0)).1) rfl (s.cel (by repeat (first | exact SelB.blk | exact SelB.fz | apply SelB.there))) (by rfl)) ?_
        refine SL.val rfl rfl (fun w9 F9 S9 s => R.addW rfl rfl (wr (((getT (bzJ its k r j).1 z.Block').getD (0, 0)).1 + 1)) rfl) ?_
        refine SL.val rfl rfl (fun w9 F9 S9 s => R.fld rfl) ?_
        refine SL.val rfl rfl (fun w9 F9 S9 s => R.ldB (v := .int .i64 r.Number') rfl (s.cel (by repeat (first | exact SelB.blk | exact SelB.fz | apply SelB.there))) (by rfl)) ?_
        refine SL.val rfl rfl (fun w9 F9 S9 s => R.buildN (l := bz3 z.Block' (bump r.Number' (getT (bzJ its k r j).1 z.Block'))) rfl rfl) ?_
        refine SL.step rfl rfl (CS.call rfl go21 (putB m (bzJ its k r j).1 (bzJ its k r (j + 1)).1 z.Block' (bump r.Number' (getT (bzJ its k r j).1 z.Block')) (by omega) (bzJ_new hz hh)) (by repeat (first | exact Sels.nil | apply Sels.cons | exact Sel.keep | exact Sel.here | apply Sel.there))) ?_
        rintro _ _ ⟨_, ⟨rfl, rfl⟩, rfl⟩
        refine SL.n1 ?_
        refine SL.nil ?_
        refine SN.block ?_
        refine SN.seq ?_
        refine SG.region ?_
        refine SL.val rfl rfl (fun w9 F9 S9 s => R.add rfl rfl (by omega)) ?_
        refine SL.val rfl rfl (fun w9 F9 S9 s => R.mv rfl) ?_
        refine SL.nil ?_
        exact SN.again (j + 1) (by show r.Writes'n - (j + 1) < r.Writes'n - j; omega) (Sub.cons rfl (Sub.cons rfl (Sub.cons rfl (Sub.cons rfl (Sub.cons rfl (Sub.cons rfl (Sub.cons rfl (Sub.cons rfl (Sub.cons rfl (Sub.cons rfl (Sub.cons rfl (Sub.nil _)))))))))))) ((Imp.sels (by repeat (first | exact Sels.nil | apply Sels.cons | exact Sel.keep | exact Sel.here | apply Sel.there)))) (by show j + 1 ≤ r.Writes'n; omega)
    · obtain rfl : r.Writes'n = j := by omega
      rw [bzJ_all hr hwn.2]
      refine SG.exit _ rfl ?_
      refine SN.block ?_
      refine SN.seq ?_
      refine SG.region ?_
      refine SL.val rfl rfl (fun w9 F9 S9 s => R.add rfl rfl (by omega)) ?_
      refine SL.val rfl rfl (fun w9 F9 S9 s => R.mv rfl) ?_
      refine SL.nil ?_
      exact SN.again (k + 1) (by show n - (k + 1) < n - k; omega) (Sub.cons rfl (Sub.cons rfl (Sub.cons rfl (Sub.cons rfl (Sub.cons rfl (Sub.nil _)))))) ((Imp.sels (by repeat (first | exact Sels.nil | apply Sels.cons | exact Sel.keep | exact Sel.here | apply Sel.there)))) (by show k + 1 ≤ n; omega)
  · obtain rfl : n = k := by omega
    have hbl : (bzL its n).length ≤ wsL its := Nat.le_trans (bzL_len n) (wsK_le its n)
    rw [show bzL its n = bzT its by rw [hln]; rfl] at hbl ⊢
    refine SG.exit _ rfl ?_
    refine SN.seq ?_
    refine SG.seq ?_
    refine SG.region ?_
    refine SL.step rfl rfl (CS.alloc [.slice none 0 0] rfl) ?_
    rintro _ _ ⟨b11, rfl, rfl⟩
    refine SL.nil ?_
    refine SN.seq ?_
    refine SG.seq ?_
    refine SG.seq ?_
    refine SG.region ?_
    refine SL.val rfl rfl (fun w9 F9 S9 s => R.mv rfl) ?_
    refine SL.step rfl rfl (CS.call rfl go22 (oallApiBusyS m (psB (bzT its)) (by unfold psB; rw [mapK_len]; omega)) (by repeat (first | exact Sels.nil | apply Sels.cons | exact Sel.keep | exact Sel.here | apply Sel.there))) ?_
    rintro _ _ ⟨_, ⟨lb, rfl, rfl⟩, rfl⟩
    refine SL.n2 ?_
    refine SL.nil ?_
    refine SN.seq ?_
    refine SG.block ?_
    refine SG.range rfl rfl go78 (itApiBusy_run lb (psB (bzT its))) (X := Option Addr × Nat) (Y := Unit) (fun k y => [blk b11 [.slice y.1 k y.2] 29, own 32 3 y.1 (k) y.2 (bCells ((bzT its).take k)).flatten]) (fun k y => True) (fun c k _ => []) (fun c k _ => False) ((none, 0)) (((Imp.ownNil 32 3).trans (Imp.sels (by repeat (first | exact Sels.nil | apply Sels.cons | exact Sel.keep | exact Sel.here | apply Sel.there))))) (trivial) ?_ ?_ ?_
    · rintro l k ⟨a9, c9⟩ vs p hk _ ⟨⟨q, hq, rfl⟩, rfl⟩
      obtain ⟨e, he, rfl⟩ := psB_at hq
      have hel := (List.getElem?_eq_some_iff.1 he).1
      have hbl2 := hbl
      refine ⟨rfl, ?_⟩
      intro o8
      refine SG.region ?_
      refine SL.step rfl rfl (CS.alloc [.int .i64 0, .int .i64 0, .int .i64 0] rfl) ?_
      rintro _ _ ⟨b13, rfl, rfl⟩
      refine SL.step0 rfl (CS.stA (vs := bz3 e.1 e.2) rfl rfl (by repeat (first | exact Sel.keep | exact Sel.here | apply Sel.there)) rfl (by rfl) (bz3_one _ _)) ?_
      rintro _ _ rfl
      refine SL.nil ?_
      refine SN.roundA (fun o9 => ?_)
      refine SG.block ?_
      refine SG.region ?_
      refine SL.val rfl rfl (fun w9 F9 S9 s => R.ldB (v := .slice a9 k c9) rfl (s.cel (by repeat (first | exact SelB.blk | exact SelB.fz | apply SelB.there))) (by rfl)) ?_
      refine SL.val rfl rfl (fun w9 F9 S9 s => R.ldBN (cs := (bz3 e.1 e.2).toArray) rfl (s.cel (by repeat (first | exact SelB.blk | exact SelB.fz | apply SelB.there))) rfl) ?_
      refine SL.step rfl rfl (CS.buildA rfl rfl rfl rfl rfl (bz3 e.1 e.2) rfl) ?_
      rintro _ _ ⟨b28, rfl, rfl⟩
      refine SL.step rfl rfl (CS.app rfl rfl (show Sel _ (own 32 3 a9 (k) c9 (bCells ((bzT its).take k)).flatten) _ from (by repeat (first | exact Sel.keep | exact Sel.here | apply Sel.there))) (fun w9 F9 S9 s => s.blkC (show Sel _ (blk b28 (bz3 e.1 e.2) _) _ from (by repeat (first | exact Sel.keep | exact Sel.here | apply Sel.there)))) rfl (bz3_one _ _) (by simp [maxLen]; omega) (by omega)) ?_
      rintro _ _ ⟨a29, c29, rfl, rfl⟩
      refine SL.step0 rfl (CS.st rfl rfl (show Sel _ (blk b11 _ _) _ from (by repeat (first | exact Sel.keep | exact Sel.here | apply Sel.there))) (by repeat (first | exact SetAt.here | apply SetAt.there)) rfl) ?_
      rintro _ _ rfl
      refine SL.nil ?_
      refine SN.block ?_
      exact SN.next ((a29, c29)) ((show Imp _ _ by dsimp only; rw [← bCells_take he]; exact (Imp.sels (by repeat (first | exact Sels.nil | apply Sels.cons | exact Sel.keep | exact Sel.here | apply Sel.there))))) (trivial)
    · rintro d2 ⟨a9, c9⟩ _
      rw [show (psB (bzT its)).length = (bzT its).length by unfold psB; rw [mapK_len], List.take_length]
      refine SN.block ?_
      refine SN.seq ?_
      refine SG.seq ?_
      refine SG.region ?_
      refine SL.val rfl rfl (fun w9 F9 S9 s => R.ldB (v := .slice a9 (bzT its).length c9) rfl (s.cel (by repeat (first | exact SelB.blk | exact SelB.fz | apply SelB.there))) (by rfl)) ?_
      refine SL.val rfl rfl (fun w9 F9 S9 s => R.as rfl) ?_
      refine SL.nil ?_
      refine SN.seq ?_
      exact SG.ret1M rfl rfl (by repeat (first | exact Dfrs.nil | apply Dfrs.cons | exact Sel.here | apply Sel.there)) ((Imp.sels (by repeat (first | exact Sels.nil | apply Sels.cons | exact Sel.keep | exact Sel.here | apply Sel.there)))) (⟨a9, c9, rfl, rfl⟩)
    · rintro d k c _ hk ⟨⟩

end Go.Proofs.Ytlhkpakbenghgaa
/-
  The walks of package stats.
-/
set_option linter.unusedVariables false
set_option linter.unusedSimpArgs false
set_option maxRecDepth 4000
namespace Go.Proofs.Ytlhkpakbenghgaa
open Go Brv Brv.Stats
def byW (u : Int) (ws : List WriteV) : Int := ws.foldl (fun u z => wr (u + (z.B'n : Int))) u
def byR (u : Int) (l : List RecV) : Int := l.foldl (fun u r => byW u r.Writes') u
theorem byW_step {u : Int} {ws : List WriteV} {j : Nat} {z : WriteV} (h : ws[j]? = some z) : wr (byW u (ws.take j) + (z.B'n : Int)) = byW u (ws.take (j + 1)) := by
  unfold byW; rw [List.take_add_one, h, List.foldl_append]; rfl
theorem byR_step {u : Int} {l : List RecV} {k : Nat} {r : RecV} (h : l[k]? = some r) : byW (byR u (l.take k)) r.Writes' = byR u (l.take (k + 1)) := by
  unfold byR; rw [List.take_add_one, h, List.foldl_append]; rfl

theorem Bytes_ok (a : Option Addr) (n c : Nat) (its : List RecV) (hb : n * 48 ≤ 140737488355328) : SpecS Try.prog 11 [.slice a n c] [sh (fun w => RecsOk w a n its)] (fun v H' => v = .int .i64 (byR 0 its) ∧ H' = []) := by
  refine SpecS.enter Try.func11 rfl 29 rfl (Nat.le_of_ble_eq_true rfl) (fun o => ?_)
  refine SG.fact (fun w9 F9 S9 s => (s.sh (p := fun w => RecsOk w a n its) (by repeat (first | exact Sel.keep | exact Sel.here | apply Sel.there))).len) (fun hf9 => ?_)
  have hln := hf9; clear hf9
  refine SG.seq ?_
  refine SG.region ?_
  refine SL.val rfl rfl (fun w9 F9 S9 s => R.as rfl) ?_
  refine SL.nil ?_
  refine SN.seq ?_
  refine SG.seq ?_
  refine SG.region ?_
  refine SL.val rfl rfl (fun w9 F9 S9 s => R.as rfl) ?_
  refine SL.nil ?_
  refine SN.seq ?_
  refine SG.seq ?_
  refine SG.seq ?_
  refine SG.region ?_
  refine SL.val rfl rfl (fun w9 F9 S9 s => R.mv rfl) ?_
  refine SL.val rfl rfl (fun w9 F9 S9 s => R.lenS rfl) ?_
  refine SL.val rfl rfl (fun w9 F9 S9 s => R.mv rfl) ?_
  refine SL.nil ?_
  refine SN.seq ?_
  refine SG.block ?_
  refine SG.loop (X := Nat) (fun k => [(0, .slice a n c), (3, .int .i64 (byR 0 (its.take k))), (8, .slice a n c), (9, .int .i64 (n : Int)), (10, .int .i64 (k : Int))]) (fun k => [sh (fun w => RecsOk w a n its)]) (fun k => k ≤ n) (fun k => n - k) (0) (Sub.cons rfl (Sub.cons rfl (Sub.cons rfl (Sub.cons rfl (Sub.cons rfl (Sub.nil _)))))) ((Imp.sels (by repeat (first | exact Sels.nil | apply Sels.cons | exact Sel.keep | exact Sel.here | apply Sel.there)))) (Nat.zero_le _) ?_
  intro k hk
  show SG _ _ _ _ _ [(0, .slice a n c), (3, .int .i64 (byR 0 (its.take k))), (8, .slice a n c), (9, .int .i64 (n : Int)), (10, .int .i64 (k : Int))] [sh (fun w => RecsOk w a n its)] _
  refine SG.seq ?_
  refine SG.region ?_
  refine SL.val rfl rfl (fun w9 F9 S9 s => R.lss rfl rfl) ?_
  refine SL.nil ?_
  refine SN.seq ?_
  refine SG.seq ?_
  refine SG.condP rfl (fun h0 => ?_) (fun h0 => ?_)
  · obtain ⟨r, hr⟩ : ∃ r, its[k]? = some r := ⟨_, List.getElem?_eq_getElem (by omega)⟩
    refine SG.fact (fun w9 F9 S9 s => recs_pt (s.sh (p := fun w => RecsOk w a n its) (by repeat (first | exact Sel.keep | exact Sel.here | apply Sel.there))) hr) (fun hf9 => ?_)
    obtain ⟨q, hq⟩ := hf9
    refine SG.fact (fun w9 F9 S9 s => (rec_at (recs_ok (s.sh (p := fun w => RecsOk w a n its) (by repeat (first | exact Sel.keep | exact Sel.here | apply Sel.there))) hr)).2) (fun hf9 => ?_)
    have hwn := hf9; clear hf9
    refine SG.skip ?_
    refine SN.seq ?_
    refine SG.seq ?_
    refine SG.block ?_
    refine SG.seq ?_
    refine SG.region ?_
    refine SL.val rfl rfl (fun w9 F9 S9 s => R.idx rfl rfl (by omega) (by omega) q hq) ?_
    refine SL.val rfl rfl (fun w9 F9 S9 s => R.ldN (vs := r.cells) rfl (recs_ld (s.sh (p := fun w => RecsOk w a n its) (by repeat (first | exact Sel.keep | exact Sel.here | apply Sel.there))) hq hr) rfl) ?_
    refine SL.step rfl rfl (CS.alloc [.int .i64 0, .int .i64 0, .int .i64 0, .slice none 0 0] rfl) ?_
    rintro _ _ ⟨b5, rfl, rfl⟩
    refine SL.step0 rfl (CS.stA (vs := r.cells) rfl rfl (by repeat (first | exact Sel.keep | exact Sel.here | apply Sel.there)) rfl (by rfl) (RecV.cells.one r)) ?_
    rintro _ _ rfl
    refine SL.nil ?_
    refine SN.seq ?_
    refine SG.seq ?_
    refine SG.region ?_
    refine SL.val rfl rfl (fun w9 F9 S9 s => R.fld rfl) ?_
    refine SL.val rfl rfl (fun w9 F9 S9 s => R.ldB (v := .slice r.Writes'a r.Writes'n r.Writes'c) rfl (s.cel (by repeat (first | exact SelB.blk | exact SelB.fz | apply SelB.there))) (by rfl)) ?_
    refine SL.val rfl rfl (fun w9 F9 S9 s => R.lenS rfl) ?_
    refine SL.val rfl rfl (fun w9 F9 S9 s => R.mv rfl) ?_
    refine SL.nil ?_
    refine SN.imp (Imp.weak (p := fun w => RecsOk w a n its) (q := fun w => Tab w r.Writes'a r.Writes'n 2 (r.Writes'.map WriteV.cells)) (by repeat (first | exact Sel.keep | exact Sel.here | apply Sel.there)) (fun w h => (rec_at (recs_ok h hr)).1)) ?_
    refine SN.seq ?_
    refine SG.block ?_
    refine SG.loop (X := Nat) (fun j => [(0, .slice a n c), (3, .int .i64 (byW (byR 0 (its.take k)) (r.Writes'.take j))), (8, .slice a n c), (9, .int .i64 (n : Int)), (10, .int .i64 (k : Int)), (15, .slice r.Writes'a r.Writes'n r.Writes'c), (16, .int .i64 (r.Writes'n : Int)), (17, .int .i64 (j : Int))]) (fun j => [sh (fun w => Tab w r.Writes'a r.Writes'n 2 (r.Writes'.map WriteV.cells)), sh (fun w => RecsOk w a n its)]) (fun j => j ≤ r.Writes'n) (fun j => r.Writes'n - j) (0) (Sub.cons rfl (Sub.cons rfl (Sub.cons rfl (Sub.cons rfl (Sub.cons rfl (Sub.cons rfl (Sub.cons rfl (Sub.cons rfl (Sub.nil _))))))))) ((Imp.sels (by repeat (first | exact Sels.nil | apply Sels.cons | exact Sel.keep | exact Sel.here | apply Sel.there)))) (Nat.zero_le _) ?_
    intro j hj
    show SG _ _ _ _ _ [(0, .slice a n c), (3, .int .i64 (byW (byR 0 (its.take k)) (r.Writes'.take j))), (8, .slice a n c), (9, .int .i64 (n : Int)), (10, .int .i64 (k : Int)), (15, .slice r.Writes'a r.Writes'n r.Writes'c), (16, .int .i64 (r.Writes'n : Int)), (17, .int .i64 (j : Int))] [sh (fun w => Tab w r.Writes'a r.Writes'n 2 (r.Writes'.map WriteV.cells)), sh (fun w => RecsOk w a n its)] _
    refine SG.seq ?_
    refine SG.region ?_
    refine SL.val rfl rfl (fun w9 F9 S9 s => R.lss rfl rfl) ?_
    refine SL.nil ?_
    refine SN.seq ?_
    refine SG.seq ?_
    refine SG.condP rfl (fun h1 => ?_) (fun h1 => ?_)
    · obtain ⟨z, hz⟩ : ∃ z, r.Writes'[j]? = some z := ⟨_, List.getElem?_eq_getElem (by omega)⟩
      refine SG.fact (fun w9 F9 S9 s => wrs_pt (s.sh (p := fun w => Tab w r.Writes'a r.Writes'n 2 (r.Writes'.map WriteV.cells)) (by repeat (first | exact Sel.keep | exact Sel.here | apply Sel.there))) hz) (fun hf9 => ?_)
      obtain ⟨q2, hq2⟩ := hf9
      refine SG.skip ?_
      refine SN.seq ?_
      refine SG.seq ?_
      refine SG.block ?_
      refine SG.seq ?_
      refine SG.region ?_
      refine SL.val rfl rfl (fun w9 F9 S9 s => R.idx rfl rfl (by omega) (by omega) q2 hq2) ?_
      refine SL.val rfl rfl (fun w9 F9 S9 s => R.ldN (vs := z.cells) rfl (wrs_ld (s.sh (p := fun w => Tab w r.Writes'a r.Writes'n 2 (r.Writes'.map WriteV.cells)) (by repeat (first | exact Sel.keep | exact Sel.here | apply Sel.there))) hq2 hz) rfl) ?_
      refine SL.step rfl rfl (CS.alloc [.int .i64 0, .slice none 0 0] rfl) ?_
      rintro _ _ ⟨b7, rfl, rfl⟩
      refine SL.step0 rfl (CS.stA (vs := z.cells) rfl rfl (by repeat (first | exact Sel.keep | exact Sel.here | apply Sel.there)) rfl (by rfl) (WriteV.cells.one z)) ?_
      rintro _ _ rfl
      refine SL.nil ?_
      refine SN.seq ?_
      refine SG.region ?_
      refine SL.val rfl rfl (fun w9 F9 S9 s => R.mv rfl) ?_
      refine SL.val rfl rfl (fun w9 F9 S9 s => R.fld rfl) ?_
      refine SL.val rfl rfl (fun w9 F9 S9 s => R.ldB (v := .slice z.B'a z.B'n z.B'c) rfl (s.cel (by repeat (first | exact SelB.blk | exact SelB.fz | apply SelB.there))) (by rfl)) ?_
      refine SL.val rfl rfl (fun w9 F9 S9 s => R.lenS rfl) ?_
      refine SL.val rfl rfl (fun w9 F9 S9 s => R.addW rfl rfl (byW (byR 0 (its.take k)) (r.Writes'.take (j + 1))) (byW_step hz)) ?_
      refine SL.val rfl rfl (fun w9 F9 S9 s => R.as rfl) ?_
      refine SL.nil ?_
      refine SN.block ?_
      refine SN.seq ?_
      refine SG.region ?_
      refine SL.val rfl rfl (fun w9 F9 S9 s => R.add rfl rfl (by omega)) ?_
      refine SL.val rfl rfl (fun w9 F9 S9 s => R.mv rfl) ?_
      refine SL.nil ?_
      exact SN.again (j + 1) (by show r.Writes'n - (j + 1) < r.Writes'n - j; omega) (Sub.cons rfl (Sub.cons rfl (Sub.cons rfl (Sub.cons rfl (Sub.cons rfl (Sub.cons rfl (Sub.cons rfl (Sub.cons rfl (Sub.nil _))))))))) ((Imp.sels (by repeat (first | exact Sels.nil | apply Sels.cons | exact Sel.keep | exact Sel.here | apply Sel.there)))) (by show j + 1 ≤ r.Writes'n; omega)
    · obtain rfl : r.Writes'n = j := by omega
      rw [List.take_of_length_le (show r.Writes'.length ≤ r.Writes'n by omega), byR_step hr]
      refine SG.exit _ rfl ?_
      refine SN.block ?_
      refine SN.seq ?_
      refine SG.region ?_
      refine SL.val rfl rfl (fun w9 F9 S9 s => R.add rfl rfl (by omega)) ?_
      refine SL.val rfl rfl (fun w9 F9 S9 s => R.mv rfl) ?_
      refine SL.nil ?_
      exact SN.again (k + 1) (by show n - (k + 1) < n - k; omega) (Sub.cons rfl (Sub.cons rfl (Sub.cons rfl (Sub.cons rfl (Sub.cons rfl (Sub.nil _)))))) ((Imp.sels (by repeat (first | exact Sels.nil | apply Sels.cons | exact Sel.keep | exact Sel.here | apply Sel.there)))) (by show k + 1 ≤ n; omega)
  · obtain rfl : n = k := by omega
    rw [List.take_of_length_le (show its.length ≤ n by omega)]
    refine SG.exit _ rfl ?_
    refine SN.seq ?_
    refine SG.seq ?_
    refine SG.region ?_
    refine SL.val rfl rfl (fun w9 F9 S9 s => R.mv rfl) ?_
    refine SL.val rfl rfl (fun w9 F9 S9 s => R.as rfl) ?_
    refine SL.nil ?_
    refine SN.seq ?_
    exact SG.ret1 rfl rfl ((Imp.sels (by repeat (first | exact Sels.nil | apply Sels.cons | exact Sel.keep | exact Sel.here | apply Sel.there)))) (⟨rfl, rfl⟩)

end Go.Proofs.Ytlhkpakbenghgaa
/-
  Rows of structs that are owned: elements read and written.
-/
set_option linter.unusedVariables false
set_option linter.unusedSimpArgs false
namespace Brv
open Go
section
variable {α : Type} {f : α → List Value} {s : Nat}
theorem flat_len (hf : ∀ x, (f x).length = s) (l : List α) : (l.map f).flatten.length = l.length * s := by
  induction l with
  | nil => simp
  | cons x l ih => rw [List.map_cons, List.flatten_cons, List.length_append, ih, hf, List.length_cons, Nat.add_mul, Nat.one_mul, Nat.add_comm]
theorem flat_take (hf : ∀ x, (f x).length = s) (l : List α) {i : Nat} (hi : i ≤ l.length) : (l.map f).flatten.take (i * s) = ((l.take i).map f).flatten := by
  conv => lhs; rw [← List.take_append_drop i l, List.map_append, List.flatten_append]
  rw [List.take_append_of_le_length (by rw [flat_len hf, List.length_take, Nat.min_eq_left hi]; exact Nat.le_refl _), List.take_of_length_le (by rw [flat_len hf, List.length_take, Nat.min_eq_left hi]; exact Nat.le_refl _)]
theorem flat_drop (hf : ∀ x, (f x).length = s) (l : List α) {i : Nat} (hi : i ≤ l.length) : (l.map f).flatten.drop (i * s) = ((l.drop i).map f).flatten := by
  conv => lhs; rw [← List.take_append_drop i l, List.map_append, List.flatten_append]
  have : ((l.take i).map f).flatten.length = i * s := by rw [flat_len hf, List.length_take, Nat.min_eq_left hi]
  rw [← this, List.drop_left]
theorem flat_set (hf : ∀ x, (f x).length = s) (l : List α) {i : Nat} (hi : i < l.length) (v : α) : (l.map f).flatten.take (i * s) ++ f v ++ (l.map f).flatten.drop (i * s + s) = ((l.set i v).map f).flatten := by
  rw [flat_take hf l (by omega), show i * s + s = (i + 1) * s by rw [Nat.add_mul, Nat.one_mul], flat_drop hf l hi, List.set_eq_take_append_cons_drop, if_pos hi]
  simp
theorem set_take {β : Type} {c v : List β} {i K : Nat} (hv : v.length = s) (h : i + s ≤ K) (hK : K ≤ c.length) : (c.take i ++ v ++ c.drop (i + s)).take K = (c.take K).take i ++ v ++ (c.take K).drop (i + s) := by
  have h1 : (c.take i).length = i := by rw [List.length_take]; omega
  rw [List.take_append, List.take_of_length_le (show (c.take i ++ v).length ≤ K by rw [List.length_append, h1, hv]; omega), List.length_append, h1, hv, List.take_take, Nat.min_eq_left (show i ≤ K by omega), List.drop_take]
theorem row_ld (hf : ∀ x, (f x).length = s) {w : World} {g : Nat} {l : List α} (h : Cells w (some ⟨g, 0, none⟩) (l.map f).flatten) {i : Nat} {x : α} (hx : l[i]? = some x) : Cells w (some ⟨g, i * s, none⟩) (f x) := by
  obtain ⟨hi, rfl⟩ := List.getElem?_eq_some_iff.1 hx
  intro j v hj
  have hjl := (List.getElem?_eq_some_iff.1 hj).1
  refine ⟨_, rfl, ?_⟩
  have h2 : (l.map f).flatten[i * s + j]? = some v := by
    rw [← List.getElem?_drop, flat_drop hf l (by omega), List.drop_eq_getElem_cons hi, List.map_cons, List.flatten_cons, List.getElem?_append_left hjl]
    exact hj
  have := h.load h2
  rw [Go.Addr.add_lit] at this ⊢
  simpa [Nat.add_assoc] using this
end
section
variable {P : Program} {n : Fm} {o : Org} {ρ : Env} {H H1 : List Asn} {d : Nat} {ty : TypeId} {pos : String} {af : Array Edge} {gd : Option (Nat × Bool)}
/-- An element of a row that is owned is written. -/
theorem CS.stR {α : Type} {f : α → List Value} {T : TypeId} {s : Nat} [t : TyAgg P T s] {x y : Operand} {E g i k c : Nat} {l : List α} {v : α} (hf : ∀ x, (f x).length = s) (h1 : ∀ x, ∀ u ∈ f x, u.oneCell' = true) (hx : ev ρ x = some (.pointer (some ⟨g, i * s, none⟩))) (hy : ev ρ y = some (.agg (f v).toArray)) (sel : Sel H (own E s (some ⟨g, 0, none⟩) k c (l.map f).flatten) H1) (hi : i < k) (hk : k = l.length) :
    CS P n o ρ H ⟨none, .store T x y, ty, pos, af, gd⟩ (fun _ H' => H' = own E s (some ⟨g, 0, none⟩) k c ((l.set i v).map f).flatten :: H1) := by
  refine CS.mono (CS.upd sel (φ := fun _ A' => A' = own E s (some ⟨g, 0, none⟩) k c ((l.set i v).map f).flatten) fun w F S F1 S1 st hA hlt => ?_) (by rintro v H' ⟨_, rfl, rfl⟩; rfl)
  rcases hA with ⟨hlen, ⟨h, _⟩ | ⟨g', cur, hg, hF, hB, hkc, hcm, hcs, ht⟩⟩
  · cases h
  · cases hg
    subst hF
    have hks := Nat.mul_le_mul_right s hkc
    have his : i * s + s ≤ k * s := by have := Nat.mul_le_mul_right s (show i + 1 ≤ k from hi); rw [Nat.add_mul, Nat.one_mul] at this; exact this
    obtain ⟨w', hr, he, hsz', hB'⟩ := R.stN (P := P) (n := n) (T := T) (ty := ty) (pos := pos) (af := af) (gd := gd) hx hy hB (by simpa using hf v) (by simp only [List.size_toArray, hf]; omega) (by simpa using h1 v)
    simp only [List.size_toArray, hf] at hB' hsz'
    refine .inr (.inl ⟨rfl, w', hr, _, [g], [], rfl, ⟨by rw [flat_len hf, List.length_set, hk], .inr ⟨g, _, rfl, rfl, hB', hkc, hcm, ?_, ?_⟩⟩, fun x hx => by have := hlt x hx; omega, by simp, ⟨he, fun x hx => .inl hx, by simp⟩⟩)
    · simp only [List.size_toArray, List.length_append, List.length_take, List.length_drop, Array.length_toList, hf]
      omega
    · rw [← flat_set hf l (by omega) v, ← ht, List.toList_toArray]
      exact set_take (hf v) his (by rw [Array.length_toList]; omega)
end
end Brv
/-
  Plain laws on sorting: what is sorted, and stays in order.
-/
set_option linter.unusedVariables false
set_option linter.unusedSimpArgs false
namespace Brv.Stats
open Go Brv
abbrev E3 := Int × V2
def cellB (p : E3) : List Value := bz3 p.1 p.2
theorem cellB_len (p : E3) : (cellB p).length = 3 := rfl
theorem cellB_one (p : E3) : ∀ u ∈ cellB p, u.oneCell' = true := bz3_one _ _
/-- Strictly ahead: more often written. -/
def bf (x y : E3) : Bool := decide (y.2.1 < x.2.1)
def Down (l : List E3) : Prop := l.Pairwise fun x y => bf y x = false
/-- The same elements, those of like rank in the same order. -/
def Stb (l m : List E3) : Prop := ∀ k, l.filter (fun x => decide (x.2.1 = k)) = m.filter (fun x => decide (x.2.1 = k))
theorem Stb.refl (l : List E3) : Stb l l := fun _ => rfl
theorem Stb.symm {l m : List E3} (h : Stb l m) : Stb m l := fun k => (h k).symm
theorem Stb.trans {l m r : List E3} (h : Stb l m) (h2 : Stb m r) : Stb l r := fun k => (h k).trans (h2 k)
theorem Stb.app {l m l' m' : List E3} (h : Stb l m) (h2 : Stb l' m') : Stb (l ++ l') (m ++ m') := fun k => by rw [List.filter_append, List.filter_append, h k, h2 k]
theorem Stb.mem {l m : List E3} (h : Stb l m) {x : E3} (hx : x ∈ l) : x ∈ m := by
  have : x ∈ l.filter (fun y => decide (y.2.1 = x.2.1)) := List.mem_filter.2 ⟨hx, by simp⟩
  rw [h] at this
  exact (List.mem_filter.1 this).1
/-- Two neighbouring parts, of which none is like the other's, may change places. -/
theorem Stb.swap {l m : List E3} (h : ∀ x ∈ l, ∀ y ∈ m, x.2.1 ≠ y.2.1) : Stb (l ++ m) (m ++ l) := fun k => by
  rw [List.filter_append, List.filter_append]
  by_cases hl : ∃ x ∈ l, x.2.1 = k
  · obtain ⟨x, hx, rfl⟩ := hl
    have : m.filter (fun y => decide (y.2.1 = x.2.1)) = [] := List.filter_eq_nil_iff.2 fun y hy => by simpa using fun e => h x hx y hy e.symm
    rw [this, List.append_nil, List.nil_append]
  · have : l.filter (fun y => decide (y.2.1 = k)) = [] := List.filter_eq_nil_iff.2 fun y hy => by simpa using fun e => hl ⟨y, hy, e⟩
    rw [this, List.append_nil, List.nil_append]
theorem Down.le {l m : List E3} (h : Down (l ++ m)) {x y : E3} (hx : x ∈ l) (hy : y ∈ m) : bf y x = false := (List.pairwise_append.1 h).2.2 x hx y hy
theorem Down.app {l m : List E3} (h : Down l) (h2 : Down m) (h3 : ∀ x ∈ l, ∀ y ∈ m, bf y x = false) : Down (l ++ m) := List.pairwise_append.2 ⟨h, h2, h3⟩
theorem Down.left {l m : List E3} (h : Down (l ++ m)) : Down l := (List.pairwise_append.1 h).1
theorem Down.right {l m : List E3} (h : Down (l ++ m)) : Down m := (List.pairwise_append.1 h).2.1
theorem bf_trans {x y z : E3} (h : bf y x = false) (h2 : bf z y = false) : bf z x = false := by unfold bf at *; simp only [decide_eq_false_iff_not] at *; omega
/-- What is sorted is told by its elements. -/
theorem Down.uniq {l m : List E3} (h : Down l) (h2 : Down m) (hs : Stb l m) : l = m := by
  induction l generalizing m with
  | nil =>
    cases m with
    | nil => rfl
    | cons y m => exact absurd (hs.symm.mem (List.mem_cons_self (a := y) (l := m))) (by simp)
  | cons x l ih =>
    cases m with
    | nil => exact absurd (hs.mem (List.mem_cons_self (a := x) (l := l))) (by simp)
    | cons y m =>
      unfold Down at h h2
      rw [List.pairwise_cons] at h h2
      have hk : x.2.1 = y.2.1 := by
        have h3 : bf y x = false := by
          rcases List.mem_cons.1 (hs.symm.mem (List.mem_cons_self (a := y) (l := m))) with e | e
          · subst e; unfold bf; simp
          · exact h.1 y e
        have h4 : bf x y = false := by
          rcases List.mem_cons.1 (hs.mem (List.mem_cons_self (a := x) (l := l))) with e | e
          · subst e; unfold bf; simp
          · exact h2.1 x e
        unfold bf at h3 h4
        simp only [decide_eq_false_iff_not] at h3 h4
        omega
      have hxy : x = y := by
        have := hs x.2.1
        rw [List.filter_cons_of_pos (by simp), List.filter_cons_of_pos (by simp [hk])] at this
        exact (List.cons.inj this).1
      subst hxy
      congr 1
      refine ih h.2 h2.2 fun k => ?_
      have := hs k
      by_cases e : x.2.1 = k
      · rw [List.filter_cons_of_pos (by simp [e]), List.filter_cons_of_pos (by simp [e])] at this
        exact (List.cons.inj this).2
      · rwa [List.filter_cons_of_neg (by simp [e]), List.filter_cons_of_neg (by simp [e])] at this
/-- A part of a list has been sorted. -/
def Part (l m : List E3) (a b : Nat) : Prop := ∃ P A B Q, l = P ++ A ++ Q ∧ m = P ++ B ++ Q ∧ P.length = a ∧ a + A.length = b ∧ a + B.length = b ∧ Stb A B ∧ Down B
theorem Part.len {l m : List E3} {a b : Nat} (h : Part l m a b) : m.length = l.length := by
  obtain ⟨P, A, B, Q, rfl, rfl, h1, h2, h3, _⟩ := h
  simp only [List.length_append]; omega
def sinkM (l : List E3) (a : Nat) : Nat → List E3
  | 0 => l
  | j + 1 => if a ≤ j then
      match l[j]?, l[j + 1]? with
      | some x, some y => if bf y x then sinkM ((l.set (j + 1) x).set j y) a j else l
      | _, _ => l
    else l
def insK (l : List E3) (a : Nat) : Nat → List E3
  | 0 => l
  | k + 1 => sinkM (insK l a k) a (a + 1 + k)
def insM (l : List E3) (a b : Nat) : List E3 := insK l a (b - (a + 1))
theorem sinkM_len (l : List E3) (a : Nat) : ∀ j, (sinkM l a j).length = l.length := by
  intro j
  induction j generalizing l with
  | zero => rfl
  | succ j ih =>
    rw [sinkM]
    split
    · split
      · split
        · rw [ih]; simp
        · rfl
      · rfl
    · rfl
theorem insK_len (l : List E3) (a : Nat) : ∀ k, (insK l a k).length = l.length := by
  intro k
  induction k with
  | zero => rfl
  | succ k ih => rw [insK, sinkM_len, ih]
theorem sinkM_stop {l : List E3} {a j : Nat} (h : ¬ a < j) : sinkM l a j = l := by
  cases j with
  | zero => rfl
  | succ j => rw [sinkM, if_neg (by omega)]
theorem sinkM_no {l : List E3} {a j : Nat} {x y : E3} (hx : l[j]? = some x) (hy : l[j + 1]? = some y) (h : bf y x = false) : sinkM l a (j + 1) = l := by
  rw [sinkM, hx, hy]; simp [h]
theorem sinkM_yes {l : List E3} {a j : Nat} {x y : E3} (ha : a ≤ j) (hx : l[j]? = some x) (hy : l[j + 1]? = some y) (h : bf y x = true) : sinkM l a (j + 1) = sinkM ((l.set (j + 1) x).set j y) a j := by
  rw [sinkM, if_pos ha, hx, hy]; exact if_pos h
/-- The element behind a sorted part sinks to its place. -/
theorem sink_part {P Q : List E3} {y : E3} {a : Nat} (hP : P.length = a) : ∀ (n : Nat) (A R : List E3), A.length = n → Down (A ++ R) → (∀ z ∈ R, bf y z = true) → ∃ A1 A2, A = A1 ++ A2 ∧ sinkM (P ++ A ++ y :: (R ++ Q)) a (a + A.length) = P ++ A1 ++ y :: (A2 ++ R ++ Q) ∧ (∀ z ∈ A2, bf y z = true) ∧ (∀ z ∈ A1, bf y z = false) := by
  intro n
  induction n with
  | zero =>
    intro A R hA hd hR
    obtain rfl : A = [] := List.length_eq_zero_iff.1 hA
    exact ⟨[], [], rfl, by rw [sinkM_stop (by simp)]; simp, by simp, by simp⟩
  | succ n ih =>
    intro A R hA hd hR
    rcases List.eq_nil_or_concat A with rfl | ⟨A', x, rfl⟩
    · simp at hA
    · rw [List.concat_eq_append] at hA hd ⊢
      rw [List.length_append, List.length_singleton] at hA ⊢
      have hx : (P ++ (A' ++ [x]) ++ y :: (R ++ Q))[a + A'.length]? = some x := by
        rw [List.getElem?_append_left (by simp; omega), List.getElem?_append_right (by omega), hP, Nat.add_sub_cancel_left]; simp
      have hy : (P ++ (A' ++ [x]) ++ y :: (R ++ Q))[a + A'.length + 1]? = some y := by
        rw [List.getElem?_append_right (by simp; omega)]
        simp only [List.length_append, List.length_singleton, hP]
        rw [show a + A'.length + 1 - (a + (A'.length + 1)) = 0 by omega]; rfl
      cases hb : bf y x with
      | false =>
        refine ⟨A' ++ [x], [], by simp, ?_, by simp, ?_⟩
        · rw [show a + (A'.length + 1) = a + A'.length + 1 by omega, sinkM_no hx hy hb]; simp
        · intro z hz
          rcases List.mem_append.1 hz with hz | hz
          · exact bf_trans (Down.le hd.left hz (by simp)) hb
          · rw [List.mem_singleton.1 hz]; exact hb
      | true =>
        have hs : ((P ++ (A' ++ [x]) ++ y :: (R ++ Q)).set (a + A'.length + 1) x).set (a + A'.length) y = P ++ A' ++ y :: (([x] ++ R) ++ Q) := by
          have e : P ++ (A' ++ [x]) ++ y :: (R ++ Q) = (P ++ A') ++ x :: y :: (R ++ Q) := by simp
          have hl : (P ++ A').length = a + A'.length := by rw [List.length_append, hP]
          rw [e, ← hl, List.set_append_right _ _ (by omega), List.set_append_right _ _ (by omega)]
          simp
        obtain ⟨A1, A2, h1, h2, h3, h4⟩ := ih A' ([x] ++ R) (by omega) (by rw [← List.append_assoc]; exact hd) (by
          intro z hz
          rcases List.mem_append.1 hz with hz | hz
          · rw [List.mem_singleton.1 hz]; exact hb
          · exact hR z hz)
        refine ⟨A1, A2 ++ [x], by rw [h1]; simp, ?_, ?_, h4⟩
        · rw [show a + (A'.length + 1) = a + A'.length + 1 by omega, sinkM_yes (by omega) hx hy hb, hs, h2]; simp
        · intro z hz
          rcases List.mem_append.1 hz with hz | hz
          · exact h3 z hz
          · rw [List.mem_singleton.1 hz]; exact hb
theorem bf_ne {x y : E3} (h : bf x y = true) : x.2.1 ≠ y.2.1 := by unfold bf at h; simp only [decide_eq_true_eq] at h; omega
theorem bf_asym {x y : E3} (h : bf x y = true) : bf y x = false := by unfold bf at *; simp only [decide_eq_true_eq, decide_eq_false_iff_not] at *; omega
theorem insK_part {l : List E3} {a : Nat} : ∀ k, a + 1 + k ≤ l.length → Part l (insK l a k) a (a + 1 + k) := by
  intro k
  induction k with
  | zero =>
    intro h
    have hx : l.drop a = l[a] :: l.drop (a + 1) := List.drop_eq_getElem_cons (by omega)
    refine ⟨l.take a, [l[a]], [l[a]], l.drop (a + 1), ?_, ?_, by rw [List.length_take]; omega, rfl, rfl, Stb.refl _, List.pairwise_singleton _ _⟩ <;>
    · rw [List.append_assoc, List.singleton_append, ← hx]; simp [insK]
  | succ k ih =>
    intro h
    obtain ⟨P, A, B, Q, h1, h2, h3, h4, h5, h6, h7⟩ := ih (by omega)
    cases Q with
    | nil =>
      have := congrArg List.length h1
      simp only [List.length_append, List.length_nil] at this; omega
    | cons y Q =>
      obtain ⟨B1, B2, e1, e2, e3, e4⟩ := sink_part (P := P) (Q := Q) (y := y) h3 B.length B [] rfl (by simpa using h7) (by simp)
      have hk : a + B.length = a + 1 + k := by omega
      refine ⟨P, A ++ [y], B1 ++ y :: B2, Q, by rw [h1]; simp, ?_, h3, by simp; omega, by rw [e1] at h5; simp only [List.length_append, List.length_cons] at h5 ⊢; omega, ?_, ?_⟩
      · rw [insK, h2, ← hk]
        simp only [List.append_nil, List.nil_append] at e2
        rw [e2]; simp
      · refine (h6.app (Stb.refl [y])).trans ?_
        rw [e1, List.append_assoc]
        exact (Stb.refl B1).app ((Stb.swap fun x hx z hz => by rw [List.mem_singleton.1 hz]; exact fun e => bf_ne (e3 x hx) e.symm).trans (Stb.refl _))
      · rw [e1] at h7
        refine Down.app h7.left (List.pairwise_cons.2 ⟨fun z hz => bf_asym (e3 z hz), h7.right⟩) fun x hx z hz => ?_
        rcases List.mem_cons.1 hz with rfl | hz
        · exact e4 x hx
        · exact h7.le hx hz
theorem insM_part {l : List E3} {a b : Nat} (hab : a ≤ b) (h : b ≤ l.length) : Part l (insM l a b) a b := by
  by_cases hb : a + 1 ≤ b
  · have := insK_part (l := l) (a := a) (b - (a + 1)) (by omega)
    rwa [show a + 1 + (b - (a + 1)) = b by omega] at this
  · obtain rfl : a = b := by omega
    refine ⟨l.take a, [], [], l.drop a, by simp, ?_, by rw [List.length_take]; omega, rfl, rfl, Stb.refl _, List.Pairwise.nil⟩
    unfold insM
    rw [show a - (a + 1) = 0 by omega]; simp [insK]
theorem insM_len (l : List E3) (a b : Nat) : (insM l a b).length = l.length := insK_len _ _ _
end Brv.Stats
/-
  The walks of package stats.
-/
set_option linter.unusedVariables false
set_option linter.unusedSimpArgs false
set_option maxRecDepth 4000
namespace Go.Proofs.Ytlhkpakbenghgaa
open Go Brv Brv.Stats
theorem hot1_ok (x y : E3) : SpecS Try.prog 24 [.agg (cellB x).toArray, .agg (cellB y).toArray] [] (fun v H' => v = .int .i64 (cmpF y.2.1 x.2.1) ∧ H' = []) := by
  refine SpecS.enter Try.func24 rfl 10 rfl (Nat.le_of_ble_eq_true rfl) (fun o => ?_)
  refine SG.seq ?_
  refine SG.region ?_
  refine SL.step rfl rfl (CS.boxA rfl) ?_
  rintro _ _ ⟨b2, rfl, rfl⟩
  refine SL.step rfl rfl (CS.boxA rfl) ?_
  rintro _ _ ⟨b3, rfl, rfl⟩
  refine SL.val rfl rfl (fun w9 F9 S9 s => R.as rfl) ?_
  refine SL.nil ?_
  refine SN.seq ?_
  refine SG.seq ?_
  refine SG.region ?_
  refine SL.val rfl rfl (fun w9 F9 S9 s => R.fld rfl) ?_
  refine SL.val rfl rfl (fun w9 F9 S9 s => R.ldB (v := .int .i64 y.2.1) rfl (s.cel (by repeat (first | exact SelB.blk | exact SelB.fz | apply SelB.there))) (by rfl)) ?_
  refine SL.val rfl rfl (fun w9 F9 S9 s => R.fld rfl) ?_
  refine SL.val rfl rfl (fun w9 F9 S9 s => R.ldB (v := .int .i64 x.2.1) rfl (s.cel (by repeat (first | exact SelB.blk | exact SelB.fz | apply SelB.there))) (by rfl)) ?_
  refine SL.step rfl rfl (CS.callR rfl go25 (fun w9 F9 S9 s => (cmpI_ok y.2.1 x.2.1 w9).mono fun v w1 ⟨h1, h2⟩ => ⟨h1, by rw [h2]; exact Ext.refl _ _⟩)) ?_
  rintro _ _ ⟨rfl, rfl⟩
  refine SL.val rfl rfl (fun w9 F9 S9 s => R.as rfl) ?_
  refine SL.nil ?_
  refine SN.seq ?_
  exact SG.ret1 rfl rfl ((Imp.sels (by repeat (first | exact Sels.nil | apply Sels.cons | exact Sel.keep | exact Sel.here | apply Sel.there)))) (⟨rfl, rfl⟩)

theorem hot2_ok (x : E3) : SpecS Try.prog 30 [.agg (cellB x).toArray] [] (fun v H' => v = .int .i64 x.1 ∧ H' = []) := by
  refine SpecS.enter Try.func30 rfl 5 rfl (Nat.le_of_ble_eq_true rfl) (fun o => ?_)
  refine SG.seq ?_
  refine SG.region ?_
  refine SL.step rfl rfl (CS.boxA rfl) ?_
  rintro _ _ ⟨b1, rfl, rfl⟩
  refine SL.val rfl rfl (fun w9 F9 S9 s => R.as rfl) ?_
  refine SL.nil ?_
  refine SN.seq ?_
  refine SG.seq ?_
  refine SG.region ?_
  refine SL.val rfl rfl (fun w9 F9 S9 s => R.fld rfl) ?_
  refine SL.val rfl rfl (fun w9 F9 S9 s => R.ldB (v := .int .i64 x.1) rfl (s.cel (by repeat (first | exact SelB.blk | exact SelB.fz | apply SelB.there))) (by rfl)) ?_
  refine SL.val rfl rfl (fun w9 F9 S9 s => R.as rfl) ?_
  refine SL.nil ?_
  refine SN.seq ?_
  exact SG.ret1 rfl rfl ((Imp.sels (by repeat (first | exact Sels.nil | apply Sels.cons | exact Sel.keep | exact Sel.here | apply Sel.there)))) (⟨rfl, rfl⟩)

theorem bf_cmp {x y : E3} : (cmpF y.2.1 x.2.1 < 0) ↔ bf x y = true := by rw [cmpF_neg]; exact Iff.rfl

theorem ins_ok (a : Option Addr) (n c : Nat) (l0 : List E3) (a0 b0 : Nat) (hab : a0 ≤ b0) (hbn : b0 ≤ n) (hn : n ≤ 4611686018427387904) : SpecS Try.prog 80 [.slice a n c, .int .i64 (a0 : Int), .int .i64 (b0 : Int), .func (.func 24) #[] #[]] [own 32 3 a n c (List.map cellB l0).flatten] (fun v H' => v = .tuple #[] ∧ H' = [own 32 3 a n c (List.map cellB (insM l0 a0 b0)).flatten]) := by
  refine SpecS.enter Try.func80 rfl 53 rfl (Nat.le_of_ble_eq_true rfl) (fun o => ?_)
  refine SG.fact (fun w9 F9 S9 s => s.ownL (show Sel _ (own 32 3 a n c (List.map cellB l0).flatten) _ from (by repeat (first | exact Sel.keep | exact Sel.here | apply Sel.there)))) (fun hf9 => ?_)
  obtain ⟨hll0, hnc⟩ := hf9
  rw [flat_len cellB_len] at hll0
  have hll : l0.length = n := by omega
  refine SG.seq ?_
  refine SG.region ?_
  refine SL.val rfl rfl (fun w9 F9 S9 s => R.mv rfl) ?_
  refine SL.val rfl rfl (fun w9 F9 S9 s => R.addW rfl rfl ((a0 + 1 + 0 : Nat) : Int) (by rw [wrap_i64 (by omega)]; omega)) ?_
  refine SL.val rfl rfl (fun w9 F9 S9 s => R.as rfl) ?_
  refine SL.nil ?_
  refine SN.seq ?_
  refine SG.block ?_
  refine SG.loop (X := Nat) (fun k => [(0, .slice a n c), (1, .int .i64 (a0 : Int)), (2, .int .i64 (b0 : Int)), (3, .func (.func 24) #[] #[]), (8, .int .i64 ((a0 + 1 + k : Nat) : Int))]) (fun k => [own 32 3 a n c (List.map cellB (insK l0 a0 k)).flatten]) (fun k => k ≤ b0 - (a0 + 1)) (fun k => b0 - (a0 + 1) - k) (0) (Sub.cons rfl (Sub.cons rfl (Sub.cons rfl (Sub.cons rfl (Sub.cons rfl (Sub.nil _)))))) ((Imp.sels (by repeat (first | exact Sels.nil | apply Sels.cons | exact Sel.keep | exact Sel.here | apply Sel.there)))) (Nat.zero_le _) ?_
  intro k hk
  have hil := insK_len l0 a0 k
  show SG _ _ _ _ _ [(0, .slice a n c), (1, .int .i64 (a0 : Int)), (2, .int .i64 (b0 : Int)), (3, .func (.func 24) #[] #[]), (8, .int .i64 ((a0 + 1 + k : Nat) : Int))] [own 32 3 a n c (List.map cellB (insK l0 a0 k)).flatten] _
  refine SG.seq ?_
  refine SG.seq ?_
  refine SG.region ?_
  refine SL.val rfl rfl (fun w9 F9 S9 s => R.mv rfl) ?_
  refine SL.val rfl rfl (fun w9 F9 S9 s => R.mv rfl) ?_
  refine SL.val rfl rfl (fun w9 F9 S9 s => R.lss rfl rfl) ?_
  refine SL.nil ?_
  refine SN.seq ?_
  refine SG.condP rfl (fun h0 => ?_) (fun h0 => ?_)
  · refine SG.fact (fun w9 F9 S9 s => s.ownG (show Sel _ (own 32 3 a n c (List.map cellB (insK l0 a0 k)).flatten) _ from (by repeat (first | exact Sel.keep | exact Sel.here | apply Sel.there))) (by omega)) (fun hf9 => ?_)
    obtain ⟨g, rfl⟩ := hf9
    refine SG.skip ?_
    refine SN.seq ?_
    refine SG.seq ?_
    refine SG.block ?_
    refine SG.seq ?_
    refine SG.region ?_
    refine SL.val rfl rfl (fun w9 F9 S9 s => R.mv rfl) ?_
    refine SL.val rfl rfl (fun w9 F9 S9 s => R.as rfl) ?_
    refine SL.nil ?_
    refine SN.seq ?_
    refine SG.block ?_
    refine SG.loop (X := Nat × List E3) (fun y => [(0, .slice (some ⟨g, 0, none⟩) n c), (1, .int .i64 (a0 : Int)), (2, .int .i64 (b0 : Int)), (3, .func (.func 24) #[] #[]), (8, .int .i64 ((a0 + 1 + k : Nat) : Int)), (9, .int .i64 (y.1 : Int))]) (fun y => [own 32 3 (some ⟨g, 0, none⟩) n c (List.map cellB y.2).flatten]) (fun y => y.2.length = n ∧ y.1 < n ∧ sinkM y.2 a0 y.1 = insK l0 a0 (k + 1)) (fun y => y.1) ((a0 + 1 + k, insK l0 a0 k)) (Sub.cons rfl (Sub.cons rfl (Sub.cons rfl (Sub.cons rfl (Sub.cons rfl (Sub.cons rfl (Sub.nil _))))))) ((Imp.sels (by repeat (first | exact Sels.nil | apply Sels.cons | exact Sel.keep | exact Sel.here | apply Sel.there)))) (⟨by show (insK l0 a0 k).length = n; omega, by show a0 + 1 + k < n; omega, rfl⟩) ?_
    rintro ⟨j, l⟩ ⟨hl, hj, hs⟩
    dsimp only at hl hj hs
    show SG _ _ _ _ _ [(0, .slice (some ⟨g, 0, none⟩) n c), (1, .int .i64 (a0 : Int)), (2, .int .i64 (b0 : Int)), (3, .func (.func 24) #[] #[]), (8, .int .i64 ((a0 + 1 + k : Nat) : Int)), (9, .int .i64 (j : Int))] [own 32 3 (some ⟨g, 0, none⟩) n c (List.map cellB l).flatten] _
    refine SG.seq ?_
    refine SG.seq ?_
    refine SG.draw [14] [0, 1, 2, 3, 4, 5, 6, 7, 8, 9, 10, 11, 12, 13, 14, 15, 16] (by decide +kernel) rfl ?_
    refine SW.pure rfl rfl rfl rfl (fun w9 => R.mv rfl) ?_
    refine SW.pure rfl rfl rfl rfl (fun w9 => R.mv rfl) ?_
    refine SW.pure rfl rfl rfl rfl (fun w9 => R.gtr rfl rfl) ?_
    refine SW.pure rfl rfl rfl rfl (fun w9 => R.mv rfl) ?_
    refine SW.caseP 21 rfl (fun hg4_3 => ?_) (fun hg4_3 => ?_)
    · obtain ⟨j1, rfl⟩ : ∃ j1, j = j1 + 1 := ⟨j - 1, by omega⟩
      obtain ⟨x, hx⟩ : ∃ x, l[j1]? = some x := ⟨_, List.getElem?_eq_getElem (by omega)⟩
      obtain ⟨y, hy⟩ : ∃ y, l[j1 + 1]? = some y := ⟨_, List.getElem?_eq_getElem (by omega)⟩
      refine SW.pure rfl rfl rfl rfl (fun w9 => R.mv rfl) ?_
      refine SW.pure rfl rfl rfl rfl (fun w9 => R.mv rfl) ?_
      refine SW.pure rfl rfl rfl rfl (fun w9 => R.mv rfl) ?_
      refine SW.pure rfl rfl rfl rfl (fun w9 => R.idxO (i := ((j1 + 1 : Nat) : Int)) rfl rfl (by omega) (by omega) rfl ((j1 + 1) * 3) (by omega)) ?_
      refine SW.read rfl rfl rfl rfl (fun w9 F9 S9 s => R.ldN (vs := cellB y) rfl (row_ld cellB_len (s.ownC (show Sel _ (own 32 3 (some ⟨g, 0, none⟩) n c (List.map cellB l).flatten) _ from (by repeat (first | exact Sel.keep | exact Sel.here | apply Sel.there)))) hy) rfl) ?_
      refine SW.pure rfl rfl rfl rfl (fun w9 => R.mv rfl) ?_
      refine SW.pure rfl rfl rfl rfl (fun w9 => R.mv rfl) ?_
      refine SW.pure rfl rfl rfl rfl (fun w9 => R.subW rfl rfl (j1 : Int) (by rw [wrap_i64 (by omega)]; omega)) ?_
      refine SW.pure rfl rfl rfl rfl (fun w9 => R.idxO (i := (j1 : Int)) rfl rfl (by omega) (by omega) rfl (j1 * 3) (by omega)) ?_
      refine SW.read rfl rfl rfl rfl (fun w9 F9 S9 s => R.ldN (vs := cellB x) rfl (row_ld cellB_len (s.ownC (show Sel _ (own 32 3 (some ⟨g, 0, none⟩) n c (List.map cellB l).flatten) _ from (by repeat (first | exact Sel.keep | exact Sel.here | apply Sel.there)))) hx) rfl) ?_
      refine SW.step rfl rfl rfl rfl (CS.callV rfl rfl rfl go24 (hot1_ok y x) (by repeat (first | exact Sels.nil | apply Sels.cons | exact Sel.keep | exact Sel.here | apply Sel.there))) ?_
      rintro _ _ ⟨_, ⟨rfl, rfl⟩, rfl⟩
      refine ⟨⟨.inl (by decide +kernel), ⟨.inl (by decide +kernel), trivial⟩⟩, ?_⟩
      refine SW.n0 ?_
      refine SW.pure rfl rfl rfl rfl (fun w9 => R.lss rfl rfl) ?_
      first | refine SW.pure rfl rfl rfl rfl (fun w9 => R.pickT rfl rfl) ?_ | refine SW.pure rfl rfl rfl rfl (fun w9 => R.pickF rfl rfl) ?_
      refine SW.nil ?_
      refine SN.seq ?_
      refine SG.condP rfl (fun h1 => ?_) (fun h1 => ?_)
      · refine SG.skip ?_
        refine SN.seq ?_
        refine SG.seq ?_
        refine SG.block ?_
        refine SG.draw [15, 17] [0, 1, 2, 3, 4, 5, 6, 7, 8, 9, 10, 11, 12, 13, 14, 15, 16, 17] (by decide +kernel) rfl ?_
        refine SW.pure rfl rfl rfl rfl (fun w9 => R.mv rfl) ?_
        refine SW.pure rfl rfl rfl rfl (fun w9 => R.mv rfl) ?_
        refine SW.pure rfl rfl rfl rfl (fun w9 => R.mv rfl) ?_
        refine SW.pure rfl rfl rfl rfl (fun w9 => R.mv rfl) ?_
        refine SW.pure rfl rfl rfl rfl (fun w9 => R.subW rfl rfl (j1 : Int) (by rw [wrap_i64 (by omega)]; omega)) ?_
        refine SW.pure rfl rfl rfl rfl (fun w9 => R.mv rfl) ?_
        refine SW.pure rfl rfl rfl rfl (fun w9 => R.mv rfl) ?_
        refine SW.pure rfl rfl rfl rfl (fun w9 => R.subW rfl rfl (j1 : Int) (by rw [wrap_i64 (by omega)]; omega)) ?_
        refine SW.pure rfl rfl rfl rfl (fun w9 => R.idxO (i := (j1 : Int)) rfl rfl (by omega) (by omega) rfl (j1 * 3) (by omega)) ?_
        refine SW.read rfl rfl rfl rfl (fun w9 F9 S9 s => R.ldN (vs := cellB x) rfl (row_ld cellB_len (s.ownC (show Sel _ (own 32 3 (some ⟨g, 0, none⟩) n c (List.map cellB l).flatten) _ from (by repeat (first | exact Sel.keep | exact Sel.here | apply Sel.there)))) hx) rfl) ?_
        refine SW.pure rfl rfl rfl rfl (fun w9 => R.mv rfl) ?_
        refine SW.pure rfl rfl rfl rfl (fun w9 => R.mv rfl) ?_
        refine SW.pure rfl rfl rfl rfl (fun w9 => R.idxO (i := ((j1 + 1 : Nat) : Int)) rfl rfl (by omega) (by omega) rfl ((j1 + 1) * 3) (by omega)) ?_
        refine SW.read rfl rfl rfl rfl (fun w9 F9 S9 s => R.ldN (vs := cellB y) rfl (row_ld cellB_len (s.ownC (show Sel _ (own 32 3 (some ⟨g, 0, none⟩) n c (List.map cellB l).flatten) _ from (by repeat (first | exact Sel.keep | exact Sel.here | apply Sel.there)))) hy) rfl) ?_
        refine SW.pure rfl rfl rfl rfl (fun w9 => R.idxO (i := ((j1 + 1 : Nat) : Int)) rfl rfl (by omega) (by omega) rfl ((j1 + 1) * 3) (by omega)) ?_
        refine SW.step0 rfl rfl rfl (CS.stR (f := cellB) (v := x) cellB_len cellB_one rfl rfl (show Sel _ (own 32 3 (some ⟨g, 0, none⟩) n c (List.map cellB l).flatten) _ from (by repeat (first | exact Sel.keep | exact Sel.here | apply Sel.there))) (by omega) (by first | omega | (simp only [List.length_set]; omega))) ?_
        rintro _ _ rfl
        refine ⟨⟨.inl (by decide +kernel), ⟨.inl (by decide +kernel), trivial⟩⟩, ?_⟩
        refine SW.pure rfl rfl rfl rfl (fun w9 => R.idxO (i := (j1 : Int)) rfl rfl (by omega) (by omega) rfl (j1 * 3) (by omega)) ?_
        refine SW.step0 rfl rfl rfl (CS.stR (f := cellB) (v := y) cellB_len cellB_one rfl rfl (show Sel _ (own 32 3 (some ⟨g, 0, none⟩) n c (List.map cellB (l.set (j1 + 1) x)).flatten) _ from (by repeat (first | exact Sel.keep | exact Sel.here | apply Sel.there))) (by omega) (by first | omega | (simp only [List.length_set]; omega))) ?_
        rintro _ _ rfl
        refine ⟨⟨.inl (by decide +kernel), ⟨.inl (by decide +kernel), trivial⟩⟩, ?_⟩
        refine SW.nil ?_
        refine SN.block ?_
        refine SN.seq ?_
        refine SG.region ?_
        refine SL.val rfl rfl (fun w9 F9 S9 s => R.mv rfl) ?_
        refine SL.val rfl rfl (fun w9 F9 S9 s => R.subW rfl rfl (j1 : Int) (by rw [wrap_i64 (by omega)]; omega)) ?_
        refine SL.val rfl rfl (fun w9 F9 S9 s => R.as rfl) ?_
        refine SL.nil ?_
        exact SN.again ((j1, (l.set (j1 + 1) x).set j1 y)) (by show j1 < j1 + 1; omega) (Sub.cons rfl (Sub.cons rfl (Sub.cons rfl (Sub.cons rfl (Sub.cons rfl (Sub.cons rfl (Sub.nil _))))))) ((Imp.sels (by repeat (first | exact Sels.nil | apply Sels.cons | exact Sel.keep | exact Sel.here | apply Sel.there)))) (⟨by show ((l.set (j1 + 1) x).set j1 y).length = n; simp only [List.length_set]; exact hl, by show j1 < n; omega, by rw [← hs, sinkM_yes (by omega) hx hy (bf_cmp.1 h1)]⟩)
      · have hsf : insK l0 a0 (k + 1) = l := by rw [← hs]; exact sinkM_no hx hy (Bool.eq_false_iff.2 fun e => h1 (bf_cmp.2 e))
        rw [← hsf]
        refine SG.exit _ rfl ?_
        refine SN.block ?_
        refine SN.seq ?_
        refine SG.region ?_
        refine SL.val rfl rfl (fun w9 F9 S9 s => R.mv rfl) ?_
        refine SL.val rfl rfl (fun w9 F9 S9 s => R.addW rfl rfl ((a0 + 1 + (k + 1) : Nat) : Int) (by rw [wrap_i64 (by omega)]; omega)) ?_
        refine SL.val rfl rfl (fun w9 F9 S9 s => R.as rfl) ?_
        refine SL.nil ?_
        exact SN.again (k + 1) (by show b0 - (a0 + 1) - (k + 1) < b0 - (a0 + 1) - k; omega) (Sub.cons rfl (Sub.cons rfl (Sub.cons rfl (Sub.cons rfl (Sub.cons rfl (Sub.nil _)))))) ((Imp.sels (by repeat (first | exact Sels.nil | apply Sels.cons | exact Sel.keep | exact Sel.here | apply Sel.there)))) (by show k + 1 ≤ b0 - (a0 + 1); omega)
    · have hsf : insK l0 a0 (k + 1) = l := by rw [← hs]; exact sinkM_stop (by omega)
      rw [← hsf]
      refine SW.pass (hd := rfl) rfl rfl rfl ?_
      refine SW.pass (hd := rfl) rfl rfl rfl ?_
      refine SW.pass (hd := rfl) rfl rfl rfl ?_
      refine SW.pass (hd := rfl) rfl rfl rfl ?_
      refine SW.pass (hd := rfl) rfl rfl rfl ?_
      refine SW.pass (hd := rfl) rfl rfl rfl ?_
      refine SW.pass (hd := rfl) rfl rfl rfl ?_
      refine SW.pass (hd := rfl) rfl rfl rfl ?_
      refine SW.pass (hd := rfl) rfl rfl rfl ?_
      refine SW.pass (hd := rfl) rfl rfl rfl ?_
      refine SW.passS rfl rfl rfl rfl ⟨trivial, ?_⟩
      refine SW.pass (hd := rfl) rfl rfl rfl ?_
      first | refine SW.pure rfl rfl rfl rfl (fun w9 => R.pickT rfl rfl) ?_ | refine SW.pure rfl rfl rfl rfl (fun w9 => R.pickF rfl rfl) ?_
      refine SW.nil ?_
      refine SN.seq ?_
      refine SG.condF rfl ?_
      refine SG.exit _ rfl ?_
      refine SN.block ?_
      refine SN.seq ?_
      refine SG.region ?_
      refine SL.val rfl rfl (fun w9 F9 S9 s => R.mv rfl) ?_
      refine SL.val rfl rfl (fun w9 F9 S9 s => R.addW rfl rfl ((a0 + 1 + (k + 1) : Nat) : Int) (by rw [wrap_i64 (by omega)]; omega)) ?_
      refine SL.val rfl rfl (fun w9 F9 S9 s => R.as rfl) ?_
      refine SL.nil ?_
      exact SN.again (k + 1) (by show b0 - (a0 + 1) - (k + 1) < b0 - (a0 + 1) - k; omega) (Sub.cons rfl (Sub.cons rfl (Sub.cons rfl (Sub.cons rfl (Sub.cons rfl (Sub.nil _)))))) ((Imp.sels (by repeat (first | exact Sels.nil | apply Sels.cons | exact Sel.keep | exact Sel.here | apply Sel.there)))) (by show k + 1 ≤ b0 - (a0 + 1); omega)
  · obtain rfl : b0 - (a0 + 1) = k := by omega
    refine SG.exit _ rfl ?_
    exact SN.end0 rfl ((Imp.sels (by repeat (first | exact Sels.nil | apply Sels.cons | exact Sel.keep | exact Sel.here | apply Sel.there)))) (⟨rfl, rfl⟩)

end Go.Proofs.Ytlhkpakbenghgaa
/-
  Iterators that box what consumes them.
-/
set_option linter.unusedVariables false
set_option linter.unusedSimpArgs false
namespace Brv
open Go
/-- As IterS, for consumers of one cell. -/
def IterY (P : Program) (gf : FuncId) (lb : List Value) (HI : List Asn) (N : Nat) (E : Nat → List Value → (World → Prop) → Prop) : Prop :=
  ∀ (y : Value) (J Jx : Nat → Asn), y.oneCell' = true → (∀ k vs p, k < N → E k vs p → YSpec P y vs [sh p, J k] (fun b H' => H' = [if b then J (k + 1) else Jx (k + 1)])) →
    SpecS P gf (y :: lb) (J 0 :: HI) (fun _ H' => H' = J N :: HI ∨ ∃ k, k ≤ N ∧ H' = Jx k :: HI)
section
variable {P : Program} {B : Exit → Act → World → Prop} {n : Nat} {df : List Deferred} {ks : List K} {ρ : Env} {o : Org} {H : List Asn}
/-- for .. := range g { body } -/
theorem SG.rangeY {g : Operand} {ps : Array Tmp} {assign body : Code} {gf : FuncId} {lb : List Value} {Nn : Nat} {E : Nat → List Value → (World → Prop) → Prop} {HI : List Asn}
    (hps : ps.toList.all (fun p => Nat.blt p n) = true) (hg : ev ρ g = some (.func (.func gf) #[] lb.toArray)) (eg : ∀ (vs : Array Value) w, (callFunc gf vs).run P w = .ok (.enter gf vs) w)
    (hit : IterY P gf lb HI Nn E) {X Y : Type} (HJ : Nat → X → List Asn) (I : Nat → X → Prop) (HX : Code → Nat → Y → List Asn) (IX : Code → Nat → Y → Prop) (x₀ : X) (i : Imp H (HJ 0 x₀ ++ HI)) (h0 : I 0 x₀)
    (hround : ∀ l k x vs p, k < Nn → I k x → E k vs p → vs.length = ps.size ∧ ∀ o', SG P (assignS P l (roundS HJ I HX IX k) body o') ⟨n, [], some l⟩ o' [] (bindEnv ps.toList vs ρ) (sh p :: HJ k x) assign)
    (hdone : ∀ d x, I Nn x → SN P B ⟨n, ⟨.collected d, #[]⟩ :: df, none⟩ o ks ρ (dfr d :: HJ Nn x ++ HI))
    (hstop : ∀ d k c y, k ≤ Nn → IX c k y → SG P B ⟨n, ⟨.collected d, #[]⟩ :: df, none⟩ o ks ρ (dfr d :: HX c k y ++ HI) c) :
    SG P B ⟨n, df, none⟩ o ks ρ H (.rangeFunc g ps assign body) := by
  intro w F₀ S₀ s₀ f₀ a ha
  obtain ⟨Fw, Sw, s, f⟩ := i.at s₀ f₀
  obtain ⟨Fj, Sj, Fi, Si, ⟨a1, a2, a3, a4⟩, ⟨b1, b2, b3⟩, hsj, hsi⟩ := s.sep.split
  refine wpIn_rangeFunc (F := Fence.wide) ?_
  intro fn hfn
  obtain ⟨rec, hrec⟩ : ∃ rec : LoopState → Option Code → Loop, rec = fun st pe => { state := st, pending := pe, fn, tmps := a.tmps, params := ps, assign, body, defers := w.heap.size } := ⟨_, rfl⟩
  obtain ⟨W1, hW1⟩ : ∃ W1, (w.alloc (.deferred (some []))).alloc (.loop (rec .ready none)) = W1 := ⟨_, rfl⟩
  have hL1 : W1.heap[w.heap.size + 1]? = some (.loop (rec .ready none)) := by
    rw [← hW1]; have := World.alloc_heap_new (w.alloc (.deferred (some []))) (.loop (rec .ready none)); rwa [World.size_alloc] at this
  have hK1 : W1.heap[w.heap.size]? = some (.deferred (some [])) := by
    rw [← hW1]; exact ((Ext.alloc (w.alloc (.deferred (some []))) _).keep _ (by simp) (by simp)).trans (World.alloc_heap_new w _)
  have hE1 : Ext [] w W1 := by rw [← hW1]; exact (Ext.alloc w _).trans0 (Ext.alloc _ _)
  have hs1 : W1.heap.size = w.heap.size + 2 := by rw [← hW1]; simp
  obtain ⟨d, hd⟩ : ∃ d, d = w.heap.size := ⟨_, rfl⟩
  obtain ⟨l, hl⟩ : ∃ l, l = w.heap.size + 1 := ⟨_, rfl⟩
  rw [← hl] at hL1
  rw [← hd] at hK1
  -- the consumer's assertions
  let J : Nat → Asn := fun k => ⟨fun F S W => ∃ x F' S', I k x ∧ Sep (HJ k x) F' S' W ∧ (F = l :: d :: F' ∧ S = S') ∧ (l ∉ F' ∧ l ∉ S') ∧ (d ∉ F' ∧ d ∉ S') ∧ W.heap[l]? = some (.loop (rec .ready none)) ∧ W.heap[d]? = some (.deferred (some [])),
    by
      rintro F S M W W' ⟨x, F', S', h1, h2, ⟨rfl, rfl⟩, h3, h4, h5, h6⟩ he hF hS
      refine ⟨x, F', S, h1, h2.ext he (hF.mono (fun z hz => by simp [hz]) (subR _)) hS, ⟨rfl, rfl⟩, h3, h4, ?_, ?_⟩
      · exact (he.keep l (Array.getElem?_eq_some_iff.1 h5).1 (hF l (by simp))).trans h5
      · exact (he.keep d (Array.getElem?_eq_some_iff.1 h6).1 (hF d (by simp))).trans h6⟩
  let Jx : Nat → Asn := fun k => ⟨fun F S W => ∃ c y F' S', IX c k y ∧ Sep (HX c k y) F' S' W ∧ (F = l :: d :: F' ∧ S = S') ∧ (l ∉ F' ∧ l ∉ S') ∧ (d ∉ F' ∧ d ∉ S') ∧ W.heap[l]? = some (.loop (rec .done (some c))) ∧ W.heap[d]? = some (.deferred (some [])),
    by
      rintro F S M W W' ⟨c, y, F', S', h1, h2, ⟨rfl, rfl⟩, h3, h4, h5, h6⟩ he hF hS
      refine ⟨c, y, F', S, h1, h2.ext he (hF.mono (fun z hz => by simp [hz]) (subR _)) hS, ⟨rfl, rfl⟩, h3, h4, ?_, ?_⟩
      · exact (he.keep l (Array.getElem?_eq_some_iff.1 h5).1 (hF l (by simp))).trans h5
      · exact (he.keep d (Array.getElem?_eq_some_iff.1 h6).1 (hF d (by simp))).trans h6⟩
  refine ⟨w.heap.size + 1, [{ target := .collected w.heap.size, args := #[] }], W1, { target := .fn (.func gf) lb.toArray, args := #[.func (.yield (w.heap.size + 1)) #[] #[]] }, W1, gf,
    #[.func (.yield (w.heap.size + 1)) #[] #[]] ++ lb.toArray, W1, ?_, ?_, fun _ _ => trivial, ?_, fun h => (by cases h), ?_⟩
  · rw [← hW1, hrec]; exact run_enterLoop_outer _ _ _ _ _
  · simp only [resolve, ha.eval hg]
    simp [go_sem]
  · simp [invoke, go_sem, eg]
  · have hdl : d ≠ l := by omega
    have newF : ∀ {T : List Nat}, (∀ b ∈ T, b < w.heap.size) → l ∉ T ∧ d ∉ T := fun h => ⟨fun q => by have := h _ q; omega, fun q => by have := h _ q; omega⟩
    have ltj : ∀ b ∈ Fj, b < w.heap.size := fun b hb => s.ltF b (a1 hb)
    have ltsj : ∀ b ∈ Sj, b < w.heap.size := fun b hb => s.ltS b (a3 hb)
    have lti : ∀ b ∈ Fi, b < w.heap.size := fun b hb => s.ltF b (a2 hb)
    have ltsi : ∀ b ∈ Si, b < w.heap.size := fun b hb => s.ltS b (a4 hb)
    have hJ0 : (J 0).P (l :: d :: Fj) Sj W1 := ⟨x₀, Fj, Sj, h0, hsj.ext hE1 (Apart.nilR _) (Apart.nilR _), ⟨rfl, rfl⟩, ⟨(newF ltj).1, (newF ltsj).1⟩, ⟨(newF ltj).2, (newF ltsj).2⟩, hL1, hK1⟩
    have hst : St (J 0 :: HI) (l :: d :: Fj ++ Fi) (Sj ++ Si) W1 := by
      refine ⟨⟨l :: d :: Fj, Sj, Fi, Si, ⟨inL _ _, inR _ _, inL _ _, inR _ _⟩, ⟨?_, ?_, b3⟩, hJ0, hsi.ext hE1 (Apart.nilR _) (Apart.nilR _)⟩, ?_, ?_⟩
      · intro x hx hy
        simp only [List.mem_cons] at hx
        rcases hx with rfl | rfl | hx
        · exact (newF lti).1 hy
        · exact (newF lti).2 hy
        · exact b1 x hx hy
      · intro x hx hy
        simp only [List.mem_cons] at hx
        rcases hx with rfl | rfl | hx
        · exact (newF ltsi).1 hy
        · exact (newF ltsi).2 hy
        · exact b2 x hx hy
      · intro x hx
        simp only [List.cons_append, List.mem_cons, List.mem_append] at hx
        rcases hx with rfl | rfl | hx | hx
        · omega
        · omega
        · have := ltj x hx; omega
        · have := lti x hx; omega
      · intro x hx
        rcases List.mem_append.1 hx with hx | hx
        · have := ltsj x hx; omega
        · have := ltsi x hx; omega
    have hfr : From o W1 (l :: d :: Fj ++ Fi) (Sj ++ Si) := by
      refine ⟨f.ext.trans0 hE1, ?_, ?_⟩
      · intro x hx
        have hz := f.ext.size
        simp only [List.cons_append, List.mem_cons, List.mem_append] at hx
        rcases hx with rfl | rfl | hx | hx
        · exact .inr (by omega)
        · exact .inr (by omega)
        · exact f.fF x (a1 hx)
        · exact f.fF x (a2 hx)
      · intro x hx
        exact (List.mem_append.1 hx).elim (fun h => f.fS x (a3 h)) (fun h => f.fS x (a4 h))
    have hy : ∀ k vs p, k < Nn → E k vs p → YSpec P (.func (.yield l) #[] #[]) vs [Brv.sh p, J k] (fun b H' => H' = [if b then J (k + 1) else Jx (k + 1)]) := by
      intro k vs p hk hE A F S s
      obtain ⟨F1, S1, F2, S2, ⟨c1, c2, c3, c4⟩, ⟨e1, e2, e3⟩, hp, F3, S3, F4, S4, ⟨c1', c2', c3', c4'⟩, _, hJ, _⟩ := s.sep
      obtain ⟨x, F', S', hi, hsep, ⟨rfl, rfl⟩, ⟨l1, l2⟩, ⟨d1, d2⟩, hl', hd'⟩ := hJ
      refine .inl ⟨_, rfl, ?_⟩
      have hlt : l < A.heap.size := (Array.getElem?_eq_some_iff.1 hl').1
      have hltd : d < A.heap.size := (Array.getElem?_eq_some_iff.1 hd').1
      obtain ⟨hlen, hG⟩ := hround l k x vs p hk hi hE
      have hy := run_yield (P := P) (args := vs.toArray) hl' (by rw [hrec]; simpa using hlen)
      rw [hrec] at hy
      refine ⟨fn, _, assign, body, hy, roundIn_of_wpIn hfn ?_⟩
      have hfr : Fr ⟨n, [], some l⟩ (bindEnv ps.toList vs ρ) { tmps := (ps.toList.zip vs).foldl (fun t (p, v) => t.setIfInBounds p v) a.tmps, defers := [] } :=
        bind_fr (n := ⟨n, [], some l⟩) ps.toList vs (a := { tmps := a.tmps, defers := [] }) ⟨ha.size, rfl, ha.vals⟩ (fun p hp => by simpa [Nat.blt_eq] using List.all_eq_true.1 hps p hp)
      have hz : (ps.zip vs.toArray).foldl (fun t (p, v) => t.setIfInBounds p v) a.tmps = (ps.toList.zip vs).foldl (fun t (p, v) => t.setIfInBounds p v) a.tmps := by
        rw [← Array.foldl_toList, Array.toList_zip]
      rw [hz]
      have hsA : St (Brv.sh p :: HJ k x) F' (S1 ++ S3) A := by
        refine ⟨⟨[], S1, F', S3, ⟨by simp, subR _, inL _ _, inR _ _⟩, ⟨Apart.nilL _, Apart.nilL _, e3.mono (subR _) (fun z hz => c1' (by simp [hz]))⟩, (instPersSh p).h _ _ _ hp, hsep⟩, fun z hz => s.ltF z (c2 (c1' (by simp [hz]))), ?_⟩
        intro z hz
        exact (List.mem_append.1 hz).elim (fun hz => s.ltS z (c3 hz)) (fun hz => s.ltS z (c4 (c3' hz)))
      have hw := hG ⟨A, F', S1 ++ S3⟩ A F' (S1 ++ S3) hsA (From.refl _ _ _) _ hfr
      refine wpIn_mono (F := Fence.wide.inRound l) (fen_wp (r := some l) hw) ?_
      intro e a₁ w₂ hq
      cases e with
      | normal =>
        obtain ⟨Hb, F2, S2, s2, f2, hq⟩ := hq
        have hd1 : d ∉ S1 := fun h => e3 d h (c1' (by simp))
        have hl1 : l ∉ S1 := fun h => e3 l h (c1' (by simp))
        have hFl : l ∈ F := c2 (c1' (by simp))
        have hFd : d ∈ F := c2 (c1' (by simp))
        have hFF : ∀ z ∈ F', z ∈ F := fun z hz => c2 (c1' (by simp [hz]))
        have hszA2 : A.heap.size ≤ w₂.heap.size := f2.ext.size
        have nF2 : l ∉ F2 ∧ d ∉ F2 := ⟨fun h => (f2.fF _ h).elim l1 (fun h => by simp only at h; omega), fun h => (f2.fF _ h).elim d1 (fun h => by simp only at h; omega)⟩
        have nS2 : l ∉ S2 ∧ d ∉ S2 := ⟨fun h => (f2.fS _ h).elim (fun h => (List.mem_append.1 h).elim hl1 l2) (fun h => h.elim l1 (fun h => by simp only at h; omega)), fun h => (f2.fS _ h).elim (fun h => (List.mem_append.1 h).elim hd1 d2) (fun h => h.elim d1 (fun h => by simp only at h; omega))⟩
        replace hl' : w₂.heap[l]? = some (.loop (rec .ready none)) := (f2.ext.keep l hlt l1).trans hl'
        replace hd' : w₂.heap[d]? = some (.deferred (some [])) := (f2.ext.keep d hltd d1).trans hd'
        have hlt9 : l < w₂.heap.size := (Array.getElem?_eq_some_iff.1 hl').1
        have hltd9 : d < w₂.heap.size := (Array.getElem?_eq_some_iff.1 hd').1
        have hbr := run_beginRound (P := P) hl' (by rw [hrec])
        refine ⟨_, hbr, ?_⟩
        have hl3 : (w₂.putObj l (.loop { rec .ready none with state := .busy })).heap[l]? = some (.loop { rec .ready none with state := .busy }) := World.putObj_heap_same hlt9
        have hd3 : (w₂.putObj l (.loop { rec .ready none with state := .busy })).heap[d]? = some (.deferred (some [])) := (World.putObj_heap_other hdl).trans hd'
        have hE3 := Ext.putObj w₂ l (.loop { rec .ready none with state := .busy })
        have apl : ∀ {T : List Nat}, l ∉ T → Apart T [l] := fun h z hz hz2 => h (by rw [← List.mem_singleton.1 hz2]; exact hz)
        have hsb : St Hb F2 S2 (w₂.putObj l (.loop { rec .ready none with state := .busy })) :=
          ⟨s2.sep.ext hE3 (apl nF2.1) (apl nS2.1), fun z hz => by simpa using s2.ltF z hz, fun z hz => by simpa using s2.ltS z hz⟩
        refine wpIn_mono (F := Fence.wide.inRound l) (fen_wp (r := some l) (hq _ F2 S2 hsb)) ?_
        have fin : ∀ (jump : Option Code) (W3 : World) (F5 S5 : List Nat), From ⟨w₂.putObj l (.loop { rec .ready none with state := .busy }), F2, S2⟩ W3 F5 S5 → (∀ b ∈ F5, b < W3.heap.size) → (∀ b ∈ S5, b < W3.heap.size) →
            (Instr.endRound l jump).run P W3 = .ok (.bool jump.isNone) (W3.putObj l (.loop (rec (if jump.isNone then .ready else .done) jump))) ∧
            (W3.putObj l (.loop (rec (if jump.isNone then .ready else .done) jump))).heap[l]? = some (.loop (rec (if jump.isNone then .ready else .done) jump)) ∧
            (W3.putObj l (.loop (rec (if jump.isNone then .ready else .done) jump))).heap[d]? = some (.deferred (some [])) ∧ (l ∉ F5 ∧ l ∉ S5) ∧ (d ∉ F5 ∧ d ∉ S5) ∧ Ext [l] W3 (W3.putObj l (.loop (rec (if jump.isNone then .ready else .done) jump))) ∧
            From ⟨A, F, S⟩ (W3.putObj l (.loop (rec (if jump.isNone then .ready else .done) jump))) (l :: d :: F5) S5 ∧ (∀ b ∈ l :: d :: F5, b < (W3.putObj l (.loop (rec (if jump.isNone then .ready else .done) jump))).heap.size) ∧ (∀ b ∈ S5, b < (W3.putObj l (.loop (rec (if jump.isNone then .ready else .done) jump))).heap.size) := by
          intro jump W3 F5 S5 fr h5 h6
          have hlt2 : l < (w₂.putObj l (.loop { rec .ready none with state := .busy })).heap.size := by simpa using hlt9
          have hltd2 : d < (w₂.putObj l (.loop { rec .ready none with state := .busy })).heap.size := by simpa using hltd9
          have hl4 : W3.heap[l]? = some (.loop { rec .ready none with state := .busy }) := (fr.ext.keep _ hlt2 nF2.1).trans hl3
          have hd4 : W3.heap[d]? = some (.deferred (some [])) := (fr.ext.keep _ hltd2 nF2.2).trans hd3
          have hlt4 : l < W3.heap.size := (Array.getElem?_eq_some_iff.1 hl4).1
          have hltd4 : d < W3.heap.size := (Array.getElem?_eq_some_iff.1 hd4).1
          have her := run_endRound (P := P) jump hl4
          rw [hrec] at her ⊢
          have hszA : w₂.heap.size ≤ W3.heap.size := by have := fr.ext.size; simpa using this
          have nF : l ∉ F5 ∧ d ∉ F5 := ⟨fun h => (fr.fF _ h).elim nF2.1 (fun h => by simp only [World.putObj, Array.size_setIfInBounds] at h; omega), fun h => (fr.fF _ h).elim nF2.2 (fun h => by simp only [World.putObj, Array.size_setIfInBounds] at h; omega)⟩
          have nS : l ∉ S5 ∧ d ∉ S5 := ⟨fun h => (fr.fS _ h).elim nS2.1 (fun h => h.elim nF2.1 (fun h => by simp only [World.putObj, Array.size_setIfInBounds] at h; omega)), fun h => (fr.fS _ h).elim nS2.2 (fun h => h.elim nF2.2 (fun h => by simp only [World.putObj, Array.size_setIfInBounds] at h; omega))⟩
          have hx2 := Ext.putObj W3 l (.loop { state := if jump.isNone = true then LoopState.ready else LoopState.done, pending := jump, fn := fn, tmps := a.tmps, params := ps, assign := assign, body := body, defers := w.heap.size })
          have hF2 : ∀ z ∈ F2, z ∈ F ∨ A.heap.size ≤ z := fun z hz => (f2.fF z hz).imp (hFF z) id
          have hE4 : Ext F A W3 := ((f2.ext.mono (M' := F) (fun z hz => .inl (hFF z hz))).transN hE3 (fun z hz => .inl (by rw [List.mem_singleton.1 hz]; exact hFl))).transN fr.ext (fun z hz => hF2 z hz)
          refine ⟨her, World.putObj_heap_same hlt4, (World.putObj_heap_other hdl).trans hd4, ⟨nF.1, nS.1⟩, ⟨nF.2, nS.2⟩, hx2, ⟨hE4.transN hx2 (fun z hz => .inl (by rw [List.mem_singleton.1 hz]; exact hFl)), ?_, ?_⟩, ?_, ?_⟩
          · intro z hz
            simp only [List.mem_cons] at hz
            rcases hz with rfl | rfl | hz
            · exact .inl hFl
            · exact .inl hFd
            · exact (fr.fF z hz).elim (hF2 z) (fun h => .inr (Nat.le_trans hszA2 (by simpa [World.putObj, Array.size_setIfInBounds] using h)))
          · intro z hz
            exact (fr.fS z hz).elim (fun h => (f2.fS z h).elim (fun h => .inl ((List.mem_append.1 h).elim (fun h => c3 h) (fun h => c4 (c3' h)))) (fun h => .inr (h.imp (hFF z) id))) (fun h => .inr (h.elim (hF2 z) (fun h => .inr (Nat.le_trans hszA2 (by simpa [World.putObj, Array.size_setIfInBounds] using h)))))
          · intro z hz
            simp only [List.mem_cons] at hz
            rcases hz with rfl | rfl | hz
            · simpa using hlt4
            · simpa using hltd4
            · simpa using h5 z hz
          · intro z hz; simpa using h6 z hz
        rintro e a3 W3 hp3
        cases e with
        | normal =>
          obtain ⟨x', F5, S5, hi', s5, fr⟩ := hp3
          obtain ⟨f1, f2, f3, n1, n2, f4, f5, f6, f7⟩ := fin none W3 F5 S5 fr s5.ltF s5.ltS
          refine ⟨_, _, f1, true, rfl, [J (k + 1)], l :: d :: F5, S5, by simp, ⟨⟨l :: d :: F5, S5, [], [], ⟨subR _, by simp, subR _, by simp⟩, ⟨Apart.nilR _, Apart.nilR _, Apart.nilR _⟩, ⟨x', F5, S5, hi', s5.sep.ext f4 (apl n1.1) (apl n1.2), ⟨rfl, rfl⟩, n1, n2, f2, f3⟩, trivial⟩, f6, f7⟩, f5⟩
        | ret =>
          obtain ⟨y', F5, S5, hi', s5, fr⟩ := hp3
          obtain ⟨f1, f2, f3, n1, n2, f4, f5, f6, f7⟩ := fin (some .ret) W3 F5 S5 fr s5.ltF s5.ltS
          refine ⟨_, _, f1, false, rfl, [Jx (k + 1)], l :: d :: F5, S5, by simp, ⟨⟨l :: d :: F5, S5, [], [], ⟨subR _, by simp, subR _, by simp⟩, ⟨Apart.nilR _, Apart.nilR _, Apart.nilR _⟩, ⟨_, y', F5, S5, hi', s5.sep.ext f4 (apl n1.1) (apl n1.2), ⟨rfl, rfl⟩, n1, n2, f2, f3⟩, trivial⟩, f6, f7⟩, f5⟩
        | exit id =>
          obtain ⟨y', F5, S5, hi', s5, fr⟩ := hp3
          obtain ⟨f1, f2, f3, n1, n2, f4, f5, f6, f7⟩ := fin (some (.exit id)) W3 F5 S5 fr s5.ltF s5.ltS
          refine ⟨_, _, f1, false, rfl, [Jx (k + 1)], l :: d :: F5, S5, by simp, ⟨⟨l :: d :: F5, S5, [], [], ⟨subR _, by simp, subR _, by simp⟩, ⟨Apart.nilR _, Apart.nilR _, Apart.nilR _⟩, ⟨_, y', F5, S5, hi', s5.sep.ext f4 (apl n1.1) (apl n1.2), ⟨rfl, rfl⟩, n1, n2, f2, f3⟩, trivial⟩, f6, f7⟩, f5⟩
        | goto t =>
          obtain ⟨y', F5, S5, hi', s5, fr⟩ := hp3
          obtain ⟨f1, f2, f3, n1, n2, f4, f5, f6, f7⟩ := fin (some (.goto t)) W3 F5 S5 fr s5.ltF s5.ltS
          refine ⟨_, _, f1, false, rfl, [Jx (k + 1)], l :: d :: F5, S5, by simp, ⟨⟨l :: d :: F5, S5, [], [], ⟨subR _, by simp, subR _, by simp⟩, ⟨Apart.nilR _, Apart.nilR _, Apart.nilR _⟩, ⟨_, y', F5, S5, hi', s5.sep.ext f4 (apl n1.1) (apl n1.2), ⟨rfl, rfl⟩, n1, n2, f2, f3⟩, trivial⟩, f6, f7⟩, f5⟩
        | panic ch => exact hp3.elim
        | outgrown => exact hp3.elim
      | _ => exact hq.elim
    have hm := hit (.func (.yield l) #[] #[]) J Jx rfl hy W1 _ _ hst
    have e : (Value.func (.yield l) #[] #[] :: lb).toArray = #[.func (.yield l) #[] #[]] ++ lb.toArray := by simp
    unfold Meets at hm
    rw [e] at hm
    rw [← hl]
    refine CallsIn.mono (callsIn_wide.2 hm) ?_
    intro e W2 he
    cases e with
    | returned v =>
      obtain ⟨H', F5, S5, hH, s5, fr⟩ := he
      have fr' := hfr.trans fr
      have apl : ∀ {T : List Nat}, l ∉ T → Apart T [l] := fun h z hz hz2 => h (by rw [← List.mem_singleton.1 hz2]; exact hz)
      have leave : ∀ {HL : List Asn} {F' S' F2 S2 : List Nat} (ob : Obj), (l :: d :: F' ⊆ F5 ∧ F2 ⊆ F5 ∧ S' ⊆ S5 ∧ S2 ⊆ S5) → (Apart (l :: d :: F') F2 ∧ Apart (l :: d :: F') S2 ∧ Apart S' F2) → Sep HL F' S' W2 → Sep HI F2 S2 W2 → (l ∉ F' ∧ l ∉ S') → (d ∉ F' ∧ d ∉ S') → W2.heap[d]? = some (.deferred (some [])) →
          ∃ F6 S6, St (dfr d :: HL ++ HI) F6 S6 (W2.putObj l ob) ∧ From o (W2.putObj l ob) F6 S6 := by
        intro HL F' S' F2 S2 ob ⟨g1, g2, g3, g4⟩ ⟨k1, k2, k3⟩ hh hhi n1 n2 hdd
        have hx := Ext.putObj W2 l ob
        refine ⟨d :: F' ++ F2, S' ++ S2, ⟨⟨[d], [], F' ++ F2, S' ++ S2, ⟨by simp, fun z hz => by simp at hz ⊢; exact .inr hz, by simp, subR _⟩, ⟨?_, ?_, Apart.nilL _⟩, ⟨rfl, (World.putObj_heap_other hdl).trans hdd⟩, ?_⟩, ?_, ?_⟩, ⟨fr'.ext.transN hx (fun z hz => by rw [List.mem_singleton.1 hz]; exact fr'.fF l (g1 (by simp))), ?_, ?_⟩⟩
        · intro z hz hz2
          rw [List.mem_singleton.1 hz] at hz2
          exact (List.mem_append.1 hz2).elim n2.1 (fun h => k1 d (by simp) h)
        · intro z hz hz2
          rw [List.mem_singleton.1 hz] at hz2
          exact (List.mem_append.1 hz2).elim n2.2 (fun h => k2 d (by simp) h)
        · refine Sep.join ⟨F', S', F2, S2, ⟨inL _ _, inR _ _, inL _ _, inR _ _⟩, ⟨k1.mono (fun z hz => by simp [hz]) (subR _), k2.mono (fun z hz => by simp [hz]) (subR _), k3⟩, hh.ext hx (apl n1.1) (apl n1.2), hhi.ext hx (apl (fun h => k1 l (by simp) h)) (apl (fun h => k2 l (by simp) h))⟩
        · intro z hz
          simp only [List.cons_append, List.mem_cons, List.mem_append] at hz
          have : z ∈ F5 := by
            rcases hz with rfl | hz | hz
            · exact g1 (by simp)
            · exact g1 (by simp [hz])
            · exact g2 hz
          simpa using s5.ltF z this
        · intro z hz
          have : z ∈ S5 := (List.mem_append.1 hz).elim (fun h => g3 h) (fun h => g4 h)
          simpa using s5.ltS z this
        · intro z hz
          simp only [List.cons_append, List.mem_cons, List.mem_append] at hz
          refine fr'.fF z ?_
          rcases hz with rfl | hz | hz
          · exact g1 (by simp)
          · exact g1 (by simp [hz])
          · exact g2 hz
        · intro z hz
          exact fr'.fS z ((List.mem_append.1 hz).elim (fun h => g3 h) (fun h => g4 h))
      rcases hH with rfl | ⟨k, hk, rfl⟩
      · obtain ⟨F1, S1, F2, S2, hsub, hap, ⟨x, F', S', hi, hsep, ⟨rfl, rfl⟩, n1, n2, hl', hd'⟩, hHI⟩ := s5.sep
        refine ⟨none, _, by have := run_endLoop (P := P) hl' (by rw [hrec]; simp); rw [hrec] at this; exact this, ?_⟩
        obtain ⟨F6, S6, s6, fr6⟩ := leave _ hsub hap hsep hHI n1 n2 hd'
        exact hdone d x hi _ F6 S6 s6 fr6 _ ⟨ha.size, by simp [ha.defers, hd], ha.vals⟩
      · obtain ⟨F1, S1, F2, S2, hsub, hap, ⟨c, y, F', S', hi, hsep, ⟨rfl, rfl⟩, n1, n2, hl', hd'⟩, hHI⟩ := s5.sep
        refine ⟨some c, _, by have := run_endLoop (P := P) hl' (by rw [hrec]; simp); rw [hrec] at this; exact this, ?_⟩
        obtain ⟨F6, S6, s6, fr6⟩ := leave _ hsub hap hsep hHI n1 n2 hd'
        exact fen_wp (r := none) (hstop d k c y hk hi _ F6 S6 s6 fr6 _ ⟨ha.size, by simp [ha.defers, hd], ha.vals⟩)
    | panicked ch => exact he.elim
    | outgrown => exact he.elim
end
end Brv
/-
  The walks of package flow.
-/
set_option linter.unusedVariables false
set_option linter.unusedSimpArgs false
set_option maxRecDepth 4000
namespace Go.Proofs.Ytlhkpakbenghgaa
open Go Brv
theorem cloBusy (a : Option Addr) (n c : Nat) (Rr : List (List Value)) (hR : ∀ r ∈ Rr, r.length = 3 ∧ ∀ u ∈ r, u.oneCell' = true) (hb : n * 24 ≤ 140737488355328) : SpecS Try.prog 57 [.slice a n c] [sh (fun w => Tab w a n 3 Rr)] (fun v H' => ∃ a' c', v = .slice a' n c' ∧ H' = [own 32 3 a' (n) c' (Rr.flatten)]) := by
  refine SpecS.enter Try.func57 rfl 8 rfl (Nat.le_of_ble_eq_true rfl) (fun o => ?_)
  refine SG.seq ?_
  refine SG.region ?_
  refine SL.val rfl rfl (fun w9 F9 S9 s => R.as rfl) ?_
  refine SL.nil ?_
  refine SN.seq ?_
  refine SG.seq ?_
  refine SG.seq ?_
  refine SG.region ?_
  refine SL.val rfl rfl (fun w9 F9 S9 s => R.mv rfl) ?_
  refine SL.val rfl rfl (fun w9 F9 S9 s => R.eqNilS rfl rfl) ?_
  refine SL.nil ?_
  refine SN.seq ?_
  refine SG.condB rfl (fun h0 => ?_) (fun h0 => ?_)
  · obtain rfl : a = none := by simpa using h0
    refine SG.fact (fun w9 F9 S9 s => tabR_none (s.sh (p := fun w => Tab w none n 3 Rr) (by repeat (first | exact Sel.keep | exact Sel.here | apply Sel.there))) (by decide)) (fun hf9 => ?_)
    obtain ⟨hn0, hR0⟩ := hf9
    subst hn0
    subst hR0
    refine SG.imp (Imp.ownNil 32 3) ?_
    refine SG.seq ?_
    refine SG.region ?_
    refine SL.val rfl rfl (fun w9 F9 S9 s => R.as rfl) ?_
    refine SL.nil ?_
    refine SN.seq ?_
    exact SG.ret1 rfl rfl ((Imp.sels (by repeat (first | exact Sels.nil | apply Sels.cons | exact Sel.keep | exact Sel.here | apply Sel.there)))) (⟨none, 0, rfl, rfl⟩)
  · refine SG.fact (fun w9 F9 S9 s => tabR_flat (s.sh (p := fun w => Tab w a n 3 Rr) (by repeat (first | exact Sel.keep | exact Sel.here | apply Sel.there)))) (fun hf9 => ?_)
    have hfl := hf9; clear hf9
    refine SG.skip ?_
    refine SN.seq ?_
    refine SG.seq ?_
    refine SG.region ?_
    refine SL.step rfl rfl (CS.buildA rfl rfl rfl rfl rfl [] rfl) ?_
    rintro _ _ ⟨b5, rfl, rfl⟩
    refine SL.val rfl rfl (fun w9 F9 S9 s => R.mv rfl) ?_
    refine SL.step rfl rfl (CS.imp (Imp.ownBlk (size := 3) (k := 0) (show Sel _ (blk b5 [] 32) _ from (by repeat (first | exact Sel.keep | exact Sel.here | apply Sel.there))) rfl (Nat.zero_le _)) (CS.app rfl rfl (by repeat (first | exact Sel.keep | exact Sel.here | apply Sel.there)) (fun w9 F9 S9 s => (s.sh (p := fun w => Tab w a n 3 Rr) (by repeat (first | exact Sel.keep | exact Sel.here | apply Sel.there))).cells) hfl (flat_oneR (fun r hr => (hR r hr).2)) (by simp [maxLen]; omega) (by omega))) ?_
    rintro _ _ ⟨a7, c7, rfl, rfl⟩
    refine SL.val rfl rfl (fun w9 F9 S9 s => R.as rfl) ?_
    refine SL.nil ?_
    rw [Nat.zero_add, List.nil_append]
    refine SN.seq ?_
    exact SG.ret1 rfl rfl ((Imp.sels (by repeat (first | exact Sels.nil | apply Sels.cons | exact Sel.keep | exact Sel.here | apply Sel.there)))) (⟨a7, c7, rfl, rfl⟩)

theorem valsBusy (a : Option Addr) (n c : Nat) : SpecS Try.prog 56 [.slice a n c] [] (fun v H' => ∃ b, v = .func (.func 85) #[] #[.pointer (some ⟨b, 0, none⟩)] ∧ H' = [fz b [.slice a n c] 29]) := by
  refine SpecS.enter Try.func56 rfl 4 rfl (Nat.le_of_ble_eq_true rfl) (fun o => ?_)
  refine SG.seq ?_
  refine SG.region ?_
  refine SL.step rfl rfl (CS.box1 rfl rfl) ?_
  rintro _ _ ⟨b1, rfl, rfl⟩
  refine SL.val rfl rfl (fun w9 F9 S9 s => R.as rfl) ?_
  refine SL.nil ?_
  refine SN.seq ?_
  refine SG.seq ?_
  refine SG.region ?_
  refine SL.val rfl rfl (fun w9 F9 S9 s => R.mkFunc rfl rfl) ?_
  refine SL.val rfl rfl (fun w9 F9 S9 s => R.as rfl) ?_
  refine SL.nil ?_
  refine SN.imp (Imp.fz (show Sel _ (blk b1 [.slice a n c] 29) _ from (by repeat (first | exact Sel.keep | exact Sel.here | apply Sel.there)))) ?_
  refine SN.seq ?_
  exact SG.ret1 rfl rfl ((Imp.sels (by repeat (first | exact Sels.nil | apply Sels.cons | exact Sel.keep | exact Sel.here | apply Sel.there)))) (⟨b1, rfl, rfl⟩)

theorem vals1Busy (y : Value) (b : Nat) (a : Option Addr) (n c : Nat) (Rr : List (List Value)) (J Jx : Nat → Asn) (hR : ∀ r ∈ Rr, r.length = 3 ∧ ∀ u ∈ r, u.oneCell' = true) (hb : n ≤ 140737488355328) (hY : ∀ k vs p, k < n → (fun k vs p => ∃ row, Rr[k]? = some row ∧ vs = [.agg row.toArray] ∧ p = fun _ => True) k vs p → YSpec Try.prog y vs [sh p, J k] (fun b H' => H' = [if b then J (k + 1) else Jx (k + 1)])) : SpecS Try.prog 85 [y, .pointer (some ⟨b, 0, none⟩)] [J 0, fz b [.slice a n c] 29, sh (fun w => Tab w a n 3 Rr)] (fun v H' => (H' = J n :: [fz b [.slice a n c] 29, sh (fun w => Tab w a n 3 Rr)] ∨ ∃ k, k ≤ n ∧ H' = Jx k :: [fz b [.slice a n c] 29, sh (fun w => Tab w a n 3 Rr)])) := by
  refine SpecS.enter Try.func85 rfl 16 rfl (Nat.le_of_ble_eq_true rfl) (fun o => ?_)
  refine SG.fact (fun w9 F9 S9 s => (s.sh (p := fun w => Tab w a n 3 Rr) (by repeat (first | exact Sel.keep | exact Sel.here | apply Sel.there))).len) (fun hf9 => ?_)
  have hnl := hf9; clear hf9
  refine SG.seq ?_
  refine SG.region ?_
  refine SL.val rfl rfl (fun w9 F9 S9 s => R.ldB (v := .slice a n c) rfl (s.cel (by repeat (first | exact SelB.blk | exact SelB.fz | apply SelB.there))) (by rfl)) ?_
  refine SL.val rfl rfl (fun w9 F9 S9 s => R.lenS rfl) ?_
  refine SL.val rfl rfl (fun w9 F9 S9 s => R.mv rfl) ?_
  refine SL.nil ?_
  refine SN.seq ?_
  refine SG.block ?_
  refine SG.loop (X := Nat) (fun k => [(0, y), (5, .slice a n c), (6, .int .i64 (n : Int)), (7, .int .i64 (k : Int))]) (fun k => [J k, fz b [.slice a n c] 29, sh (fun w => Tab w a n 3 Rr)]) (fun k => k ≤ n) (fun k => n - k) (0) (Sub.cons rfl (Sub.cons rfl (Sub.cons rfl (Sub.cons rfl (Sub.nil _))))) ((Imp.sels (by repeat (first | exact Sels.nil | apply Sels.cons | exact Sel.keep | exact Sel.here | apply Sel.there)))) (Nat.zero_le _) ?_
  intro k hk
  show SG _ _ _ _ _ [(0, y), (5, .slice a n c), (6, .int .i64 (n : Int)), (7, .int .i64 (k : Int))] [J k, fz b [.slice a n c] 29, sh (fun w => Tab w a n 3 Rr)] _
  refine SG.seq ?_
  refine SG.region ?_
  refine SL.val rfl rfl (fun w9 F9 S9 s => R.lss rfl rfl) ?_
  refine SL.nil ?_
  refine SN.seq ?_
  refine SG.seq ?_
  refine SG.condP rfl (fun h0 => ?_) (fun h0 => ?_)
  · obtain ⟨row, hr⟩ : ∃ row, Rr[k]? = some row := ⟨_, List.getElem?_eq_getElem (by omega)⟩
    obtain ⟨hrl, hr1⟩ := hR row (List.mem_of_getElem? hr)
    refine SG.fact (fun w9 F9 S9 s => tabR_pt (s.sh (p := fun w => Tab w a n 3 Rr) (by repeat (first | exact Sel.keep | exact Sel.here | apply Sel.there))) (by decide) hr) (fun hf9 => ?_)
    obtain ⟨q, hq⟩ := hf9
    refine SG.skip ?_
    refine SN.seq ?_
    refine SG.seq ?_
    refine SG.block ?_
    refine SG.seq ?_
    refine SG.region ?_
    refine SL.val rfl rfl (fun w9 F9 S9 s => R.idx rfl rfl (by omega) (by omega) q hq) ?_
    refine SL.val rfl rfl (fun w9 F9 S9 s => R.ldN (vs := row) rfl (tabR_ld (s.sh (p := fun w => Tab w a n 3 Rr) (by repeat (first | exact Sel.keep | exact Sel.here | apply Sel.there))) (by decide) hq hr) hrl) ?_
    refine SL.step rfl rfl (CS.alloc [.int .i64 0, .int .i64 0, .int .i64 0] rfl) ?_
    rintro _ _ ⟨b4, rfl, rfl⟩
    refine SL.step0 rfl (CS.stA (vs := row) rfl rfl (by repeat (first | exact Sel.keep | exact Sel.here | apply Sel.there)) hrl (by rfl) hr1) ?_
    rintro _ _ rfl
    refine SL.nil ?_
    refine SN.seq ?_
    refine SG.seq ?_
    refine SG.region ?_
    refine SL.val rfl rfl (fun w9 F9 S9 s => R.mv rfl) ?_
    refine SL.val rfl rfl (fun w9 F9 S9 s => R.ldBN (cs := row.toArray) rfl (s.cel (by repeat (first | exact SelB.blk | exact SelB.fz | apply SelB.there))) (by simpa using hrl)) ?_
    refine SL.imp (Imp.pure (p := fun _ => True) (fun _ => trivial)) ?_
    refine SL.step rfl rfl (CS.yield rfl rfl (hY k _ _ (by omega) ⟨row, hr, rfl, rfl⟩) (by repeat (first | exact Sels.nil | apply Sels.cons | exact Sel.keep | exact Sel.here | apply Sel.there))) ?_
    rintro _ _ ⟨_, ⟨bq, rfl, rfl⟩, rfl⟩
    refine SL.n1 ?_
    refine SL.val rfl rfl (fun w9 F9 S9 s => R.not rfl) ?_
    refine SL.nil ?_
    refine SN.seq ?_
    refine SG.condB rfl (fun h1 => ?_) (fun h1 => ?_)
    · obtain rfl : bq = false := by simpa using h1
      exact SG.ret0 rfl ((Imp.sels (by repeat (first | exact Sels.nil | apply Sels.cons | exact Sel.keep | exact Sel.here | apply Sel.there)))) (.inr ⟨k + 1, by omega, rfl⟩)
    · obtain rfl : bq = true := by simpa using h1
      refine SG.skip ?_
      refine SN.block ?_
      refine SN.seq ?_
      refine SG.region ?_
      refine SL.val rfl rfl (fun w9 F9 S9 s => R.add rfl rfl (by omega)) ?_
      refine SL.val rfl rfl (fun w9 F9 S9 s => R.mv rfl) ?_
      refine SL.nil ?_
      exact SN.again (k + 1) (by show n - (k + 1) < n - k; omega) (Sub.cons rfl (Sub.cons rfl (Sub.cons rfl (Sub.cons rfl (Sub.nil _))))) ((Imp.sels (by repeat (first | exact Sels.nil | apply Sels.cons | exact Sel.keep | exact Sel.here | apply Sel.there)))) (by show k + 1 ≤ n; omega)
  · obtain rfl : n = k := by omega
    refine SG.exit _ rfl ?_
    exact SN.end0 rfl ((Imp.sels (by repeat (first | exact Sels.nil | apply Sels.cons | exact Sel.keep | exact Sel.here | apply Sel.there)))) (.inl rfl)

theorem vals1Busy_it (b : Nat) (a : Option Addr) (n c : Nat) (Rr : List (List Value)) (hR : ∀ r ∈ Rr, r.length = 3 ∧ ∀ u ∈ r, u.oneCell' = true) (hb : n ≤ 140737488355328) : IterS Try.prog 85 [.pointer (some ⟨b, 0, none⟩)] [fz b [.slice a n c] 29, sh (fun w => Tab w a n 3 Rr)] n (fun k vs p => ∃ row, Rr[k]? = some row ∧ vs = [.agg row.toArray] ∧ p = fun _ => True) := fun y J Jx hY => vals1Busy y b a n c Rr J Jx hR hb hY

theorem eachBusy (f : Nat) (us vs : List Value) : SpecS Try.prog 54 [.func (.func f) us.toArray vs.toArray] [] (fun v H' => v = .func (.func f) us.toArray vs.toArray ∧ H' = []) := by
  refine SpecS.enter Try.func54 rfl 6 rfl (Nat.le_of_ble_eq_true rfl) (fun o => ?_)
  refine SG.seq ?_
  refine SG.region ?_
  refine SL.val rfl rfl (fun w9 F9 S9 s => R.as rfl) ?_
  refine SL.nil ?_
  refine SN.seq ?_
  refine SG.seq ?_
  refine SG.seq ?_
  refine SG.region ?_
  refine SL.val rfl rfl (fun w9 F9 S9 s => R.mv rfl) ?_
  refine SL.val rfl rfl (fun w9 F9 S9 s => R.eqNilF Try.underlying80 rfl rfl) ?_
  refine SL.nil ?_
  refine SN.seq ?_
  refine SG.condF rfl ?_
  refine SG.skip ?_
  refine SN.seq ?_
  refine SG.seq ?_
  refine SG.region ?_
  refine SL.val rfl rfl (fun w9 F9 S9 s => R.mv rfl) ?_
  refine SL.val rfl rfl (fun w9 F9 S9 s => R.as rfl) ?_
  refine SL.nil ?_
  refine SN.seq ?_
  exact SG.ret1 rfl rfl ((Imp.sels (by repeat (first | exact Sels.nil | apply Sels.cons | exact Sel.keep | exact Sel.here | apply Sel.there)))) (⟨rfl, rfl⟩)

theorem ofBusy (a : Option Addr) (n c : Nat) (Rr : List (List Value)) (hR : ∀ r ∈ Rr, r.length = 3 ∧ ∀ u ∈ r, u.oneCell' = true) (hb : n * 24 ≤ 140737488355328) : SpecS Try.prog 29 [.slice a n c] [sh (fun w => Tab w a n 3 Rr)] (fun v H' => ∃ b a' c', v = .func (.func 85) #[] #[.pointer (some ⟨b, 0, none⟩)] ∧ H' = [fz b [.slice a' n c'] 29, sh (fun w => Tab w a' n 3 Rr)]) := by
  refine SpecS.enter Try.func29 rfl 6 rfl (Nat.le_of_ble_eq_true rfl) (fun o => ?_)
  refine SG.fact (fun w9 F9 S9 s => (s.sh (p := fun w => Tab w a n 3 Rr) (by repeat (first | exact Sel.keep | exact Sel.here | apply Sel.there))).len) (fun hf9 => ?_)
  have hnl := hf9; clear hf9
  refine SG.seq ?_
  refine SG.region ?_
  refine SL.val rfl rfl (fun w9 F9 S9 s => R.as rfl) ?_
  refine SL.nil ?_
  refine SN.seq ?_
  refine SG.seq ?_
  refine SG.region ?_
  refine SL.val rfl rfl (fun w9 F9 S9 s => R.mv rfl) ?_
  refine SL.step rfl rfl (CS.call rfl go57 (cloBusy a n c Rr hR hb) (by repeat (first | exact Sels.nil | apply Sels.cons | exact Sel.keep | exact Sel.here | apply Sel.there))) ?_
  rintro _ _ ⟨_, ⟨a4, c4, rfl, rfl⟩, rfl⟩
  refine SL.n1 ?_
  refine SL.step rfl rfl (CS.call rfl go56 (valsBusy a4 n c4) (by repeat (first | exact Sels.nil | apply Sels.cons | exact Sel.keep | exact Sel.here | apply Sel.there))) ?_
  rintro _ _ ⟨_, ⟨b5, rfl, rfl⟩, rfl⟩
  refine SL.n1 ?_
  refine SL.val rfl rfl (fun w9 F9 S9 s => R.as rfl) ?_
  refine SL.nil ?_
  refine SN.imp (Imp.ownSh (show Sel _ (own 32 3 a4 n c4 (Rr.flatten)) _ from (by repeat (first | exact Sel.keep | exact Sel.here | apply Sel.there))) (p := fun w => Tab w a4 n 3 Rr) (fun w h => tab_ownR h hnl hR)) ?_
  refine SN.seq ?_
  exact SG.ret1 rfl rfl ((Imp.sels (by repeat (first | exact Sels.nil | apply Sels.cons | exact Sel.keep | exact Sel.here | apply Sel.there)))) (⟨b5, a4, c4, rfl, rfl⟩)

end Go.Proofs.Ytlhkpakbenghgaa
/-
  The walks of package stats.
-/
set_option linter.unusedVariables false
set_option linter.unusedSimpArgs false
set_option maxRecDepth 4000
namespace Go.Proofs.Ytlhkpakbenghgaa
open Go Brv Brv.Stats
theorem cellR (l : List E3) : ∀ r ∈ l.map cellB, r.length = 3 ∧ ∀ u ∈ r, u.oneCell' = true := by
  intro r hr
  obtain ⟨x, _, rfl⟩ := List.mem_map.1 hr
  exact ⟨rfl, cellB_one x⟩
def manyB (n : Nat) (kk : Int) : Nat := if kk < 1 then 0 else min n kk.toNat

theorem first_ok (sv : Value) (kk : Int) (hs1 : sv.oneCell' = true) : SpecS Try.prog 28 [sv, .int .i64 kk] [] (fun v H' => ∃ b2 b3, v = .func (.func 55) #[] #[.pointer (some ⟨b3, 0, none⟩), .pointer (some ⟨b2, 0, none⟩)] ∧ H' = [fz b2 [sv] 80, fz b3 [.int .i64 kk] 3]) := by
  refine SpecS.enter Try.func28 rfl 6 rfl (Nat.le_of_ble_eq_true rfl) (fun o => ?_)
  refine SG.seq ?_
  refine SG.region ?_
  refine SL.step rfl rfl (CS.box1 rfl hs1) ?_
  rintro _ _ ⟨b2, rfl, rfl⟩
  refine SL.step rfl rfl (CS.box1 rfl rfl) ?_
  rintro _ _ ⟨b3, rfl, rfl⟩
  refine SL.val rfl rfl (fun w9 F9 S9 s => R.as rfl) ?_
  refine SL.nil ?_
  refine SN.seq ?_
  refine SG.seq ?_
  refine SG.region ?_
  refine SL.val rfl rfl (fun w9 F9 S9 s => R.mkFunc rfl rfl) ?_
  refine SL.val rfl rfl (fun w9 F9 S9 s => R.as rfl) ?_
  refine SL.nil ?_
  refine SN.imp (Imp.fz (show Sel _ (blk b2 [sv] 80) _ from (by repeat (first | exact Sel.keep | exact Sel.here | apply Sel.there)))) ?_
  refine SN.imp (Imp.fz (show Sel _ (blk b3 [.int .i64 kk] 3) _ from (by repeat (first | exact Sel.keep | exact Sel.here | apply Sel.there)))) ?_
  refine SN.seq ?_
  exact SG.ret1 rfl rfl ((Imp.sels (by repeat (first | exact Sels.nil | apply Sels.cons | exact Sel.keep | exact Sel.here | apply Sel.there)))) (⟨b2, b3, rfl, rfl⟩)

theorem first1_ok (y : Value) (b2 b3 b : Nat) (kk : Int) (a : Option Addr) (n c : Nat) (xs : List E3) (J Jx : Nat → Asn) (hl : n = xs.length) (hb : n ≤ 140737488355328) (hkk : kk ≤ 9223372036854775807) (hy1 : y.oneCell' = true) (hY : ∀ k vs p, k < (manyB n kk) → (fun k vs p => ∃ x, xs[k]? = some x ∧ vs = [.agg (cellB x).toArray] ∧ p = fun _ => True) k vs p → YSpec Try.prog y vs [sh p, J k] (fun b H' => H' = [if b then J (k + 1) else Jx (k + 1)])) : SpecS Try.prog 55 [y, .pointer (some ⟨b3, 0, none⟩), .pointer (some ⟨b2, 0, none⟩)] [J 0, fz b2 [.func (.func 85) #[] #[.pointer (some ⟨b, 0, none⟩)]] 80, fz b3 [.int .i64 kk] 3, fz b [.slice a n c] 29, sh (fun w => Tab w a n 3 (xs.map cellB))] (fun v H' => (H' = J (manyB n kk) :: [fz b2 [.func (.func 85) #[] #[.pointer (some ⟨b, 0, none⟩)]] 80, fz b3 [.int .i64 kk] 3, fz b [.slice a n c] 29, sh (fun w => Tab w a n 3 (xs.map cellB))] ∨ ∃ k, k ≤ (manyB n kk) ∧ H' = Jx k :: [fz b2 [.func (.func 85) #[] #[.pointer (some ⟨b, 0, none⟩)]] 80, fz b3 [.int .i64 kk] 3, fz b [.slice a n c] 29, sh (fun w => Tab w a n 3 (xs.map cellB))])) := by
  refine SpecS.enter Try.func55 rfl 22 rfl (Nat.le_of_ble_eq_true rfl) (fun o => ?_)
  refine SG.seq ?_
  refine SG.region ?_
  refine SL.step rfl rfl (CS.box1 rfl hy1) ?_
  rintro _ _ ⟨c3, rfl, rfl⟩
  refine SL.nil ?_
  refine SN.seq ?_
  refine SG.seq ?_
  refine SG.region ?_
  refine SL.val rfl rfl (fun w9 F9 S9 s => R.ldB (v := .int .i64 kk) rfl (s.cel (show SelB _ b3 [.int .i64 kk] 3 from (by repeat (first | exact SelB.blk | exact SelB.fz | apply SelB.there)))) (by rfl)) ?_
  refine SL.step rfl rfl (CS.alloc [.int .i64 0] rfl) ?_
  rintro _ _ ⟨b4, rfl, rfl⟩
  refine SL.step0 rfl (CS.st rfl rfl (by repeat (first | exact Sel.keep | exact Sel.here | apply Sel.there)) (by repeat (first | exact SetAt.here | apply SetAt.there)) rfl) ?_
  rintro _ _ rfl
  refine SL.nil ?_
  refine SN.seq ?_
  refine SG.seq ?_
  refine SG.seq ?_
  refine SG.region ?_
  refine SL.val rfl rfl (fun w9 F9 S9 s => R.ldB (v := .int .i64 kk) rfl (s.cel (show SelB _ b4 [.int .i64 kk] 3 from (by repeat (first | exact SelB.blk | exact SelB.fz | apply SelB.there)))) (by rfl)) ?_
  refine SL.val rfl rfl (fun w9 F9 S9 s => R.lss rfl rfl) ?_
  refine SL.nil ?_
  refine SN.seq ?_
  refine SG.condP rfl (fun h0 => ?_) (fun h0 => ?_)
  · have hm0 : manyB n kk = 0 := if_pos h0
    exact SG.ret0 rfl ((show Imp _ _ by rw [hm0]; exact (Imp.sels (by repeat (first | exact Sels.nil | apply Sels.cons | exact Sel.keep | exact Sel.here | apply Sel.there))))) (.inl rfl)
  · refine SG.skip ?_
    refine SN.seq ?_
    refine SG.seq ?_
    refine SG.region ?_
    refine SL.val rfl rfl (fun w9 F9 S9 s => R.ldB (v := .func (.func 85) #[] #[.pointer (some ⟨b, 0, none⟩)]) rfl (s.cel (by repeat (first | exact SelB.blk | exact SelB.fz | apply SelB.there))) (by rfl)) ?_
    refine SL.step rfl rfl (CS.call rfl go54 (eachBusy 85 [] [.pointer (some ⟨b, 0, none⟩)]) (by repeat (first | exact Sels.nil | apply Sels.cons | exact Sel.keep | exact Sel.here | apply Sel.there))) ?_
    rintro _ _ ⟨_, ⟨rfl, rfl⟩, rfl⟩
    refine SL.n0 ?_
    refine SL.nil ?_
    refine SN.seq ?_
    refine SG.block ?_
    refine SG.range rfl rfl go85 (vals1Busy_it b a n c (xs.map cellB) (cellR xs) hb) (X := Unit) (Y := Bool) (fun k _ => [J k, blk b4 [.int .i64 (kk - (k : Int))] 3, blk c3 [y] 128, fz b2 [.func (.func 85) #[] #[.pointer (some ⟨b, 0, none⟩)]] 80, fz b3 [.int .i64 kk] 3]) (fun k _ => (k : Int) < kk) (fun c k z => [if z then J k else Jx k, fz b2 [.func (.func 85) #[] #[.pointer (some ⟨b, 0, none⟩)]] 80, fz b3 [.int .i64 kk] 3]) (fun c k z => c = .ret ∧ k ≤ n ∧ (z = true → k = (manyB n kk)) ∧ (z = false → k ≤ (manyB n kk))) (()) ((show Imp _ _ by rw [show kk - ((0 : Nat) : Int) = kk by omega]; exact (Imp.sels (by repeat (first | exact Sels.nil | apply Sels.cons | exact Sel.keep | exact Sel.here | apply Sel.there))))) ((by show ((0 : Nat) : Int) < kk; omega)) ?_ ?_ ?_
    · rintro l k _ vs p hk hI ⟨row, hr, rfl, rfl⟩
      obtain ⟨x, hx, rfl⟩ : ∃ x, xs[k]? = some x ∧ cellB x = row := by rw [List.getElem?_map] at hr; cases hx : xs[k]? with | none => rw [hx] at hr; cases hr | some x => rw [hx] at hr; exact ⟨x, rfl, Option.some.inj hr⟩
      have hm1 : manyB n kk = min n kk.toNat := if_neg h0
      refine ⟨rfl, ?_⟩
      intro o8
      refine SG.region ?_
      refine SL.step rfl rfl (CS.alloc [.int .i64 0, .int .i64 0, .int .i64 0] rfl) ?_
      rintro _ _ ⟨b5, rfl, rfl⟩
      refine SL.step0 rfl (CS.stA (vs := cellB x) rfl rfl (by repeat (first | exact Sel.keep | exact Sel.here | apply Sel.there)) rfl (by rfl) (cellB_one x)) ?_
      rintro _ _ rfl
      refine SL.nil ?_
      refine SN.roundA (fun o9 => ?_)
      refine SG.block ?_
      refine SG.seq ?_
      refine SG.region ?_
      refine SL.val rfl rfl (fun w9 F9 S9 s => R.ldB (v := .int .i64 (kk - (k : Int))) rfl (s.cel (show SelB _ b4 [.int .i64 (kk - (k : Int))] 3 from (by repeat (first | exact SelB.blk | exact SelB.fz | apply SelB.there)))) (by rfl)) ?_
      refine SL.val rfl rfl (fun w9 F9 S9 s => R.sub' rfl rfl (by omega)) ?_
      refine SL.step0 rfl (CS.st rfl rfl (show Sel _ (blk b4 _ _) _ from (by repeat (first | exact Sel.keep | exact Sel.here | apply Sel.there))) (by repeat (first | exact SetAt.here | apply SetAt.there)) rfl) ?_
      rintro _ _ rfl
      refine SL.nil ?_
      refine SN.seq ?_
      refine SG.seq ?_
      refine SG.region ?_
      refine SL.val rfl rfl (fun w9 F9 S9 s => R.ldB (v := y) rfl (s.cel (show SelB _ c3 [y] 128 from (by repeat (first | exact SelB.blk | exact SelB.fz | apply SelB.there)))) (by rfl)) ?_
      refine SL.val rfl rfl (fun w9 F9 S9 s => R.ldBN (cs := (cellB x).toArray) rfl (s.cel (by repeat (first | exact SelB.blk | exact SelB.fz | apply SelB.there))) rfl) ?_
      refine SL.imp (Imp.pure (p := fun _ => True) (fun _ => trivial)) ?_
      refine SL.step rfl rfl (CS.yield rfl rfl (hY k _ _ (by omega) ⟨x, hx, rfl, rfl⟩) (by repeat (first | exact Sels.nil | apply Sels.cons | exact Sel.keep | exact Sel.here | apply Sel.there))) ?_
      rintro _ _ ⟨_, ⟨bq, rfl, rfl⟩, rfl⟩
      refine SL.n1 ?_
      refine SL.val rfl rfl (fun w9 F9 S9 s => R.not rfl) ?_
      refine SL.val rfl rfl (fun w9 F9 S9 s => R.mv rfl) ?_
      refine SL.caseB 18 rfl (fun hg6_4 => ?_) (fun hg6_4 => ?_)
      · obtain rfl : bq = false := by simpa using hg6_4
        refine SL.pass rfl rfl ?_
        refine SL.pass rfl rfl ?_
        first | refine SL.val rfl rfl (fun w9 F9 S9 s => R.pickT rfl rfl) ?_ | refine SL.val rfl rfl (fun w9 F9 S9 s => R.pickF rfl rfl) ?_
        refine SL.nil ?_
        refine SN.seq ?_
        refine SG.condT rfl ?_
        exact SG.retR false (Imp.sels (by repeat (first | exact Sels.nil | apply Sels.cons | exact Sel.keep | exact Sel.here | apply Sel.there))) ⟨rfl, by omega, by simp, fun _ => by omega⟩
      · obtain rfl : bq = true := by simpa using hg6_4
        refine SL.val rfl rfl (fun w9 F9 S9 s => R.ldB (v := .int .i64 (kk - (k : Int) - 1)) rfl (s.cel (show SelB _ b4 [.int .i64 (kk - (k : Int) - 1)] 3 from (by repeat (first | exact SelB.blk | exact SelB.fz | apply SelB.there)))) (by rfl)) ?_
        refine SL.val rfl rfl (fun w9 F9 S9 s => R.eqI rfl rfl) ?_
        first | refine SL.val rfl rfl (fun w9 F9 S9 s => R.pickT rfl rfl) ?_ | refine SL.val rfl rfl (fun w9 F9 S9 s => R.pickF rfl rfl) ?_
        refine SL.nil ?_
        refine SN.seq ?_
        refine SG.condP rfl (fun h1 => ?_) (fun h1 => ?_)
        · exact SG.retR true (Imp.sels (by repeat (first | exact Sels.nil | apply Sels.cons | exact Sel.keep | exact Sel.here | apply Sel.there))) ⟨rfl, by omega, fun _ => by omega, by simp⟩
        · refine SG.skip ?_
          refine SN.block ?_
          exact SN.next () (show Imp _ _ by rw [show kk - ((k + 1 : Nat) : Int) = kk - (k : Int) - 1 by omega]; exact (Imp.sels (by repeat (first | exact Sels.nil | apply Sels.cons | exact Sel.keep | exact Sel.here | apply Sel.there)))) (show ((k + 1 : Nat) : Int) < kk by omega)
    · rintro d2 _ hI
      have hm1 : manyB n kk = n := by unfold manyB; rw [if_neg h0]; omega
      refine SN.block ?_
      exact SN.end0M rfl (by repeat (first | exact Dfrs.nil | apply Dfrs.cons | exact Sel.here | apply Sel.there)) ((show Imp _ _ by rw [hm1]; exact (Imp.sels (by repeat (first | exact Sels.nil | apply Sels.cons | exact Sel.keep | exact Sel.here | apply Sel.there))))) (.inl rfl)
    · rintro d k _ z hk ⟨rfl, hkn, hz1, hz2⟩
      cases z with
      | true => rw [hz1 rfl]; exact SG.ret0M rfl (by repeat (first | exact Dfrs.nil | apply Dfrs.cons | exact Sel.here | apply Sel.there)) ((Imp.sels (by repeat (first | exact Sels.nil | apply Sels.cons | exact Sel.keep | exact Sel.here | apply Sel.there)))) (.inl rfl)
      | false => exact SG.ret0M rfl (by repeat (first | exact Dfrs.nil | apply Dfrs.cons | exact Sel.here | apply Sel.there)) ((Imp.sels (by repeat (first | exact Sels.nil | apply Sels.cons | exact Sel.keep | exact Sel.here | apply Sel.there)))) (.inr ⟨k, hz2 rfl, rfl⟩)

theorem map_ok (sv fv : Value) (hs1 : sv.oneCell' = true) (hf1 : fv.oneCell' = true) : SpecS Try.prog 27 [sv, fv] [] (fun v H' => ∃ b8 b9, v = .func (.func 53) #[] #[.pointer (some ⟨b9, 0, none⟩), .pointer (some ⟨b8, 0, none⟩)] ∧ H' = [fz b8 [sv] 80, fz b9 [fv] 83]) := by
  refine SpecS.enter Try.func27 rfl 6 rfl (Nat.le_of_ble_eq_true rfl) (fun o => ?_)
  refine SG.seq ?_
  refine SG.region ?_
  refine SL.step rfl rfl (CS.box1 rfl hs1) ?_
  rintro _ _ ⟨b2, rfl, rfl⟩
  refine SL.step rfl rfl (CS.box1 rfl hf1) ?_
  rintro _ _ ⟨b3, rfl, rfl⟩
  refine SL.val rfl rfl (fun w9 F9 S9 s => R.as rfl) ?_
  refine SL.nil ?_
  refine SN.seq ?_
  refine SG.seq ?_
  refine SG.region ?_
  refine SL.val rfl rfl (fun w9 F9 S9 s => R.mkFunc rfl rfl) ?_
  refine SL.val rfl rfl (fun w9 F9 S9 s => R.as rfl) ?_
  refine SL.nil ?_
  refine SN.imp (Imp.fz (show Sel _ (blk b2 [sv] 80) _ from (by repeat (first | exact Sel.keep | exact Sel.here | apply Sel.there)))) ?_
  refine SN.imp (Imp.fz (show Sel _ (blk b3 [fv] 83) _ from (by repeat (first | exact Sel.keep | exact Sel.here | apply Sel.there)))) ?_
  refine SN.seq ?_
  exact SG.ret1 rfl rfl ((Imp.sels (by repeat (first | exact Sels.nil | apply Sels.cons | exact Sel.keep | exact Sel.here | apply Sel.there)))) (⟨b2, b3, rfl, rfl⟩)

theorem first1_it (b2 b3 b : Nat) (kk : Int) (a : Option Addr) (n c : Nat) (l : List E3) (hl : n = l.length) (hb : n ≤ 140737488355328) (hkk : kk ≤ 9223372036854775807) : IterY Try.prog 55 [.pointer (some ⟨b3, 0, none⟩), .pointer (some ⟨b2, 0, none⟩)] [fz b2 [.func (.func 85) #[] #[.pointer (some ⟨b, 0, none⟩)]] 80, fz b3 [.int .i64 kk] 3, fz b [.slice a n c] 29, sh (fun w => Tab w a n 3 (l.map cellB))] (manyB n kk) (fun k vs p => ∃ x, l[k]? = some x ∧ vs = [.agg (cellB x).toArray] ∧ p = fun _ => True) := fun y J Jx hy1 hY => first1_ok y b2 b3 b kk a n c l J Jx hl hb hkk hy1 hY

theorem map1_ok (y : Value) (b8 b9 b2 b3 b : Nat) (kk : Int) (a : Option Addr) (n c : Nat) (xs : List E3) (J Jx : Nat → Asn) (hl : n = xs.length) (hb : n ≤ 140737488355328) (hkk : kk ≤ 9223372036854775807) (hy1 : y.oneCell' = true) (hY : ∀ k vs p, k < (manyB n kk) → (fun k vs p => ∃ x, xs[k]? = some x ∧ vs = [.int .i64 x.1] ∧ p = fun _ => True) k vs p → YSpec Try.prog y vs [sh p, J k] (fun b H' => H' = [if b then J (k + 1) else Jx (k + 1)])) : SpecS Try.prog 53 [y, .pointer (some ⟨b9, 0, none⟩), .pointer (some ⟨b8, 0, none⟩)] [J 0, fz b8 [.func (.func 55) #[] #[.pointer (some ⟨b3, 0, none⟩), .pointer (some ⟨b2, 0, none⟩)]] 80, fz b9 [.func (.func 30) #[] #[]] 83, fz b2 [.func (.func 85) #[] #[.pointer (some ⟨b, 0, none⟩)]] 80, fz b3 [.int .i64 kk] 3, fz b [.slice a n c] 29, sh (fun w => Tab w a n 3 (xs.map cellB))] (fun v H' => (H' = J (manyB n kk) :: [fz b8 [.func (.func 55) #[] #[.pointer (some ⟨b3, 0, none⟩), .pointer (some ⟨b2, 0, none⟩)]] 80, fz b9 [.func (.func 30) #[] #[]] 83, fz b2 [.func (.func 85) #[] #[.pointer (some ⟨b, 0, none⟩)]] 80, fz b3 [.int .i64 kk] 3, fz b [.slice a n c] 29, sh (fun w => Tab w a n 3 (xs.map cellB))] ∨ ∃ k, k ≤ (manyB n kk) ∧ H' = Jx k :: [fz b8 [.func (.func 55) #[] #[.pointer (some ⟨b3, 0, none⟩), .pointer (some ⟨b2, 0, none⟩)]] 80, fz b9 [.func (.func 30) #[] #[]] 83, fz b2 [.func (.func 85) #[] #[.pointer (some ⟨b, 0, none⟩)]] 80, fz b3 [.int .i64 kk] 3, fz b [.slice a n c] 29, sh (fun w => Tab w a n 3 (xs.map cellB))])) := by
  refine SpecS.enter Try.func53 rfl 16 rfl (Nat.le_of_ble_eq_true rfl) (fun o => ?_)
  refine SG.seq ?_
  refine SG.region ?_
  refine SL.step rfl rfl (CS.box1 rfl hy1) ?_
  rintro _ _ ⟨c3, rfl, rfl⟩
  refine SL.nil ?_
  refine SN.seq ?_
  refine SG.seq ?_
  refine SG.seq ?_
  refine SG.region ?_
  refine SL.val rfl rfl (fun w9 F9 S9 s => R.ldB (v := .func (.func 30) #[] #[]) rfl (s.cel (by repeat (first | exact SelB.blk | exact SelB.fz | apply SelB.there))) (by rfl)) ?_
  refine SL.val rfl rfl (fun w9 F9 S9 s => R.eqNilF Try.underlying83 rfl rfl) ?_
  refine SL.nil ?_
  refine SN.seq ?_
  refine SG.condF rfl ?_
  refine SG.skip ?_
  refine SN.seq ?_
  refine SG.seq ?_
  refine SG.region ?_
  refine SL.val rfl rfl (fun w9 F9 S9 s => R.ldB (v := .func (.func 55) #[] #[.pointer (some ⟨b3, 0, none⟩), .pointer (some ⟨b2, 0, none⟩)]) rfl (s.cel (by repeat (first | exact SelB.blk | exact SelB.fz | apply SelB.there))) (by rfl)) ?_
  refine SL.step rfl rfl (CS.call rfl go54 (eachBusy 55 [] [.pointer (some ⟨b3, 0, none⟩), .pointer (some ⟨b2, 0, none⟩)]) (by repeat (first | exact Sels.nil | apply Sels.cons | exact Sel.keep | exact Sel.here | apply Sel.there))) ?_
  rintro _ _ ⟨_, ⟨rfl, rfl⟩, rfl⟩
  refine SL.n0 ?_
  refine SL.nil ?_
  refine SN.seq ?_
  refine SG.block ?_
  refine SG.rangeY rfl rfl go55 (first1_it b2 b3 b kk a n c xs hl hb hkk) (X := Unit) (Y := Unit) (fun k _ => [J k, blk c3 [y] 125, fz b8 [.func (.func 55) #[] #[.pointer (some ⟨b3, 0, none⟩), .pointer (some ⟨b2, 0, none⟩)]] 80, fz b9 [.func (.func 30) #[] #[]] 83]) (fun k _ => True) (fun c k z => [Jx k, fz b8 [.func (.func 55) #[] #[.pointer (some ⟨b3, 0, none⟩), .pointer (some ⟨b2, 0, none⟩)]] 80, fz b9 [.func (.func 30) #[] #[]] 83]) (fun c k z => c = .ret ∧ k ≤ (manyB n kk)) (()) ((Imp.sels (by repeat (first | exact Sels.nil | apply Sels.cons | exact Sel.keep | exact Sel.here | apply Sel.there)))) (trivial) ?_ ?_ ?_
  · rintro l k _ vs p hk _ ⟨x, hx, rfl, rfl⟩
    refine ⟨rfl, ?_⟩
    intro o8
    refine SG.region ?_
    refine SL.step rfl rfl (CS.alloc [.int .i64 0, .int .i64 0, .int .i64 0] rfl) ?_
    rintro _ _ ⟨b4, rfl, rfl⟩
    refine SL.step0 rfl (CS.stA (vs := cellB x) rfl rfl (by repeat (first | exact Sel.keep | exact Sel.here | apply Sel.there)) rfl (by rfl) (cellB_one x)) ?_
    rintro _ _ rfl
    refine SL.nil ?_
    refine SN.roundA (fun o9 => ?_)
    refine SG.block ?_
    refine SG.seq ?_
    refine SG.draw [3, 4] [0, 1, 2, 3, 4, 5] (by decide +kernel) rfl ?_
    refine SW.read rfl rfl rfl rfl (fun w9 F9 S9 s => R.ldB (v := y) rfl (s.cel (show SelB _ c3 [y] 125 from (by repeat (first | exact SelB.blk | exact SelB.fz | apply SelB.there)))) (by rfl)) ?_
    refine SW.read rfl rfl rfl rfl (fun w9 F9 S9 s => R.ldB (v := .func (.func 30) #[] #[]) rfl (s.cel (by repeat (first | exact SelB.blk | exact SelB.fz | apply SelB.there))) (by rfl)) ?_
    refine SW.read rfl rfl rfl rfl (fun w9 F9 S9 s => R.ldBN (cs := (cellB x).toArray) rfl (s.cel (by repeat (first | exact SelB.blk | exact SelB.fz | apply SelB.there))) rfl) ?_
    refine SW.step rfl rfl rfl rfl (CS.callV rfl rfl rfl go30 (hot2_ok x) (by repeat (first | exact Sels.nil | apply Sels.cons | exact Sel.keep | exact Sel.here | apply Sel.there))) ?_
    rintro _ _ ⟨_, ⟨rfl, rfl⟩, rfl⟩
    refine ⟨⟨.inl (by decide +kernel), ⟨.inl (by decide +kernel), ⟨.inr (fun w9 F9 S9 s => R.ldB (v := y) rfl (s.cel (show SelB _ c3 [y] 125 from (by repeat (first | exact SelB.blk | exact SelB.fz | apply SelB.there)))) (by rfl)), trivial⟩⟩⟩, ?_⟩
    refine SW.n0 ?_
    refine SW.step rfl rfl rfl rfl (CS.imp (Imp.pure (p := fun _ => True) (fun _ => trivial)) (CS.yield rfl rfl (hY k _ _ (by omega) ⟨x, hx, rfl, rfl⟩) (by repeat (first | exact Sels.nil | apply Sels.cons | exact Sel.keep | exact Sel.here | apply Sel.there)))) ?_
    rintro _ _ ⟨_, ⟨bq, rfl, rfl⟩, rfl⟩
    refine ⟨⟨.inl (by decide +kernel), ⟨.inl (by decide +kernel), ⟨.inl (by decide +kernel), trivial⟩⟩⟩, ?_⟩
    refine SW.n1 ?_
    refine SW.pure rfl rfl rfl rfl (fun w9 => R.not rfl) ?_
    refine SW.nil ?_
    refine SN.seq ?_
    refine SG.condB rfl (fun h1 => ?_) (fun h1 => ?_)
    · obtain rfl : bq = false := by simpa using h1
      exact SG.retR () (Imp.sels (by repeat (first | exact Sels.nil | apply Sels.cons | exact Sel.keep | exact Sel.here | apply Sel.there))) ⟨rfl, by omega⟩
    · obtain rfl : bq = true := by simpa using h1
      refine SG.skip ?_
      refine SN.block ?_
      exact SN.next () (Imp.sels (by repeat (first | exact Sels.nil | apply Sels.cons | exact Sel.keep | exact Sel.here | apply Sel.there))) trivial
  · rintro d2 _ _
    refine SN.block ?_
    exact SN.end0M rfl (by repeat (first | exact Dfrs.nil | apply Dfrs.cons | exact Sel.here | apply Sel.there)) ((Imp.sels (by repeat (first | exact Sels.nil | apply Sels.cons | exact Sel.keep | exact Sel.here | apply Sel.there)))) (.inl rfl)
  · rintro d k _ z hk ⟨rfl, hkn⟩
    exact SG.ret0M rfl (by repeat (first | exact Dfrs.nil | apply Dfrs.cons | exact Sel.here | apply Sel.there)) ((Imp.sels (by repeat (first | exact Sels.nil | apply Sels.cons | exact Sel.keep | exact Sel.here | apply Sel.there)))) (.inr ⟨k, hkn, rfl⟩)

theorem map1_it (b8 b9 b2 b3 b : Nat) (kk : Int) (a : Option Addr) (n c : Nat) (l : List E3) (hl : n = l.length) (hb : n ≤ 140737488355328) (hkk : kk ≤ 9223372036854775807) : IterY Try.prog 53 [.pointer (some ⟨b9, 0, none⟩), .pointer (some ⟨b8, 0, none⟩)] [fz b8 [.func (.func 55) #[] #[.pointer (some ⟨b3, 0, none⟩), .pointer (some ⟨b2, 0, none⟩)]] 80, fz b9 [.func (.func 30) #[] #[]] 83, fz b2 [.func (.func 85) #[] #[.pointer (some ⟨b, 0, none⟩)]] 80, fz b3 [.int .i64 kk] 3, fz b [.slice a n c] 29, sh (fun w => Tab w a n 3 (l.map cellB))] (manyB n kk) (fun k vs p => ∃ x, l[k]? = some x ∧ vs = [.int .i64 x.1] ∧ p = fun _ => True) := fun y J Jx hy1 hY => map1_ok y b8 b9 b2 b3 b kk a n c l J Jx hl hb hkk hy1 hY
theorem manyB_le (n : Nat) (kk : Int) : manyB n kk ≤ n := by unfold manyB; split <;> omega
def intsB (l : List E3) : List Value := l.map fun x => .int .i64 x.1
theorem intsB_take {l : List E3} {k : Nat} {x : E3} (h : l[k]? = some x) : intsB (l.take k) ++ [.int .i64 x.1] = intsB (l.take (k + 1)) := by unfold intsB; rw [List.take_add_one, h]; simp

theorem appseq_ok (b8 b9 b2 b3 b : Nat) (kk : Int) (a : Option Addr) (n c : Nat) (xs : List E3) (hl : n = xs.length) (hb : n * 24 ≤ 140737488355328) (hkk : kk ≤ 9223372036854775807) : SpecS Try.prog 82 [.slice none 0 0, .func (.func 53) #[] #[.pointer (some ⟨b9, 0, none⟩), .pointer (some ⟨b8, 0, none⟩)]] [fz b8 [.func (.func 55) #[] #[.pointer (some ⟨b3, 0, none⟩), .pointer (some ⟨b2, 0, none⟩)]] 80, fz b9 [.func (.func 30) #[] #[]] 83, fz b2 [.func (.func 85) #[] #[.pointer (some ⟨b, 0, none⟩)]] 80, fz b3 [.int .i64 kk] 3, fz b [.slice a n c] 29, sh (fun w => Tab w a n 3 (xs.map cellB))] (fun v H' => ∃ a' c', v = .slice a' (manyB n kk) c' ∧ H' = [own 3 1 a' ((manyB n kk)) c' (intsB (xs.take (manyB n kk)))]) := by
  refine SpecS.enter Try.func82 rfl 13 rfl (Nat.le_of_ble_eq_true rfl) (fun o => ?_)
  refine SG.seq ?_
  refine SG.region ?_
  refine SL.step rfl rfl (CS.box1 rfl rfl) ?_
  rintro _ _ ⟨c2, rfl, rfl⟩
  refine SL.val rfl rfl (fun w9 F9 S9 s => R.as rfl) ?_
  refine SL.nil ?_
  refine SN.seq ?_
  refine SG.seq ?_
  refine SG.seq ?_
  refine SG.region ?_
  refine SL.val rfl rfl (fun w9 F9 S9 s => R.mv rfl) ?_
  refine SL.nil ?_
  refine SN.seq ?_
  refine SG.block ?_
  refine SG.rangeY rfl rfl go53 (map1_it b8 b9 b2 b3 b kk a n c xs hl (by omega) hkk) (X := Option Addr × Nat) (Y := Unit) (fun k y => [blk c2 [.slice y.1 k y.2] 33, own 3 1 y.1 (k) y.2 (intsB (xs.take k))]) (fun k y => True) (fun c k _ => []) (fun c k _ => False) ((none, 0)) (((Imp.ownNil 3 1).trans (Imp.sels (by repeat (first | exact Sels.nil | apply Sels.cons | exact Sel.keep | exact Sel.here | apply Sel.there))))) (trivial) ?_ ?_ ?_
  · rintro l k ⟨a9, c9⟩ vs p hk _ ⟨x, hx, rfl, rfl⟩
    have hmb := manyB_le n kk
    refine ⟨rfl, ?_⟩
    intro o8
    refine SG.region ?_
    refine SL.val rfl rfl (fun w9 F9 S9 s => R.as rfl) ?_
    refine SL.nil ?_
    refine SN.roundA (fun o9 => ?_)
    refine SG.block ?_
    refine SG.region ?_
    refine SL.val rfl rfl (fun w9 F9 S9 s => R.ldB (v := .slice a9 k c9) rfl (s.cel (show SelB _ c2 _ _ from (by repeat (first | exact SelB.blk | exact SelB.fz | apply SelB.there)))) (by rfl)) ?_
    refine SL.val rfl rfl (fun w9 F9 S9 s => R.mv rfl) ?_
    refine SL.step rfl rfl (CS.buildA rfl rfl rfl rfl rfl [.int .i64 x.1] rfl) ?_
    rintro _ _ ⟨b10, rfl, rfl⟩
    refine SL.step rfl rfl (CS.app rfl rfl (show Sel _ (own 3 1 a9 (k) c9 (intsB (xs.take k))) _ from (by repeat (first | exact Sel.keep | exact Sel.here | apply Sel.there))) (fun w9 F9 S9 s => s.blkC (show Sel _ (blk b10 [.int .i64 x.1] _) _ from (by repeat (first | exact Sel.keep | exact Sel.here | apply Sel.there)))) rfl (by intro u hu; rw [List.mem_singleton.1 hu]; rfl) (by simp [maxLen]; omega) (by omega)) ?_
    rintro _ _ ⟨a11, c11, rfl, rfl⟩
    refine SL.step0 rfl (CS.st rfl rfl (show Sel _ (blk c2 _ _) _ from (by repeat (first | exact Sel.keep | exact Sel.here | apply Sel.there))) (by repeat (first | exact SetAt.here | apply SetAt.there)) rfl) ?_
    rintro _ _ rfl
    refine SL.nil ?_
    refine SN.block ?_
    exact SN.next ((a11, c11)) ((show Imp _ _ by dsimp only; rw [← intsB_take hx]; exact (Imp.sels (by repeat (first | exact Sels.nil | apply Sels.cons | exact Sel.keep | exact Sel.here | apply Sel.there))))) (trivial)
  · rintro d2 ⟨a9, c9⟩ _
    refine SN.block ?_
    refine SN.seq ?_
    refine SG.seq ?_
    refine SG.region ?_
    refine SL.val rfl rfl (fun w9 F9 S9 s => R.ldB (v := .slice a9 (manyB n kk) c9) rfl (s.cel (show SelB _ c2 _ _ from (by repeat (first | exact SelB.blk | exact SelB.fz | apply SelB.there)))) (by rfl)) ?_
    refine SL.val rfl rfl (fun w9 F9 S9 s => R.as rfl) ?_
    refine SL.nil ?_
    refine SN.seq ?_
    exact SG.ret1M rfl rfl (by repeat (first | exact Dfrs.nil | apply Dfrs.cons | exact Sel.here | apply Sel.there)) ((Imp.sels (by repeat (first | exact Sels.nil | apply Sels.cons | exact Sel.keep | exact Sel.here | apply Sel.there)))) (⟨a9, c9, rfl, rfl⟩)
  · rintro d k c _ hk ⟨⟩

theorem collect_ok (b8 b9 b2 b3 b : Nat) (kk : Int) (a : Option Addr) (n c : Nat) (xs : List E3) (hl : n = xs.length) (hb : n * 24 ≤ 140737488355328) (hkk : kk ≤ 9223372036854775807) : SpecS Try.prog 51 [.func (.func 53) #[] #[.pointer (some ⟨b9, 0, none⟩), .pointer (some ⟨b8, 0, none⟩)]] [fz b8 [.func (.func 55) #[] #[.pointer (some ⟨b3, 0, none⟩), .pointer (some ⟨b2, 0, none⟩)]] 80, fz b9 [.func (.func 30) #[] #[]] 83, fz b2 [.func (.func 85) #[] #[.pointer (some ⟨b, 0, none⟩)]] 80, fz b3 [.int .i64 kk] 3, fz b [.slice a n c] 29, sh (fun w => Tab w a n 3 (xs.map cellB))] (fun v H' => ∃ a' c', v = .slice a' (manyB n kk) c' ∧ H' = [own 3 1 a' ((manyB n kk)) c' (intsB (xs.take (manyB n kk)))]) := by
  refine SpecS.enter Try.func51 rfl 5 rfl (Nat.le_of_ble_eq_true rfl) (fun o => ?_)
  refine SG.seq ?_
  refine SG.region ?_
  refine SL.val rfl rfl (fun w9 F9 S9 s => R.as rfl) ?_
  refine SL.nil ?_
  refine SN.seq ?_
  refine SG.seq ?_
  refine SG.region ?_
  refine SL.val rfl rfl (fun w9 F9 S9 s => R.mv rfl) ?_
  refine SL.step rfl rfl (CS.call rfl go82 (appseq_ok b8 b9 b2 b3 b kk a n c xs hl hb hkk) (by repeat (first | exact Sels.nil | apply Sels.cons | exact Sel.keep | exact Sel.here | apply Sel.there))) ?_
  rintro _ _ ⟨_, ⟨a9, c9, rfl, rfl⟩, rfl⟩
  refine SL.n1 ?_
  refine SL.val rfl rfl (fun w9 F9 S9 s => R.as rfl) ?_
  refine SL.nil ?_
  refine SN.seq ?_
  exact SG.ret1 rfl rfl ((Imp.sels (by repeat (first | exact Sels.nil | apply Sels.cons | exact Sel.keep | exact Sel.here | apply Sel.there)))) (⟨a9, c9, rfl, rfl⟩)

theorem eachI (f : Nat) (us vs : List Value) : SpecS Try.prog 52 [.func (.func f) us.toArray vs.toArray] [] (fun v H' => v = .func (.func f) us.toArray vs.toArray ∧ H' = []) := by
  refine SpecS.enter Try.func52 rfl 6 rfl (Nat.le_of_ble_eq_true rfl) (fun o => ?_)
  refine SG.seq ?_
  refine SG.region ?_
  refine SL.val rfl rfl (fun w9 F9 S9 s => R.as rfl) ?_
  refine SL.nil ?_
  refine SN.seq ?_
  refine SG.seq ?_
  refine SG.seq ?_
  refine SG.region ?_
  refine SL.val rfl rfl (fun w9 F9 S9 s => R.mv rfl) ?_
  refine SL.val rfl rfl (fun w9 F9 S9 s => R.eqNilF Try.underlying77 rfl rfl) ?_
  refine SL.nil ?_
  refine SN.seq ?_
  refine SG.condF rfl ?_
  refine SG.skip ?_
  refine SN.seq ?_
  refine SG.seq ?_
  refine SG.region ?_
  refine SL.val rfl rfl (fun w9 F9 S9 s => R.mv rfl) ?_
  refine SL.val rfl rfl (fun w9 F9 S9 s => R.as rfl) ?_
  refine SL.nil ?_
  refine SN.seq ?_
  exact SG.ret1 rfl rfl ((Imp.sels (by repeat (first | exact Sels.nil | apply Sels.cons | exact Sel.keep | exact Sel.here | apply Sel.there)))) (⟨rfl, rfl⟩)

theorem list_ok (b8 b9 b2 b3 b : Nat) (kk : Int) (a : Option Addr) (n c : Nat) (xs : List E3) (hl : n = xs.length) (hb : n * 24 ≤ 140737488355328) (hkk : kk ≤ 9223372036854775807) : SpecS Try.prog 26 [.func (.func 53) #[] #[.pointer (some ⟨b9, 0, none⟩), .pointer (some ⟨b8, 0, none⟩)]] [fz b8 [.func (.func 55) #[] #[.pointer (some ⟨b3, 0, none⟩), .pointer (some ⟨b2, 0, none⟩)]] 80, fz b9 [.func (.func 30) #[] #[]] 83, fz b2 [.func (.func 85) #[] #[.pointer (some ⟨b, 0, none⟩)]] 80, fz b3 [.int .i64 kk] 3, fz b [.slice a n c] 29, sh (fun w => Tab w a n 3 (xs.map cellB))] (fun v H' => ∃ a' c', v = .slice a' (manyB n kk) c' ∧ H' = [own 3 1 a' ((manyB n kk)) c' (intsB (xs.take (manyB n kk)))]) := by
  refine SpecS.enter Try.func26 rfl 6 rfl (Nat.le_of_ble_eq_true rfl) (fun o => ?_)
  refine SG.seq ?_
  refine SG.region ?_
  refine SL.val rfl rfl (fun w9 F9 S9 s => R.as rfl) ?_
  refine SL.nil ?_
  refine SN.seq ?_
  refine SG.seq ?_
  refine SG.region ?_
  refine SL.val rfl rfl (fun w9 F9 S9 s => R.mv rfl) ?_
  refine SL.step rfl rfl (CS.call rfl go52 (eachI 53 [] [.pointer (some ⟨b9, 0, none⟩), .pointer (some ⟨b8, 0, none⟩)]) (by repeat (first | exact Sels.nil | apply Sels.cons | exact Sel.keep | exact Sel.here | apply Sel.there))) ?_
  rintro _ _ ⟨_, ⟨rfl, rfl⟩, rfl⟩
  refine SL.n0 ?_
  refine SL.step rfl rfl (CS.call rfl go51 (collect_ok b8 b9 b2 b3 b kk a n c xs hl hb hkk) (by repeat (first | exact Sels.nil | apply Sels.cons | exact Sel.keep | exact Sel.here | apply Sel.there))) ?_
  rintro _ _ ⟨_, ⟨a9, c9, rfl, rfl⟩, rfl⟩
  refine SL.n1 ?_
  refine SL.val rfl rfl (fun w9 F9 S9 s => R.as rfl) ?_
  refine SL.nil ?_
  refine SN.seq ?_
  exact SG.ret1 rfl rfl ((Imp.sels (by repeat (first | exact Sels.nil | apply Sels.cons | exact Sel.keep | exact Sel.here | apply Sel.there)))) (⟨a9, c9, rfl, rfl⟩)

end Go.Proofs.Ytlhkpakbenghgaa
/-
  The walks of package stats.
-/
set_option linter.unusedVariables false
set_option linter.unusedSimpArgs false
set_option maxRecDepth 4000
namespace Go.Proofs.Ytlhkpakbenghgaa
open Go Brv Brv.Stats
theorem stabS_ok (a : Option Addr) (n c : Nat) (l0 : List E3) (hn : n < 20) : SpecS Try.prog 49 [.slice a n c, .int .i64 (n : Int), .func (.func 24) #[] #[]] [own 32 3 a n c (List.map cellB l0).flatten] (fun v H' => ∃ ys, v = .tuple #[] ∧ Part l0 ys 0 n ∧ H' = [own 32 3 a n c (List.map cellB ys).flatten]) := by
  refine SpecS.enter Try.func49 rfl 63 rfl (Nat.le_of_ble_eq_true rfl) (fun o => ?_)
  refine SG.fact (fun w9 F9 S9 s => s.ownL (show Sel _ (own 32 3 a n c (List.map cellB l0).flatten) _ from (by repeat (first | exact Sel.keep | exact Sel.here | apply Sel.there)))) (fun hf9 => ?_)
  obtain ⟨hll0, hnc⟩ := hf9
  rw [flat_len cellB_len] at hll0
  have hll : l0.length = n := by omega
  refine SG.seq ?_
  refine SG.region ?_
  refine SL.val rfl rfl (fun w9 F9 S9 s => R.as rfl) ?_
  refine SL.nil ?_
  refine SN.seq ?_
  refine SG.seq ?_
  refine SG.region ?_
  refine SL.val rfl rfl (fun w9 F9 S9 s => R.mv rfl) ?_
  refine SL.val rfl rfl (fun w9 F9 S9 s => R.as rfl) ?_
  refine SL.val rfl rfl (fun w9 F9 S9 s => R.as rfl) ?_
  refine SL.nil ?_
  refine SN.seq ?_
  refine SG.seq ?_
  refine SG.block ?_
  refine SG.loop (X := Unit) (fun _ => [(0, .slice a n c), (1, .int .i64 (n : Int)), (2, .func (.func 24) #[] #[]), (6, .int .i64 20), (7, .int .i64 0), (8, .int .i64 20)]) (fun _ => [own 32 3 a n c (List.map cellB l0).flatten]) (fun _ => True) (fun _ => 0) (()) (Sub.cons rfl (Sub.cons rfl (Sub.cons rfl (Sub.cons rfl (Sub.cons rfl (Sub.cons rfl (Sub.nil _))))))) ((Imp.sels (by repeat (first | exact Sels.nil | apply Sels.cons | exact Sel.keep | exact Sel.here | apply Sel.there)))) (trivial) ?_
  rintro _ _
  refine SG.seq ?_
  refine SG.seq ?_
  refine SG.region ?_
  refine SL.val rfl rfl (fun w9 F9 S9 s => R.mv rfl) ?_
  refine SL.val rfl rfl (fun w9 F9 S9 s => R.mv rfl) ?_
  refine SL.val rfl rfl (fun w9 F9 S9 s => R.leq rfl rfl) ?_
  refine SL.nil ?_
  refine SN.seq ?_
  refine SG.condP rfl (fun h0 => ?_) (fun h0 => ?_)
  · exfalso; omega
  · refine SG.exit _ rfl ?_
    refine SN.seq ?_
    refine SG.seq ?_
    refine SG.region ?_
    refine SL.val rfl rfl (fun w9 F9 S9 s => R.mv rfl) ?_
    refine SL.val rfl rfl (fun w9 F9 S9 s => R.mv rfl) ?_
    refine SL.val rfl rfl (fun w9 F9 S9 s => R.mv rfl) ?_
    refine SL.val rfl rfl (fun w9 F9 S9 s => R.mv rfl) ?_
    refine SL.step rfl rfl (CS.call rfl go80 (ins_ok a n c l0 0 n (by omega) (by omega) (by omega)) (by repeat (first | exact Sels.nil | apply Sels.cons | exact Sel.keep | exact Sel.here | apply Sel.there))) ?_
    rintro _ _ ⟨_, ⟨rfl, rfl⟩, rfl⟩
    refine SL.n1 ?_
    refine SL.nil ?_
    refine SN.seq ?_
    refine SG.block ?_
    refine SG.loop (X := Unit) (fun _ => [(0, .slice a n c), (1, .int .i64 (n : Int)), (2, .func (.func 24) #[] #[]), (6, .int .i64 20)]) (fun _ => [own 32 3 a n c (List.map cellB (insM l0 0 n)).flatten]) (fun _ => True) (fun _ => 0) (()) (Sub.cons rfl (Sub.cons rfl (Sub.cons rfl (Sub.cons rfl (Sub.nil _))))) ((Imp.sels (by repeat (first | exact Sels.nil | apply Sels.cons | exact Sel.keep | exact Sel.here | apply Sel.there)))) (trivial) ?_
    rintro _ _
    refine SG.seq ?_
    refine SG.seq ?_
    refine SG.region ?_
    refine SL.val rfl rfl (fun w9 F9 S9 s => R.mv rfl) ?_
    refine SL.val rfl rfl (fun w9 F9 S9 s => R.mv rfl) ?_
    refine SL.val rfl rfl (fun w9 F9 S9 s => R.lss rfl rfl) ?_
    refine SL.nil ?_
    refine SN.seq ?_
    refine SG.condP rfl (fun h1 => ?_) (fun h1 => ?_)
    · exfalso; omega
    · refine SG.exit _ rfl ?_
      exact SN.end0 rfl ((Imp.sels (by repeat (first | exact Sels.nil | apply Sels.cons | exact Sel.keep | exact Sel.here | apply Sel.there)))) (⟨_, rfl, insM_part (by omega) (by omega), rfl⟩)

theorem sortS_ok (a : Option Addr) (n c : Nat) (l0 : List E3) (hn : n < 20) : SpecS Try.prog 23 [.slice a n c, .func (.func 24) #[] #[]] [own 32 3 a n c (List.map cellB l0).flatten] (fun v H' => ∃ ys, v = .tuple #[] ∧ Part l0 ys 0 n ∧ H' = [own 32 3 a n c (List.map cellB ys).flatten]) := by
  refine SpecS.enter Try.func23 rfl 9 rfl (Nat.le_of_ble_eq_true rfl) (fun o => ?_)
  refine SG.region ?_
  refine SL.val rfl rfl (fun w9 F9 S9 s => R.mv rfl) ?_
  refine SL.val rfl rfl (fun w9 F9 S9 s => R.mv rfl) ?_
  refine SL.val rfl rfl (fun w9 F9 S9 s => R.lenS rfl) ?_
  refine SL.val rfl rfl (fun w9 F9 S9 s => R.mv rfl) ?_
  refine SL.step rfl rfl (CS.call rfl go49 (stabS_ok a n c l0 hn) (by repeat (first | exact Sels.nil | apply Sels.cons | exact Sel.keep | exact Sel.here | apply Sel.there))) ?_
  rintro _ _ ⟨_, ⟨ys, rfl, hys, rfl, rfl⟩, rfl⟩
  refine SL.n1 ?_
  refine SL.nil ?_
  exact SN.end0 rfl ((Imp.sels (by repeat (first | exact Sels.nil | apply Sels.cons | exact Sel.keep | exact Sel.here | apply Sel.there)))) (⟨ys, rfl, hys, rfl⟩)

end Go.Proofs.Ytlhkpakbenghgaa
/-
  The walks of package stats.
-/
set_option linter.unusedVariables false
set_option linter.unusedSimpArgs false
set_option maxRecDepth 4000
namespace Go.Proofs.Ytlhkpakbenghgaa
open Go Brv Brv.Stats
theorem hotS_ok (a : Option Addr) (n c : Nat) (its : List RecV) (kk : Int) (hb : n * 48 ≤ 140737488355328) (hw : wsL its ≤ 900000) (hkk : kk ≤ 9223372036854775807) (hT : (bzT its).length < 20) : SpecS Try.prog 8 [.slice a n c, .int .i64 kk] [sh (fun w => RecsOk w a n its)] (fun v H' => ∃ ys a' c', v = .slice a' (manyB (bzT its).length kk) c' ∧ Part (bzT its) ys 0 (bzT its).length ∧ H' = [own 3 1 a' (manyB (bzT its).length kk) c' (intsB (ys.take (manyB (bzT its).length kk)))]) := by
  refine SpecS.enter Try.func8 rfl 16 rfl (Nat.le_of_ble_eq_true rfl) (fun o => ?_)
  have hbl : (bzT its).length ≤ wsL its := Nat.le_trans (bzL_len _) (wsK_le its _)
  refine SG.seq ?_
  refine SG.region ?_
  refine SL.val rfl rfl (fun w9 F9 S9 s => R.as rfl) ?_
  refine SL.nil ?_
  refine SN.seq ?_
  refine SG.seq ?_
  refine SG.region ?_
  refine SL.val rfl rfl (fun w9 F9 S9 s => R.mv rfl) ?_
  refine SL.step rfl rfl (CS.call rfl go7 (Blocks_ok a n c its (by omega) hw) (by repeat (first | exact Sels.nil | apply Sels.cons | exact Sel.keep | exact Sel.here | apply Sel.there))) ?_
  rintro _ _ ⟨_, ⟨a7, c7, rfl, rfl⟩, rfl⟩
  refine SL.n1 ?_
  refine SL.val rfl rfl (fun w9 F9 S9 s => R.as rfl) ?_
  refine SL.nil ?_
  refine SN.seq ?_
  refine SG.seq ?_
  refine SG.region ?_
  refine SL.val rfl rfl (fun w9 F9 S9 s => R.mv rfl) ?_
  refine SL.step rfl rfl (CS.call rfl go23 (sortS_ok a7 (bzT its).length c7 (bzT its) hT) (by repeat (first | exact Sels.nil | apply Sels.cons | exact Sel.keep | exact Sel.here | apply Sel.there))) ?_
  rintro _ _ ⟨_, ⟨ys, rfl, hys, rfl, rfl⟩, rfl⟩
  refine SL.n1 ?_
  refine SL.nil ?_
  have hyl := hys.len
  refine SN.imp (Imp.ownSh (show Sel _ (own 32 3 a7 (bzT its).length c7 (List.map cellB ys).flatten) _ from (by repeat (first | exact Sel.keep | exact Sel.here | apply Sel.there))) (p := fun w => Tab w a7 (bzT its).length 3 (ys.map cellB)) (fun w h => tab_ownR h (by rw [List.length_map, hyl]) (cellR ys))) ?_
  refine SN.seq ?_
  refine SG.seq ?_
  refine SG.region ?_
  refine SL.val rfl rfl (fun w9 F9 S9 s => R.mv rfl) ?_
  refine SL.step rfl rfl (CS.call rfl go29 (ofBusy a7 (bzT its).length c7 (ys.map cellB) (cellR ys) (by omega)) (by repeat (first | exact Sels.nil | apply Sels.cons | exact Sel.keep | exact Sel.here | apply Sel.there))) ?_
  rintro _ _ ⟨_, ⟨b1, a1, c1, rfl, rfl⟩, rfl⟩
  refine SL.n2 ?_
  refine SL.val rfl rfl (fun w9 F9 S9 s => R.mv rfl) ?_
  refine SL.step rfl rfl (CS.call rfl go28 (first_ok _ kk rfl) (by repeat (first | exact Sels.nil | apply Sels.cons | exact Sel.keep | exact Sel.here | apply Sel.there))) ?_
  rintro _ _ ⟨_, ⟨b2, b3, rfl, rfl⟩, rfl⟩
  refine SL.n2 ?_
  refine SL.step rfl rfl (CS.call rfl go27 (map_ok _ _ rfl rfl) (by repeat (first | exact Sels.nil | apply Sels.cons | exact Sel.keep | exact Sel.here | apply Sel.there))) ?_
  rintro _ _ ⟨_, ⟨b8, b9, rfl, rfl⟩, rfl⟩
  refine SL.n2 ?_
  refine SL.step rfl rfl (CS.call rfl go26 (list_ok b8 b9 b2 b3 b1 kk a1 (bzT its).length c1 ys hyl.symm (by omega) hkk) (by repeat (first | exact Sels.nil | apply Sels.cons | exact Sel.keep | exact Sel.here | apply Sel.there))) ?_
  rintro _ _ ⟨_, ⟨a9, c9, rfl, rfl⟩, rfl⟩
  refine SL.n1 ?_
  refine SL.val rfl rfl (fun w9 F9 S9 s => R.as rfl) ?_
  refine SL.nil ?_
  refine SN.seq ?_
  exact SG.ret1 rfl rfl ((Imp.sels (by repeat (first | exact Sels.nil | apply Sels.cons | exact Sel.keep | exact Sel.here | apply Sel.there)))) (⟨ys, a9, c9, rfl, hys, rfl⟩)

end Go.Proofs.Ytlhkpakbenghgaa
/-
  The walks of package stats.
-/
set_option linter.unusedVariables false
set_option linter.unusedSimpArgs false
set_option maxRecDepth 4000
namespace Go.Proofs.Ytlhkpakbenghgaa
open Go Brv Brv.Stats
/-- A write of the law's own. -/
def mkW (q : Int) (g : Nat) : WriteV := ⟨q, some ⟨g, 0, none⟩, 2, 2, [97, 98]⟩
def mkWs (qs : List Int) (gs : List Nat) : List WriteV := List.zipWith mkW qs gs
theorem mkWs_snoc {qs : List Int} {gs : List Nat} {k : Nat} {q : Int} (h : qs[k]? = some q) (hg : gs.length = k) (g : Nat) : mkWs (qs.take k) gs ++ [mkW q g] = mkWs (qs.take (k + 1)) (gs ++ [g]) := by
  have hk := (List.getElem?_eq_some_iff.1 h).1
  unfold mkWs
  rw [List.take_add_one, h, List.zipWith_append (by rw [List.length_take]; omega)]; rfl
theorem mkWs_len {qs : List Int} {gs : List Nat} {k : Nat} (hk : k ≤ qs.length) (hg : gs.length = k) : (mkWs (qs.take k) gs).length = k := by unfold mkWs; rw [List.length_zipWith, List.length_take]; omega
theorem ints_ld {w : World} {p : Addr} {qs : List Int} {k : Nat} {q : Int} (h : Cells w (some p) (qs.map (Value.int .i64))) (hq : qs[k]? = some q) : w.cell? (p.add ((k : Int).toNat * 1)) = some (.int .i64 q) := by
  rw [Int.toNat_natCast, Nat.mul_one]
  exact h.load (by rw [List.getElem?_map, hq]; rfl)
def WsOk (ws : List WriteV) (w : World) : Prop := ∀ z ∈ ws, z.ok w
theorem w1_ok (b0 n : Nat) (qs : List Int) (hn : n = qs.length) (hb : n ≤ 1000) (hqs : ∀ q ∈ qs, (Lit.int .i64 q).wf = true) : SpecS Try.prog 10 [.slice (some ⟨b0, 0, none⟩) n n] [blk b0 (qs.map (Value.int .i64)) 3] (fun v H' => ∃ gs a' c', v = .slice a' n c' ∧ List.length gs = n ∧ H' = [own 47 2 a' (n) c' (List.map WriteV.cells (mkWs qs gs)).flatten, sh (WsOk (mkWs qs gs))]) := by
  refine SpecS.enter Try.func10 rfl 20 rfl (Nat.le_of_ble_eq_true rfl) (fun o => ?_)
  refine SG.seq ?_
  refine SG.region ?_
  refine SL.val rfl rfl (fun w9 F9 S9 s => R.as rfl) ?_
  refine SL.nil ?_
  refine SN.seq ?_
  refine SG.seq ?_
  refine SG.seq ?_
  refine SG.region ?_
  refine SL.val rfl rfl (fun w9 F9 S9 s => R.mv rfl) ?_
  refine SL.val rfl rfl (fun w9 F9 S9 s => R.lenS rfl) ?_
  refine SL.val rfl rfl (fun w9 F9 S9 s => R.mv rfl) ?_
  refine SL.nil ?_
  refine SN.seq ?_
  refine SG.block ?_
  refine SG.loop (X := List Nat × Option Addr × Nat × Nat) (fun y => [(0, .slice (some ⟨b0, 0, none⟩) n n), (2, .slice y.2.1 y.2.2.2 y.2.2.1), (5, .slice (some ⟨b0, 0, none⟩) n n), (6, .int .i64 (n : Int)), (7, .int .i64 (y.2.2.2 : Int))]) (fun y => [blk b0 (qs.map (Value.int .i64)) 3, own 47 2 y.2.1 (y.2.2.2) y.2.2.1 (List.map WriteV.cells (mkWs (qs.take y.2.2.2) y.1)).flatten, sh (WsOk (mkWs (qs.take y.2.2.2) y.1))]) (fun y => y.1.length = y.2.2.2 ∧ y.2.2.2 ≤ n) (fun y => n - y.2.2.2) (([], none, 0, 0)) (Sub.cons rfl (Sub.cons rfl (Sub.cons rfl (Sub.cons rfl (Sub.cons rfl (Sub.nil _)))))) (((Imp.ownNil 47 2).trans ((Imp.pure (p := WsOk []) (fun _ z hz => by cases hz)).trans (Imp.sels (by repeat (first | exact Sels.nil | apply Sels.cons | exact Sel.keep | exact Sel.here | apply Sel.there)))))) (⟨rfl, Nat.zero_le _⟩) ?_
  rintro ⟨gs, a9, c9, k⟩ ⟨hgl, hk⟩
  dsimp only at hgl hk
  show SG _ _ _ _ _ [(0, .slice (some ⟨b0, 0, none⟩) n n), (2, .slice a9 k c9), (5, .slice (some ⟨b0, 0, none⟩) n n), (6, .int .i64 (n : Int)), (7, .int .i64 (k : Int))] [blk b0 (qs.map (Value.int .i64)) 3, own 47 2 a9 (k) c9 (List.map WriteV.cells (mkWs (qs.take k) gs)).flatten, sh (WsOk (mkWs (qs.take k) gs))] _
  refine SG.seq ?_
  refine SG.region ?_
  refine SL.val rfl rfl (fun w9 F9 S9 s => R.lss rfl rfl) ?_
  refine SL.nil ?_
  refine SN.seq ?_
  refine SG.seq ?_
  refine SG.condP rfl (fun h0 => ?_) (fun h0 => ?_)
  · obtain ⟨q, hq⟩ : ∃ q, qs[k]? = some q := ⟨_, List.getElem?_eq_getElem (by omega)⟩
    have hwl := mkWs_len (qs := qs) (gs := gs) (k := k) (by omega) hgl
    have hqb := hqs q (List.mem_of_getElem? hq)
    refine SG.skip ?_
    refine SN.seq ?_
    refine SG.seq ?_
    refine SG.block ?_
    refine SG.seq ?_
    refine SG.region ?_
    refine SL.val rfl rfl (fun w9 F9 S9 s => R.idx rfl rfl (by omega) (by omega) _ rfl) ?_
    refine SL.val rfl rfl (fun w9 F9 S9 s => R.ld (v := .int .i64 q) rfl (ints_ld (s.blkC (show Sel _ (blk b0 (qs.map (Value.int .i64)) 3) _ from (by repeat (first | exact Sel.keep | exact Sel.here | apply Sel.there)))) hq)) ?_
    refine SL.val rfl rfl (fun w9 F9 S9 s => R.as rfl) ?_
    refine SL.nil ?_
    refine SN.seq ?_
    refine SG.region ?_
    refine SL.val rfl rfl (fun w9 F9 S9 s => R.mv rfl) ?_
    refine SL.val rfl rfl (fun w9 F9 S9 s => R.mv rfl) ?_
    refine SL.step rfl rfl (CS.buildA rfl rfl rfl rfl rfl (vbs [97, 98]) rfl) ?_
    rintro _ _ ⟨b13, rfl, rfl⟩
    refine SL.step rfl rfl (CS.markB (l := [97, 98]) rfl (show Sel _ (blk b13 _ _) _ from (by repeat (first | exact Sel.keep | exact Sel.here | apply Sel.there))) rfl) ?_
    rintro _ _ ⟨rfl, rfl⟩
    refine SL.val rfl rfl (fun w9 F9 S9 s => R.buildN (l := (mkW q b13).cells) rfl rfl) ?_
    refine SL.step rfl rfl (CS.buildA rfl rfl rfl rfl rfl (mkW q b13).cells rfl) ?_
    rintro _ _ ⟨b16, rfl, rfl⟩
    refine SL.step rfl rfl (CS.app rfl rfl (show Sel _ (own 47 2 a9 (k) c9 (List.map WriteV.cells (mkWs (qs.take k) gs)).flatten) _ from (by repeat (first | exact Sel.keep | exact Sel.here | apply Sel.there))) (fun w9 F9 S9 s => s.blkC (show Sel _ (blk b16 (mkW q b13).cells _) _ from (by repeat (first | exact Sel.keep | exact Sel.here | apply Sel.there)))) rfl (WriteV.cells.one _) (by simp [maxLen]; omega) (by omega)) ?_
    rintro _ _ ⟨a17, c17, rfl, rfl⟩
    refine SL.val rfl rfl (fun w9 F9 S9 s => R.as rfl) ?_
    refine SL.nil ?_
    refine SN.imp (Imp.both (show Sel _ (sh (WsOk (mkWs (qs.take k) gs))) _ from (by repeat (first | exact Sel.keep | exact Sel.here | apply Sel.there))) (show Sel _ (sh (fun w => Bs w (some ⟨b13, 0, none⟩) [97, 98].length [97, 98])) _ from (by repeat (first | exact Sel.keep | exact Sel.here | apply Sel.there)))) ?_
    refine SN.imp (Imp.weak (p := fun w => WsOk (mkWs (qs.take k) gs) w ∧ Bs w (some ⟨b13, 0, none⟩) [97, 98].length [97, 98]) (q := WsOk (mkWs (qs.take (k + 1)) (gs ++ [b13]))) (by repeat (first | exact Sel.keep | exact Sel.here | apply Sel.there)) (fun w h => by rw [← mkWs_snoc hq hgl]; exact fun z hz => (List.mem_append.1 hz).elim (h.1 z) (fun hz => by rw [List.mem_singleton.1 hz]; exact ⟨hqb, Nat.le_refl _, (show (2 : Nat) ≤ 140737488351232 by decide), h.2⟩))) ?_
    refine SN.block ?_
    refine SN.seq ?_
    refine SG.region ?_
    refine SL.val rfl rfl (fun w9 F9 S9 s => R.add rfl rfl (by omega)) ?_
    refine SL.val rfl rfl (fun w9 F9 S9 s => R.mv rfl) ?_
    refine SL.nil ?_
    exact SN.again ((gs ++ [b13], a17, c17, k + 1)) (by show n - (k + 1) < n - k; omega) (Sub.cons rfl (Sub.cons rfl (Sub.cons rfl (Sub.cons rfl (Sub.cons rfl (Sub.nil _)))))) ((show Imp _ _ by dsimp only; rw [← mkWs_snoc hq hgl, List.map_append, List.flatten_append]; exact (Imp.sels (by repeat (first | exact Sels.nil | apply Sels.cons | exact Sel.keep | exact Sel.here | apply Sel.there))))) (⟨by show (gs ++ [b13]).length = k + 1; simp; omega, by show k + 1 ≤ n; omega⟩)
  · obtain rfl : n = k := by omega
    rw [List.take_of_length_le (show qs.length ≤ n by omega)]
    refine SG.exit _ rfl ?_
    refine SN.seq ?_
    refine SG.seq ?_
    refine SG.region ?_
    refine SL.val rfl rfl (fun w9 F9 S9 s => R.mv rfl) ?_
    refine SL.val rfl rfl (fun w9 F9 S9 s => R.as rfl) ?_
    refine SL.nil ?_
    refine SN.seq ?_
    exact SG.ret1 rfl rfl ((Imp.sels (by repeat (first | exact Sels.nil | apply Sels.cons | exact Sel.keep | exact Sel.here | apply Sel.there)))) (⟨gs, a9, c9, rfl, hgl, rfl⟩)

end Go.Proofs.Ytlhkpakbenghgaa
/-
  The structs of plain fields, to be compared.
-/
set_option linter.unusedVariables false
set_option maxRecDepth 100000
namespace Go.Proofs.Ytlhkpakbenghgaa
open Go Brv
instance : TyEqS Try.prog 28 [.i .i64, .i .i64, .i .i64, .i .i64] := ⟨by kernel_rfl, by kernel_rfl, by kernel_rfl, by kernel_rfl⟩ -- api.Usage
instance : TyEqS Try.prog 32 [.i .i64, .i .i64, .i .i64] := ⟨by kernel_rfl, by kernel_rfl, by kernel_rfl, by kernel_rfl⟩ -- api.Busy
instance : TyEqS Try.prog 40 [.i .i64, .i .i64] := ⟨by kernel_rfl, by kernel_rfl, by kernel_rfl, by kernel_rfl⟩ -- api.Extent
instance : TyEqS Try.prog 114 [.i .i64, .i .i64] := ⟨by kernel_rfl, by kernel_rfl, by kernel_rfl, by kernel_rfl⟩ -- order.pair[int,int]
end Go.Proofs.Ytlhkpakbenghgaa
/-
  The walks of package stats.
-/
set_option linter.unusedVariables false
set_option linter.unusedSimpArgs false
set_option maxRecDepth 4000
namespace Go.Proofs.Ytlhkpakbenghgaa
open Go Brv Brv.Stats
def fIts (g : Nat) : List ItemV := [⟨0, 2, 0, 0, 0, 0, 0, 5, some ⟨g, 0, none⟩, 1, 1, [⟨1, 2⟩]⟩, ⟨0, 1, 0, 0, 0, 0, 0, 7, none, 0, 0, []⟩]
theorem fIts_us (g : Nat) : usT (fIts g) = [(1, (1, 7, 0)), (2, (1, 5, 2))] := by
  show accT [] [(2, (1, 5, secE [⟨1, 2⟩])), (1, (1, 7, secE []))] = _
  decide +kernel
theorem fIts_sec (g : Nat) : secL (fIts g) = 2 := by
  show wr (wr (0 + secE [⟨1, 2⟩]) + secE []) = 2
  decide +kernel
theorem fIts_ok {w : World} {g h : Nat} (h1 : Cells w (some ⟨g, 0, none⟩) [.int .i64 1, .int .i64 2]) (h2 : Cells w (some ⟨h, 0, none⟩) ((fIts g).map ItemV.cells).flatten) : ItemsOk w (some ⟨h, 0, none⟩) 2 (fIts g) := by
  refine ⟨rfl, ⟨h2, rfl, fun vs hv => (itemR _ vs hv).1⟩, ?_⟩
  intro x hx
  simp only [fIts, List.mem_cons, List.not_mem_nil, or_false] at hx
  rcases hx with rfl | rfl
  · exact ⟨rfl, rfl, rfl, rfl, rfl, rfl, rfl, rfl, Nat.le_refl _, (show 1 * 16 ≤ 140737488351232 by decide), ⟨h1, rfl, fun vs hv => by rw [List.mem_singleton.1 hv]; rfl⟩, fun z hz => by rw [List.mem_singleton.1 hz]; exact ⟨by decide, by decide⟩⟩
  · exact ⟨by decide, by decide, by decide, by decide, by decide, by decide, by decide, by decide, Nat.le_refl _, (show 0 * 16 ≤ 140737488351232 by decide), ⟨fun j v hj => by simp at hj, rfl, fun vs hv => by cases hv⟩, fun z hz => by cases hz⟩
def fRecs (a : Option Addr) (c : Nat) (ws : List WriteV) (a' : Option Addr) (c' : Nat) (ws' : List WriteV) : List RecV := [⟨0, 0, 4, a, 2, c, ws⟩, ⟨0, 0, 5, a', 1, c', ws'⟩]
section
variable {w : World} {a a' : Option Addr} {c c' g g1 g2 h : Nat}
theorem fRecs_bz : bzT (fRecs a c (mkWs [3, 1] [g, g1]) a' c' (mkWs [3] [g2])) = [(1, (1, 4)), (3, (2, 5))] := by
  show bzR (bzR [] 0 4 [3, 1]) 1 5 [3] = _
  decide +kernel
theorem fRecs_by : byR 0 (fRecs a c (mkWs [3, 1] [g, g1]) a' c' (mkWs [3] [g2])) = 6 := by
  show wr (wr (wr (0 + 2) + 2) + 2) = 6
  decide +kernel
theorem fRecs_ok (h1 : Cells w a ((mkWs [3, 1] [g, g1]).map WriteV.cells).flatten) (k1 : WsOk (mkWs [3, 1] [g, g1]) w) (h2 : Cells w a' ((mkWs [3] [g2]).map WriteV.cells).flatten) (k2 : WsOk (mkWs [3] [g2]) w)
    (h3 : Cells w (some ⟨h, 0, none⟩) ((fRecs a c (mkWs [3, 1] [g, g1]) a' c' (mkWs [3] [g2])).map RecV.cells).flatten) : RecsOk w (some ⟨h, 0, none⟩) 2 (fRecs a c (mkWs [3, 1] [g, g1]) a' c' (mkWs [3] [g2])) := by
  refine ⟨rfl, ⟨h3, rfl, fun vs hv => by obtain ⟨x, _, rfl⟩ := List.mem_map.1 hv; rfl⟩, ?_⟩
  intro x hx
  simp only [fRecs, List.mem_cons, List.not_mem_nil, or_false] at hx
  rcases hx with rfl | rfl
  · exact ⟨⟨h1, rfl, fun vs hv => by obtain ⟨x, _, rfl⟩ := List.mem_map.1 hv; rfl⟩, (show 2 * 32 ≤ 140737488355328 by decide), k1⟩
  · exact ⟨⟨h2, rfl, fun vs hv => by obtain ⟨x, _, rfl⟩ := List.mem_map.1 hv; rfl⟩, (show 1 * 32 ≤ 140737488355328 by decide), k2⟩
theorem fRecs_hot {ys : List E3} (hp : Part [(1, (1, 4)), (3, (2, 5))] ys 0 2) : ys = [(3, (2, 5)), (1, (1, 4))] := by
  obtain ⟨P, A, B, Q, h1, h2, h3, h4, h5, h6, h7⟩ := hp
  obtain rfl : P = [] := List.length_eq_zero_iff.1 h3
  have hQ : Q = [] := by
    have := congrArg List.length h1
    simp only [List.length_append, List.length_nil, List.length_cons] at this
    exact List.length_eq_zero_iff.1 (by omega)
  subst hQ
  simp only [List.nil_append, List.append_nil] at h1 h2
  subst h1 h2
  refine Down.uniq h7 ?_ (h6.symm.trans ?_)
  · refine List.pairwise_cons.2 ⟨fun z hz => ?_, List.pairwise_singleton _ _⟩
    rw [List.mem_singleton.1 hz]; decide
  · exact Stb.swap (l := [(1, (1, 4))]) (m := [(3, (2, 5))]) fun x hx y hy => by rw [List.mem_singleton.1 hx, List.mem_singleton.1 hy]; decide
end

theorem us_first (g h : Nat) : SpecS Try.prog 6 [.slice (some ⟨h, 0, none⟩) 2 2] [sh (fun w => ItemsOk w (some ⟨h, 0, none⟩) 2 (fIts g))] (fun v H' => ∃ a' c', v = .slice a' 2 c' ∧ H' = [own 28 4 a' 2 c' [.int .i64 1, .int .i64 1, .int .i64 7, .int .i64 0, .int .i64 2, .int .i64 1, .int .i64 5, .int .i64 2]]) := by
  have h := Usages_ok (some ⟨h, 0, none⟩) 2 2 (fIts g) (by decide)
  rw [fIts_us] at h
  exact h
theorem bz_first {a a' : Option Addr} {c c' g g1 g2 : Nat} (h : Nat) : SpecS Try.prog 7 [.slice (some ⟨h, 0, none⟩) 2 2] [sh (fun w => RecsOk w (some ⟨h, 0, none⟩) 2 (fRecs a c (mkWs [3, 1] [g, g1]) a' c' (mkWs [3] [g2])))] (fun v H' => ∃ a' c', v = .slice a' 2 c' ∧ H' = [own 32 3 a' 2 c' [.int .i64 1, .int .i64 1, .int .i64 4, .int .i64 3, .int .i64 2, .int .i64 5]]) := by
  have h := Blocks_ok (some ⟨h, 0, none⟩) 2 2 (fRecs a c (mkWs [3, 1] [g, g1]) a' c' (mkWs [3] [g2])) (by decide) (show 2 + (1 + 0) ≤ 900000 by decide)
  rw [fRecs_bz] at h
  exact h
theorem hot_first {a a' : Option Addr} {c c' g g1 g2 : Nat} (h : Nat) : SpecS Try.prog 8 [.slice (some ⟨h, 0, none⟩) 2 2, .int .i64 1] [sh (fun w => RecsOk w (some ⟨h, 0, none⟩) 2 (fRecs a c (mkWs [3, 1] [g, g1]) a' c' (mkWs [3] [g2])))] (fun v H' => ∃ a' c', v = .slice a' 1 c' ∧ H' = [own 3 1 a' 1 c' [.int .i64 3]]) := by
  have h := hotS_ok (some ⟨h, 0, none⟩) 2 2 (fRecs a c (mkWs [3, 1] [g, g1]) a' c' (mkWs [3] [g2])) 1 (by decide) (show 2 + (1 + 0) ≤ 900000 by decide) (by decide) (by rw [fRecs_bz]; decide)
  rw [fRecs_bz] at h
  refine h.mono ?_
  rintro v H' ⟨ys, a9, c9, h1, h2, h3⟩
  rw [fRecs_hot h2] at h3
  exact ⟨a9, c9, h1, h3⟩

theorem part_at {w : World} {g k : Nat} {xs ys : List Value} (h : Cells w (some ⟨g, 0, none⟩) (xs ++ ys)) (hk : xs.length = k) : Cells w (some ⟨g, k, none⟩) ys := by
  subst hk
  intro j v hj
  refine ⟨_, rfl, ?_⟩
  have := h.load (j := xs.length + j) (by rw [List.getElem?_append_right (by omega), Nat.add_sub_cancel_left]; exact hj)
  rw [Go.Addr.add_lit] at this ⊢
  simpa using this

theorem first43_ok  : SpecS Try.prog 5 [] [] (fun v H' => v = .bool true ∧ H' = []) := by
  refine SpecS.enter Try.func5 rfl 70 rfl (Nat.le_of_ble_eq_true rfl) (fun o => ?_)
  refine SG.seq ?_
  refine SG.region ?_
  refine SL.val rfl rfl (fun w9 F9 S9 s => R.as rfl) ?_
  refine SL.nil ?_
  refine SN.seq ?_
  refine SG.seq ?_
  refine SG.region ?_
  refine SL.val rfl rfl (fun w9 F9 S9 s => R.buildN (l := [.int .i64 1, .int .i64 2]) rfl rfl) ?_
  refine SL.step rfl rfl (CS.buildA rfl rfl rfl rfl rfl [.int .i64 1, .int .i64 2] rfl) ?_
  rintro _ _ ⟨b8, rfl, rfl⟩
  refine SL.val rfl rfl (fun w9 F9 S9 s => R.buildN (l := ItemV.cells ⟨0, 2, 0, 0, 0, 0, 0, 5, some ⟨b8, 0, none⟩, 1, 1, [⟨1, 2⟩]⟩) rfl rfl) ?_
  refine SL.val rfl rfl (fun w9 F9 S9 s => R.buildN (l := ItemV.cells ⟨0, 1, 0, 0, 0, 0, 0, 7, none, 0, 0, []⟩) rfl rfl) ?_
  refine SL.step rfl rfl (CS.buildA rfl rfl rfl rfl rfl ((fIts b8).map ItemV.cells).flatten rfl) ?_
  rintro _ _ ⟨b11, rfl, rfl⟩
  refine SL.val rfl rfl (fun w9 F9 S9 s => R.as rfl) ?_
  refine SL.nil ?_
  refine SN.imp (Imp.blkSh (show Sel _ (blk b8 _ _) _ from (by repeat (first | exact Sel.keep | exact Sel.here | apply Sel.there))) (p := fun w => Cells w (some ⟨b8, 0, none⟩) [.int .i64 1, .int .i64 2]) (fun w h => Cells.of_blk h 0 _ (fun j v hj => by simpa using hj))) ?_
  refine SN.imp (Imp.blkSh (show Sel _ (blk b11 _ _) _ from (by repeat (first | exact Sel.keep | exact Sel.here | apply Sel.there))) (p := fun w => Cells w (some ⟨b11, 0, none⟩) ((fIts b8).map ItemV.cells).flatten) (fun w h => Cells.of_blk h 0 _ (fun j v hj => by simpa using hj))) ?_
  refine SN.imp (Imp.both (show Sel _ (sh (fun w => Cells w (some ⟨b8, 0, none⟩) [.int .i64 1, .int .i64 2])) _ from (by repeat (first | exact Sel.keep | exact Sel.here | apply Sel.there))) (show Sel _ (sh (fun w => Cells w (some ⟨b11, 0, none⟩) ((fIts b8).map ItemV.cells).flatten)) _ from (by repeat (first | exact Sel.keep | exact Sel.here | apply Sel.there)))) ?_
  refine SN.imp (Imp.weak (p := fun w => Cells w (some ⟨b8, 0, none⟩) [.int .i64 1, .int .i64 2] ∧ Cells w (some ⟨b11, 0, none⟩) ((fIts b8).map ItemV.cells).flatten) (q := fun w => ItemsOk w (some ⟨b11, 0, none⟩) 2 (fIts b8)) (by repeat (first | exact Sel.keep | exact Sel.here | apply Sel.there)) (fun w h => fIts_ok h.1 h.2)) ?_
  refine SN.seq ?_
  refine SG.seq ?_
  refine SG.region ?_
  refine SL.val rfl rfl (fun w9 F9 S9 s => R.mv rfl) ?_
  refine SL.step rfl rfl (CS.call rfl go6 (us_first b8 b11) (by repeat (first | exact Sels.nil | apply Sels.cons | exact Sel.keep | exact Sel.here | apply Sel.there))) ?_
  rintro _ _ ⟨_, ⟨a13, c13, rfl, rfl⟩, rfl⟩
  refine SL.n1 ?_
  refine SL.val rfl rfl (fun w9 F9 S9 s => R.as rfl) ?_
  refine SL.nil ?_
  refine SN.seq ?_
  refine SG.seq ?_
  refine SG.region ?_
  refine SL.val rfl rfl (fun w9 F9 S9 s => R.as rfl) ?_
  refine SL.nil ?_
  refine SN.seq ?_
  refine SG.seq ?_
  refine SG.region ?_
  refine SL.val rfl rfl (fun w9 F9 S9 s => R.mv rfl) ?_
  refine SL.step rfl rfl (CS.buildA rfl rfl rfl rfl rfl (List.map (Value.int .i64) [3, 1]) rfl) ?_
  rintro _ _ ⟨b15, rfl, rfl⟩
  refine SL.step rfl rfl (CS.callV rfl rfl rfl go10 (w1_ok b15 2 [3, 1] rfl (by decide) (by decide)) (by repeat (first | exact Sels.nil | apply Sels.cons | exact Sel.keep | exact Sel.here | apply Sel.there))) ?_
  rintro _ _ ⟨_, ⟨gs, a16, c16, rfl, hgs, rfl, rfl⟩, rfl⟩
  refine SL.n2 ?_
  obtain ⟨g, g1, rfl⟩ : ∃ x y, gs = [x, y] := by
    match gs, hgs with
    | [x, y], _ => exact ⟨x, y, rfl⟩
  refine SL.val rfl rfl (fun w9 F9 S9 s => R.buildN (l := RecV.cells ⟨0, 0, 4, a16, 2, c16, mkWs [3, 1] [g, g1]⟩) rfl rfl) ?_
  refine SL.val rfl rfl (fun w9 F9 S9 s => R.mv rfl) ?_
  refine SL.step rfl rfl (CS.buildA rfl rfl rfl rfl rfl (List.map (Value.int .i64) [3]) rfl) ?_
  rintro _ _ ⟨b19, rfl, rfl⟩
  refine SL.step rfl rfl (CS.callV rfl rfl rfl go10 (w1_ok b19 1 [3] rfl (by decide) (by decide)) (by repeat (first | exact Sels.nil | apply Sels.cons | exact Sel.keep | exact Sel.here | apply Sel.there))) ?_
  rintro _ _ ⟨_, ⟨gs, a20, c20, rfl, hgs, rfl, rfl⟩, rfl⟩
  refine SL.n2 ?_
  obtain ⟨g2, rfl⟩ : ∃ x, gs = [x] := by
    match gs, hgs with
    | [x], _ => exact ⟨x, rfl⟩
  refine SL.val rfl rfl (fun w9 F9 S9 s => R.buildN (l := RecV.cells ⟨0, 0, 5, a20, 1, c20, mkWs [3] [g2]⟩) rfl rfl) ?_
  refine SL.step rfl rfl (CS.buildA rfl rfl rfl rfl rfl ((fRecs a16 c16 (mkWs [3, 1] [g, g1]) a20 c20 (mkWs [3] [g2])).map RecV.cells).flatten rfl) ?_
  rintro _ _ ⟨b22, rfl, rfl⟩
  refine SL.val rfl rfl (fun w9 F9 S9 s => R.as rfl) ?_
  refine SL.nil ?_
  refine SN.imp (Imp.ownSh (show Sel _ (own 47 2 a16 (2) c16 (List.map WriteV.cells (mkWs [3, 1] [g, g1])).flatten) _ from (by repeat (first | exact Sel.keep | exact Sel.here | apply Sel.there))) (p := fun w => Cells w a16 ((mkWs [3, 1] [g, g1]).map WriteV.cells).flatten) (fun w h => h)) ?_
  refine SN.imp (Imp.ownSh (show Sel _ (own 47 2 a20 (1) c20 (List.map WriteV.cells (mkWs [3] [g2])).flatten) _ from (by repeat (first | exact Sel.keep | exact Sel.here | apply Sel.there))) (p := fun w => Cells w a20 ((mkWs [3] [g2]).map WriteV.cells).flatten) (fun w h => h)) ?_
  refine SN.imp (Imp.blkSh (show Sel _ (blk b22 _ _) _ from (by repeat (first | exact Sel.keep | exact Sel.here | apply Sel.there))) (p := fun w => Cells w (some ⟨b22, 0, none⟩) ((fRecs a16 c16 (mkWs [3, 1] [g, g1]) a20 c20 (mkWs [3] [g2])).map RecV.cells).flatten) (fun w h => Cells.of_blk h 0 _ (fun j v hj => by simpa using hj))) ?_
  refine SN.imp (Imp.both (show Sel _ (sh (fun w => Cells w a16 ((mkWs [3, 1] [g, g1]).map WriteV.cells).flatten)) _ from (by repeat (first | exact Sel.keep | exact Sel.here | apply Sel.there))) (show Sel _ (sh (WsOk (mkWs [3, 1] [g, g1]))) _ from (by repeat (first | exact Sel.keep | exact Sel.here | apply Sel.there)))) ?_
  refine SN.imp (Imp.both (show Sel _ (sh (fun w => Cells w a20 ((mkWs [3] [g2]).map WriteV.cells).flatten)) _ from (by repeat (first | exact Sel.keep | exact Sel.here | apply Sel.there))) (show Sel _ (sh (WsOk (mkWs [3] [g2]))) _ from (by repeat (first | exact Sel.keep | exact Sel.here | apply Sel.there)))) ?_
  refine SN.imp (Imp.both (show Sel _ (sh (fun w => Cells w a16 ((mkWs [3, 1] [g, g1]).map WriteV.cells).flatten ∧ WsOk (mkWs [3, 1] [g, g1]) w)) _ from (by repeat (first | exact Sel.keep | exact Sel.here | apply Sel.there))) (show Sel _ (sh (fun w => Cells w a20 ((mkWs [3] [g2]).map WriteV.cells).flatten ∧ WsOk (mkWs [3] [g2]) w)) _ from (by repeat (first | exact Sel.keep | exact Sel.here | apply Sel.there)))) ?_
  refine SN.imp (Imp.both (show Sel _ (sh (fun w => (Cells w a16 ((mkWs [3, 1] [g, g1]).map WriteV.cells).flatten ∧ WsOk (mkWs [3, 1] [g, g1]) w) ∧ (Cells w a20 ((mkWs [3] [g2]).map WriteV.cells).flatten ∧ WsOk (mkWs [3] [g2]) w))) _ from (by repeat (first | exact Sel.keep | exact Sel.here | apply Sel.there))) (show Sel _ (sh (fun w => Cells w (some ⟨b22, 0, none⟩) ((fRecs a16 c16 (mkWs [3, 1] [g, g1]) a20 c20 (mkWs [3] [g2])).map RecV.cells).flatten)) _ from (by repeat (first | exact Sel.keep | exact Sel.here | apply Sel.there)))) ?_
  refine SN.imp (Imp.weak (p := fun w => ((Cells w a16 ((mkWs [3, 1] [g, g1]).map WriteV.cells).flatten ∧ WsOk (mkWs [3, 1] [g, g1]) w) ∧ (Cells w a20 ((mkWs [3] [g2]).map WriteV.cells).flatten ∧ WsOk (mkWs [3] [g2]) w)) ∧ Cells w (some ⟨b22, 0, none⟩) ((fRecs a16 c16 (mkWs [3, 1] [g, g1]) a20 c20 (mkWs [3] [g2])).map RecV.cells).flatten) (q := fun w => RecsOk w (some ⟨b22, 0, none⟩) 2 (fRecs a16 c16 (mkWs [3, 1] [g, g1]) a20 c20 (mkWs [3] [g2]))) (by repeat (first | exact Sel.keep | exact Sel.here | apply Sel.there)) (fun w h => fRecs_ok h.1.1.1 h.1.1.2 h.1.2.1 h.1.2.2 h.2)) ?_
  refine SN.seq ?_
  refine SG.seq ?_
  refine SG.region ?_
  refine SL.val rfl rfl (fun w9 F9 S9 s => R.mv rfl) ?_
  refine SL.step rfl rfl (CS.call rfl go7 (bz_first b22) (by repeat (first | exact Sels.nil | apply Sels.cons | exact Sel.keep | exact Sel.here | apply Sel.there))) ?_
  rintro _ _ ⟨_, ⟨a24, c24, rfl, rfl⟩, rfl⟩
  refine SL.n1 ?_
  refine SL.val rfl rfl (fun w9 F9 S9 s => R.mv rfl) ?_
  refine SL.step rfl rfl (CS.call rfl go8 (hot_first b22) (by repeat (first | exact Sels.nil | apply Sels.cons | exact Sel.keep | exact Sel.here | apply Sel.there))) ?_
  rintro _ _ ⟨_, ⟨a26, c26, rfl, rfl⟩, rfl⟩
  refine SL.n1 ?_
  refine SL.val rfl rfl (fun w9 F9 S9 s => R.as rfl) ?_
  refine SL.val rfl rfl (fun w9 F9 S9 s => R.as rfl) ?_
  refine SL.nil ?_
  refine SN.fact (fun w9 F9 S9 s => s.ownG (show Sel _ (own 28 4 a13 2 c13 [.int .i64 1, .int .i64 1, .int .i64 7, .int .i64 0, .int .i64 2, .int .i64 1, .int .i64 5, .int .i64 2]) _ from (by repeat (first | exact Sel.keep | exact Sel.here | apply Sel.there))) (by decide)) (fun hf9 => ?_)
  obtain ⟨p2, rfl⟩ := hf9
  refine SN.fact (fun w9 F9 S9 s => s.ownG (show Sel _ (own 32 3 a24 2 c24 [.int .i64 1, .int .i64 1, .int .i64 4, .int .i64 3, .int .i64 2, .int .i64 5]) _ from (by repeat (first | exact Sel.keep | exact Sel.here | apply Sel.there))) (by decide)) (fun hf9 => ?_)
  obtain ⟨p5, rfl⟩ := hf9
  refine SN.fact (fun w9 F9 S9 s => s.ownG (show Sel _ (own 3 1 a26 1 c26 [.int .i64 3]) _ from (by repeat (first | exact Sel.keep | exact Sel.here | apply Sel.there))) (by decide)) (fun hf9 => ?_)
  obtain ⟨p6, rfl⟩ := hf9
  refine SN.seq ?_
  refine SG.seq ?_
  refine SG.region ?_
  refine SL.val rfl rfl (fun w9 F9 S9 s => R.mv rfl) ?_
  refine SL.val rfl rfl (fun w9 F9 S9 s => R.lenS rfl) ?_
  refine SL.val rfl rfl (fun w9 F9 S9 s => R.eqI rfl rfl) ?_
  refine SL.val rfl rfl (fun w9 F9 S9 s => R.mv rfl) ?_
  refine SL.isT 30 rfl (rfl) ?_
  refine SL.val rfl rfl (fun w9 F9 S9 s => R.mv rfl) ?_
  refine SL.val rfl rfl (fun w9 F9 S9 s => R.idxO (i := 1) rfl rfl (by omega) (by omega) rfl 4 (by decide)) ?_
  refine SL.val rfl rfl (fun w9 F9 S9 s => R.ldN (vs := [.int .i64 2, .int .i64 1, .int .i64 5, .int .i64 2]) rfl (part_at (k := 4) (xs := [.int .i64 1, .int .i64 1, .int .i64 7, .int .i64 0]) (s.ownC (show Sel _ (own 28 4 (some ⟨p2, 0, none⟩) 2 c13 [.int .i64 1, .int .i64 1, .int .i64 7, .int .i64 0, .int .i64 2, .int .i64 1, .int .i64 5, .int .i64 2]) _ from (by repeat (first | exact Sel.keep | exact Sel.here | apply Sel.there)))) rfl) rfl) ?_
  refine SL.val rfl rfl (fun w9 F9 S9 s => R.buildN (l := [.int .i64 2, .int .i64 1, .int .i64 5, .int .i64 2]) rfl rfl) ?_
  refine SL.val rfl rfl (fun w9 F9 S9 s => R.eqS rfl rfl rfl rfl (b := true) (by simp [eqL, veq])) ?_
  first | refine SL.val rfl rfl (fun w9 F9 S9 s => R.pickT rfl rfl) ?_ | refine SL.val rfl rfl (fun w9 F9 S9 s => R.pickF rfl rfl) ?_
  refine SL.val rfl rfl (fun w9 F9 S9 s => R.mv rfl) ?_
  refine SL.isT 37 rfl (rfl) ?_
  refine SL.val rfl rfl (fun w9 F9 S9 s => R.mv rfl) ?_
  refine SL.step rfl rfl (CS.call rfl go9 ((Secs_ok (some ⟨b11, 0, none⟩) 2 2 (fIts b8) (by decide)).mono (fun v H h => (show v = .int .i64 2 ∧ H = [] from by rw [← fIts_sec b8]; exact h))) (by repeat (first | exact Sels.nil | apply Sels.cons | exact Sel.keep | exact Sel.here | apply Sel.there))) ?_
  rintro _ _ ⟨_, ⟨rfl, rfl⟩, rfl⟩
  refine SL.n0 ?_
  refine SL.val rfl rfl (fun w9 F9 S9 s => R.eqI rfl rfl) ?_
  first | refine SL.val rfl rfl (fun w9 F9 S9 s => R.pickT rfl rfl) ?_ | refine SL.val rfl rfl (fun w9 F9 S9 s => R.pickF rfl rfl) ?_
  refine SL.val rfl rfl (fun w9 F9 S9 s => R.mv rfl) ?_
  refine SL.isT 42 rfl (rfl) ?_
  refine SL.val rfl rfl (fun w9 F9 S9 s => R.mv rfl) ?_
  refine SL.val rfl rfl (fun w9 F9 S9 s => R.lenS rfl) ?_
  refine SL.val rfl rfl (fun w9 F9 S9 s => R.eqI rfl rfl) ?_
  first | refine SL.val rfl rfl (fun w9 F9 S9 s => R.pickT rfl rfl) ?_ | refine SL.val rfl rfl (fun w9 F9 S9 s => R.pickF rfl rfl) ?_
  refine SL.val rfl rfl (fun w9 F9 S9 s => R.mv rfl) ?_
  refine SL.isT 47 rfl (rfl) ?_
  refine SL.val rfl rfl (fun w9 F9 S9 s => R.mv rfl) ?_
  refine SL.val rfl rfl (fun w9 F9 S9 s => R.idxO (i := 1) rfl rfl (by omega) (by omega) rfl 3 (by decide)) ?_
  refine SL.val rfl rfl (fun w9 F9 S9 s => R.ldN (vs := [.int .i64 3, .int .i64 2, .int .i64 5]) rfl (part_at (k := 3) (xs := [.int .i64 1, .int .i64 1, .int .i64 4]) (s.ownC (show Sel _ (own 32 3 (some ⟨p5, 0, none⟩) 2 c24 [.int .i64 1, .int .i64 1, .int .i64 4, .int .i64 3, .int .i64 2, .int .i64 5]) _ from (by repeat (first | exact Sel.keep | exact Sel.here | apply Sel.there)))) rfl) rfl) ?_
  refine SL.val rfl rfl (fun w9 F9 S9 s => R.buildN (l := [.int .i64 3, .int .i64 2, .int .i64 5]) rfl rfl) ?_
  refine SL.val rfl rfl (fun w9 F9 S9 s => R.eqS rfl rfl rfl rfl (b := true) (by simp [eqL, veq])) ?_
  first | refine SL.val rfl rfl (fun w9 F9 S9 s => R.pickT rfl rfl) ?_ | refine SL.val rfl rfl (fun w9 F9 S9 s => R.pickF rfl rfl) ?_
  refine SL.val rfl rfl (fun w9 F9 S9 s => R.mv rfl) ?_
  refine SL.isT 54 rfl (rfl) ?_
  refine SL.val rfl rfl (fun w9 F9 S9 s => R.mv rfl) ?_
  refine SL.val rfl rfl (fun w9 F9 S9 s => R.lenS rfl) ?_
  refine SL.val rfl rfl (fun w9 F9 S9 s => R.eqI rfl rfl) ?_
  first | refine SL.val rfl rfl (fun w9 F9 S9 s => R.pickT rfl rfl) ?_ | refine SL.val rfl rfl (fun w9 F9 S9 s => R.pickF rfl rfl) ?_
  refine SL.val rfl rfl (fun w9 F9 S9 s => R.mv rfl) ?_
  refine SL.isT 59 rfl (rfl) ?_
  refine SL.val rfl rfl (fun w9 F9 S9 s => R.mv rfl) ?_
  refine SL.val rfl rfl (fun w9 F9 S9 s => R.idxO (i := 0) rfl rfl (by omega) (by omega) rfl 0 (by decide)) ?_
  refine SL.val rfl rfl (fun w9 F9 S9 s => R.ld (v := .int .i64 3) rfl ((s.ownC (show Sel _ (own 3 1 (some ⟨p6, 0, none⟩) 1 c26 [.int .i64 3]) _ from (by repeat (first | exact Sel.keep | exact Sel.here | apply Sel.there)))).load (j := 0) rfl)) ?_
  refine SL.val rfl rfl (fun w9 F9 S9 s => R.eqI rfl rfl) ?_
  first | refine SL.val rfl rfl (fun w9 F9 S9 s => R.pickT rfl rfl) ?_ | refine SL.val rfl rfl (fun w9 F9 S9 s => R.pickF rfl rfl) ?_
  refine SL.val rfl rfl (fun w9 F9 S9 s => R.mv rfl) ?_
  refine SL.isT 65 rfl (rfl) ?_
  refine SL.val rfl rfl (fun w9 F9 S9 s => R.mv rfl) ?_
  refine SL.step rfl rfl (CS.call rfl go11 ((Bytes_ok (some ⟨b22, 0, none⟩) 2 2 (fRecs a16 c16 (mkWs [3, 1] [g, g1]) a20 c20 (mkWs [3] [g2])) (by decide)).mono (fun v H h => (show v = .int .i64 6 ∧ H = [] from by rw [← fRecs_by (a := a16) (c := c16) (g := g) (g1 := g1) (a' := a20) (c' := c20) (g2 := g2)]; exact h))) (by repeat (first | exact Sels.nil | apply Sels.cons | exact Sel.keep | exact Sel.here | apply Sel.there))) ?_
  rintro _ _ ⟨_, ⟨rfl, rfl⟩, rfl⟩
  refine SL.n0 ?_
  refine SL.val rfl rfl (fun w9 F9 S9 s => R.eqI rfl rfl) ?_
  first | refine SL.val rfl rfl (fun w9 F9 S9 s => R.pickT rfl rfl) ?_ | refine SL.val rfl rfl (fun w9 F9 S9 s => R.pickF rfl rfl) ?_
  refine SL.val rfl rfl (fun w9 F9 S9 s => R.as rfl) ?_
  refine SL.nil ?_
  refine SN.seq ?_
  exact SG.ret1 rfl rfl ((Imp.sels (by repeat (first | exact Sels.nil | apply Sels.cons | exact Sel.keep | exact Sel.here | apply Sel.there)))) (⟨rfl, rfl⟩)

end Go.Proofs.Ytlhkpakbenghgaa
/-
  Plain laws on sorting: parts that change places, and merges in place.
-/
set_option linter.unusedVariables false
set_option linter.unusedSimpArgs false
namespace Brv.Stats
open Go Brv
def swap2 (l : List E3) (i j : Nat) : List E3 := match l[i]?, l[j]? with
  | some x, some y => (l.set i y).set j x
  | _, _ => l
theorem swap2_len (l : List E3) (i j : Nat) : (swap2 l i j).length = l.length := by
  unfold swap2; split <;> simp
theorem swap2_at {l : List E3} {i j : Nat} {x y : E3} (hx : l[i]? = some x) (hy : l[j]? = some y) : swap2 l i j = (l.set i y).set j x := by unfold swap2; rw [hx, hy]
theorem at_mid {U W : List E3} {x : E3} {i : Nat} (h : U.length = i) : (U ++ x :: W)[i]? = some x := by subst h; simp
theorem swap2_mid {U V W : List E3} {x y : E3} {i j : Nat} (hi : U.length = i) (hj : i + 1 + V.length = j) : swap2 (U ++ x :: (V ++ y :: W)) i j = U ++ y :: (V ++ x :: W) := by
  have e : U ++ x :: (V ++ y :: W) = (U ++ x :: V) ++ y :: W := by simp
  have e2 : U ++ y :: (V ++ y :: W) = (U ++ y :: V) ++ y :: W := by simp
  rw [swap2_at (at_mid hi) (by rw [e]; exact at_mid (by simp only [List.length_append, List.length_cons]; omega)), List.set_append_right _ _ (by omega), hi, Nat.sub_self, List.set_cons_zero, e2, List.set_append_right _ _ (by simp only [List.length_append, List.length_cons]; omega)]
  rw [show j - (U ++ y :: V).length = 0 by simp only [List.length_append, List.length_cons]; omega, List.set_cons_zero]
  simp
theorem swap2_next {U W : List E3} {x y : E3} {i : Nat} (hi : U.length = i) : swap2 (U ++ x :: y :: W) i (i + 1) = U ++ y :: x :: W := swap2_mid (V := []) hi rfl
theorem swap2_back {U W : List E3} {x y : E3} {i : Nat} (hi : U.length = i) : swap2 (U ++ x :: y :: W) (i + 1) i = U ++ y :: x :: W := by
  have e : U ++ x :: y :: W = (U ++ [x]) ++ y :: W := by simp
  have e2 : (U ++ x :: x :: W) = U ++ x :: (x :: W) := rfl
  rw [swap2_at (x := y) (y := x) (by rw [e]; exact at_mid (by simp [hi])) (at_mid hi), e, List.set_append_right _ _ (by simp [hi]), show i + 1 - (U ++ [x]).length = 0 by simp [hi], List.set_cons_zero, List.append_assoc, List.singleton_append, List.set_append_right _ _ (by omega), hi, Nat.sub_self, List.set_cons_zero]
/-- Two parts of a length change places. -/
def swpK (l : List E3) (a b : Nat) : Nat → List E3
  | 0 => l
  | k + 1 => swap2 (swpK l a b k) (a + k) (b + k)
theorem swpK_len (l : List E3) (a b : Nat) : ∀ k, (swpK l a b k).length = l.length := by
  intro k
  induction k with
  | zero => rfl
  | succ k ih => rw [swpK, swap2_len, ih]
theorem swpK_eq {P X M Y Q : List E3} {a b n : Nat} (hP : P.length = a) (hX : X.length = n) (hb : a + n + M.length = b) (hY : Y.length = n) : swpK (P ++ X ++ M ++ Y ++ Q) a b n = P ++ Y ++ M ++ X ++ Q := by
  have gen : ∀ k, k ≤ n → swpK (P ++ X ++ M ++ Y ++ Q) a b k = (P ++ Y.take k) ++ (X.drop k ++ M ++ X.take k ++ Y.drop k ++ Q) := by
    intro k
    induction k with
    | zero => intro _; simp [swpK]
    | succ k ih =>
      intro hk
      obtain ⟨x, hx⟩ : ∃ x, X[k]? = some x := ⟨_, List.getElem?_eq_getElem (by omega)⟩
      obtain ⟨y, hy⟩ : ∃ y, Y[k]? = some y := ⟨_, List.getElem?_eq_getElem (by omega)⟩
      have dx : X.drop k = x :: X.drop (k + 1) := by rw [List.drop_eq_getElem_cons (by omega)]; congr 1; exact (List.getElem?_eq_some_iff.1 hx).2
      have dy : Y.drop k = y :: Y.drop (k + 1) := by rw [List.drop_eq_getElem_cons (by omega)]; congr 1; exact (List.getElem?_eq_some_iff.1 hy).2
      rw [swpK, ih (by omega), dx, dy]
      have e : P ++ Y.take k ++ (x :: X.drop (k + 1) ++ M ++ X.take k ++ y :: Y.drop (k + 1) ++ Q) = (P ++ Y.take k) ++ x :: ((X.drop (k + 1) ++ M ++ X.take k) ++ y :: (Y.drop (k + 1) ++ Q)) := by simp
      rw [e, swap2_mid (by simp only [List.length_append, List.length_take]; omega) (by simp only [List.length_append, List.length_take, List.length_drop]; omega), List.take_add_one, List.take_add_one, hx, hy]
      simp
  rw [gen n (Nat.le_refl _), ← hX, List.drop_length, List.take_length, hX, ← hY, List.drop_length, List.take_length]
  simp
/-- What is left of a rotation. -/
def Rot (l goal : List E3) (m i j : Nat) : Prop := ∃ P A B Q, l = P ++ A ++ B ++ Q ∧ goal = P ++ B ++ A ++ Q ∧ P.length + i = m ∧ A.length = i ∧ B.length = j ∧ 0 < i ∧ 0 < j
theorem Rot.len {l goal : List E3} {m i j : Nat} (h : Rot l goal m i j) : goal.length = l.length ∧ i ≤ m ∧ m + j ≤ l.length ∧ 0 < i ∧ 0 < j := by
  obtain ⟨P, A, B, Q, rfl, rfl, h1, h2, h3, h4, h5⟩ := h
  simp only [List.length_append]; omega
theorem Rot.big {l goal : List E3} {m i j : Nat} (h : Rot l goal m i j) (hij : j < i) : Rot (swpK l (m - i) m j) goal m (i - j) j := by
  obtain ⟨P, A, B, Q, rfl, rfl, h1, h2, h3, h4, h5⟩ := h
  have hA : A = A.take j ++ A.drop j := (List.take_append_drop j A).symm
  refine ⟨P ++ B, A.drop j, A.take j, Q, ?_, ?_, by simp only [List.length_append]; omega, by rw [List.length_drop]; omega, by rw [List.length_take]; omega, by omega, h5⟩
  · conv => lhs; rw [hA]
    have := swpK_eq (P := P) (X := A.take j) (M := A.drop j) (Y := B) (Q := Q) (a := m - i) (b := m) (n := j) (by omega) (by rw [List.length_take]; omega) (by rw [List.length_drop]; omega) h3
    rw [← List.append_assoc, this]
  · conv => lhs; rw [hA]
    simp
theorem Rot.small {l goal : List E3} {m i j : Nat} (h : Rot l goal m i j) (hij : i < j) : Rot (swpK l (m - i) (m + j - i) i) goal m i (j - i) := by
  obtain ⟨P, A, B, Q, rfl, rfl, h1, h2, h3, h4, h5⟩ := h
  have hB : B = B.take (j - i) ++ B.drop (j - i) := (List.take_append_drop _ B).symm
  refine ⟨P, B.drop (j - i), B.take (j - i), A ++ Q, ?_, ?_, h1, by rw [List.length_drop]; omega, by rw [List.length_take]; omega, h4, by omega⟩
  · conv => lhs; rw [hB]
    have := swpK_eq (P := P) (X := A) (M := B.take (j - i)) (Y := B.drop (j - i)) (Q := Q) (a := m - i) (b := m + j - i) (n := i) (by omega) h2 (by rw [List.length_take]; omega) (by rw [List.length_drop]; omega)
    rw [← List.append_assoc, this]; simp
  · conv => lhs; rw [hB]
    simp
theorem Rot.last {l goal : List E3} {m i j : Nat} (h : Rot l goal m i j) (hij : i = j) : swpK l (m - i) m i = goal := by
  obtain ⟨P, A, B, Q, rfl, rfl, h1, h2, h3, h4, h5⟩ := h
  have := swpK_eq (P := P) (X := A) (M := []) (Y := B) (Q := Q) (a := m - i) (b := m) (n := i) (by omega) h2 (by simp; omega) (by omega)
  simpa using this
/-- Two sorted runs. -/
def Runs (l : List E3) (a m b : Nat) : Prop := ∃ P A B Q, l = P ++ A ++ B ++ Q ∧ P.length = a ∧ a + A.length = m ∧ m + B.length = b ∧ Down A ∧ Down B
theorem Runs.le {l : List E3} {a m b : Nat} (h : Runs l a m b) : a ≤ m ∧ m ≤ b ∧ b ≤ l.length := by
  obtain ⟨P, A, B, Q, rfl, h1, h2, h3, _⟩ := h
  simp only [List.length_append]; omega
def bubU (l : List E3) (a : Nat) : Nat → List E3
  | 0 => l
  | t + 1 => swap2 (bubU l a t) (a + t) (a + t + 1)
def bubD (l : List E3) (m : Nat) : Nat → List E3
  | 0 => l
  | t + 1 => swap2 (bubD l m t) (m - t) (m - t - 1)
theorem bubU_len (l : List E3) (a : Nat) : ∀ t, (bubU l a t).length = l.length := by
  intro t
  induction t with
  | zero => rfl
  | succ t ih => rw [bubU, swap2_len, ih]
theorem bubD_len (l : List E3) (a : Nat) : ∀ t, (bubD l a t).length = l.length := by
  intro t
  induction t with
  | zero => rfl
  | succ t ih => rw [bubD, swap2_len, ih]
theorem bubU_eq {P B Q : List E3} {x : E3} {a : Nat} (hP : P.length = a) : ∀ t, t ≤ B.length → bubU (P ++ x :: (B ++ Q)) a t = P ++ B.take t ++ x :: (B.drop t ++ Q) := by
  intro t
  induction t with
  | zero => intro _; simp [bubU]
  | succ t ih =>
    intro ht
    obtain ⟨y, hy⟩ : ∃ y, B[t]? = some y := ⟨_, List.getElem?_eq_getElem (by omega)⟩
    have dy : B.drop t = y :: B.drop (t + 1) := by rw [List.drop_eq_getElem_cons (by omega)]; congr 1; exact (List.getElem?_eq_some_iff.1 hy).2
    rw [bubU, ih (by omega), dy, List.cons_append, swap2_next (by simp only [List.length_append, List.length_take]; omega), List.take_add_one, hy]
    simp
theorem bubD_eq {P A Q : List E3} {y : E3} {m : Nat} (hm : P.length + A.length = m) : ∀ t, t ≤ A.length → bubD (P ++ A ++ y :: Q) m t = P ++ A.take (A.length - t) ++ y :: (A.drop (A.length - t) ++ Q) := by
  intro t
  induction t with
  | zero => intro _; simp [bubD]
  | succ t ih =>
    intro ht
    obtain ⟨z, hz⟩ : ∃ z, A[A.length - (t + 1)]? = some z := ⟨_, List.getElem?_eq_getElem (by omega)⟩
    have tz : A.take (A.length - t) = A.take (A.length - (t + 1)) ++ [z] := by rw [show A.length - t = A.length - (t + 1) + 1 by omega, List.take_add_one, hz]; rfl
    have dz : A.drop (A.length - (t + 1)) = z :: A.drop (A.length - t) := by rw [List.drop_eq_getElem_cons (by omega), show A.length - (t + 1) + 1 = A.length - t by omega]; congr 1; exact (List.getElem?_eq_some_iff.1 hz).2
    have hl : (P ++ A.take (A.length - (t + 1))).length = m - t - 1 := by simp only [List.length_append, List.length_take]; omega
    rw [bubD, ih (by omega), tz, dz]
    have e : P ++ (A.take (A.length - (t + 1)) ++ [z]) ++ y :: (A.drop (A.length - t) ++ Q) = (P ++ A.take (A.length - (t + 1))) ++ z :: y :: (A.drop (A.length - t) ++ Q) := by simp
    rw [e]
    have := swap2_back (U := P ++ A.take (A.length - (t + 1))) (x := z) (y := y) (W := A.drop (A.length - t) ++ Q) hl
    rw [show m - t - 1 + 1 = m - t by omega] at this
    rw [this]; simp
theorem down_take {B : List E3} (h : Down B) {s : Nat} {z x : E3} (hz : B[s]? = some z) (hb : bf z x = true) : ∀ w ∈ B.take (s + 1), bf w x = true := by
  intro w hw
  rw [List.take_add_one, hz] at hw
  rcases List.mem_append.1 hw with hw | hw
  · have h1 : Down (B.take s ++ z :: B.drop (s + 1)) := by
      rw [show B.take s ++ z :: B.drop (s + 1) = B by conv => rhs; rw [← List.take_append_drop s B, List.drop_eq_getElem_cons (List.getElem?_eq_some_iff.1 hz).1, (List.getElem?_eq_some_iff.1 hz).2]]
      exact h
    have := h1.le hw (List.mem_cons_self)
    unfold bf at *; simp only [decide_eq_true_eq, decide_eq_false_iff_not] at *; omega
  · simp only [Option.toList_some, List.mem_singleton] at hw; rw [hw]; exact hb
theorem down_drop {B : List E3} (h : Down B) {s : Nat} {z x : E3} (hz : B[s]? = some z) (hb : bf z x = false) : ∀ w ∈ B.drop s, bf w x = false := by
  intro w hw
  rw [List.drop_eq_getElem_cons (List.getElem?_eq_some_iff.1 hz).1, (List.getElem?_eq_some_iff.1 hz).2] at hw
  rcases List.mem_cons.1 hw with rfl | hw
  · exact hb
  · have h1 : Down (B.take s ++ z :: B.drop (s + 1)) := by
      rw [show B.take s ++ z :: B.drop (s + 1) = B by conv => rhs; rw [← List.take_append_drop s B, List.drop_eq_getElem_cons (List.getElem?_eq_some_iff.1 hz).1, (List.getElem?_eq_some_iff.1 hz).2]]
      exact h
    exact bf_trans hb ((List.pairwise_cons.1 h1.right).1 w hw)
theorem down_take' {B : List E3} (h : Down B) {s : Nat} {z x : E3} (hz : B[s]? = some z) (hb : bf x z = false) : ∀ w ∈ B.take (s + 1), bf x w = false := by
  intro w hw
  rw [List.take_add_one, hz] at hw
  rcases List.mem_append.1 hw with hw | hw
  · have h1 : Down (B.take s ++ z :: B.drop (s + 1)) := by
      rw [show B.take s ++ z :: B.drop (s + 1) = B by conv => rhs; rw [← List.take_append_drop s B, List.drop_eq_getElem_cons (List.getElem?_eq_some_iff.1 hz).1, (List.getElem?_eq_some_iff.1 hz).2]]
      exact h
    exact bf_trans (h1.le hw (List.mem_cons_self)) hb
  · simp only [Option.toList_some, List.mem_singleton] at hw; rw [hw]; exact hb
theorem down_drop' {B : List E3} (h : Down B) {s : Nat} {z x : E3} (hz : B[s]? = some z) (hb : bf x z = true) : ∀ w ∈ B.drop s, bf x w = true := by
  intro w hw
  rw [List.drop_eq_getElem_cons (List.getElem?_eq_some_iff.1 hz).1, (List.getElem?_eq_some_iff.1 hz).2] at hw
  rcases List.mem_cons.1 hw with rfl | hw
  · exact hb
  · have h1 : Down (B.take s ++ z :: B.drop (s + 1)) := by
      rw [show B.take s ++ z :: B.drop (s + 1) = B by conv => rhs; rw [← List.take_append_drop s B, List.drop_eq_getElem_cons (List.getElem?_eq_some_iff.1 hz).1, (List.getElem?_eq_some_iff.1 hz).2]]
      exact h
    have := (List.pairwise_cons.1 h1.right).1 w hw
    unfold bf at *; simp only [decide_eq_true_eq, decide_eq_false_iff_not] at *; omega
theorem at_app {P A Q : List E3} {a i : Nat} (hP : P.length = a) (hi : a ≤ i) (h2 : i < a + A.length) : (P ++ A ++ Q)[i]? = A[i - a]? := by
  rw [List.append_assoc, List.getElem?_append_right (by omega), List.getElem?_append_left (by omega), hP]
/-- One element, merged into the run behind it. -/
theorem merge_up {l : List E3} {a b s : Nat} {x : E3} (h : Runs l a (a + 1) b) (hx : l[a]? = some x) (hs : a + 1 ≤ s) (hsb : s ≤ b) (h1 : s = a + 1 ∨ ∃ z, l[s - 1]? = some z ∧ bf z x = true) (h2 : s = b ∨ ∃ z, l[s]? = some z ∧ bf z x = false) : Part l (bubU l a (s - 1 - a)) a b := by
  obtain ⟨P, A, B, Q, rfl, e1, e2, e3, hA, hB⟩ := h
  obtain ⟨y, rfl⟩ : ∃ y, A = [y] := List.length_eq_one_iff.1 (by omega)
  have e : P ++ [y] ++ B ++ Q = P ++ y :: (B ++ Q) := by simp
  rw [e, at_mid e1] at hx
  cases hx
  obtain ⟨t, rfl⟩ : ∃ t, s = a + 1 + t := ⟨s - (a + 1), by omega⟩
  have ht : t ≤ B.length := by omega
  have hat : ∀ i, i < B.length → (P ++ [x] ++ B ++ Q)[a + 1 + i]? = B[i]? := fun i hi => by
    rw [at_app (a := a + 1) (by simp; omega) (by omega) (by omega), Nat.add_sub_cancel_left]
  have hB1 : ∀ w ∈ B.take t, bf w x = true := by
    rcases h1 with h1 | ⟨z, hz, hb⟩
    · obtain rfl : t = 0 := by omega
      simp
    · cases t with
      | zero => simp
      | succ t =>
        rw [show a + 1 + (t + 1) - 1 = a + 1 + t by omega, hat t (by omega)] at hz
        exact down_take hB hz hb
  have hB2 : ∀ w ∈ B.drop t, bf w x = false := by
    rcases h2 with h2 | ⟨z, hz, hb⟩
    · rw [List.drop_of_length_le (by omega)]; simp
    · by_cases h9 : t < B.length
      · rw [hat t h9] at hz
        exact down_drop hB hz hb
      · rw [List.drop_of_length_le (by omega)]; simp
  refine ⟨P, [x] ++ B, B.take t ++ x :: B.drop t, Q, by simp, ?_, e1, by simp; omega, by simp only [List.length_append, List.length_cons, List.length_take, List.length_drop]; omega, ?_, ?_⟩
  · rw [e, show a + 1 + t - 1 - a = t by omega, bubU_eq e1 t ht]; simp
  · conv => lhs; rw [← List.take_append_drop t B, ← List.append_assoc]
    have := (Stb.swap (l := [x]) (m := B.take t) fun u hu w hw => by rw [List.mem_singleton.1 hu]; exact fun e => bf_ne (hB1 w hw) e.symm).app (Stb.refl (B.drop t))
    simpa using this
  · have hd : Down (B.take t ++ B.drop t) := by rw [List.take_append_drop]; exact hB
    refine Down.app hd.left (List.pairwise_cons.2 ⟨fun w hw => hB2 w hw, hd.right⟩) fun u hu w hw => ?_
    rcases List.mem_cons.1 hw with rfl | hw
    · exact bf_asym (hB1 u hu)
    · exact hd.le hu hw
/-- One element, merged into the run ahead of it. -/
theorem merge_down {l : List E3} {a m s : Nat} {y : E3} (h : Runs l a m (m + 1)) (hy : l[m]? = some y) (hs : a ≤ s) (hsm : s ≤ m) (h1 : s = a ∨ ∃ z, l[s - 1]? = some z ∧ bf y z = false) (h2 : s = m ∨ ∃ z, l[s]? = some z ∧ bf y z = true) : Part l (bubD l m (m - s)) a (m + 1) := by
  obtain ⟨P, A, B, Q, rfl, e1, e2, e3, hA, hB⟩ := h
  obtain ⟨x, rfl⟩ : ∃ x, B = [x] := List.length_eq_one_iff.1 (by omega)
  have e : P ++ A ++ [x] ++ Q = P ++ A ++ x :: Q := by simp
  rw [e, at_mid (by simp only [List.length_append]; omega)] at hy
  cases hy
  obtain ⟨t, rfl⟩ : ∃ t, s = a + t := ⟨s - a, by omega⟩
  have ht : t ≤ A.length := by omega
  have hat : ∀ i, i < A.length → (P ++ A ++ [y] ++ Q)[a + i]? = A[i]? := fun i hi => by
    rw [List.append_assoc (P ++ A), at_app e1 (by omega) (by omega), Nat.add_sub_cancel_left]
  have hA1 : ∀ w ∈ A.take t, bf y w = false := by
    rcases h1 with h1 | ⟨z, hz, hb⟩
    · obtain rfl : t = 0 := by omega
      simp
    · cases t with
      | zero => simp
      | succ t =>
        rw [show a + (t + 1) - 1 = a + t by omega, hat t (by omega)] at hz
        exact down_take' hA hz hb
  have hA2 : ∀ w ∈ A.drop t, bf y w = true := by
    rcases h2 with h2 | ⟨z, hz, hb⟩
    · rw [List.drop_of_length_le (by omega)]; simp
    · by_cases h9 : t < A.length
      · rw [hat t h9] at hz
        exact down_drop' hA hz hb
      · rw [List.drop_of_length_le (by omega)]; simp
  refine ⟨P, A ++ [y], A.take t ++ y :: A.drop t, Q, by simp, ?_, e1, by simp; omega, by simp only [List.length_append, List.length_cons, List.length_take, List.length_drop]; omega, ?_, ?_⟩
  · rw [e, bubD_eq (by omega) _ (by omega), show A.length - (m - (a + t)) = t by omega]; simp
  · conv => lhs; rw [← List.take_append_drop t A, List.append_assoc]
    exact (Stb.refl _).app ((Stb.swap fun u hu w hw => by rw [List.mem_singleton.1 hw]; exact fun e => bf_ne (hA2 u hu) e.symm).trans (Stb.refl _))
  · have hd : Down (A.take t ++ A.drop t) := by rw [List.take_append_drop]; exact hA
    refine Down.app hd.left (List.pairwise_cons.2 ⟨fun w hw => bf_asym (hA2 w hw), hd.right⟩) fun u hu w hw => ?_
    rcases List.mem_cons.1 hw with rfl | hw
    · exact hA1 u hu
    · exact hd.le hu hw
/-- Where two runs are cut: what is ahead of both cuts goes ahead of what is behind. -/
structure Cutd (l : List E3) (a m b s e : Nat) : Prop where
  ex : ∃ P A1 A2 B1 B2 Q, l = P ++ (A1 ++ A2) ++ (B1 ++ B2) ++ Q ∧ P.length = a ∧ a + A1.length = s ∧ s + A2.length = m ∧ m + B1.length = e ∧ e + B2.length = b ∧ Down (A1 ++ A2) ∧ Down (B1 ++ B2) ∧ (∀ x ∈ A1, ∀ y ∈ B2, bf y x = false) ∧ (∀ x ∈ A2, ∀ y ∈ B1, bf y x = true)
theorem runs_cut {l : List E3} {a m b s e : Nat} (h : Runs l a m b) (hs : a ≤ s) (hsm : s ≤ m) (he : m ≤ e) (heb : e ≤ b) (h1 : s = a ∨ e = b ∨ ∃ z u, l[s - 1]? = some z ∧ l[e]? = some u ∧ bf u z = false) (h2 : s = m ∨ e = m ∨ ∃ z u, l[s]? = some z ∧ l[e - 1]? = some u ∧ bf u z = true) : Cutd l a m b s e := by
  obtain ⟨P, A, B, Q, rfl, e1, e2, e3, hA, hB⟩ := h
  have hatA : ∀ i, i < A.length → (P ++ A ++ B ++ Q)[a + i]? = A[i]? := fun i hi => by
    rw [List.append_assoc (P ++ A), at_app e1 (by omega) (by omega), Nat.add_sub_cancel_left]
  have hatB : ∀ i, i < B.length → (P ++ A ++ B ++ Q)[m + i]? = B[i]? := fun i hi => by
    rw [at_app (a := m) (by simp only [List.length_append]; omega) (by omega) (by omega), Nat.add_sub_cancel_left]
  obtain ⟨t, rfl⟩ : ∃ t, s = a + t := ⟨s - a, by omega⟩
  obtain ⟨r, rfl⟩ : ∃ r, e = m + r := ⟨e - m, by omega⟩
  refine ⟨P, A.take t, A.drop t, B.take r, B.drop r, Q, by rw [List.take_append_drop, List.take_append_drop], e1, by rw [List.length_take]; omega, by rw [List.length_drop]; omega, by rw [List.length_take]; omega, by rw [List.length_drop]; omega, by rw [List.take_append_drop]; exact hA, by rw [List.take_append_drop]; exact hB, ?_, ?_⟩
  · intro x hx y hy
    rcases h1 with h1 | h1 | ⟨z, u, hz, hu, hb⟩
    · obtain rfl : t = 0 := by omega
      simp at hx
    · rw [List.drop_of_length_le (by omega)] at hy; simp at hy
    · cases t with
      | zero => simp at hx
      | succ t =>
        by_cases hr : r < B.length
        · rw [show a + (t + 1) - 1 = a + t by omega, hatA t (by omega)] at hz
          rw [hatB r hr] at hu
          have q1 : ∀ w ∈ B.drop r, bf w z = false := down_drop hB hu hb
          exact (down_take' hA hz (q1 y hy)) x hx
        · rw [List.drop_of_length_le (by omega)] at hy; simp at hy
  · intro x hx y hy
    rcases h2 with h2 | h2 | ⟨z, u, hz, hu, hb⟩
    · rw [List.drop_of_length_le (by omega)] at hx; simp at hx
    · obtain rfl : r = 0 := by omega
      simp at hy
    · cases r with
      | zero => simp at hy
      | succ r =>
        by_cases ht : t < A.length
        · rw [show m + (r + 1) - 1 = m + r by omega, hatB r (by omega)] at hu
          rw [hatA t ht] at hz
          have q1 : ∀ w ∈ B.take (r + 1), bf w z = true := down_take hB hu hb
          exact (down_drop' hA hz (q1 y hy)) x hx
        · rw [List.drop_of_length_le (by omega)] at hx; simp at hx
/-- After the rotation. -/
structure Turn (l l1 : List E3) (a mid b s e : Nat) : Prop where
  ex : ∃ P A1 A2 B1 B2 Q, l = P ++ (A1 ++ A2) ++ (B1 ++ B2) ++ Q ∧ l1 = P ++ (A1 ++ B1) ++ (A2 ++ B2) ++ Q ∧ P.length = a ∧ a + A1.length = s ∧ s + B1.length = mid ∧ mid + A2.length = e ∧ e + B2.length = b ∧ Down (A1 ++ A2) ∧ Down (B1 ++ B2) ∧ (∀ x ∈ A1, ∀ y ∈ B2, bf y x = false) ∧ (∀ x ∈ A2, ∀ y ∈ B1, bf y x = true)
theorem Cutd.none {l : List E3} {a m b s e mid : Nat} (h : Cutd l a m b s e) (hn : s = m ∨ m = e) (hm : mid + m = s + e) : Turn l l a mid b s e := by
  obtain ⟨P, A1, A2, B1, B2, Q, h1, h2, h3, h4, h5, h6, h7⟩ := h
  refine ⟨P, A1, A2, B1, B2, Q, h1, ?_, h2, h3, by omega, by omega, h6, h7⟩
  rcases hn with hn | hn
  · obtain rfl : A2 = [] := List.length_eq_zero_iff.1 (by omega)
    rw [h1]; simp
  · obtain rfl : B1 = [] := List.length_eq_zero_iff.1 (by omega)
    rw [h1]; simp
theorem Cutd.rot {l : List E3} {a m b s e mid : Nat} (h : Cutd l a m b s e) (h1 : s < m) (h2 : m < e) (hm : mid + m = s + e) : ∃ l1, Rot l l1 m (m - s) (e - m) ∧ Turn l l1 a mid b s e := by
  obtain ⟨P, A1, A2, B1, B2, Q, e1, e2, e3, e4, e5, e6, e7⟩ := h
  exact ⟨P ++ (A1 ++ B1) ++ (A2 ++ B2) ++ Q, ⟨P ++ A1, A2, B1, B2 ++ Q, by rw [e1]; simp, by simp, by simp only [List.length_append]; omega, by omega, by omega, by omega, by omega⟩, P, A1, A2, B1, B2, Q, e1, rfl, e2, e3, by omega, by omega, e6, e7⟩
/-- What is left behind the first half. -/
structure Half (l l2 : List E3) (a mid b s e : Nat) : Prop where
  ex : ∃ P A1 A2 B1 B2 C Q, l = P ++ (A1 ++ A2) ++ (B1 ++ B2) ++ Q ∧ l2 = P ++ C ++ (A2 ++ B2) ++ Q ∧ P.length = a ∧ a + C.length = mid ∧ mid + A2.length = e ∧ e + B2.length = b ∧ A1.length + B1.length = C.length ∧ Stb (A1 ++ B1) C ∧ Down C ∧ Down (A1 ++ A2) ∧ Down (B1 ++ B2) ∧ (∀ x ∈ A1, ∀ y ∈ B2, bf y x = false) ∧ (∀ x ∈ A2, ∀ y ∈ B1, bf y x = true)
theorem Turn.runs {l l1 : List E3} {a mid b s e : Nat} (h : Turn l l1 a mid b s e) : Runs l1 a s mid := by
  obtain ⟨P, A1, A2, B1, B2, Q, e1, e2, e3, e4, e5, e6, e7, e8, e9, _⟩ := h
  exact ⟨P, A1, B1, A2 ++ B2 ++ Q, by rw [e2]; simp, e3, e4, e5, e8.left, e9.left⟩
theorem app_inj {A B C D : List E3} (h : A ++ B = C ++ D) (hl : A.length = C.length) : A = C ∧ B = D := List.append_inj h hl
theorem Turn.half {l l1 l2 : List E3} {a mid b s e : Nat} (h : Turn l l1 a mid b s e) (hp : Part l1 l2 a mid) : Half l l2 a mid b s e := by
  obtain ⟨P, A1, A2, B1, B2, Q, e1, e2, e3, e4, e5, e6, e7, e8, e9, e10, e11⟩ := h
  obtain ⟨P', X, C, Q', f1, f2, f3, f4, f5, f6, f7⟩ := hp
  have f0 : P ++ ((A1 ++ B1) ++ ((A2 ++ B2) ++ Q)) = P' ++ (X ++ Q') := by rw [← List.append_assoc P, ← List.append_assoc (P ++ (A1 ++ B1)), ← List.append_assoc P', ← e2, ← f1]
  obtain ⟨rfl, g1⟩ := app_inj f0 (by omega)
  obtain ⟨rfl, rfl⟩ := app_inj g1 (by simp only [List.length_append]; omega)
  rw [List.length_append] at f4
  exact ⟨P, A1, A2, B1, B2, C, Q, e1, by rw [f2]; simp, e3, f5, e6, e7, by omega, f6, f7, e8, e9, e10, e11⟩
theorem Turn.half0 {l l1 : List E3} {a mid b s e : Nat} (h : Turn l l1 a mid b s e) (hn : a = s ∨ s = mid) : Half l l1 a mid b s e := by
  obtain ⟨P, A1, A2, B1, B2, Q, e1, e2, e3, e4, e5, e6, e7, e8, e9, e10, e11⟩ := h
  refine ⟨P, A1, A2, B1, B2, A1 ++ B1, Q, e1, e2, e3, by simp only [List.length_append]; omega, e6, e7, by rw [List.length_append], Stb.refl _, ?_, e8, e9, e10, e11⟩
  rcases hn with hn | hn
  · obtain rfl : A1 = [] := List.length_eq_zero_iff.1 (by omega)
    simpa using e9.left
  · obtain rfl : B1 = [] := List.length_eq_zero_iff.1 (by omega)
    simpa using e8.left
theorem Half.runs {l l2 : List E3} {a mid b s e : Nat} (h : Half l l2 a mid b s e) : Runs l2 mid e b := by
  obtain ⟨P, A1, A2, B1, B2, C, Q, e1, e2, e3, e4, e5, e6, e0, e7, e8, e9, e10, e11, e12⟩ := h
  exact ⟨P ++ C, A2, B2, Q, by rw [e2]; simp, by simp only [List.length_append]; omega, e5, e6, e9.right, e10.right⟩
theorem Half.end {l l2 l3 : List E3} {a mid b s e : Nat} (h : Half l l2 a mid b s e) (hp : Part l2 l3 mid b) : Part l l3 a b := by
  obtain ⟨P, A1, A2, B1, B2, C, Q, e1, e2, e3, e4, e5, e6, e0, e7, e8, e9, e10, e11, e12⟩ := h
  obtain ⟨P', X, D, Q', f1, f2, f3, f4, f5, f6, f7⟩ := hp
  have f0 : (P ++ C) ++ ((A2 ++ B2) ++ Q) = P' ++ (X ++ Q') := by rw [← List.append_assoc (P ++ C), ← List.append_assoc P', ← e2, ← f1]
  obtain ⟨rfl, g1⟩ := app_inj f0 (by simp only [List.length_append]; omega)
  obtain ⟨rfl, rfl⟩ := app_inj g1 (by simp only [List.length_append]; omega)
  have hC : ∀ x ∈ C, x ∈ A1 ++ B1 := fun x hx => e7.symm.mem hx
  have hD : ∀ x ∈ D, x ∈ A2 ++ B2 := fun x hx => f6.symm.mem hx
  refine ⟨P, (A1 ++ A2) ++ (B1 ++ B2), C ++ D, Q, by rw [e1]; simp, by rw [f2]; simp, e3, ?_, by simp only [List.length_append]; omega, ?_, ?_⟩
  · simp only [List.length_append]; omega
  · refine Stb.trans ?_ (e7.app f6)
    rw [show (A1 ++ A2) ++ (B1 ++ B2) = A1 ++ ((A2 ++ B1) ++ B2) by simp, show (A1 ++ B1) ++ (A2 ++ B2) = A1 ++ ((B1 ++ A2) ++ B2) by simp]
    exact (Stb.refl _).app ((Stb.swap fun x hx y hy => fun e => bf_ne (e12 x hx y hy) e.symm).app (Stb.refl _))
  · refine Down.app e8 f7 fun x hx y hy => ?_
    rcases List.mem_append.1 (hC x hx) with hx | hx <;> rcases List.mem_append.1 (hD y hy) with hy | hy
    · exact e9.le hx hy
    · exact e11 x hx y hy
    · exact bf_asym (e12 y hy x hx)
    · exact e10.le hx hy
theorem Half.end0 {l l2 : List E3} {a mid b s e : Nat} (h : Half l l2 a mid b s e) (hn : mid = e ∨ e = b) : Part l l2 a b := by
  refine h.end ?_
  obtain ⟨P, A1, A2, B1, B2, C, Q, e1, e2, e3, e4, e5, e6, e0, e7, e8, e9, e10, e11, e12⟩ := h
  refine ⟨P ++ C, A2 ++ B2, A2 ++ B2, Q, e2, e2, by simp only [List.length_append]; omega, by simp only [List.length_append]; omega, by simp only [List.length_append]; omega, Stb.refl _, ?_⟩
  rcases hn with hn | hn
  · obtain rfl : A2 = [] := List.length_eq_zero_iff.1 (by omega)
    simpa using e10.right
  · obtain rfl : B2 = [] := List.length_eq_zero_iff.1 (by omega)
    simpa using e9.right
end Brv.Stats
/-
  The walks of package stats.
-/
set_option linter.unusedVariables false
set_option linter.unusedSimpArgs false
set_option maxRecDepth 4000
namespace Go.Proofs.Ytlhkpakbenghgaa
open Go Brv Brv.Stats
theorem swr_ok (a : Option Addr) (n c : Nat) (l0 : List E3) (a0 b0 k0 : Nat) (han : a0 + k0 ≤ n) (hbn : b0 + k0 ≤ n) (hn : n ≤ 1152921504606846976) : SpecS Try.prog 97 [.slice a n c, .int .i64 ((a0 : Nat) : Int), .int .i64 ((b0 : Nat) : Int), .int .i64 ((k0 : Nat) : Int), .func (.func 24) #[] #[]] [own 32 3 a n c (List.map cellB l0).flatten] (fun v H' => v = .tuple #[] ∧ H' = [own 32 3 a n c (List.map cellB (swpK l0 a0 b0 k0)).flatten]) := by
  refine SpecS.enter Try.func97 rfl 38 rfl (Nat.le_of_ble_eq_true rfl) (fun o => ?_)
  refine SG.fact (fun w9 F9 S9 s => s.ownL (show Sel _ (own 32 3 a n c (List.map cellB l0).flatten) _ from (by repeat (first | exact Sel.keep | exact Sel.here | apply Sel.there)))) (fun hf9 => ?_)
  obtain ⟨hll0, hnc⟩ := hf9
  rw [flat_len cellB_len] at hll0
  have hll : l0.length = n := by omega
  refine SG.seq ?_
  refine SG.region ?_
  refine SL.val rfl rfl (fun w9 F9 S9 s => R.as rfl) ?_
  refine SL.nil ?_
  refine SN.seq ?_
  refine SG.block ?_
  refine SG.loop (X := Nat) (fun k => [(0, .slice a n c), (1, .int .i64 ((a0 : Nat) : Int)), (2, .int .i64 ((b0 : Nat) : Int)), (3, .int .i64 ((k0 : Nat) : Int)), (4, .func (.func 24) #[] #[]), (10, .int .i64 ((k : Nat) : Int))]) (fun k => [own 32 3 a n c (List.map cellB (swpK l0 a0 b0 k)).flatten]) (fun k => k ≤ k0) (fun k => k0 - k) (0) (Sub.cons rfl (Sub.cons rfl (Sub.cons rfl (Sub.cons rfl (Sub.cons rfl (Sub.cons rfl (Sub.nil _))))))) ((Imp.sels (by repeat (first | exact Sels.nil | apply Sels.cons | exact Sel.keep | exact Sel.here | apply Sel.there)))) (Nat.zero_le _) ?_
  intro k hk
  have hsl := swpK_len l0 a0 b0 k
  show SG _ _ _ _ _ [(0, .slice a n c), (1, .int .i64 ((a0 : Nat) : Int)), (2, .int .i64 ((b0 : Nat) : Int)), (3, .int .i64 ((k0 : Nat) : Int)), (4, .func (.func 24) #[] #[]), (10, .int .i64 ((k : Nat) : Int))] [own 32 3 a n c (List.map cellB (swpK l0 a0 b0 k)).flatten] _
  refine SG.seq ?_
  refine SG.seq ?_
  refine SG.region ?_
  refine SL.val rfl rfl (fun w9 F9 S9 s => R.mv rfl) ?_
  refine SL.val rfl rfl (fun w9 F9 S9 s => R.mv rfl) ?_
  refine SL.val rfl rfl (fun w9 F9 S9 s => R.lss rfl rfl) ?_
  refine SL.nil ?_
  refine SN.seq ?_
  refine SG.condP rfl (fun h0 => ?_) (fun h0 => ?_)
  · refine SG.fact (fun w9 F9 S9 s => s.ownG (show Sel _ (own 32 3 a n c (List.map cellB (swpK l0 a0 b0 k)).flatten) _ from (by repeat (first | exact Sel.keep | exact Sel.here | apply Sel.there))) (by omega)) (fun hf9 => ?_)
    obtain ⟨g, rfl⟩ := hf9
    obtain ⟨x, hx⟩ : ∃ x, (swpK l0 a0 b0 k)[a0 + k]? = some x := ⟨_, List.getElem?_eq_getElem (by omega)⟩
    obtain ⟨y, hy⟩ : ∃ x, (swpK l0 a0 b0 k)[b0 + k]? = some x := ⟨_, List.getElem?_eq_getElem (by omega)⟩
    refine SG.skip ?_
    refine SN.seq ?_
    refine SG.seq ?_
    refine SG.block ?_
    refine SG.draw [21, 23] [0, 1, 2, 3, 4, 5, 6, 7, 8, 9, 10, 11, 12, 13, 14, 15, 16, 17, 18, 19, 20, 21, 22, 23] (by decide +kernel) rfl ?_
    refine SW.pure rfl rfl rfl rfl (fun w9 => R.mv rfl) ?_
    refine SW.pure rfl rfl rfl rfl (fun w9 => R.mv rfl) ?_
    refine SW.pure rfl rfl rfl rfl (fun w9 => R.mv rfl) ?_
    refine SW.pure rfl rfl rfl rfl (fun w9 => R.add rfl rfl (by omega)) ?_
    refine SW.pure rfl rfl rfl rfl (fun w9 => R.mv rfl) ?_
    refine SW.pure rfl rfl rfl rfl (fun w9 => R.mv rfl) ?_
    refine SW.pure rfl rfl rfl rfl (fun w9 => R.mv rfl) ?_
    refine SW.pure rfl rfl rfl rfl (fun w9 => R.add rfl rfl (by omega)) ?_
    refine SW.pure rfl rfl rfl rfl (fun w9 => R.mv rfl) ?_
    refine SW.pure rfl rfl rfl rfl (fun w9 => R.mv rfl) ?_
    refine SW.pure rfl rfl rfl rfl (fun w9 => R.mv rfl) ?_
    refine SW.pure rfl rfl rfl rfl (fun w9 => R.add rfl rfl (by omega)) ?_
    refine SW.pure rfl rfl rfl rfl (fun w9 => R.idxO rfl rfl (by omega) (by omega) rfl ((b0 + k) * 3) (by omega)) ?_
    refine SW.read rfl rfl rfl rfl (fun w9 F9 S9 s => R.ldN (vs := cellB y) rfl (row_ld cellB_len (s.ownC (show Sel _ (own 32 3 (some ⟨g, 0, none⟩) n c (List.map cellB (swpK l0 a0 b0 k)).flatten) _ from (by repeat (first | exact Sel.keep | exact Sel.here | apply Sel.there)))) hy) rfl) ?_
    refine SW.pure rfl rfl rfl rfl (fun w9 => R.mv rfl) ?_
    refine SW.pure rfl rfl rfl rfl (fun w9 => R.mv rfl) ?_
    refine SW.pure rfl rfl rfl rfl (fun w9 => R.mv rfl) ?_
    refine SW.pure rfl rfl rfl rfl (fun w9 => R.add rfl rfl (by omega)) ?_
    refine SW.pure rfl rfl rfl rfl (fun w9 => R.idxO rfl rfl (by omega) (by omega) rfl ((a0 + k) * 3) (by omega)) ?_
    refine SW.read rfl rfl rfl rfl (fun w9 F9 S9 s => R.ldN (vs := cellB x) rfl (row_ld cellB_len (s.ownC (show Sel _ (own 32 3 (some ⟨g, 0, none⟩) n c (List.map cellB (swpK l0 a0 b0 k)).flatten) _ from (by repeat (first | exact Sel.keep | exact Sel.here | apply Sel.there)))) hx) rfl) ?_
    refine SW.pure rfl rfl rfl rfl (fun w9 => R.idxO rfl rfl (by omega) (by omega) rfl ((a0 + k) * 3) (by omega)) ?_
    refine SW.step0 rfl rfl rfl (CS.stR (f := cellB) (v := y) cellB_len cellB_one rfl rfl (show Sel _ (own 32 3 (some ⟨g, 0, none⟩) n c (List.map cellB (swpK l0 a0 b0 k)).flatten) _ from (by repeat (first | exact Sel.keep | exact Sel.here | apply Sel.there))) (by omega) (by first | omega | (simp only [List.length_set]; omega))) ?_
    rintro _ _ rfl
    refine ⟨⟨.inl (by decide +kernel), ⟨.inl (by decide +kernel), trivial⟩⟩, ?_⟩
    refine SW.pure rfl rfl rfl rfl (fun w9 => R.idxO rfl rfl (by omega) (by omega) rfl ((b0 + k) * 3) (by omega)) ?_
    refine SW.step0 rfl rfl rfl (CS.stR (f := cellB) (v := x) cellB_len cellB_one rfl rfl (show Sel _ (own 32 3 (some ⟨g, 0, none⟩) n c (List.map cellB (List.set (swpK l0 a0 b0 k) (a0 + k) y)).flatten) _ from (by repeat (first | exact Sel.keep | exact Sel.here | apply Sel.there))) (by omega) (by first | omega | (simp only [List.length_set]; omega))) ?_
    rintro _ _ rfl
    refine ⟨⟨.inl (by decide +kernel), ⟨.inl (by decide +kernel), trivial⟩⟩, ?_⟩
    refine SW.nil ?_
    refine SN.block ?_
    refine SN.seq ?_
    refine SG.region ?_
    refine SL.val rfl rfl (fun w9 F9 S9 s => R.mv rfl) ?_
    refine SL.val rfl rfl (fun w9 F9 S9 s => R.add rfl rfl (by omega)) ?_
    refine SL.val rfl rfl (fun w9 F9 S9 s => R.as rfl) ?_
    refine SL.nil ?_
    exact SN.again (k + 1) (by show k0 - (k + 1) < k0 - k; omega) (Sub.cons rfl (Sub.cons rfl (Sub.cons rfl (Sub.cons rfl (Sub.cons rfl (Sub.cons rfl (Sub.nil _))))))) ((show Imp _ _ by rw [show swpK l0 a0 b0 (k + 1) = _ from swap2_at hx hy]; exact (Imp.sels (by repeat (first | exact Sels.nil | apply Sels.cons | exact Sel.keep | exact Sel.here | apply Sel.there))))) (by show k + 1 ≤ k0; omega)
  · obtain rfl : k0 = k := by omega
    refine SG.exit _ rfl ?_
    exact SN.end0 rfl ((Imp.sels (by repeat (first | exact Sels.nil | apply Sels.cons | exact Sel.keep | exact Sel.here | apply Sel.there)))) (⟨rfl, rfl⟩)

theorem rot_ok (a : Option Addr) (n c : Nat) (l0 goal : List E3) (a0 m b0 : Nat) (hR : Rot l0 goal m (m - a0) (b0 - m)) (ham : a0 < m) (hmb : m < b0) (hbn : b0 ≤ n) (hn : n ≤ 1152921504606846976) : SpecS Try.prog 93 [.slice a n c, .int .i64 ((a0 : Nat) : Int), .int .i64 ((m : Nat) : Int), .int .i64 ((b0 : Nat) : Int), .func (.func 24) #[] #[]] [own 32 3 a n c (List.map cellB l0).flatten] (fun v H' => v = .tuple #[] ∧ H' = [own 32 3 a n c (List.map cellB goal).flatten]) := by
  refine SpecS.enter Try.func93 rfl 58 rfl (Nat.le_of_ble_eq_true rfl) (fun o => ?_)
  refine SG.fact (fun w9 F9 S9 s => s.ownL (show Sel _ (own 32 3 a n c (List.map cellB l0).flatten) _ from (by repeat (first | exact Sel.keep | exact Sel.here | apply Sel.there)))) (fun hf9 => ?_)
  obtain ⟨hll0, hnc⟩ := hf9
  rw [flat_len cellB_len] at hll0
  have hll : l0.length = n := by omega
  have hRl := hR.len
  refine SG.seq ?_
  refine SG.region ?_
  refine SL.val rfl rfl (fun w9 F9 S9 s => R.mv rfl) ?_
  refine SL.val rfl rfl (fun w9 F9 S9 s => R.mv rfl) ?_
  refine SL.val rfl rfl (fun w9 F9 S9 s => R.subW rfl rfl ((m - a0 : Nat) : Int) (by rw [wrap_i64 (by omega)]; omega)) ?_
  refine SL.val rfl rfl (fun w9 F9 S9 s => R.as rfl) ?_
  refine SL.nil ?_
  refine SN.seq ?_
  refine SG.seq ?_
  refine SG.region ?_
  refine SL.val rfl rfl (fun w9 F9 S9 s => R.mv rfl) ?_
  refine SL.val rfl rfl (fun w9 F9 S9 s => R.mv rfl) ?_
  refine SL.val rfl rfl (fun w9 F9 S9 s => R.subW rfl rfl ((b0 - m : Nat) : Int) (by rw [wrap_i64 (by omega)]; omega)) ?_
  refine SL.val rfl rfl (fun w9 F9 S9 s => R.as rfl) ?_
  refine SL.nil ?_
  refine SN.seq ?_
  refine SG.seq ?_
  refine SG.block ?_
  refine SG.loop (X := Nat × Nat × List E3) (fun y => [(0, .slice a n c), (1, .int .i64 ((a0 : Nat) : Int)), (2, .int .i64 ((m : Nat) : Int)), (3, .int .i64 ((b0 : Nat) : Int)), (4, .func (.func 24) #[] #[]), (10, .int .i64 ((y.1 : Nat) : Int)), (11, .int .i64 ((y.2.1 : Nat) : Int))]) (fun y => [own 32 3 a n c (List.map cellB y.2.2).flatten]) (fun y => Rot y.2.2 goal m y.1 y.2.1 ∧ y.2.2.length = n) (fun y => y.1 + y.2.1) ((m - a0, b0 - m, l0)) (Sub.cons rfl (Sub.cons rfl (Sub.cons rfl (Sub.cons rfl (Sub.cons rfl (Sub.cons rfl (Sub.cons rfl (Sub.nil _)))))))) ((Imp.sels (by repeat (first | exact Sels.nil | apply Sels.cons | exact Sel.keep | exact Sel.here | apply Sel.there)))) (⟨hR, hll⟩) ?_
  rintro ⟨i, j, l⟩ ⟨hr, hl⟩
  dsimp only at hr hl
  have hrl := hr.len
  show SG _ _ _ _ _ [(0, .slice a n c), (1, .int .i64 ((a0 : Nat) : Int)), (2, .int .i64 ((m : Nat) : Int)), (3, .int .i64 ((b0 : Nat) : Int)), (4, .func (.func 24) #[] #[]), (10, .int .i64 ((i : Nat) : Int)), (11, .int .i64 ((j : Nat) : Int))] [own 32 3 a n c (List.map cellB l).flatten] _
  refine SG.seq ?_
  refine SG.seq ?_
  refine SG.region ?_
  refine SL.val rfl rfl (fun w9 F9 S9 s => R.mv rfl) ?_
  refine SL.val rfl rfl (fun w9 F9 S9 s => R.mv rfl) ?_
  refine SL.val rfl rfl (fun w9 F9 S9 s => R.neI rfl rfl) ?_
  refine SL.nil ?_
  refine SN.seq ?_
  refine SG.condP rfl (fun h0 => ?_) (fun h0 => ?_)
  · refine SG.skip ?_
    refine SN.seq ?_
    refine SG.block ?_
    refine SG.seq ?_
    refine SG.region ?_
    refine SL.val rfl rfl (fun w9 F9 S9 s => R.mv rfl) ?_
    refine SL.val rfl rfl (fun w9 F9 S9 s => R.mv rfl) ?_
    refine SL.val rfl rfl (fun w9 F9 S9 s => R.gtr rfl rfl) ?_
    refine SL.nil ?_
    refine SN.seq ?_
    refine SG.condP rfl (fun h1 => ?_) (fun h1 => ?_)
    · refine SG.seq ?_
      refine SG.region ?_
      refine SL.val rfl rfl (fun w9 F9 S9 s => R.mv rfl) ?_
      refine SL.val rfl rfl (fun w9 F9 S9 s => R.mv rfl) ?_
      refine SL.val rfl rfl (fun w9 F9 S9 s => R.mv rfl) ?_
      refine SL.val rfl rfl (fun w9 F9 S9 s => R.subW rfl rfl ((m - i : Nat) : Int) (by rw [wrap_i64 (by omega)]; omega)) ?_
      refine SL.val rfl rfl (fun w9 F9 S9 s => R.mv rfl) ?_
      refine SL.val rfl rfl (fun w9 F9 S9 s => R.mv rfl) ?_
      refine SL.val rfl rfl (fun w9 F9 S9 s => R.mv rfl) ?_
      refine SL.step rfl rfl (CS.call rfl go97 (swr_ok a n c l (m - i) m j (by omega) (by omega) hn) (by repeat (first | exact Sels.nil | apply Sels.cons | exact Sel.keep | exact Sel.here | apply Sel.there))) ?_
      rintro _ _ ⟨_, ⟨rfl, rfl⟩, rfl⟩
      refine SL.n1 ?_
      refine SL.nil ?_
      refine SN.seq ?_
      refine SG.region ?_
      refine SL.val rfl rfl (fun w9 F9 S9 s => R.mv rfl) ?_
      refine SL.val rfl rfl (fun w9 F9 S9 s => R.mv rfl) ?_
      refine SL.val rfl rfl (fun w9 F9 S9 s => R.subW rfl rfl ((i - j : Nat) : Int) (by rw [wrap_i64 (by omega)]; omega)) ?_
      refine SL.val rfl rfl (fun w9 F9 S9 s => R.as rfl) ?_
      refine SL.nil ?_
      refine SN.block ?_
      exact SN.again ((i - j, j, swpK l (m - i) m j)) (by show i - j + j < i + j; omega) (Sub.cons rfl (Sub.cons rfl (Sub.cons rfl (Sub.cons rfl (Sub.cons rfl (Sub.cons rfl (Sub.cons rfl (Sub.nil _)))))))) ((Imp.sels (by repeat (first | exact Sels.nil | apply Sels.cons | exact Sel.keep | exact Sel.here | apply Sel.there)))) (⟨hr.big (by omega), by show (swpK l (m - i) m j).length = n; rw [swpK_len]; exact hl⟩)
    · refine SG.seq ?_
      refine SG.region ?_
      refine SL.val rfl rfl (fun w9 F9 S9 s => R.mv rfl) ?_
      refine SL.val rfl rfl (fun w9 F9 S9 s => R.mv rfl) ?_
      refine SL.val rfl rfl (fun w9 F9 S9 s => R.mv rfl) ?_
      refine SL.val rfl rfl (fun w9 F9 S9 s => R.subW rfl rfl ((m - i : Nat) : Int) (by rw [wrap_i64 (by omega)]; omega)) ?_
      refine SL.val rfl rfl (fun w9 F9 S9 s => R.mv rfl) ?_
      refine SL.val rfl rfl (fun w9 F9 S9 s => R.mv rfl) ?_
      refine SL.val rfl rfl (fun w9 F9 S9 s => R.add rfl rfl (by omega)) ?_
      refine SL.val rfl rfl (fun w9 F9 S9 s => R.mv rfl) ?_
      refine SL.val rfl rfl (fun w9 F9 S9 s => R.subW rfl rfl ((m + j - i : Nat) : Int) (by rw [wrap_i64 (by omega)]; omega)) ?_
      refine SL.val rfl rfl (fun w9 F9 S9 s => R.mv rfl) ?_
      refine SL.val rfl rfl (fun w9 F9 S9 s => R.mv rfl) ?_
      refine SL.step rfl rfl (CS.call rfl go97 (swr_ok a n c l (m - i) (m + j - i) i (by omega) (by omega) hn) (by repeat (first | exact Sels.nil | apply Sels.cons | exact Sel.keep | exact Sel.here | apply Sel.there))) ?_
      rintro _ _ ⟨_, ⟨rfl, rfl⟩, rfl⟩
      refine SL.n1 ?_
      refine SL.nil ?_
      refine SN.seq ?_
      refine SG.region ?_
      refine SL.val rfl rfl (fun w9 F9 S9 s => R.mv rfl) ?_
      refine SL.val rfl rfl (fun w9 F9 S9 s => R.mv rfl) ?_
      refine SL.val rfl rfl (fun w9 F9 S9 s => R.subW rfl rfl ((j - i : Nat) : Int) (by rw [wrap_i64 (by omega)]; omega)) ?_
      refine SL.val rfl rfl (fun w9 F9 S9 s => R.as rfl) ?_
      refine SL.nil ?_
      refine SN.block ?_
      exact SN.again ((i, j - i, swpK l (m - i) (m + j - i) i)) (by show i + (j - i) < i + j; omega) (Sub.cons rfl (Sub.cons rfl (Sub.cons rfl (Sub.cons rfl (Sub.cons rfl (Sub.cons rfl (Sub.cons rfl (Sub.nil _)))))))) ((Imp.sels (by repeat (first | exact Sels.nil | apply Sels.cons | exact Sel.keep | exact Sel.here | apply Sel.there)))) (⟨hr.small (by omega), by show (swpK l (m - i) (m + j - i) i).length = n; rw [swpK_len]; exact hl⟩)
  · refine SG.exit _ rfl ?_
    refine SN.seq ?_
    refine SG.region ?_
    refine SL.val rfl rfl (fun w9 F9 S9 s => R.mv rfl) ?_
    refine SL.val rfl rfl (fun w9 F9 S9 s => R.mv rfl) ?_
    refine SL.val rfl rfl (fun w9 F9 S9 s => R.mv rfl) ?_
    refine SL.val rfl rfl (fun w9 F9 S9 s => R.subW rfl rfl ((m - i : Nat) : Int) (by rw [wrap_i64 (by omega)]; omega)) ?_
    refine SL.val rfl rfl (fun w9 F9 S9 s => R.mv rfl) ?_
    refine SL.val rfl rfl (fun w9 F9 S9 s => R.mv rfl) ?_
    refine SL.val rfl rfl (fun w9 F9 S9 s => R.mv rfl) ?_
    refine SL.step rfl rfl (CS.call rfl go97 (swr_ok a n c l (m - i) m i (by omega) (by omega) hn) (by repeat (first | exact Sels.nil | apply Sels.cons | exact Sel.keep | exact Sel.here | apply Sel.there))) ?_
    rintro _ _ ⟨_, ⟨rfl, rfl⟩, rfl⟩
    refine SL.n1 ?_
    refine SL.nil ?_
    exact SN.end0 rfl ((show Imp _ _ by rw [hr.last (by omega)]; exact (Imp.sels (by repeat (first | exact Sels.nil | apply Sels.cons | exact Sel.keep | exact Sel.here | apply Sel.there))))) (⟨rfl, rfl⟩)

end Go.Proofs.Ytlhkpakbenghgaa
/-
  The walks of package stats.
-/
set_option linter.unusedVariables false
set_option linter.unusedSimpArgs false
set_option maxRecDepth 4000
namespace Go.Proofs.Ytlhkpakbenghgaa
open Go Brv Brv.Stats
set_option maxHeartbeats 1000000 in
theorem symT_ok (a : Option Addr) (n c : Nat) (l0 : List E3) (a0 m b0 : Nat) (hR : Runs l0 a0 m b0) (ham : a0 < m) (hmb : m < b0) (hbn : b0 ≤ n) (hn : n ≤ 1152921504606846976) (ih : ∀ (a1 m1 b1 : Nat) (l1 : List E3), b1 - a1 < b0 - a0 → Runs l1 a1 m1 b1 → a1 < m1 → m1 < b1 → b1 ≤ n → SpecS Try.prog 81 [.slice a n c, .int .i64 ((a1 : Nat) : Int), .int .i64 ((m1 : Nat) : Int), .int .i64 ((b1 : Nat) : Int), .func (.func 24) #[] #[]] [own 32 3 a n c (List.map cellB l1).flatten] (fun v H' => ∃ ys, v = .tuple #[] ∧ Part l1 ys a1 b1 ∧ H' = [own 32 3 a n c (List.map cellB ys).flatten])) : SpecS Try.prog 81 [.slice a n c, .int .i64 ((a0 : Nat) : Int), .int .i64 ((m : Nat) : Int), .int .i64 ((b0 : Nat) : Int), .func (.func 24) #[] #[]] [own 32 3 a n c (List.map cellB l0).flatten] (fun v H' => ∃ ys, v = .tuple #[] ∧ Part l0 ys a0 b0 ∧ H' = [own 32 3 a n c (List.map cellB ys).flatten]) := by
  refine SpecS.enter Try.func81 rfl 220 rfl (Nat.le_of_ble_eq_true rfl) (fun o => ?_)
  refine SG.fact (fun w9 F9 S9 s => s.ownL (show Sel _ (own 32 3 a n c (List.map cellB l0).flatten) _ from (by repeat (first | exact Sel.keep | exact Sel.here | apply Sel.there)))) (fun hf9 => ?_)
  obtain ⟨hll0, hnc⟩ := hf9
  rw [flat_len cellB_len] at hll0
  have hll : l0.length = n := by omega
  refine SG.fact (fun w9 F9 S9 s => s.ownG (show Sel _ (own 32 3 a n c (List.map cellB l0).flatten) _ from (by repeat (first | exact Sel.keep | exact Sel.here | apply Sel.there))) (by omega)) (fun hf9 => ?_)
  obtain ⟨g, rfl⟩ := hf9
  refine SG.seq ?_
  refine SG.seq ?_
  refine SG.region ?_
  refine SL.val rfl rfl (fun w9 F9 S9 s => R.mv rfl) ?_
  refine SL.val rfl rfl (fun w9 F9 S9 s => R.mv rfl) ?_
  refine SL.val rfl rfl (fun w9 F9 S9 s => R.sub' rfl rfl (by omega)) ?_
  refine SL.val rfl rfl (fun w9 F9 S9 s => R.eqI rfl rfl) ?_
  refine SL.nil ?_
  refine SN.seq ?_
  refine SG.condP rfl (fun h0 => ?_) (fun h0 => ?_)
  · have hm1 : m = a0 + 1 := by omega
    obtain ⟨x, hx⟩ : ∃ x, l0[a0]? = some x := ⟨_, List.getElem?_eq_getElem (by omega)⟩
    have hR1 := hR
    rw [hm1] at hR1
    refine SG.seq ?_
    refine SG.region ?_
    refine SL.val rfl rfl (fun w9 F9 S9 s => R.mv rfl) ?_
    refine SL.val rfl rfl (fun w9 F9 S9 s => R.as rfl) ?_
    refine SL.nil ?_
    refine SN.seq ?_
    refine SG.seq ?_
    refine SG.region ?_
    refine SL.val rfl rfl (fun w9 F9 S9 s => R.mv rfl) ?_
    refine SL.val rfl rfl (fun w9 F9 S9 s => R.as rfl) ?_
    refine SL.nil ?_
    refine SN.seq ?_
    refine SG.seq ?_
    refine SG.block ?_
    refine SG.loop (X := Nat × Nat) (fun y => [(0, .slice (some ⟨g, 0, none⟩) n c), (1, .int .i64 ((a0 : Nat) : Int)), (2, .int .i64 ((m : Nat) : Int)), (3, .int .i64 ((b0 : Nat) : Int)), (4, .func (.func 24) #[] #[]), (10, .int .i64 ((y.1 : Nat) : Int)), (11, .int .i64 ((y.2 : Nat) : Int))]) (fun y => [own 32 3 (some ⟨g, 0, none⟩) n c (List.map cellB l0).flatten]) (fun y => m ≤ y.1 ∧ y.1 ≤ y.2 ∧ y.2 ≤ b0 ∧ (y.1 = a0 + 1 ∨ ∃ z, l0[y.1 - 1]? = some z ∧ bf z x = true) ∧ (y.2 = b0 ∨ ∃ z, l0[y.2]? = some z ∧ bf z x = false)) (fun y => y.2 - y.1) ((m, b0)) (Sub.cons rfl (Sub.cons rfl (Sub.cons rfl (Sub.cons rfl (Sub.cons rfl (Sub.cons rfl (Sub.cons rfl (Sub.nil _)))))))) ((Imp.sels (by repeat (first | exact Sels.nil | apply Sels.cons | exact Sel.keep | exact Sel.here | apply Sel.there)))) (⟨Nat.le_refl _, by show m ≤ b0; omega, Nat.le_refl _, .inl hm1, .inl rfl⟩) ?_
    rintro ⟨i, j⟩ ⟨k1, k2, k3, k4, k5⟩
    dsimp only at k1 k2 k3 k4 k5
    show SG _ _ _ _ _ [(0, .slice (some ⟨g, 0, none⟩) n c), (1, .int .i64 ((a0 : Nat) : Int)), (2, .int .i64 ((m : Nat) : Int)), (3, .int .i64 ((b0 : Nat) : Int)), (4, .func (.func 24) #[] #[]), (10, .int .i64 ((i : Nat) : Int)), (11, .int .i64 ((j : Nat) : Int))] [own 32 3 (some ⟨g, 0, none⟩) n c (List.map cellB l0).flatten] _
    refine SG.seq ?_
    refine SG.seq ?_
    refine SG.region ?_
    refine SL.val rfl rfl (fun w9 F9 S9 s => R.mv rfl) ?_
    refine SL.val rfl rfl (fun w9 F9 S9 s => R.mv rfl) ?_
    refine SL.val rfl rfl (fun w9 F9 S9 s => R.lss rfl rfl) ?_
    refine SL.nil ?_
    refine SN.seq ?_
    refine SG.condP rfl (fun h1 => ?_) (fun h1 => ?_)
    · obtain ⟨q, hq⟩ : ∃ q, q = (i + j) / 2 := ⟨_, rfl⟩
      have q1 : i ≤ q := by omega
      have q2 : q < j := by omega
      obtain ⟨z, hz⟩ : ∃ x, l0[q]? = some x := ⟨_, List.getElem?_eq_getElem (by omega)⟩
      refine SG.skip ?_
      refine SN.seq ?_
      refine SG.block ?_
      refine SG.seq ?_
      refine SG.region ?_
      refine SL.val rfl rfl (fun w9 F9 S9 s => R.mv rfl) ?_
      refine SL.val rfl rfl (fun w9 F9 S9 s => R.mv rfl) ?_
      refine SL.val rfl rfl (fun w9 F9 S9 s => R.add rfl rfl (by omega)) ?_
      refine SL.val rfl rfl (fun w9 F9 S9 s => R.conv rfl ((i + j : Nat) : Int) (by rw [wrap_u64 (by omega)]; omega)) ?_
      refine SL.val rfl rfl (fun w9 F9 S9 s => R.shrW rfl rfl (by decide) (q : Int) (by rw [shr1]; omega)) ?_
      refine SL.val rfl rfl (fun w9 F9 S9 s => R.conv rfl (q : Int) (wrap_i64 (by omega))) ?_
      refine SL.val rfl rfl (fun w9 F9 S9 s => R.as rfl) ?_
      refine SL.nil ?_
      refine SN.seq ?_
      refine SG.seq ?_
      refine SG.draw [9] [0, 1, 2, 3, 4, 5, 6, 7, 8, 9, 10] (by decide +kernel) rfl ?_
      refine SW.pure rfl rfl rfl rfl (fun w9 => R.mv rfl) ?_
      refine SW.pure rfl rfl rfl rfl (fun w9 => R.mv rfl) ?_
      refine SW.pure rfl rfl rfl rfl (fun w9 => R.mv rfl) ?_
      refine SW.pure rfl rfl rfl rfl (fun w9 => R.idxO rfl rfl (by omega) (by omega) rfl (q * 3) (by omega)) ?_
      refine SW.read rfl rfl rfl rfl (fun w9 F9 S9 s => R.ldN (vs := cellB z) rfl (row_ld cellB_len (s.ownC (show Sel _ (own 32 3 (some ⟨g, 0, none⟩) n c (List.map cellB l0).flatten) _ from (by repeat (first | exact Sel.keep | exact Sel.here | apply Sel.there)))) hz) rfl) ?_
      refine SW.pure rfl rfl rfl rfl (fun w9 => R.mv rfl) ?_
      refine SW.pure rfl rfl rfl rfl (fun w9 => R.mv rfl) ?_
      refine SW.pure rfl rfl rfl rfl (fun w9 => R.idxO rfl rfl (by omega) (by omega) rfl (a0 * 3) (by omega)) ?_
      refine SW.read rfl rfl rfl rfl (fun w9 F9 S9 s => R.ldN (vs := cellB x) rfl (row_ld cellB_len (s.ownC (show Sel _ (own 32 3 (some ⟨g, 0, none⟩) n c (List.map cellB l0).flatten) _ from (by repeat (first | exact Sel.keep | exact Sel.here | apply Sel.there)))) hx) rfl) ?_
      refine SW.step rfl rfl rfl rfl (CS.callV rfl rfl rfl go24 (hot1_ok z x) (by repeat (first | exact Sels.nil | apply Sels.cons | exact Sel.keep | exact Sel.here | apply Sel.there))) ?_
      rintro _ _ ⟨_, ⟨rfl, rfl⟩, rfl⟩
      refine ⟨⟨.inl (by decide +kernel), ⟨.inl (by decide +kernel), trivial⟩⟩, ?_⟩
      refine SW.n0 ?_
      refine SW.pure rfl rfl rfl rfl (fun w9 => R.lss rfl rfl) ?_
      refine SW.nil ?_
      refine SN.seq ?_
      refine SG.condP rfl (fun h2 => ?_) (fun h2 => ?_)
      · refine SG.region ?_
        refine SL.val rfl rfl (fun w9 F9 S9 s => R.mv rfl) ?_
        refine SL.val rfl rfl (fun w9 F9 S9 s => R.add rfl rfl (by omega)) ?_
        refine SL.val rfl rfl (fun w9 F9 S9 s => R.as rfl) ?_
        refine SL.nil ?_
        refine SN.block ?_
        exact SN.again ((q + 1, j)) (by show j - (q + 1) < j - i; omega) (Sub.cons rfl (Sub.cons rfl (Sub.cons rfl (Sub.cons rfl (Sub.cons rfl (Sub.cons rfl (Sub.cons rfl (Sub.nil _)))))))) ((Imp.sels (by repeat (first | exact Sels.nil | apply Sels.cons | exact Sel.keep | exact Sel.here | apply Sel.there)))) (⟨by show m ≤ q + 1; omega, by show q + 1 ≤ j; omega, k3, .inr ⟨z, by show l0[q + 1 - 1]? = some z; rw [Nat.add_sub_cancel]; exact hz, bf_cmp.1 h2⟩, k5⟩)
      · refine SG.region ?_
        refine SL.val rfl rfl (fun w9 F9 S9 s => R.mv rfl) ?_
        refine SL.val rfl rfl (fun w9 F9 S9 s => R.as rfl) ?_
        refine SL.nil ?_
        refine SN.block ?_
        exact SN.again ((i, q)) (by show q - i < j - i; omega) (Sub.cons rfl (Sub.cons rfl (Sub.cons rfl (Sub.cons rfl (Sub.cons rfl (Sub.cons rfl (Sub.cons rfl (Sub.nil _)))))))) ((Imp.sels (by repeat (first | exact Sels.nil | apply Sels.cons | exact Sel.keep | exact Sel.here | apply Sel.there)))) (⟨k1, q1, by show q ≤ b0; omega, k4, .inr ⟨z, hz, Bool.eq_false_iff.2 fun e => h2 (bf_cmp.2 e)⟩⟩)
    · obtain rfl : i = j := by omega
      refine SG.exit _ rfl ?_
      refine SN.seq ?_
      refine SG.seq ?_
      refine SG.seq ?_
      refine SG.region ?_
      refine SL.val rfl rfl (fun w9 F9 S9 s => R.mv rfl) ?_
      refine SL.val rfl rfl (fun w9 F9 S9 s => R.as rfl) ?_
      refine SL.nil ?_
      refine SN.seq ?_
      refine SG.block ?_
      refine SG.loop (X := Nat) (fun t => [(0, .slice (some ⟨g, 0, none⟩) n c), (1, .int .i64 ((a0 : Nat) : Int)), (2, .int .i64 ((m : Nat) : Int)), (3, .int .i64 ((b0 : Nat) : Int)), (4, .func (.func 24) #[] #[]), (10, .int .i64 ((i : Nat) : Int)), (13, .int .i64 ((a0 + t : Nat) : Int))]) (fun t => [own 32 3 (some ⟨g, 0, none⟩) n c (List.map cellB (bubU l0 a0 t)).flatten]) (fun t => t ≤ i - 1 - a0) (fun t => i - 1 - a0 - t) (0) (Sub.cons rfl (Sub.cons rfl (Sub.cons rfl (Sub.cons rfl (Sub.cons rfl (Sub.cons rfl (Sub.cons rfl (Sub.nil _)))))))) ((Imp.sels (by repeat (first | exact Sels.nil | apply Sels.cons | exact Sel.keep | exact Sel.here | apply Sel.there)))) (Nat.zero_le _) ?_
      intro t ht
      have hul := bubU_len l0 a0 t
      show SG _ _ _ _ _ [(0, .slice (some ⟨g, 0, none⟩) n c), (1, .int .i64 ((a0 : Nat) : Int)), (2, .int .i64 ((m : Nat) : Int)), (3, .int .i64 ((b0 : Nat) : Int)), (4, .func (.func 24) #[] #[]), (10, .int .i64 ((i : Nat) : Int)), (13, .int .i64 ((a0 + t : Nat) : Int))] [own 32 3 (some ⟨g, 0, none⟩) n c (List.map cellB (bubU l0 a0 t)).flatten] _
      refine SG.seq ?_
      refine SG.seq ?_
      refine SG.region ?_
      refine SL.val rfl rfl (fun w9 F9 S9 s => R.mv rfl) ?_
      refine SL.val rfl rfl (fun w9 F9 S9 s => R.mv rfl) ?_
      refine SL.val rfl rfl (fun w9 F9 S9 s => R.sub' rfl rfl (by omega)) ?_
      refine SL.val rfl rfl (fun w9 F9 S9 s => R.lss rfl rfl) ?_
      refine SL.nil ?_
      refine SN.seq ?_
      refine SG.condP rfl (fun h3 => ?_) (fun h3 => ?_)
      · obtain ⟨x1, hx1⟩ : ∃ x, (bubU l0 a0 t)[a0 + t]? = some x := ⟨_, List.getElem?_eq_getElem (by omega)⟩
        obtain ⟨y1, hy1⟩ : ∃ x, (bubU l0 a0 t)[a0 + t + 1]? = some x := ⟨_, List.getElem?_eq_getElem (by omega)⟩
        refine SG.skip ?_
        refine SN.seq ?_
        refine SG.seq ?_
        refine SG.block ?_
        refine SG.draw [15, 17] [0, 1, 2, 3, 4, 5, 6, 7, 8, 9, 10, 11, 12, 13, 14, 15, 16, 17] (by decide +kernel) rfl ?_
        refine SW.pure rfl rfl rfl rfl (fun w9 => R.mv rfl) ?_
        refine SW.pure rfl rfl rfl rfl (fun w9 => R.mv rfl) ?_
        refine SW.pure rfl rfl rfl rfl (fun w9 => R.mv rfl) ?_
        refine SW.pure rfl rfl rfl rfl (fun w9 => R.mv rfl) ?_
        refine SW.pure rfl rfl rfl rfl (fun w9 => R.add rfl rfl (by omega)) ?_
        refine SW.pure rfl rfl rfl rfl (fun w9 => R.mv rfl) ?_
        refine SW.pure rfl rfl rfl rfl (fun w9 => R.mv rfl) ?_
        refine SW.pure rfl rfl rfl rfl (fun w9 => R.add rfl rfl (by omega)) ?_
        refine SW.pure rfl rfl rfl rfl (fun w9 => R.idxO rfl rfl (by omega) (by omega) rfl ((a0 + t + 1) * 3) (by omega)) ?_
        refine SW.read rfl rfl rfl rfl (fun w9 F9 S9 s => R.ldN (vs := cellB y1) rfl (row_ld cellB_len (s.ownC (show Sel _ (own 32 3 (some ⟨g, 0, none⟩) n c (List.map cellB (bubU l0 a0 t)).flatten) _ from (by repeat (first | exact Sel.keep | exact Sel.here | apply Sel.there)))) hy1) rfl) ?_
        refine SW.pure rfl rfl rfl rfl (fun w9 => R.mv rfl) ?_
        refine SW.pure rfl rfl rfl rfl (fun w9 => R.mv rfl) ?_
        refine SW.pure rfl rfl rfl rfl (fun w9 => R.idxO rfl rfl (by omega) (by omega) rfl ((a0 + t) * 3) (by omega)) ?_
        refine SW.read rfl rfl rfl rfl (fun w9 F9 S9 s => R.ldN (vs := cellB x1) rfl (row_ld cellB_len (s.ownC (show Sel _ (own 32 3 (some ⟨g, 0, none⟩) n c (List.map cellB (bubU l0 a0 t)).flatten) _ from (by repeat (first | exact Sel.keep | exact Sel.here | apply Sel.there)))) hx1) rfl) ?_
        refine SW.pure rfl rfl rfl rfl (fun w9 => R.idxO rfl rfl (by omega) (by omega) rfl ((a0 + t) * 3) (by omega)) ?_
        refine SW.step0 rfl rfl rfl (CS.stR (f := cellB) (v := y1) cellB_len cellB_one rfl rfl (show Sel _ (own 32 3 (some ⟨g, 0, none⟩) n c (List.map cellB (bubU l0 a0 t)).flatten) _ from (by repeat (first | exact Sel.keep | exact Sel.here | apply Sel.there))) (by omega) (by first | omega | (simp only [List.length_set]; omega))) ?_
        rintro _ _ rfl
        refine ⟨⟨.inl (by decide +kernel), ⟨.inl (by decide +kernel), trivial⟩⟩, ?_⟩
        refine SW.pure rfl rfl rfl rfl (fun w9 => R.idxO rfl rfl (by omega) (by omega) rfl ((a0 + t + 1) * 3) (by omega)) ?_
        refine SW.step0 rfl rfl rfl (CS.stR (f := cellB) (v := x1) cellB_len cellB_one rfl rfl (show Sel _ (own 32 3 (some ⟨g, 0, none⟩) n c (List.map cellB (List.set (bubU l0 a0 t) (a0 + t) y1)).flatten) _ from (by repeat (first | exact Sel.keep | exact Sel.here | apply Sel.there))) (by omega) (by first | omega | (simp only [List.length_set]; omega))) ?_
        rintro _ _ rfl
        refine ⟨⟨.inl (by decide +kernel), ⟨.inl (by decide +kernel), trivial⟩⟩, ?_⟩
        refine SW.nil ?_
        refine SN.block ?_
        refine SN.seq ?_
        refine SG.region ?_
        refine SL.val rfl rfl (fun w9 F9 S9 s => R.mv rfl) ?_
        refine SL.val rfl rfl (fun w9 F9 S9 s => R.add rfl rfl (by omega)) ?_
        refine SL.val rfl rfl (fun w9 F9 S9 s => R.as rfl) ?_
        refine SL.nil ?_
        exact SN.again (t + 1) (by show i - 1 - a0 - (t + 1) < i - 1 - a0 - t; omega) (Sub.cons rfl (Sub.cons rfl (Sub.cons rfl (Sub.cons rfl (Sub.cons rfl (Sub.cons rfl (Sub.cons rfl (Sub.nil _)))))))) ((show Imp _ _ by rw [show bubU l0 a0 (t + 1) = _ from swap2_at hx1 hy1]; exact (Imp.sels (by repeat (first | exact Sels.nil | apply Sels.cons | exact Sel.keep | exact Sel.here | apply Sel.there))))) (by show t + 1 ≤ i - 1 - a0; omega)
      · obtain rfl : t = i - 1 - a0 := by omega
        refine SG.exit _ rfl ?_
        refine SN.seq ?_
        exact SG.ret0 rfl ((Imp.sels (by repeat (first | exact Sels.nil | apply Sels.cons | exact Sel.keep | exact Sel.here | apply Sel.there)))) (⟨_, rfl, merge_up hR1 hx (by omega) (by omega) k4 k5, rfl⟩)
  · refine SG.skip ?_
    refine SN.seq ?_
    refine SG.seq ?_
    refine SG.seq ?_
    refine SG.region ?_
    refine SL.val rfl rfl (fun w9 F9 S9 s => R.mv rfl) ?_
    refine SL.val rfl rfl (fun w9 F9 S9 s => R.mv rfl) ?_
    refine SL.val rfl rfl (fun w9 F9 S9 s => R.sub' rfl rfl (by omega)) ?_
    refine SL.val rfl rfl (fun w9 F9 S9 s => R.eqI rfl rfl) ?_
    refine SL.nil ?_
    refine SN.seq ?_
    refine SG.condP rfl (fun h4 => ?_) (fun h4 => ?_)
    · have hm1 : b0 = m + 1 := by omega
      obtain ⟨y, hy⟩ : ∃ x, l0[m]? = some x := ⟨_, List.getElem?_eq_getElem (by omega)⟩
      have hR1 := hR
      rw [hm1] at hR1
      refine SG.seq ?_
      refine SG.region ?_
      refine SL.val rfl rfl (fun w9 F9 S9 s => R.mv rfl) ?_
      refine SL.val rfl rfl (fun w9 F9 S9 s => R.as rfl) ?_
      refine SL.nil ?_
      refine SN.seq ?_
      refine SG.seq ?_
      refine SG.region ?_
      refine SL.val rfl rfl (fun w9 F9 S9 s => R.mv rfl) ?_
      refine SL.val rfl rfl (fun w9 F9 S9 s => R.as rfl) ?_
      refine SL.nil ?_
      refine SN.seq ?_
      refine SG.seq ?_
      refine SG.block ?_
      refine SG.loop (X := Nat × Nat) (fun y9 => [(0, .slice (some ⟨g, 0, none⟩) n c), (1, .int .i64 ((a0 : Nat) : Int)), (2, .int .i64 ((m : Nat) : Int)), (3, .int .i64 ((b0 : Nat) : Int)), (4, .func (.func 24) #[] #[]), (14, .int .i64 ((y9.1 : Nat) : Int)), (15, .int .i64 ((y9.2 : Nat) : Int))]) (fun y9 => [own 32 3 (some ⟨g, 0, none⟩) n c (List.map cellB l0).flatten]) (fun y9 => a0 ≤ y9.1 ∧ y9.1 ≤ y9.2 ∧ y9.2 ≤ m ∧ (y9.1 = a0 ∨ ∃ z, l0[y9.1 - 1]? = some z ∧ bf y z = false) ∧ (y9.2 = m ∨ ∃ z, l0[y9.2]? = some z ∧ bf y z = true)) (fun y9 => y9.2 - y9.1) ((a0, m)) (Sub.cons rfl (Sub.cons rfl (Sub.cons rfl (Sub.cons rfl (Sub.cons rfl (Sub.cons rfl (Sub.cons rfl (Sub.nil _)))))))) ((Imp.sels (by repeat (first | exact Sels.nil | apply Sels.cons | exact Sel.keep | exact Sel.here | apply Sel.there)))) (⟨Nat.le_refl _, by show a0 ≤ m; omega, Nat.le_refl _, .inl rfl, .inl rfl⟩) ?_
      rintro ⟨i, j⟩ ⟨k1, k2, k3, k4, k5⟩
      dsimp only at k1 k2 k3 k4 k5
      show SG _ _ _ _ _ [(0, .slice (some ⟨g, 0, none⟩) n c), (1, .int .i64 ((a0 : Nat) : Int)), (2, .int .i64 ((m : Nat) : Int)), (3, .int .i64 ((b0 : Nat) : Int)), (4, .func (.func 24) #[] #[]), (14, .int .i64 ((i : Nat) : Int)), (15, .int .i64 ((j : Nat) : Int))] [own 32 3 (some ⟨g, 0, none⟩) n c (List.map cellB l0).flatten] _
      refine SG.seq ?_
      refine SG.seq ?_
      refine SG.region ?_
      refine SL.val rfl rfl (fun w9 F9 S9 s => R.mv rfl) ?_
      refine SL.val rfl rfl (fun w9 F9 S9 s => R.mv rfl) ?_
      refine SL.val rfl rfl (fun w9 F9 S9 s => R.lss rfl rfl) ?_
      refine SL.nil ?_
      refine SN.seq ?_
      refine SG.condP rfl (fun h5 => ?_) (fun h5 => ?_)
      · obtain ⟨q, hq⟩ : ∃ q, q = (i + j) / 2 := ⟨_, rfl⟩
        have q1 : i ≤ q := by omega
        have q2 : q < j := by omega
        obtain ⟨z, hz⟩ : ∃ x, l0[q]? = some x := ⟨_, List.getElem?_eq_getElem (by omega)⟩
        refine SG.skip ?_
        refine SN.seq ?_
        refine SG.block ?_
        refine SG.seq ?_
        refine SG.region ?_
        refine SL.val rfl rfl (fun w9 F9 S9 s => R.mv rfl) ?_
        refine SL.val rfl rfl (fun w9 F9 S9 s => R.mv rfl) ?_
        refine SL.val rfl rfl (fun w9 F9 S9 s => R.add rfl rfl (by omega)) ?_
        refine SL.val rfl rfl (fun w9 F9 S9 s => R.conv rfl ((i + j : Nat) : Int) (by rw [wrap_u64 (by omega)]; omega)) ?_
        refine SL.val rfl rfl (fun w9 F9 S9 s => R.shrW rfl rfl (by decide) (q : Int) (by rw [shr1]; omega)) ?_
        refine SL.val rfl rfl (fun w9 F9 S9 s => R.conv rfl (q : Int) (wrap_i64 (by omega))) ?_
        refine SL.val rfl rfl (fun w9 F9 S9 s => R.as rfl) ?_
        refine SL.nil ?_
        refine SN.seq ?_
        refine SG.seq ?_
        refine SG.draw [9] [0, 1, 2, 3, 4, 5, 6, 7, 8, 9, 10, 11] (by decide +kernel) rfl ?_
        refine SW.pure rfl rfl rfl rfl (fun w9 => R.mv rfl) ?_
        refine SW.pure rfl rfl rfl rfl (fun w9 => R.mv rfl) ?_
        refine SW.pure rfl rfl rfl rfl (fun w9 => R.mv rfl) ?_
        refine SW.pure rfl rfl rfl rfl (fun w9 => R.idxO rfl rfl (by omega) (by omega) rfl (m * 3) (by omega)) ?_
        refine SW.read rfl rfl rfl rfl (fun w9 F9 S9 s => R.ldN (vs := cellB y) rfl (row_ld cellB_len (s.ownC (show Sel _ (own 32 3 (some ⟨g, 0, none⟩) n c (List.map cellB l0).flatten) _ from (by repeat (first | exact Sel.keep | exact Sel.here | apply Sel.there)))) hy) rfl) ?_
        refine SW.pure rfl rfl rfl rfl (fun w9 => R.mv rfl) ?_
        refine SW.pure rfl rfl rfl rfl (fun w9 => R.mv rfl) ?_
        refine SW.pure rfl rfl rfl rfl (fun w9 => R.idxO rfl rfl (by omega) (by omega) rfl (q * 3) (by omega)) ?_
        refine SW.read rfl rfl rfl rfl (fun w9 F9 S9 s => R.ldN (vs := cellB z) rfl (row_ld cellB_len (s.ownC (show Sel _ (own 32 3 (some ⟨g, 0, none⟩) n c (List.map cellB l0).flatten) _ from (by repeat (first | exact Sel.keep | exact Sel.here | apply Sel.there)))) hz) rfl) ?_
        refine SW.step rfl rfl rfl rfl (CS.callV rfl rfl rfl go24 (hot1_ok y z) (by repeat (first | exact Sels.nil | apply Sels.cons | exact Sel.keep | exact Sel.here | apply Sel.there))) ?_
        rintro _ _ ⟨_, ⟨rfl, rfl⟩, rfl⟩
        refine ⟨⟨.inl (by decide +kernel), ⟨.inl (by decide +kernel), trivial⟩⟩, ?_⟩
        refine SW.n0 ?_
        refine SW.pure rfl rfl rfl rfl (fun w9 => R.lss rfl rfl) ?_
        refine SW.pure rfl rfl rfl rfl (fun w9 => R.not rfl) ?_
        refine SW.nil ?_
        refine SN.seq ?_
        refine SG.condB rfl (fun h6 => ?_) (fun h6 => ?_)
        · have hb6 : bf y z = false := Bool.eq_false_iff.2 fun e => by simp [bf_cmp.2 e] at h6
          refine SG.region ?_
          refine SL.val rfl rfl (fun w9 F9 S9 s => R.mv rfl) ?_
          refine SL.val rfl rfl (fun w9 F9 S9 s => R.add rfl rfl (by omega)) ?_
          refine SL.val rfl rfl (fun w9 F9 S9 s => R.as rfl) ?_
          refine SL.nil ?_
          refine SN.block ?_
          exact SN.again ((q + 1, j)) (by show j - (q + 1) < j - i; omega) (Sub.cons rfl (Sub.cons rfl (Sub.cons rfl (Sub.cons rfl (Sub.cons rfl (Sub.cons rfl (Sub.cons rfl (Sub.nil _)))))))) ((Imp.sels (by repeat (first | exact Sels.nil | apply Sels.cons | exact Sel.keep | exact Sel.here | apply Sel.there)))) (⟨by show a0 ≤ q + 1; omega, by show q + 1 ≤ j; omega, k3, .inr ⟨z, by show l0[q + 1 - 1]? = some z; rw [Nat.add_sub_cancel]; exact hz, hb6⟩, k5⟩)
        · have hb6 : bf y z = true := bf_cmp.1 (by simpa using h6)
          refine SG.region ?_
          refine SL.val rfl rfl (fun w9 F9 S9 s => R.mv rfl) ?_
          refine SL.val rfl rfl (fun w9 F9 S9 s => R.as rfl) ?_
          refine SL.nil ?_
          refine SN.block ?_
          exact SN.again ((i, q)) (by show q - i < j - i; omega) (Sub.cons rfl (Sub.cons rfl (Sub.cons rfl (Sub.cons rfl (Sub.cons rfl (Sub.cons rfl (Sub.cons rfl (Sub.nil _)))))))) ((Imp.sels (by repeat (first | exact Sels.nil | apply Sels.cons | exact Sel.keep | exact Sel.here | apply Sel.there)))) (⟨k1, q1, by show q ≤ m; omega, k4, .inr ⟨z, hz, hb6⟩⟩)
      · obtain rfl : i = j := by omega
        refine SG.exit _ rfl ?_
        refine SN.seq ?_
        refine SG.seq ?_
        refine SG.seq ?_
        refine SG.region ?_
        refine SL.val rfl rfl (fun w9 F9 S9 s => R.mv rfl) ?_
        refine SL.val rfl rfl (fun w9 F9 S9 s => R.as rfl) ?_
        refine SL.nil ?_
        refine SN.seq ?_
        refine SG.block ?_
        refine SG.loop (X := Nat) (fun t => [(0, .slice (some ⟨g, 0, none⟩) n c), (1, .int .i64 ((a0 : Nat) : Int)), (2, .int .i64 ((m : Nat) : Int)), (3, .int .i64 ((b0 : Nat) : Int)), (4, .func (.func 24) #[] #[]), (14, .int .i64 ((i : Nat) : Int)), (17, .int .i64 ((m - t : Nat) : Int))]) (fun t => [own 32 3 (some ⟨g, 0, none⟩) n c (List.map cellB (bubD l0 m t)).flatten]) (fun t => t ≤ m - i) (fun t => m - i - t) (0) (Sub.cons rfl (Sub.cons rfl (Sub.cons rfl (Sub.cons rfl (Sub.cons rfl (Sub.cons rfl (Sub.cons rfl (Sub.nil _)))))))) ((Imp.sels (by repeat (first | exact Sels.nil | apply Sels.cons | exact Sel.keep | exact Sel.here | apply Sel.there)))) (Nat.zero_le _) ?_
        intro t ht
        have hul := bubD_len l0 m t
        show SG _ _ _ _ _ [(0, .slice (some ⟨g, 0, none⟩) n c), (1, .int .i64 ((a0 : Nat) : Int)), (2, .int .i64 ((m : Nat) : Int)), (3, .int .i64 ((b0 : Nat) : Int)), (4, .func (.func 24) #[] #[]), (14, .int .i64 ((i : Nat) : Int)), (17, .int .i64 ((m - t : Nat) : Int))] [own 32 3 (some ⟨g, 0, none⟩) n c (List.map cellB (bubD l0 m t)).flatten] _
        refine SG.seq ?_
        refine SG.seq ?_
        refine SG.region ?_
        refine SL.val rfl rfl (fun w9 F9 S9 s => R.mv rfl) ?_
        refine SL.val rfl rfl (fun w9 F9 S9 s => R.mv rfl) ?_
        refine SL.val rfl rfl (fun w9 F9 S9 s => R.gtr rfl rfl) ?_
        refine SL.nil ?_
        refine SN.seq ?_
        refine SG.condP rfl (fun h7 => ?_) (fun h7 => ?_)
        · obtain ⟨x1, hx1⟩ : ∃ x, (bubD l0 m t)[m - t - 1]? = some x := ⟨_, List.getElem?_eq_getElem (by omega)⟩
          obtain ⟨y1, hy1⟩ : ∃ x, (bubD l0 m t)[m - t]? = some x := ⟨_, List.getElem?_eq_getElem (by omega)⟩
          refine SG.skip ?_
          refine SN.seq ?_
          refine SG.seq ?_
          refine SG.block ?_
          refine SG.draw [15, 17] [0, 1, 2, 3, 4, 5, 6, 7, 8, 9, 10, 11, 12, 13, 14, 15, 16, 17] (by decide +kernel) rfl ?_
          refine SW.pure rfl rfl rfl rfl (fun w9 => R.mv rfl) ?_
          refine SW.pure rfl rfl rfl rfl (fun w9 => R.mv rfl) ?_
          refine SW.pure rfl rfl rfl rfl (fun w9 => R.mv rfl) ?_
          refine SW.pure rfl rfl rfl rfl (fun w9 => R.mv rfl) ?_
          refine SW.pure rfl rfl rfl rfl (fun w9 => R.subW rfl rfl ((m - t - 1 : Nat) : Int) (by rw [wrap_i64 (by omega)]; omega)) ?_
          refine SW.pure rfl rfl rfl rfl (fun w9 => R.mv rfl) ?_
          refine SW.pure rfl rfl rfl rfl (fun w9 => R.mv rfl) ?_
          refine SW.pure rfl rfl rfl rfl (fun w9 => R.subW rfl rfl ((m - t - 1 : Nat) : Int) (by rw [wrap_i64 (by omega)]; omega)) ?_
          refine SW.pure rfl rfl rfl rfl (fun w9 => R.idxO rfl rfl (by omega) (by omega) rfl ((m - t - 1) * 3) (by omega)) ?_
          refine SW.read rfl rfl rfl rfl (fun w9 F9 S9 s => R.ldN (vs := cellB x1) rfl (row_ld cellB_len (s.ownC (show Sel _ (own 32 3 (some ⟨g, 0, none⟩) n c (List.map cellB (bubD l0 m t)).flatten) _ from (by repeat (first | exact Sel.keep | exact Sel.here | apply Sel.there)))) hx1) rfl) ?_
          refine SW.pure rfl rfl rfl rfl (fun w9 => R.mv rfl) ?_
          refine SW.pure rfl rfl rfl rfl (fun w9 => R.mv rfl) ?_
          refine SW.pure rfl rfl rfl rfl (fun w9 => R.idxO rfl rfl (by omega) (by omega) rfl ((m - t) * 3) (by omega)) ?_
          refine SW.read rfl rfl rfl rfl (fun w9 F9 S9 s => R.ldN (vs := cellB y1) rfl (row_ld cellB_len (s.ownC (show Sel _ (own 32 3 (some ⟨g, 0, none⟩) n c (List.map cellB (bubD l0 m t)).flatten) _ from (by repeat (first | exact Sel.keep | exact Sel.here | apply Sel.there)))) hy1) rfl) ?_
          refine SW.pure rfl rfl rfl rfl (fun w9 => R.idxO rfl rfl (by omega) (by omega) rfl ((m - t) * 3) (by omega)) ?_
          refine SW.step0 rfl rfl rfl (CS.stR (f := cellB) (v := x1) cellB_len cellB_one rfl rfl (show Sel _ (own 32 3 (some ⟨g, 0, none⟩) n c (List.map cellB (bubD l0 m t)).flatten) _ from (by repeat (first | exact Sel.keep | exact Sel.here | apply Sel.there))) (by omega) (by first | omega | (simp only [List.length_set]; omega))) ?_
          rintro _ _ rfl
          refine ⟨⟨.inl (by decide +kernel), ⟨.inl (by decide +kernel), trivial⟩⟩, ?_⟩
          refine SW.pure rfl rfl rfl rfl (fun w9 => R.idxO rfl rfl (by omega) (by omega) rfl ((m - t - 1) * 3) (by omega)) ?_
          refine SW.step0 rfl rfl rfl (CS.stR (f := cellB) (v := y1) cellB_len cellB_one rfl rfl (show Sel _ (own 32 3 (some ⟨g, 0, none⟩) n c (List.map cellB (List.set (bubD l0 m t) (m - t) x1)).flatten) _ from (by repeat (first | exact Sel.keep | exact Sel.here | apply Sel.there))) (by omega) (by first | omega | (simp only [List.length_set]; omega))) ?_
          rintro _ _ rfl
          refine ⟨⟨.inl (by decide +kernel), ⟨.inl (by decide +kernel), trivial⟩⟩, ?_⟩
          refine SW.nil ?_
          refine SN.block ?_
          refine SN.seq ?_
          refine SG.region ?_
          refine SL.val rfl rfl (fun w9 F9 S9 s => R.mv rfl) ?_
          refine SL.val rfl rfl (fun w9 F9 S9 s => R.subW rfl rfl ((m - (t + 1) : Nat) : Int) (by rw [wrap_i64 (by omega)]; omega)) ?_
          refine SL.val rfl rfl (fun w9 F9 S9 s => R.as rfl) ?_
          refine SL.nil ?_
          exact SN.again (t + 1) (by show m - i - (t + 1) < m - i - t; omega) (Sub.cons rfl (Sub.cons rfl (Sub.cons rfl (Sub.cons rfl (Sub.cons rfl (Sub.cons rfl (Sub.cons rfl (Sub.nil _)))))))) ((show Imp _ _ by rw [show bubD l0 m (t + 1) = _ from swap2_at hy1 hx1]; exact (Imp.sels (by repeat (first | exact Sels.nil | apply Sels.cons | exact Sel.keep | exact Sel.here | apply Sel.there))))) (by show t + 1 ≤ m - i; omega)
        · obtain rfl : t = m - i := by omega
          refine SG.exit _ rfl ?_
          refine SN.seq ?_
          exact SG.ret0 rfl ((Imp.sels (by repeat (first | exact Sels.nil | apply Sels.cons | exact Sel.keep | exact Sel.here | apply Sel.there)))) (⟨_, rfl, by rw [hm1]; exact merge_down hR1 hy (by omega) (by omega) k4 k5, rfl⟩)
    · obtain ⟨md, hmd⟩ : ∃ md, md = (a0 + b0) / 2 := ⟨_, rfl⟩
      refine SG.skip ?_
      refine SN.seq ?_
      refine SG.seq ?_
      refine SG.region ?_
      refine SL.val rfl rfl (fun w9 F9 S9 s => R.mv rfl) ?_
      refine SL.val rfl rfl (fun w9 F9 S9 s => R.mv rfl) ?_
      refine SL.val rfl rfl (fun w9 F9 S9 s => R.add rfl rfl (by omega)) ?_
      refine SL.val rfl rfl (fun w9 F9 S9 s => R.conv rfl ((a0 + b0 : Nat) : Int) (by rw [wrap_u64 (by omega)]; omega)) ?_
      refine SL.val rfl rfl (fun w9 F9 S9 s => R.shrW rfl rfl (by decide) (md : Int) (by rw [shr1]; omega)) ?_
      refine SL.val rfl rfl (fun w9 F9 S9 s => R.conv rfl (md : Int) (wrap_i64 (by omega))) ?_
      refine SL.val rfl rfl (fun w9 F9 S9 s => R.as rfl) ?_
      refine SL.nil ?_
      refine SN.seq ?_
      refine SG.seq ?_
      refine SG.region ?_
      refine SL.val rfl rfl (fun w9 F9 S9 s => R.mv rfl) ?_
      refine SL.val rfl rfl (fun w9 F9 S9 s => R.mv rfl) ?_
      refine SL.val rfl rfl (fun w9 F9 S9 s => R.addW rfl rfl ((md + m : Nat) : Int) (by rw [wrap_i64 (by omega)]; omega)) ?_
      refine SL.val rfl rfl (fun w9 F9 S9 s => R.as rfl) ?_
      refine SL.nil ?_
      refine SN.seq ?_
      refine SG.seq ?_
      refine SG.region ?_
      refine SL.val rfl rfl (fun w9 F9 S9 s => R.as rfl) ?_
      refine SL.val rfl rfl (fun w9 F9 S9 s => R.as rfl) ?_
      refine SL.nil ?_
      refine SN.seq ?_
      refine SG.seq ?_
      refine SG.seq ?_
      refine SG.region ?_
      refine SL.val rfl rfl (fun w9 F9 S9 s => R.mv rfl) ?_
      refine SL.val rfl rfl (fun w9 F9 S9 s => R.mv rfl) ?_
      refine SL.val rfl rfl (fun w9 F9 S9 s => R.gtr rfl rfl) ?_
      refine SL.nil ?_
      refine SN.seq ?_
      refine SG.cut (X := Nat × Nat) (fun y => [(0, .slice (some ⟨g, 0, none⟩) n c), (1, .int .i64 ((a0 : Nat) : Int)), (2, .int .i64 ((m : Nat) : Int)), (3, .int .i64 ((b0 : Nat) : Int)), (4, .func (.func 24) #[] #[]), (18, .int .i64 ((md : Nat) : Int)), (19, .int .i64 ((md + m : Nat) : Int)), (20, .int .i64 ((y.1 : Nat) : Int)), (21, .int .i64 ((y.2 : Nat) : Int))]) (fun y => [own 32 3 (some ⟨g, 0, none⟩) n c (List.map cellB l0).flatten]) (fun y => a0 ≤ y.1 ∧ y.1 ≤ y.2 ∧ y.2 ≤ m ∧ m ≤ md + m - y.2 ∧ md + m - y.1 ≤ b0 ∧ y.2 ≤ md + m ∧ (y.1 = a0 ∨ md + m - y.1 = b0) ∧ (y.2 = m ∨ md + m - y.2 = m)) ?_ ?_
      · refine SG.condP rfl (fun h8 => ?_) (fun h8 => ?_)
        · refine SG.seq ?_
          refine SG.region ?_
          refine SL.val rfl rfl (fun w9 F9 S9 s => R.mv rfl) ?_
          refine SL.val rfl rfl (fun w9 F9 S9 s => R.mv rfl) ?_
          refine SL.val rfl rfl (fun w9 F9 S9 s => R.subW rfl rfl ((md + m - b0 : Nat) : Int) (by rw [wrap_i64 (by omega)]; omega)) ?_
          refine SL.val rfl rfl (fun w9 F9 S9 s => R.as rfl) ?_
          refine SL.nil ?_
          refine SN.seq ?_
          refine SG.region ?_
          refine SL.val rfl rfl (fun w9 F9 S9 s => R.mv rfl) ?_
          refine SL.val rfl rfl (fun w9 F9 S9 s => R.as rfl) ?_
          refine SL.nil ?_
          exact SN.handX ((md + m - b0, md)) (Sub.cons rfl (Sub.cons rfl (Sub.cons rfl (Sub.cons rfl (Sub.cons rfl (Sub.cons rfl (Sub.cons rfl (Sub.cons rfl (Sub.cons rfl (Sub.nil _)))))))))) ((Imp.sels (by repeat (first | exact Sels.nil | apply Sels.cons | exact Sel.keep | exact Sel.here | apply Sel.there)))) ((by dsimp only; omega))
        · refine SG.seq ?_
          refine SG.region ?_
          refine SL.val rfl rfl (fun w9 F9 S9 s => R.mv rfl) ?_
          refine SL.val rfl rfl (fun w9 F9 S9 s => R.as rfl) ?_
          refine SL.nil ?_
          refine SN.seq ?_
          refine SG.region ?_
          refine SL.val rfl rfl (fun w9 F9 S9 s => R.mv rfl) ?_
          refine SL.val rfl rfl (fun w9 F9 S9 s => R.as rfl) ?_
          refine SL.nil ?_
          exact SN.handX ((a0, m)) (Sub.cons rfl (Sub.cons rfl (Sub.cons rfl (Sub.cons rfl (Sub.cons rfl (Sub.cons rfl (Sub.cons rfl (Sub.cons rfl (Sub.cons rfl (Sub.nil _)))))))))) ((Imp.sels (by repeat (first | exact Sels.nil | apply Sels.cons | exact Sel.keep | exact Sel.here | apply Sel.there)))) ((by dsimp only; omega))
      · rintro ⟨lo, hi⟩ hc
        show SN _ _ _ _ _ [(0, .slice (some ⟨g, 0, none⟩) n c), (1, .int .i64 ((a0 : Nat) : Int)), (2, .int .i64 ((m : Nat) : Int)), (3, .int .i64 ((b0 : Nat) : Int)), (4, .func (.func 24) #[] #[]), (18, .int .i64 ((md : Nat) : Int)), (19, .int .i64 ((md + m : Nat) : Int)), (20, .int .i64 ((lo : Nat) : Int)), (21, .int .i64 ((hi : Nat) : Int))] [own 32 3 (some ⟨g, 0, none⟩) n c (List.map cellB l0).flatten]
        dsimp only at hc
        refine SN.seq ?_
        refine SG.seq ?_
        refine SG.region ?_
        refine SL.val rfl rfl (fun w9 F9 S9 s => R.mv rfl) ?_
        refine SL.val rfl rfl (fun w9 F9 S9 s => R.subW rfl rfl ((md + m - 1 : Nat) : Int) (by rw [wrap_i64 (by omega)]; omega)) ?_
        refine SL.val rfl rfl (fun w9 F9 S9 s => R.as rfl) ?_
        refine SL.nil ?_
        refine SN.seq ?_
        refine SG.seq ?_
        refine SG.block ?_
        refine SG.loop (X := Nat × Nat) (fun y => [(0, .slice (some ⟨g, 0, none⟩) n c), (1, .int .i64 ((a0 : Nat) : Int)), (2, .int .i64 ((m : Nat) : Int)), (3, .int .i64 ((b0 : Nat) : Int)), (4, .func (.func 24) #[] #[]), (18, .int .i64 ((md : Nat) : Int)), (19, .int .i64 ((md + m : Nat) : Int)), (20, .int .i64 ((y.1 : Nat) : Int)), (21, .int .i64 ((y.2 : Nat) : Int)), (22, .int .i64 ((md + m - 1 : Nat) : Int))]) (fun y => [own 32 3 (some ⟨g, 0, none⟩) n c (List.map cellB l0).flatten]) (fun y => lo ≤ y.1 ∧ y.1 ≤ y.2 ∧ y.2 ≤ hi ∧ (y.1 = lo ∨ ∃ z u, l0[y.1 - 1]? = some z ∧ l0[md + m - y.1]? = some u ∧ bf u z = false) ∧ (y.2 = hi ∨ ∃ z u, l0[y.2]? = some z ∧ l0[md + m - 1 - y.2]? = some u ∧ bf u z = true)) (fun y => y.2 - y.1) ((lo, hi)) (Sub.cons rfl (Sub.cons rfl (Sub.cons rfl (Sub.cons rfl (Sub.cons rfl (Sub.cons rfl (Sub.cons rfl (Sub.cons rfl (Sub.cons rfl (Sub.cons rfl (Sub.nil _))))))))))) ((Imp.sels (by repeat (first | exact Sels.nil | apply Sels.cons | exact Sel.keep | exact Sel.here | apply Sel.there)))) (⟨Nat.le_refl _, by show lo ≤ hi; omega, Nat.le_refl _, .inl rfl, .inl rfl⟩) ?_
        rintro ⟨i, j⟩ ⟨k1, k2, k3, k4, k5⟩
        dsimp only at k1 k2 k3 k4 k5
        show SG _ _ _ _ _ [(0, .slice (some ⟨g, 0, none⟩) n c), (1, .int .i64 ((a0 : Nat) : Int)), (2, .int .i64 ((m : Nat) : Int)), (3, .int .i64 ((b0 : Nat) : Int)), (4, .func (.func 24) #[] #[]), (18, .int .i64 ((md : Nat) : Int)), (19, .int .i64 ((md + m : Nat) : Int)), (20, .int .i64 ((i : Nat) : Int)), (21, .int .i64 ((j : Nat) : Int)), (22, .int .i64 ((md + m - 1 : Nat) : Int))] [own 32 3 (some ⟨g, 0, none⟩) n c (List.map cellB l0).flatten] _
        refine SG.seq ?_
        refine SG.seq ?_
        refine SG.region ?_
        refine SL.val rfl rfl (fun w9 F9 S9 s => R.mv rfl) ?_
        refine SL.val rfl rfl (fun w9 F9 S9 s => R.mv rfl) ?_
        refine SL.val rfl rfl (fun w9 F9 S9 s => R.lss rfl rfl) ?_
        refine SL.nil ?_
        refine SN.seq ?_
        refine SG.condP rfl (fun h9 => ?_) (fun h9 => ?_)
        · obtain ⟨q, hq⟩ : ∃ q, q = (i + j) / 2 := ⟨_, rfl⟩
          have q1 : i ≤ q := by omega
          have q2 : q < j := by omega
          obtain ⟨z, hz⟩ : ∃ x, l0[q]? = some x := ⟨_, List.getElem?_eq_getElem (by omega)⟩
          obtain ⟨u, hu⟩ : ∃ x, l0[md + m - 1 - q]? = some x := ⟨_, List.getElem?_eq_getElem (by omega)⟩
          refine SG.skip ?_
          refine SN.seq ?_
          refine SG.block ?_
          refine SG.seq ?_
          refine SG.region ?_
          refine SL.val rfl rfl (fun w9 F9 S9 s => R.mv rfl) ?_
          refine SL.val rfl rfl (fun w9 F9 S9 s => R.mv rfl) ?_
          refine SL.val rfl rfl (fun w9 F9 S9 s => R.add rfl rfl (by omega)) ?_
          refine SL.val rfl rfl (fun w9 F9 S9 s => R.conv rfl ((i + j : Nat) : Int) (by rw [wrap_u64 (by omega)]; omega)) ?_
          refine SL.val rfl rfl (fun w9 F9 S9 s => R.shrW rfl rfl (by decide) (q : Int) (by rw [shr1]; omega)) ?_
          refine SL.val rfl rfl (fun w9 F9 S9 s => R.conv rfl (q : Int) (wrap_i64 (by omega))) ?_
          refine SL.val rfl rfl (fun w9 F9 S9 s => R.as rfl) ?_
          refine SL.nil ?_
          refine SN.seq ?_
          refine SG.seq ?_
          refine SG.draw [11] [0, 1, 2, 3, 4, 5, 6, 7, 8, 9, 10, 11, 12, 13] (by decide +kernel) rfl ?_
          refine SW.pure rfl rfl rfl rfl (fun w9 => R.mv rfl) ?_
          refine SW.pure rfl rfl rfl rfl (fun w9 => R.mv rfl) ?_
          refine SW.pure rfl rfl rfl rfl (fun w9 => R.mv rfl) ?_
          refine SW.pure rfl rfl rfl rfl (fun w9 => R.mv rfl) ?_
          refine SW.pure rfl rfl rfl rfl (fun w9 => R.subW rfl rfl ((md + m - 1 - q : Nat) : Int) (by rw [wrap_i64 (by omega)]; omega)) ?_
          refine SW.pure rfl rfl rfl rfl (fun w9 => R.idxO rfl rfl (by omega) (by omega) rfl ((md + m - 1 - q) * 3) (by omega)) ?_
          refine SW.read rfl rfl rfl rfl (fun w9 F9 S9 s => R.ldN (vs := cellB u) rfl (row_ld cellB_len (s.ownC (show Sel _ (own 32 3 (some ⟨g, 0, none⟩) n c (List.map cellB l0).flatten) _ from (by repeat (first | exact Sel.keep | exact Sel.here | apply Sel.there)))) hu) rfl) ?_
          refine SW.pure rfl rfl rfl rfl (fun w9 => R.mv rfl) ?_
          refine SW.pure rfl rfl rfl rfl (fun w9 => R.mv rfl) ?_
          refine SW.pure rfl rfl rfl rfl (fun w9 => R.idxO rfl rfl (by omega) (by omega) rfl (q * 3) (by omega)) ?_
          refine SW.read rfl rfl rfl rfl (fun w9 F9 S9 s => R.ldN (vs := cellB z) rfl (row_ld cellB_len (s.ownC (show Sel _ (own 32 3 (some ⟨g, 0, none⟩) n c (List.map cellB l0).flatten) _ from (by repeat (first | exact Sel.keep | exact Sel.here | apply Sel.there)))) hz) rfl) ?_
          refine SW.step rfl rfl rfl rfl (CS.callV rfl rfl rfl go24 (hot1_ok u z) (by repeat (first | exact Sels.nil | apply Sels.cons | exact Sel.keep | exact Sel.here | apply Sel.there))) ?_
          rintro _ _ ⟨_, ⟨rfl, rfl⟩, rfl⟩
          refine ⟨⟨.inl (by decide +kernel), ⟨.inl (by decide +kernel), trivial⟩⟩, ?_⟩
          refine SW.n0 ?_
          refine SW.pure rfl rfl rfl rfl (fun w9 => R.lss rfl rfl) ?_
          refine SW.pure rfl rfl rfl rfl (fun w9 => R.not rfl) ?_
          refine SW.nil ?_
          refine SN.seq ?_
          refine SG.condB rfl (fun h10 => ?_) (fun h10 => ?_)
          · have hb10 : bf u z = false := Bool.eq_false_iff.2 fun e => by simp [bf_cmp.2 e] at h10
            refine SG.region ?_
            refine SL.val rfl rfl (fun w9 F9 S9 s => R.mv rfl) ?_
            refine SL.val rfl rfl (fun w9 F9 S9 s => R.add rfl rfl (by omega)) ?_
            refine SL.val rfl rfl (fun w9 F9 S9 s => R.as rfl) ?_
            refine SL.nil ?_
            refine SN.block ?_
            exact SN.again ((q + 1, j)) (by show j - (q + 1) < j - i; omega) (Sub.cons rfl (Sub.cons rfl (Sub.cons rfl (Sub.cons rfl (Sub.cons rfl (Sub.cons rfl (Sub.cons rfl (Sub.cons rfl (Sub.cons rfl (Sub.cons rfl (Sub.nil _))))))))))) ((Imp.sels (by repeat (first | exact Sels.nil | apply Sels.cons | exact Sel.keep | exact Sel.here | apply Sel.there)))) (⟨by show lo ≤ q + 1; omega, by show q + 1 ≤ j; omega, k3, .inr ⟨z, u, by show l0[q + 1 - 1]? = some z; rw [Nat.add_sub_cancel]; exact hz, by show l0[md + m - (q + 1)]? = some u; rw [show md + m - (q + 1) = md + m - 1 - q by omega]; exact hu, hb10⟩, k5⟩)
          · have hb10 : bf u z = true := bf_cmp.1 (by simpa using h10)
            refine SG.region ?_
            refine SL.val rfl rfl (fun w9 F9 S9 s => R.mv rfl) ?_
            refine SL.val rfl rfl (fun w9 F9 S9 s => R.as rfl) ?_
            refine SL.nil ?_
            refine SN.block ?_
            exact SN.again ((i, q)) (by show q - i < j - i; omega) (Sub.cons rfl (Sub.cons rfl (Sub.cons rfl (Sub.cons rfl (Sub.cons rfl (Sub.cons rfl (Sub.cons rfl (Sub.cons rfl (Sub.cons rfl (Sub.cons rfl (Sub.nil _))))))))))) ((Imp.sels (by repeat (first | exact Sels.nil | apply Sels.cons | exact Sel.keep | exact Sel.here | apply Sel.there)))) (⟨k1, q1, by show q ≤ hi; omega, k4, .inr ⟨z, u, hz, hu, hb10⟩⟩)
        · obtain rfl : i = j := by omega
          have hcut : Cutd l0 a0 m b0 i (md + m - i) := runs_cut hR (by omega) (by omega) (by omega) (by omega) (by
            rcases k4 with e | ⟨z, u, e1, e2, e3⟩
            · subst e; omega
            · exact .inr (.inr ⟨z, u, e1, e2, e3⟩)) (by
            rcases k5 with e | ⟨z, u, e1, e2, e3⟩
            · subst e; omega
            · exact .inr (.inr ⟨z, u, e1, by rw [show md + m - i - 1 = md + m - 1 - i by omega]; exact e2, e3⟩))
          refine SG.exit _ rfl ?_
          refine SN.seq ?_
          refine SG.seq ?_
          refine SG.region ?_
          refine SL.val rfl rfl (fun w9 F9 S9 s => R.mv rfl) ?_
          refine SL.val rfl rfl (fun w9 F9 S9 s => R.mv rfl) ?_
          refine SL.val rfl rfl (fun w9 F9 S9 s => R.subW rfl rfl ((md + m - i : Nat) : Int) (by rw [wrap_i64 (by omega)]; omega)) ?_
          refine SL.val rfl rfl (fun w9 F9 S9 s => R.as rfl) ?_
          refine SL.nil ?_
          refine SN.seq ?_
          refine SG.seq ?_
          refine SG.seq ?_
          refine SG.cut (X := Bool) (fun w => [(0, .slice (some ⟨g, 0, none⟩) n c), (1, .int .i64 ((a0 : Nat) : Int)), (2, .int .i64 ((m : Nat) : Int)), (3, .int .i64 ((b0 : Nat) : Int)), (4, .func (.func 24) #[] #[]), (18, .int .i64 ((md : Nat) : Int)), (20, .int .i64 ((i : Nat) : Int)), (24, .int .i64 ((md + m - i : Nat) : Int)), (185, .bool w)]) (fun w => [own 32 3 (some ⟨g, 0, none⟩) n c (List.map cellB l0).flatten]) (fun w => (w = true → i < m ∧ m < (md + m - i)) ∧ (w = false → ¬ (i < m ∧ m < (md + m - i)))) ?_ ?_
          · refine SG.region ?_
            refine SL.val rfl rfl (fun w9 F9 S9 s => R.mv rfl) ?_
            refine SL.val rfl rfl (fun w9 F9 S9 s => R.mv rfl) ?_
            refine SL.val rfl rfl (fun w9 F9 S9 s => R.lss rfl rfl) ?_
            refine SL.val rfl rfl (fun w9 F9 S9 s => R.mv rfl) ?_
            refine SL.caseP 181 rfl (fun hg39_3 => ?_) (fun hg39_3 => ?_)
            · refine SL.val rfl rfl (fun w9 F9 S9 s => R.mv rfl) ?_
              refine SL.val rfl rfl (fun w9 F9 S9 s => R.mv rfl) ?_
              refine SL.val rfl rfl (fun w9 F9 S9 s => R.lss rfl rfl) ?_
              first | refine SL.val rfl rfl (fun w9 F9 S9 s => R.pickT rfl rfl) ?_ | refine SL.val rfl rfl (fun w9 F9 S9 s => R.pickF rfl rfl) ?_
              refine SL.nil ?_
              exact SN.handX (decide (((m : Nat) : Int) < (((md + m - i) : Nat) : Int))) (Sub.cons rfl (Sub.cons rfl (Sub.cons rfl (Sub.cons rfl (Sub.cons rfl (Sub.cons rfl (Sub.cons rfl (Sub.cons rfl (Sub.cons rfl (Sub.nil _)))))))))) ((Imp.sels (by repeat (first | exact Sels.nil | apply Sels.cons | exact Sel.keep | exact Sel.here | apply Sel.there)))) (⟨fun e => ⟨by omega, by have := of_decide_eq_true e; omega⟩, fun e => by have := of_decide_eq_false e; omega⟩)
            · refine SL.pass rfl rfl ?_
              refine SL.pass rfl rfl ?_
              refine SL.pass rfl rfl ?_
              first | refine SL.val rfl rfl (fun w9 F9 S9 s => R.pickT rfl rfl) ?_ | refine SL.val rfl rfl (fun w9 F9 S9 s => R.pickF rfl rfl) ?_
              refine SL.nil ?_
              exact SN.handX (false) (Sub.cons rfl (Sub.cons rfl (Sub.cons rfl (Sub.cons rfl (Sub.cons rfl (Sub.cons rfl (Sub.cons rfl (Sub.cons rfl (Sub.cons rfl (Sub.nil _)))))))))) ((Imp.sels (by repeat (first | exact Sels.nil | apply Sels.cons | exact Sel.keep | exact Sel.here | apply Sel.there)))) (⟨by simp, fun _ => by omega⟩)
          · rintro w ⟨w1, w2⟩
            show SN _ _ _ _ _ [(0, .slice (some ⟨g, 0, none⟩) n c), (1, .int .i64 ((a0 : Nat) : Int)), (2, .int .i64 ((m : Nat) : Int)), (3, .int .i64 ((b0 : Nat) : Int)), (4, .func (.func 24) #[] #[]), (18, .int .i64 ((md : Nat) : Int)), (20, .int .i64 ((i : Nat) : Int)), (24, .int .i64 ((md + m - i : Nat) : Int)), (185, .bool w)] [own 32 3 (some ⟨g, 0, none⟩) n c (List.map cellB l0).flatten]
            refine SN.seq ?_
            refine SG.cut (X := List E3) (fun l1 => [(0, .slice (some ⟨g, 0, none⟩) n c), (1, .int .i64 ((a0 : Nat) : Int)), (2, .int .i64 ((m : Nat) : Int)), (3, .int .i64 ((b0 : Nat) : Int)), (4, .func (.func 24) #[] #[]), (18, .int .i64 ((md : Nat) : Int)), (20, .int .i64 ((i : Nat) : Int)), (24, .int .i64 ((md + m - i : Nat) : Int))]) (fun l1 => [own 32 3 (some ⟨g, 0, none⟩) n c (List.map cellB l1).flatten]) (fun l1 => l1.length = n ∧ Turn l0 l1 a0 md b0 i (md + m - i)) ?_ ?_
            · refine SG.condB rfl (fun h11 => ?_) (fun h11 => ?_)
              · obtain ⟨w3, w4⟩ := w1 h11
                obtain ⟨l1, hrt, htn⟩ := hcut.rot (mid := md) w3 w4 (by omega)
                have hgl := hrt.len
                refine SG.region ?_
                refine SL.val rfl rfl (fun w9 F9 S9 s => R.mv rfl) ?_
                refine SL.val rfl rfl (fun w9 F9 S9 s => R.mv rfl) ?_
                refine SL.val rfl rfl (fun w9 F9 S9 s => R.mv rfl) ?_
                refine SL.val rfl rfl (fun w9 F9 S9 s => R.mv rfl) ?_
                refine SL.val rfl rfl (fun w9 F9 S9 s => R.mv rfl) ?_
                refine SL.step rfl rfl (CS.call rfl go93 (rot_ok (some ⟨g, 0, none⟩) n c l0 l1 i m (md + m - i) hrt w3 w4 (by omega) hn) (by repeat (first | exact Sels.nil | apply Sels.cons | exact Sel.keep | exact Sel.here | apply Sel.there))) ?_
                rintro _ _ ⟨_, ⟨rfl, rfl⟩, rfl⟩
                refine SL.n1 ?_
                refine SL.nil ?_
                exact SN.handX (l1) (Sub.cons rfl (Sub.cons rfl (Sub.cons rfl (Sub.cons rfl (Sub.cons rfl (Sub.cons rfl (Sub.cons rfl (Sub.cons rfl (Sub.nil _))))))))) ((Imp.sels (by repeat (first | exact Sels.nil | apply Sels.cons | exact Sel.keep | exact Sel.here | apply Sel.there)))) (⟨by omega, htn⟩)
              · have w5 := w2 (by simpa using h11)
                refine SG.skip ?_
                exact SN.handX (l0) (Sub.cons rfl (Sub.cons rfl (Sub.cons rfl (Sub.cons rfl (Sub.cons rfl (Sub.cons rfl (Sub.cons rfl (Sub.cons rfl (Sub.nil _))))))))) ((Imp.sels (by repeat (first | exact Sels.nil | apply Sels.cons | exact Sel.keep | exact Sel.here | apply Sel.there)))) (⟨by omega, hcut.none (by omega) (by omega)⟩)
            · rintro l1 ⟨hl1, htn⟩
              show SN _ _ _ _ _ [(0, .slice (some ⟨g, 0, none⟩) n c), (1, .int .i64 ((a0 : Nat) : Int)), (2, .int .i64 ((m : Nat) : Int)), (3, .int .i64 ((b0 : Nat) : Int)), (4, .func (.func 24) #[] #[]), (18, .int .i64 ((md : Nat) : Int)), (20, .int .i64 ((i : Nat) : Int)), (24, .int .i64 ((md + m - i : Nat) : Int))] [own 32 3 (some ⟨g, 0, none⟩) n c (List.map cellB l1).flatten]
              refine SN.seq ?_
              refine SG.seq ?_
              refine SG.seq ?_
              refine SG.cut (X := Bool) (fun w => [(0, .slice (some ⟨g, 0, none⟩) n c), (1, .int .i64 ((a0 : Nat) : Int)), (2, .int .i64 ((m : Nat) : Int)), (3, .int .i64 ((b0 : Nat) : Int)), (4, .func (.func 24) #[] #[]), (18, .int .i64 ((md : Nat) : Int)), (20, .int .i64 ((i : Nat) : Int)), (24, .int .i64 ((md + m - i : Nat) : Int)), (199, .bool w)]) (fun w => [own 32 3 (some ⟨g, 0, none⟩) n c (List.map cellB l1).flatten]) (fun w => (w = true → a0 < i ∧ i < md) ∧ (w = false → ¬ (a0 < i ∧ i < md))) ?_ ?_
              · refine SG.region ?_
                refine SL.val rfl rfl (fun w9 F9 S9 s => R.mv rfl) ?_
                refine SL.val rfl rfl (fun w9 F9 S9 s => R.mv rfl) ?_
                refine SL.val rfl rfl (fun w9 F9 S9 s => R.lss rfl rfl) ?_
                refine SL.val rfl rfl (fun w9 F9 S9 s => R.mv rfl) ?_
                refine SL.caseP 195 rfl (fun hg41_3 => ?_) (fun hg41_3 => ?_)
                · refine SL.val rfl rfl (fun w9 F9 S9 s => R.mv rfl) ?_
                  refine SL.val rfl rfl (fun w9 F9 S9 s => R.mv rfl) ?_
                  refine SL.val rfl rfl (fun w9 F9 S9 s => R.lss rfl rfl) ?_
                  first | refine SL.val rfl rfl (fun w9 F9 S9 s => R.pickT rfl rfl) ?_ | refine SL.val rfl rfl (fun w9 F9 S9 s => R.pickF rfl rfl) ?_
                  refine SL.nil ?_
                  exact SN.handX (decide (((i : Nat) : Int) < ((md : Nat) : Int))) (Sub.cons rfl (Sub.cons rfl (Sub.cons rfl (Sub.cons rfl (Sub.cons rfl (Sub.cons rfl (Sub.cons rfl (Sub.cons rfl (Sub.cons rfl (Sub.nil _)))))))))) ((Imp.sels (by repeat (first | exact Sels.nil | apply Sels.cons | exact Sel.keep | exact Sel.here | apply Sel.there)))) (⟨fun e => ⟨by omega, by have := of_decide_eq_true e; omega⟩, fun e => by have := of_decide_eq_false e; omega⟩)
                · refine SL.pass rfl rfl ?_
                  refine SL.pass rfl rfl ?_
                  refine SL.pass rfl rfl ?_
                  first | refine SL.val rfl rfl (fun w9 F9 S9 s => R.pickT rfl rfl) ?_ | refine SL.val rfl rfl (fun w9 F9 S9 s => R.pickF rfl rfl) ?_
                  refine SL.nil ?_
                  exact SN.handX (false) (Sub.cons rfl (Sub.cons rfl (Sub.cons rfl (Sub.cons rfl (Sub.cons rfl (Sub.cons rfl (Sub.cons rfl (Sub.cons rfl (Sub.cons rfl (Sub.nil _)))))))))) ((Imp.sels (by repeat (first | exact Sels.nil | apply Sels.cons | exact Sel.keep | exact Sel.here | apply Sel.there)))) (⟨by simp, fun _ => by omega⟩)
              · rintro w ⟨w1, w2⟩
                show SN _ _ _ _ _ [(0, .slice (some ⟨g, 0, none⟩) n c), (1, .int .i64 ((a0 : Nat) : Int)), (2, .int .i64 ((m : Nat) : Int)), (3, .int .i64 ((b0 : Nat) : Int)), (4, .func (.func 24) #[] #[]), (18, .int .i64 ((md : Nat) : Int)), (20, .int .i64 ((i : Nat) : Int)), (24, .int .i64 ((md + m - i : Nat) : Int)), (199, .bool w)] [own 32 3 (some ⟨g, 0, none⟩) n c (List.map cellB l1).flatten]
                refine SN.seq ?_
                refine SG.cut (X := List E3) (fun l2 => [(0, .slice (some ⟨g, 0, none⟩) n c), (1, .int .i64 ((a0 : Nat) : Int)), (2, .int .i64 ((m : Nat) : Int)), (3, .int .i64 ((b0 : Nat) : Int)), (4, .func (.func 24) #[] #[]), (18, .int .i64 ((md : Nat) : Int)), (20, .int .i64 ((i : Nat) : Int)), (24, .int .i64 ((md + m - i : Nat) : Int))]) (fun l2 => [own 32 3 (some ⟨g, 0, none⟩) n c (List.map cellB l2).flatten]) (fun l2 => l2.length = n ∧ Half l0 l2 a0 md b0 i (md + m - i)) ?_ ?_
                · refine SG.condB rfl (fun h12 => ?_) (fun h12 => ?_)
                  · obtain ⟨w3, w4⟩ := w1 h12
                    refine SG.region ?_
                    refine SL.val rfl rfl (fun w9 F9 S9 s => R.mv rfl) ?_
                    refine SL.val rfl rfl (fun w9 F9 S9 s => R.mv rfl) ?_
                    refine SL.val rfl rfl (fun w9 F9 S9 s => R.mv rfl) ?_
                    refine SL.val rfl rfl (fun w9 F9 S9 s => R.mv rfl) ?_
                    refine SL.val rfl rfl (fun w9 F9 S9 s => R.mv rfl) ?_
                    refine SL.step rfl rfl (CS.call rfl go81 (ih a0 i md l1 (by omega) htn.runs w3 w4 (by omega)) (by repeat (first | exact Sels.nil | apply Sels.cons | exact Sel.keep | exact Sel.here | apply Sel.there))) ?_
                    rintro _ _ ⟨_, ⟨ys, rfl, hp, rfl, rfl⟩, rfl⟩
                    refine SL.n1 ?_
                    refine SL.nil ?_
                    exact SN.handX (ys) (Sub.cons rfl (Sub.cons rfl (Sub.cons rfl (Sub.cons rfl (Sub.cons rfl (Sub.cons rfl (Sub.cons rfl (Sub.cons rfl (Sub.nil _))))))))) ((Imp.sels (by repeat (first | exact Sels.nil | apply Sels.cons | exact Sel.keep | exact Sel.here | apply Sel.there)))) (⟨by have := hp.len; omega, htn.half hp⟩)
                  · have w5 := w2 (by simpa using h12)
                    refine SG.skip ?_
                    exact SN.handX (l1) (Sub.cons rfl (Sub.cons rfl (Sub.cons rfl (Sub.cons rfl (Sub.cons rfl (Sub.cons rfl (Sub.cons rfl (Sub.cons rfl (Sub.nil _))))))))) ((Imp.sels (by repeat (first | exact Sels.nil | apply Sels.cons | exact Sel.keep | exact Sel.here | apply Sel.there)))) (⟨hl1, htn.half0 (by omega)⟩)
                · rintro l2 ⟨hl2, hha⟩
                  show SN _ _ _ _ _ [(0, .slice (some ⟨g, 0, none⟩) n c), (1, .int .i64 ((a0 : Nat) : Int)), (2, .int .i64 ((m : Nat) : Int)), (3, .int .i64 ((b0 : Nat) : Int)), (4, .func (.func 24) #[] #[]), (18, .int .i64 ((md : Nat) : Int)), (20, .int .i64 ((i : Nat) : Int)), (24, .int .i64 ((md + m - i : Nat) : Int))] [own 32 3 (some ⟨g, 0, none⟩) n c (List.map cellB l2).flatten]
                  refine SN.seq ?_
                  refine SG.seq ?_
                  refine SG.cut (X := Bool) (fun w => [(0, .slice (some ⟨g, 0, none⟩) n c), (1, .int .i64 ((a0 : Nat) : Int)), (2, .int .i64 ((m : Nat) : Int)), (3, .int .i64 ((b0 : Nat) : Int)), (4, .func (.func 24) #[] #[]), (18, .int .i64 ((md : Nat) : Int)), (20, .int .i64 ((i : Nat) : Int)), (24, .int .i64 ((md + m - i : Nat) : Int)), (213, .bool w)]) (fun w => [own 32 3 (some ⟨g, 0, none⟩) n c (List.map cellB l2).flatten]) (fun w => (w = true → md < (md + m - i) ∧ (md + m - i) < b0) ∧ (w = false → ¬ (md < (md + m - i) ∧ (md + m - i) < b0))) ?_ ?_
                  · refine SG.region ?_
                    refine SL.val rfl rfl (fun w9 F9 S9 s => R.mv rfl) ?_
                    refine SL.val rfl rfl (fun w9 F9 S9 s => R.mv rfl) ?_
                    refine SL.val rfl rfl (fun w9 F9 S9 s => R.lss rfl rfl) ?_
                    refine SL.val rfl rfl (fun w9 F9 S9 s => R.mv rfl) ?_
                    refine SL.caseP 209 rfl (fun hg43_3 => ?_) (fun hg43_3 => ?_)
                    · refine SL.val rfl rfl (fun w9 F9 S9 s => R.mv rfl) ?_
                      refine SL.val rfl rfl (fun w9 F9 S9 s => R.mv rfl) ?_
                      refine SL.val rfl rfl (fun w9 F9 S9 s => R.lss rfl rfl) ?_
                      first | refine SL.val rfl rfl (fun w9 F9 S9 s => R.pickT rfl rfl) ?_ | refine SL.val rfl rfl (fun w9 F9 S9 s => R.pickF rfl rfl) ?_
                      refine SL.nil ?_
                      exact SN.handX (decide ((((md + m - i) : Nat) : Int) < ((b0 : Nat) : Int))) (Sub.cons rfl (Sub.cons rfl (Sub.cons rfl (Sub.cons rfl (Sub.cons rfl (Sub.cons rfl (Sub.cons rfl (Sub.cons rfl (Sub.cons rfl (Sub.nil _)))))))))) ((Imp.sels (by repeat (first | exact Sels.nil | apply Sels.cons | exact Sel.keep | exact Sel.here | apply Sel.there)))) (⟨fun e => ⟨by omega, by have := of_decide_eq_true e; omega⟩, fun e => by have := of_decide_eq_false e; omega⟩)
                    · refine SL.pass rfl rfl ?_
                      refine SL.pass rfl rfl ?_
                      refine SL.pass rfl rfl ?_
                      first | refine SL.val rfl rfl (fun w9 F9 S9 s => R.pickT rfl rfl) ?_ | refine SL.val rfl rfl (fun w9 F9 S9 s => R.pickF rfl rfl) ?_
                      refine SL.nil ?_
                      exact SN.handX (false) (Sub.cons rfl (Sub.cons rfl (Sub.cons rfl (Sub.cons rfl (Sub.cons rfl (Sub.cons rfl (Sub.cons rfl (Sub.cons rfl (Sub.cons rfl (Sub.nil _)))))))))) ((Imp.sels (by repeat (first | exact Sels.nil | apply Sels.cons | exact Sel.keep | exact Sel.here | apply Sel.there)))) (⟨by simp, fun _ => by omega⟩)
                  · rintro w ⟨w1, w2⟩
                    show SN _ _ _ _ _ [(0, .slice (some ⟨g, 0, none⟩) n c), (1, .int .i64 ((a0 : Nat) : Int)), (2, .int .i64 ((m : Nat) : Int)), (3, .int .i64 ((b0 : Nat) : Int)), (4, .func (.func 24) #[] #[]), (18, .int .i64 ((md : Nat) : Int)), (20, .int .i64 ((i : Nat) : Int)), (24, .int .i64 ((md + m - i : Nat) : Int)), (213, .bool w)] [own 32 3 (some ⟨g, 0, none⟩) n c (List.map cellB l2).flatten]
                    refine SN.seq ?_
                    refine SG.condB rfl (fun h13 => ?_) (fun h13 => ?_)
                    · obtain ⟨w3, w4⟩ := w1 h13
                      refine SG.region ?_
                      refine SL.val rfl rfl (fun w9 F9 S9 s => R.mv rfl) ?_
                      refine SL.val rfl rfl (fun w9 F9 S9 s => R.mv rfl) ?_
                      refine SL.val rfl rfl (fun w9 F9 S9 s => R.mv rfl) ?_
                      refine SL.val rfl rfl (fun w9 F9 S9 s => R.mv rfl) ?_
                      refine SL.val rfl rfl (fun w9 F9 S9 s => R.mv rfl) ?_
                      refine SL.step rfl rfl (CS.call rfl go81 (ih md (md + m - i) b0 l2 (by omega) hha.runs w3 w4 (by omega)) (by repeat (first | exact Sels.nil | apply Sels.cons | exact Sel.keep | exact Sel.here | apply Sel.there))) ?_
                      rintro _ _ ⟨_, ⟨ys, rfl, hp, rfl, rfl⟩, rfl⟩
                      refine SL.n1 ?_
                      refine SL.nil ?_
                      exact SN.end0 rfl ((Imp.sels (by repeat (first | exact Sels.nil | apply Sels.cons | exact Sel.keep | exact Sel.here | apply Sel.there)))) (⟨_, rfl, hha.end hp, rfl⟩)
                    · have w5 := w2 (by simpa using h13)
                      refine SG.skip ?_
                      exact SN.end0 rfl ((Imp.sels (by repeat (first | exact Sels.nil | apply Sels.cons | exact Sel.keep | exact Sel.here | apply Sel.there)))) (⟨_, rfl, hha.end0 (by omega), rfl⟩)

theorem sym_ok (a : Option Addr) (n c : Nat) (hn : n ≤ 1152921504606846976) : ∀ (k : Nat) (l0 : List E3) (a0 m b0 : Nat), b0 - a0 ≤ k → Runs l0 a0 m b0 → a0 < m → m < b0 → b0 ≤ n → SpecS Try.prog 81 [.slice a n c, .int .i64 ((a0 : Nat) : Int), .int .i64 ((m : Nat) : Int), .int .i64 ((b0 : Nat) : Int), .func (.func 24) #[] #[]] [own 32 3 a n c (List.map cellB l0).flatten] (fun v H' => ∃ ys, v = .tuple #[] ∧ Part l0 ys a0 b0 ∧ H' = [own 32 3 a n c (List.map cellB ys).flatten]) := by
  intro k
  induction k with
  | zero => intro l0 a0 m b0 h1 h2 h3 h4 h5; omega
  | succ k ih =>
    intro l0 a0 m b0 h1 h2 h3 h4 h5
    exact symT_ok a n c l0 a0 m b0 h2 h3 h4 h5 hn fun a1 m1 b1 l1 q1 q2 q3 q4 q5 => ih l1 a1 m1 b1 (by omega) q2 q3 q4 q5

end Go.Proofs.Ytlhkpakbenghgaa
/-
  Plain laws on sorting: blocks that are sorted.
-/
set_option linter.unusedVariables false
set_option linter.unusedSimpArgs false
namespace Brv.Stats
open Go Brv
def seg (l : List E3) (i j : Nat) : List E3 := (l.take j).drop i
theorem Part.stb {l m : List E3} {a b : Nat} (h : Part l m a b) : Stb l m := by
  obtain ⟨P, A, B, Q, rfl, rfl, _, _, _, h, _⟩ := h
  exact ((Stb.refl P).app h).app (Stb.refl Q)
theorem Part.lo {l m : List E3} {a b i j : Nat} (h : Part l m a b) (hj : j ≤ a) : seg m i j = seg l i j := by
  obtain ⟨P, A, B, Q, rfl, rfl, h1, _⟩ := h
  unfold seg
  rw [List.append_assoc, List.append_assoc, List.take_append_of_le_length (by omega), List.take_append_of_le_length (by omega)]
theorem Part.hi {l m : List E3} {a b i j : Nat} (h : Part l m a b) (hi : b ≤ i) : seg m i j = seg l i j := by
  obtain ⟨P, A, B, Q, rfl, rfl, h1, h2, h3, _⟩ := h
  have e : ∀ X : List E3, a + X.length = b → seg (P ++ X ++ Q) i j = (Q.drop (i - b)).take (j - i) := by
    intro X hX
    have hl : (P ++ X).length = b := by rw [List.length_append]; omega
    unfold seg
    rw [List.drop_take, List.drop_append, List.drop_of_length_le (by omega), List.nil_append, hl]
  rw [e A h2, e B h3]
theorem Part.mid {l m : List E3} {a b : Nat} (h : Part l m a b) : Down (seg m a b) := by
  obtain ⟨P, A, B, Q, rfl, rfl, h1, h2, h3, h4, h5⟩ := h
  unfold seg
  rw [List.take_append_of_le_length (by simp only [List.length_append]; omega), List.take_of_length_le (by simp only [List.length_append]; omega), ← h1, List.drop_left]
  exact h5
theorem seg_join (l : List E3) {i j k : Nat} (h1 : i ≤ j) (h2 : j ≤ k) (h3 : k ≤ l.length) : l.take i ++ seg l i j ++ seg l j k ++ l.drop k = l := by
  unfold seg
  have e1 : l.take i ++ (l.take j).drop i = l.take j := by
    have := List.take_append_drop i (l.take j)
    rwa [List.take_take, Nat.min_eq_left h1] at this
  have e2 : l.take j ++ (l.take k).drop j = l.take k := by
    have := List.take_append_drop j (l.take k)
    rwa [List.take_take, Nat.min_eq_left h2] at this
  rw [e1, e2, List.take_append_drop]
theorem runs_of {l : List E3} {a m b : Nat} (h1 : Down (seg l a m)) (h2 : Down (seg l m b)) (ha : a ≤ m) (hm : m ≤ b) (hb : b ≤ l.length) : Runs l a m b :=
  ⟨l.take a, seg l a m, seg l m b, l.drop b, (seg_join l ha hm hb).symm, by rw [List.length_take]; omega, by unfold seg; rw [List.length_drop, List.length_take]; omega, by unfold seg; rw [List.length_drop, List.length_take]; omega, h1, h2⟩
/-- Whole sorted blocks, up to a place. -/
inductive Full (l : List E3) (s : Nat) : Nat → Prop
  | zero : Full l s 0
  | snoc {a : Nat} : Full l s a → Down (seg l a (a + s)) → Full l s (a + s)
/-- Sorted blocks from a place on, the last of which may be short. -/
inductive Blks (l : List E3) (s : Nat) : Nat → Nat → Prop
  | last {a b : Nat} : a ≤ b → b ≤ a + s → Down (seg l a b) → Blks l s a b
  | cons {a b : Nat} : a + s ≤ b → Down (seg l a (a + s)) → Blks l s (a + s) b → Blks l s a b
theorem Full.part {l m : List E3} {s a b k : Nat} (h : Full l s k) (hp : Part l m a b) (hk : k ≤ a) : Full m s k := by
  induction h with
  | zero => exact .zero
  | snoc h1 h2 ih => exact .snoc (ih (by omega)) (by rw [hp.lo hk]; exact h2)
theorem Blks.part {l m : List E3} {s a b k n : Nat} (h : Blks l s k n) (hp : Part l m a b) (hk : b ≤ k) : Blks m s k n := by
  induction h with
  | last h1 h2 h3 => exact .last h1 h2 (by rw [hp.hi hk]; exact h3)
  | cons h1 h2 h3 ih => exact .cons h1 (by rw [hp.hi hk]; exact h2) (ih (by omega))
theorem Full.blks {l : List E3} {s a n : Nat} (h : Full l s a) : Blks l s a n → a ≤ n → Blks l s 0 n := by
  induction h with
  | zero => exact fun h _ => h
  | snoc h1 h2 ih => exact fun h h3 => ih (.cons h3 h2 h) (by omega)
theorem Blks.one {l : List E3} {s a n : Nat} (h : Blks l s a n) (hn : n ≤ a + s) : Down (seg l a n) := by
  cases h with
  | last h1 h2 h3 => exact h3
  | cons h1 h2 h3 =>
    rw [show n = a + s by omega]; exact h2
theorem Blks.first {l : List E3} {s a n : Nat} (h : Blks l s a n) (hn : a + s < n) : Down (seg l a (a + s)) ∧ Blks l s (a + s) n := by
  cases h with
  | last h1 h2 h3 => omega
  | cons h1 h2 h3 => exact ⟨h2, h3⟩
theorem seg_nil (l : List E3) (a : Nat) : seg l a a = [] := by unfold seg; rw [List.drop_of_length_le (by rw [List.length_take]; omega)]
theorem Blks.two {l : List E3} {s a n : Nat} (h : Blks l s a n) (hs : 0 < s) (hn : a + 2 * s ≤ n) (hl : n ≤ l.length) : Runs l a (a + s) (a + 2 * s) ∧ Blks l s (a + 2 * s) n := by
  obtain ⟨h1, h2⟩ := h.first (by omega)
  have e : a + s + s = a + 2 * s := by omega
  cases h2 with
  | last h3 h4 h5 =>
    obtain rfl : n = a + 2 * s := by omega
    exact ⟨runs_of h1 h5 (by omega) (by omega) hl, .last (Nat.le_refl _) (by omega) (by rw [seg_nil]; exact List.Pairwise.nil)⟩
  | cons h3 h4 h5 =>
    rw [e] at h4 h5
    exact ⟨runs_of h1 h4 (by omega) (by omega) (by omega), h5⟩
theorem Blks.rest {l : List E3} {s a n : Nat} (h : Blks l s a n) (h1 : a + s < n) (h2 : n < a + 2 * s) (hl : n ≤ l.length) : Runs l a (a + s) n := by
  obtain ⟨q1, q2⟩ := h.first h1
  exact runs_of q1 (q2.one (by omega)) (by omega) (by omega) hl
theorem Blks.all {l : List E3} {s n : Nat} (h : Blks l s 0 n) (hn : n ≤ s) (hl : n = l.length) : Down l := by
  have := h.one (by omega)
  unfold seg at this
  rw [List.take_of_length_le (by omega)] at this
  simpa using this
theorem part_all {l m : List E3} {n : Nat} (h : Stb l m) (hd : Down m) (h1 : n = l.length) (h2 : n = m.length) : Part l m 0 n := ⟨[], l, m, [], by simp, by simp, rfl, by omega, by omega, h, hd⟩
end Brv.Stats
