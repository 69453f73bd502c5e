/-
  The structs of the laws on ledger.
-/
import Derived.Test.YtfbkbobphjncfaaC9
import Derived.Test.YtfbkbobphjncfaaTy
set_option linter.unusedVariables false
namespace Go.Proofs.Ytfbkbobphjncfaa
open Go Brv
structure ExtV where
  mk ::
  (At' : Int)
  (N' : Int)
def ExtV.cells (o : ExtV) : List Value := [.int .i64 o.At', .int .i64 o.N']
def ExtV.ok (w : World) (o : ExtV) : Prop := (Lit.int .i64 o.At').wf = true ∧ (Lit.int .i64 o.N').wf = true
theorem ExtV.ok.ext0 {w w' : World} {o : ExtV} (h : o.ok w) (he : Ext [] w w') : o.ok w' := by
  obtain ⟨h0, h1⟩ := h
  exact ⟨h0, h1⟩
theorem ExtV.cells.length (o : ExtV) : o.cells.length = 2 := rfl
theorem ExtV.cells.one (o : ExtV) : ∀ u ∈ o.cells.toArray.toList, u.oneCell' = true := by
  intro u hu
  simp only [ExtV.cells, List.mem_cons, List.not_mem_nil, or_false] at hu
  rcases hu with rfl | rfl <;> rfl
theorem extV_of {w : World} {f : Nat} {cs : List Value} (h : Rd Try.prog w f 96 cs) : ∃ o : ExtV, cs = o.cells ∧ o.ok w := by
  cases f with
  | zero => exact h.elim
  | succ f =>
    unfold Rd at h
    rw [Try.underlying96] at h
    obtain ⟨hl, hf⟩ := h
    rw [show Try.prog.cellsOf 96 = 2 from by kernel_rfl] at hl
    obtain ⟨v0, v1, rfl⟩ : ∃ v0 v1, cs = [v0, v1] := by
      match cs, hl with
      | [v0, v1], _ => exact ⟨v0, v1, rfl⟩
    have r0 : Rd Try.prog w f 3 (List.take (Try.prog.cellsOf 3) (List.drop 0 [v0, v1])) := hf 0 _ rfl
    rw [show Try.prog.cellsOf 3 = 1 from by kernel_rfl] at r0
    replace r0 : Rd Try.prog w f 3 [v0] := r0
    have r1 : Rd Try.prog w f 3 (List.take (Try.prog.cellsOf 3) (List.drop 1 [v0, v1])) := hf 1 _ rfl
    rw [show Try.prog.cellsOf 3 = 1 from by kernel_rfl] at r1
    replace r1 : Rd Try.prog w f 3 [v1] := r1
    obtain ⟨x0, e0, w0⟩ := r0.int
    cases e0
    obtain ⟨x1, e1, w1⟩ := r1.int
    cases e1
    exact ⟨⟨x0, x1⟩, rfl, ⟨w0, w1⟩⟩
theorem extV_rows37 {w : World} {f : Nat} {cs : List Value} (h : Rd Try.prog w f 37 cs) : ∃ a n c, ∃ os : List ExtV, cs = [.slice a n c] ∧ n ≤ c ∧ c * 16 ≤ 140737488351232 ∧ Tab w a n 2 (os.map ExtV.cells) ∧ ∀ o ∈ os, o.ok w := by
  cases f with
  | zero => exact h.elim
  | succ f =>
    unfold Rd at h
    rw [Try.underlying37] at h
    obtain ⟨a, n, c, rfl, hnc, _, hb, vss, hl, hcell, hv⟩ := h
    rw [show Try.prog.bytesOf 96 = 16 from by kernel_rfl] at hb
    have hex : ∃ os : List ExtV, vss = os.map ExtV.cells ∧ ∀ o ∈ os, o.ok w := by
      clear hcell hl
      induction vss with
      | nil => exact ⟨[], rfl, by simp⟩
      | cons vs r ih =>
        obtain ⟨o, rfl, ho⟩ := extV_of (hv vs (by simp)).2
        obtain ⟨os, rfl, hos⟩ := ih (fun x hx => hv x (by simp [hx]))
        exact ⟨o :: os, rfl, fun x hx => (List.mem_cons.1 hx).elim (fun e => e ▸ ho) (hos x)⟩
    obtain ⟨os, rfl, hos⟩ := hex
    exact ⟨a, n, c, os, rfl, hnc, hb, ⟨hcell, hl.symm, fun vs hvs => by obtain ⟨o, _, rfl⟩ := List.mem_map.1 hvs; rfl⟩, hos⟩

structure ItemV where
  mk ::
  (Id' : Int)
  (Kind' : Int)
  (Timeline' : Int)
  (Number' : Int)
  (A' : Int)
  (B' : Int)
  (Parent' : Int)
  (Length' : Int)
  (At'a : Option Addr) (At'n At'c : Nat) (At' : List ExtV)
def ItemV.cells (o : ItemV) : List Value := [.int .i64 o.Id', .int .i64 o.Kind', .int .i64 o.Timeline', .int .i64 o.Number', .int .i64 o.A', .int .i64 o.B', .int .i64 o.Parent', .int .i64 o.Length', .slice o.At'a o.At'n o.At'c]
def ItemV.ok (w : World) (o : ItemV) : Prop := (Lit.int .i64 o.Id').wf = true ∧ (Lit.int .i64 o.Kind').wf = true ∧ (Lit.int .i64 o.Timeline').wf = true ∧ (Lit.int .i64 o.Number').wf = true ∧ (Lit.int .i64 o.A').wf = true ∧ (Lit.int .i64 o.B').wf = true ∧ (Lit.int .i64 o.Parent').wf = true ∧ (Lit.int .i64 o.Length').wf = true ∧ (o.At'n ≤ o.At'c ∧ o.At'c * 16 ≤ 140737488351232 ∧ Tab w o.At'a o.At'n 2 (o.At'.map ExtV.cells) ∧ ∀ x ∈ o.At', x.ok w)
theorem ItemV.ok.ext0 {w w' : World} {o : ItemV} (h : o.ok w) (he : Ext [] w w') : o.ok w' := by
  obtain ⟨h0, h1, h2, h3, h4, h5, h6, h7, h8⟩ := h
  exact ⟨h0, h1, h2, h3, h4, h5, h6, h7, ⟨h8.1, h8.2.1, h8.2.2.1.ext0 he, fun x hx => (h8.2.2.2 x hx).ext0 he⟩⟩
theorem ItemV.cells.length (o : ItemV) : o.cells.length = 9 := rfl
theorem ItemV.cells.one (o : ItemV) : ∀ u ∈ o.cells.toArray.toList, u.oneCell' = true := by
  intro u hu
  simp only [ItemV.cells, List.mem_cons, List.not_mem_nil, or_false] at hu
  rcases hu with rfl | rfl | rfl | rfl | rfl | rfl | rfl | rfl | rfl <;> rfl
theorem itemV_of {w : World} {f : Nat} {cs : List Value} (h : Rd Try.prog w f 39 cs) : ∃ o : ItemV, cs = o.cells ∧ o.ok w := by
  cases f with
  | zero => exact h.elim
  | succ f =>
    unfold Rd at h
    rw [Try.underlying39] at h
    obtain ⟨hl, hf⟩ := h
    rw [show Try.prog.cellsOf 39 = 9 from by kernel_rfl] at hl
    obtain ⟨v0, v1, v2, v3, v4, v5, v6, v7, v8, rfl⟩ : ∃ v0 v1 v2 v3 v4 v5 v6 v7 v8, cs = [v0, v1, v2, v3, v4, v5, v6, v7, v8] := by
      match cs, hl with
      | [v0, v1, v2, v3, v4, v5, v6, v7, v8], _ => exact ⟨v0, v1, v2, v3, v4, v5, v6, v7, v8, rfl⟩
    have r0 : Rd Try.prog w f 3 (List.take (Try.prog.cellsOf 3) (List.drop 0 [v0, v1, v2, v3, v4, v5, v6, v7, v8])) := hf 0 _ rfl
    rw [show Try.prog.cellsOf 3 = 1 from by kernel_rfl] at r0
    replace r0 : Rd Try.prog w f 3 [v0] := r0
    have r1 : Rd Try.prog w f 3 (List.take (Try.prog.cellsOf 3) (List.drop 1 [v0, v1, v2, v3, v4, v5, v6, v7, v8])) := hf 1 _ rfl
    rw [show Try.prog.cellsOf 3 = 1 from by kernel_rfl] at r1
    replace r1 : Rd Try.prog w f 3 [v1] := r1
    have r2 : Rd Try.prog w f 3 (List.take (Try.prog.cellsOf 3) (List.drop 2 [v0, v1, v2, v3, v4, v5, v6, v7, v8])) := hf 2 _ rfl
    rw [show Try.prog.cellsOf 3 = 1 from by kernel_rfl] at r2
    replace r2 : Rd Try.prog w f 3 [v2] := r2
    have r3 : Rd Try.prog w f 3 (List.take (Try.prog.cellsOf 3) (List.drop 3 [v0, v1, v2, v3, v4, v5, v6, v7, v8])) := hf 3 _ rfl
    rw [show Try.prog.cellsOf 3 = 1 from by kernel_rfl] at r3
    replace r3 : Rd Try.prog w f 3 [v3] := r3
    have r4 : Rd Try.prog w f 3 (List.take (Try.prog.cellsOf 3) (List.drop 4 [v0, v1, v2, v3, v4, v5, v6, v7, v8])) := hf 4 _ rfl
    rw [show Try.prog.cellsOf 3 = 1 from by kernel_rfl] at r4
    replace r4 : Rd Try.prog w f 3 [v4] := r4
    have r5 : Rd Try.prog w f 3 (List.take (Try.prog.cellsOf 3) (List.drop 5 [v0, v1, v2, v3, v4, v5, v6, v7, v8])) := hf 5 _ rfl
    rw [show Try.prog.cellsOf 3 = 1 from by kernel_rfl] at r5
    replace r5 : Rd Try.prog w f 3 [v5] := r5
    have r6 : Rd Try.prog w f 3 (List.take (Try.prog.cellsOf 3) (List.drop 6 [v0, v1, v2, v3, v4, v5, v6, v7, v8])) := hf 6 _ rfl
    rw [show Try.prog.cellsOf 3 = 1 from by kernel_rfl] at r6
    replace r6 : Rd Try.prog w f 3 [v6] := r6
    have r7 : Rd Try.prog w f 3 (List.take (Try.prog.cellsOf 3) (List.drop 7 [v0, v1, v2, v3, v4, v5, v6, v7, v8])) := hf 7 _ rfl
    rw [show Try.prog.cellsOf 3 = 1 from by kernel_rfl] at r7
    replace r7 : Rd Try.prog w f 3 [v7] := r7
    have r8 : Rd Try.prog w f 37 (List.take (Try.prog.cellsOf 37) (List.drop 8 [v0, v1, v2, v3, v4, v5, v6, v7, v8])) := hf 8 _ rfl
    rw [show Try.prog.cellsOf 37 = 1 from by kernel_rfl] at r8
    replace r8 : Rd Try.prog w f 37 [v8] := r8
    obtain ⟨x0, e0, w0⟩ := r0.int
    cases e0
    obtain ⟨x1, e1, w1⟩ := r1.int
    cases e1
    obtain ⟨x2, e2, w2⟩ := r2.int
    cases e2
    obtain ⟨x3, e3, w3⟩ := r3.int
    cases e3
    obtain ⟨x4, e4, w4⟩ := r4.int
    cases e4
    obtain ⟨x5, e5, w5⟩ := r5.int
    cases e5
    obtain ⟨x6, e6, w6⟩ := r6.int
    cases e6
    obtain ⟨x7, e7, w7⟩ := r7.int
    cases e7
    obtain ⟨a8, n8, c8, l8, e8, z8, y8, b8, q8⟩ := extV_rows37 r8
    cases e8
    exact ⟨⟨x0, x1, x2, x3, x4, x5, x6, x7, a8, n8, c8, l8⟩, rfl, ⟨w0, w1, w2, w3, w4, w5, w6, w7, ⟨z8, y8, b8, q8⟩⟩⟩
theorem itemV_rows36 {w : World} {f : Nat} {cs : List Value} (h : Rd Try.prog w f 36 cs) : ∃ a n c, ∃ os : List ItemV, cs = [.slice a n c] ∧ n ≤ c ∧ c * 88 ≤ 140737488351232 ∧ Tab w a n 9 (os.map ItemV.cells) ∧ ∀ o ∈ os, o.ok w := by
  cases f with
  | zero => exact h.elim
  | succ f =>
    unfold Rd at h
    rw [Try.underlying36] at h
    obtain ⟨a, n, c, rfl, hnc, _, hb, vss, hl, hcell, hv⟩ := h
    rw [show Try.prog.bytesOf 39 = 88 from by kernel_rfl] at hb
    have hex : ∃ os : List ItemV, vss = os.map ItemV.cells ∧ ∀ o ∈ os, o.ok w := by
      clear hcell hl
      induction vss with
      | nil => exact ⟨[], rfl, by simp⟩
      | cons vs r ih =>
        obtain ⟨o, rfl, ho⟩ := itemV_of (hv vs (by simp)).2
        obtain ⟨os, rfl, hos⟩ := ih (fun x hx => hv x (by simp [hx]))
        exact ⟨o :: os, rfl, fun x hx => (List.mem_cons.1 hx).elim (fun e => e ▸ ho) (hos x)⟩
    obtain ⟨os, rfl, hos⟩ := hex
    exact ⟨a, n, c, os, rfl, hnc, hb, ⟨hcell, hl.symm, fun vs hvs => by obtain ⟨o, _, rfl⟩ := List.mem_map.1 hvs; rfl⟩, hos⟩

structure WriteV where
  mk ::
  (Block' : Int)
  (B'a : Option Addr) (B'n B'c : Nat) (B' : List UInt8)
def WriteV.cells (o : WriteV) : List Value := [.int .i64 o.Block', .slice o.B'a o.B'n o.B'c]
def WriteV.ok (w : World) (o : WriteV) : Prop := (Lit.int .i64 o.Block').wf = true ∧ (o.B'n ≤ o.B'c ∧ o.B'c ≤ 140737488351232 ∧ Bs w o.B'a o.B'n o.B')
theorem WriteV.ok.ext0 {w w' : World} {o : WriteV} (h : o.ok w) (he : Ext [] w w') : o.ok w' := by
  obtain ⟨h0, h1⟩ := h
  exact ⟨h0, ⟨h1.1, h1.2.1, h1.2.2.ext0 he⟩⟩
theorem WriteV.cells.length (o : WriteV) : o.cells.length = 2 := rfl
theorem WriteV.cells.one (o : WriteV) : ∀ u ∈ o.cells.toArray.toList, u.oneCell' = true := by
  intro u hu
  simp only [WriteV.cells, List.mem_cons, List.not_mem_nil, or_false] at hu
  rcases hu with rfl | rfl <;> rfl
theorem writeV_of {w : World} {f : Nat} {cs : List Value} (h : Rd Try.prog w f 42 cs) : ∃ o : WriteV, cs = o.cells ∧ o.ok w := by
  cases f with
  | zero => exact h.elim
  | succ f =>
    unfold Rd at h
    rw [Try.underlying42] at h
    obtain ⟨hl, hf⟩ := h
    rw [show Try.prog.cellsOf 42 = 2 from by kernel_rfl] at hl
    obtain ⟨v0, v1, rfl⟩ : ∃ v0 v1, cs = [v0, v1] := by
      match cs, hl with
      | [v0, v1], _ => exact ⟨v0, v1, rfl⟩
    have r0 : Rd Try.prog w f 3 (List.take (Try.prog.cellsOf 3) (List.drop 0 [v0, v1])) := hf 0 _ rfl
    rw [show Try.prog.cellsOf 3 = 1 from by kernel_rfl] at r0
    replace r0 : Rd Try.prog w f 3 [v0] := r0
    have r1 : Rd Try.prog w f 22 (List.take (Try.prog.cellsOf 22) (List.drop 1 [v0, v1])) := hf 1 _ rfl
    rw [show Try.prog.cellsOf 22 = 1 from by kernel_rfl] at r1
    replace r1 : Rd Try.prog w f 22 [v1] := r1
    obtain ⟨x0, e0, w0⟩ := r0.int
    cases e0
    obtain ⟨a1, n1, c1, l1, e1, z1, _, y1, b1⟩ := r1.bytes (by kernel_rfl) (by kernel_rfl)
    cases e1
    exact ⟨⟨x0, a1, n1, c1, l1⟩, rfl, ⟨w0, ⟨z1, y1, b1⟩⟩⟩
theorem writeV_rows40 {w : World} {f : Nat} {cs : List Value} (h : Rd Try.prog w f 40 cs) : ∃ a n c, ∃ os : List WriteV, cs = [.slice a n c] ∧ n ≤ c ∧ c * 32 ≤ 140737488351232 ∧ Tab w a n 2 (os.map WriteV.cells) ∧ ∀ o ∈ os, o.ok w := by
  cases f with
  | zero => exact h.elim
  | succ f =>
    unfold Rd at h
    rw [Try.underlying40] at h
    obtain ⟨a, n, c, rfl, hnc, _, hb, vss, hl, hcell, hv⟩ := h
    rw [show Try.prog.bytesOf 42 = 32 from by kernel_rfl] at hb
    have hex : ∃ os : List WriteV, vss = os.map WriteV.cells ∧ ∀ o ∈ os, o.ok w := by
      clear hcell hl
      induction vss with
      | nil => exact ⟨[], rfl, by simp⟩
      | cons vs r ih =>
        obtain ⟨o, rfl, ho⟩ := writeV_of (hv vs (by simp)).2
        obtain ⟨os, rfl, hos⟩ := ih (fun x hx => hv x (by simp [hx]))
        exact ⟨o :: os, rfl, fun x hx => (List.mem_cons.1 hx).elim (fun e => e ▸ ho) (hos x)⟩
    obtain ⟨os, rfl, hos⟩ := hex
    exact ⟨a, n, c, os, rfl, hnc, hb, ⟨hcell, hl.symm, fun vs hvs => by obtain ⟨o, _, rfl⟩ := List.mem_map.1 hvs; rfl⟩, hos⟩

structure ShapeV where
  mk ::
  (Blocks' : Int)
  (Segments' : Int)
  (Size' : Int)
def ShapeV.cells (o : ShapeV) : List Value := [.int .i64 o.Blocks', .int .i64 o.Segments', .int .i64 o.Size']
def ShapeV.ok (w : World) (o : ShapeV) : Prop := (Lit.int .i64 o.Blocks').wf = true ∧ (Lit.int .i64 o.Segments').wf = true ∧ (Lit.int .i64 o.Size').wf = true
theorem ShapeV.ok.ext0 {w w' : World} {o : ShapeV} (h : o.ok w) (he : Ext [] w w') : o.ok w' := by
  obtain ⟨h0, h1, h2⟩ := h
  exact ⟨h0, h1, h2⟩
theorem ShapeV.cells.length (o : ShapeV) : o.cells.length = 3 := rfl
theorem ShapeV.cells.one (o : ShapeV) : ∀ u ∈ o.cells.toArray.toList, u.oneCell' = true := by
  intro u hu
  simp only [ShapeV.cells, List.mem_cons, List.not_mem_nil, or_false] at hu
  rcases hu with rfl | rfl | rfl <;> rfl
theorem shapeV_of {w : World} {f : Nat} {cs : List Value} (h : Rd Try.prog w f 35 cs) : ∃ o : ShapeV, cs = o.cells ∧ o.ok w := by
  cases f with
  | zero => exact h.elim
  | succ f =>
    unfold Rd at h
    rw [Try.underlying35] at h
    obtain ⟨hl, hf⟩ := h
    rw [show Try.prog.cellsOf 35 = 3 from by kernel_rfl] at hl
    obtain ⟨v0, v1, v2, rfl⟩ : ∃ v0 v1 v2, cs = [v0, v1, v2] := by
      match cs, hl with
      | [v0, v1, v2], _ => exact ⟨v0, v1, v2, rfl⟩
    have r0 : Rd Try.prog w f 3 (List.take (Try.prog.cellsOf 3) (List.drop 0 [v0, v1, v2])) := hf 0 _ rfl
    rw [show Try.prog.cellsOf 3 = 1 from by kernel_rfl] at r0
    replace r0 : Rd Try.prog w f 3 [v0] := r0
    have r1 : Rd Try.prog w f 3 (List.take (Try.prog.cellsOf 3) (List.drop 1 [v0, v1, v2])) := hf 1 _ rfl
    rw [show Try.prog.cellsOf 3 = 1 from by kernel_rfl] at r1
    replace r1 : Rd Try.prog w f 3 [v1] := r1
    have r2 : Rd Try.prog w f 3 (List.take (Try.prog.cellsOf 3) (List.drop 2 [v0, v1, v2])) := hf 2 _ rfl
    rw [show Try.prog.cellsOf 3 = 1 from by kernel_rfl] at r2
    replace r2 : Rd Try.prog w f 3 [v2] := r2
    obtain ⟨x0, e0, w0⟩ := r0.int
    cases e0
    obtain ⟨x1, e1, w1⟩ := r1.int
    cases e1
    obtain ⟨x2, e2, w2⟩ := r2.int
    cases e2
    exact ⟨⟨x0, x1, x2⟩, rfl, ⟨w0, w1, w2⟩⟩

def itemsLen (os : List ItemV) : Nat := os.foldl (fun n o => n + (55 + 16 * o.At'n)) 10
theorem itemsLen_succ {os : List ItemV} {k : Nat} (h : k < os.length) : itemsLen (os.take (k + 1)) = itemsLen (os.take k) + (55 + 16 * os[k].At'n) := by
  unfold itemsLen
  rw [List.take_succ_eq_append_getElem h, List.foldl_append]; rfl
def cellsW (ws : List WriteV) : List Value := (ws.map WriteV.cells).flatten
theorem WriteV.ok.ext {w w' : World} {o : WriteV} {M : List Nat} (h : o.ok w) (he : Ext M w w') (hq : ∀ q, o.B'a = some q → q.block ∉ M) : o.ok w' := ⟨h.1, h.2.1, h.2.2.1, h.2.2.2.ext he hq⟩
theorem cellsW_append (a b : List WriteV) : cellsW (a ++ b) = cellsW a ++ cellsW b := by simp [cellsW]
theorem cellsW_one (o : WriteV) : cellsW [o] = o.cells := by simp [cellsW]
end Go.Proofs.Ytfbkbobphjncfaa
