/-
  The controls among the arguments.
-/
import Derived.Test.YthpolibakkmmeaaControlPure2
import Derived.Test.YthpolibakkmmeaaC16
import Derived.Test.YthpolibakkmmeaaC9
import Derived.Test.YthpolibakkmmeaaTy
set_option linter.unusedVariables false
namespace Go.Proofs.Ythpolibakkmmeaa
open Go Brv Brv.Control
structure CtlR where
  mk ::
  (Gen' : Int)
  (Epoch' : Int)
  (Area' : Int)
  (Timeline' : Int)
  (Number' : Int)
  (Redo' : Int)
  (Low' : Int)
def CtlR.cells (o : CtlR) : List Value := [.int .i64 o.Gen', .int .i64 o.Epoch', .int .i64 o.Area', .int .i64 o.Timeline', .int .i64 o.Number', .int .i64 o.Redo', .int .i64 o.Low']
def CtlR.ok (w : World) (o : CtlR) : Prop := (Lit.int .i64 o.Gen').wf = true ∧ (Lit.int .i64 o.Epoch').wf = true ∧ (Lit.int .i64 o.Area').wf = true ∧ (Lit.int .i64 o.Timeline').wf = true ∧ (Lit.int .i64 o.Number').wf = true ∧ (Lit.int .i64 o.Redo').wf = true ∧ (Lit.int .i64 o.Low').wf = true
theorem CtlR.ok.ext0 {w w' : World} {o : CtlR} (h : o.ok w) (he : Ext [] w w') : o.ok w' := by
  obtain ⟨h0, h1, h2, h3, h4, h5, h6⟩ := h
  exact ⟨h0, h1, h2, h3, h4, h5, h6⟩
theorem CtlR.cells.length (o : CtlR) : o.cells.length = 7 := rfl
theorem CtlR.cells.one (o : CtlR) : ∀ u ∈ o.cells.toArray.toList, u.oneCell' = true := by
  intro u hu
  simp only [CtlR.cells, List.mem_cons, List.not_mem_nil, or_false] at hu
  rcases hu with rfl | rfl | rfl | rfl | rfl | rfl | rfl <;> rfl
set_option maxRecDepth 100000 in
theorem ctlR_of {w : World} {f : Nat} {cs : List Value} (h : Rd Try.prog w f 121 cs) : ∃ o : CtlR, cs = o.cells ∧ o.ok w := by
  cases f with
  | zero => exact h.elim
  | succ f =>
    unfold Rd at h
    rw [Try.underlying121] at h
    obtain ⟨hl, hf⟩ := h
    rw [show Try.prog.cellsOf 121 = 7 from by kernel_rfl] at hl
    obtain ⟨v0, v1, v2, v3, v4, v5, v6, rfl⟩ : ∃ v0 v1 v2 v3 v4 v5 v6, cs = [v0, v1, v2, v3, v4, v5, v6] := by
      match cs, hl with
      | [v0, v1, v2, v3, v4, v5, v6], _ => exact ⟨v0, v1, v2, v3, v4, v5, v6, rfl⟩
    have r0 : Rd Try.prog w f 3 (List.take (Try.prog.cellsOf 3) (List.drop 0 [v0, v1, v2, v3, v4, v5, v6])) := hf 0 _ rfl
    rw [show Try.prog.cellsOf 3 = 1 from by kernel_rfl] at r0
    replace r0 : Rd Try.prog w f 3 [v0] := r0
    have r1 : Rd Try.prog w f 3 (List.take (Try.prog.cellsOf 3) (List.drop 1 [v0, v1, v2, v3, v4, v5, v6])) := hf 1 _ rfl
    rw [show Try.prog.cellsOf 3 = 1 from by kernel_rfl] at r1
    replace r1 : Rd Try.prog w f 3 [v1] := r1
    have r2 : Rd Try.prog w f 3 (List.take (Try.prog.cellsOf 3) (List.drop 2 [v0, v1, v2, v3, v4, v5, v6])) := hf 2 _ rfl
    rw [show Try.prog.cellsOf 3 = 1 from by kernel_rfl] at r2
    replace r2 : Rd Try.prog w f 3 [v2] := r2
    have r3 : Rd Try.prog w f 3 (List.take (Try.prog.cellsOf 3) (List.drop 3 [v0, v1, v2, v3, v4, v5, v6])) := hf 3 _ rfl
    rw [show Try.prog.cellsOf 3 = 1 from by kernel_rfl] at r3
    replace r3 : Rd Try.prog w f 3 [v3] := r3
    have r4 : Rd Try.prog w f 3 (List.take (Try.prog.cellsOf 3) (List.drop 4 [v0, v1, v2, v3, v4, v5, v6])) := hf 4 _ rfl
    rw [show Try.prog.cellsOf 3 = 1 from by kernel_rfl] at r4
    replace r4 : Rd Try.prog w f 3 [v4] := r4
    have r5 : Rd Try.prog w f 3 (List.take (Try.prog.cellsOf 3) (List.drop 5 [v0, v1, v2, v3, v4, v5, v6])) := hf 5 _ rfl
    rw [show Try.prog.cellsOf 3 = 1 from by kernel_rfl] at r5
    replace r5 : Rd Try.prog w f 3 [v5] := r5
    have r6 : Rd Try.prog w f 3 (List.take (Try.prog.cellsOf 3) (List.drop 6 [v0, v1, v2, v3, v4, v5, v6])) := hf 6 _ rfl
    rw [show Try.prog.cellsOf 3 = 1 from by kernel_rfl] at r6
    replace r6 : Rd Try.prog w f 3 [v6] := r6
    obtain ⟨x0, e0, w0⟩ := r0.int
    cases e0
    obtain ⟨x1, e1, w1⟩ := r1.int
    cases e1
    obtain ⟨x2, e2, w2⟩ := r2.int
    cases e2
    obtain ⟨x3, e3, w3⟩ := r3.int
    cases e3
    obtain ⟨x4, e4, w4⟩ := r4.int
    cases e4
    obtain ⟨x5, e5, w5⟩ := r5.int
    cases e5
    obtain ⟨x6, e6, w6⟩ := r6.int
    cases e6
    exact ⟨⟨x0, x1, x2, x3, x4, x5, x6⟩, rfl, ⟨w0, w1, w2, w3, w4, w5, w6⟩⟩
set_option maxRecDepth 100000 in
theorem ctlR_rows130 {w : World} {f : Nat} {cs : List Value} (h : Rd Try.prog w f 130 cs) : ∃ a n c, ∃ os : List CtlR, cs = [.slice a n c] ∧ n ≤ c ∧ c * 56 ≤ 140737488351232 ∧ Tab w a n 7 (os.map CtlR.cells) ∧ ∀ o ∈ os, o.ok w := by
  cases f with
  | zero => exact h.elim
  | succ f =>
    unfold Rd at h
    rw [Try.underlying130] at h
    obtain ⟨a, n, c, rfl, hnc, _, hb, vss, hl, hcell, hv⟩ := h
    rw [show Try.prog.bytesOf 121 = 56 from by kernel_rfl] at hb
    have hex : ∃ os : List CtlR, vss = os.map CtlR.cells ∧ ∀ o ∈ os, o.ok w := by
      clear hcell hl
      induction vss with
      | nil => exact ⟨[], rfl, by simp⟩
      | cons vs r ih =>
        obtain ⟨o, rfl, ho⟩ := ctlR_of (hv vs (by simp)).2
        obtain ⟨os, rfl, hos⟩ := ih (fun x hx => hv x (by simp [hx]))
        exact ⟨o :: os, rfl, fun x hx => (List.mem_cons.1 hx).elim (fun e => e ▸ ho) (hos x)⟩
    obtain ⟨os, rfl, hos⟩ := hex
    exact ⟨a, n, c, os, rfl, hnc, hb, ⟨hcell, hl.symm, fun vs hvs => by obtain ⟨o, _, rfl⟩ := List.mem_map.1 hvs; rfl⟩, hos⟩

def CtlR.c (o : CtlR) : Ctl := (o.Gen', o.Epoch', o.Area', o.Timeline', o.Number', o.Redo', o.Low')
theorem CtlR.inC {o : CtlR} {w : World} (h : o.ok w) : InC o.c := by
  obtain ⟨h1, h2, h3, h4, h5, h6, h7⟩ := h
  exact ⟨wf_i64 h1, wf_i64 h2, wf_i64 h3, wf_i64 h4, wf_i64 h5, wf_i64 h6, wf_i64 h7⟩
theorem CtlR.arr (o : CtlR) : o.cells.toArray = ctlC o.c := rfl
end Go.Proofs.Ythpolibakkmmeaa
