/-
  The frames among the arguments of the laws on frame.
-/
import Derived.Test.YtjmlcodlnohgdaaC12
import Derived.Test.YtjmlcodlnohgdaaFrame2
set_option linter.unusedVariables false
namespace Go.Proofs.Ytjmlcodlnohgdaa
open Go Brv Brv.Frame
structure FrmV where
  mk ::
  (Lsn' : Int)
  (Epoch' : Int)
  (Index' : Int)
  (Count' : Int)
  (B'a : Option Addr) (B'n B'c : Nat) (B' : List UInt8)
def FrmV.cells (o : FrmV) : List Value := [.int .i64 o.Lsn', .int .i64 o.Epoch', .int .i64 o.Index', .int .i64 o.Count', .slice o.B'a o.B'n o.B'c]
def FrmV.ok (w : World) (o : FrmV) : Prop := (Lit.int .i64 o.Lsn').wf = true ∧ (Lit.int .i64 o.Epoch').wf = true ∧ (Lit.int .i64 o.Index').wf = true ∧ (Lit.int .i64 o.Count').wf = true ∧ (o.B'n ≤ o.B'c ∧ o.B'c ≤ 140737488351232 ∧ Bs w o.B'a o.B'n o.B')
theorem FrmV.ok.ext0 {w w' : World} {o : FrmV} (h : o.ok w) (he : Ext [] w w') : o.ok w' := by
  obtain ⟨h0, h1, h2, h3, h4⟩ := h
  exact ⟨h0, h1, h2, h3, ⟨h4.1, h4.2.1, h4.2.2.ext0 he⟩⟩
theorem FrmV.cells.length (o : FrmV) : o.cells.length = 5 := rfl
theorem FrmV.cells.one (o : FrmV) : ∀ u ∈ o.cells.toArray.toList, u.oneCell' = true := by
  intro u hu
  simp only [FrmV.cells, List.mem_cons, List.not_mem_nil, or_false] at hu
  rcases hu with rfl | rfl | rfl | rfl | rfl <;> rfl
set_option maxRecDepth 100000 in
theorem frmV_of {w : World} {f : Nat} {cs : List Value} (h : Rd Try.prog w f 98 cs) : ∃ o : FrmV, cs = o.cells ∧ o.ok w := by
  cases f with
  | zero => exact h.elim
  | succ f =>
    unfold Rd at h
    rw [Try.underlying98] at h
    obtain ⟨hl, hf⟩ := h
    rw [show Try.prog.cellsOf 98 = 5 from by kernel_rfl] at hl
    obtain ⟨v0, v1, v2, v3, v4, rfl⟩ : ∃ v0 v1 v2 v3 v4, cs = [v0, v1, v2, v3, v4] := by
      match cs, hl with
      | [v0, v1, v2, v3, v4], _ => exact ⟨v0, v1, v2, v3, v4, rfl⟩
    have r0 : Rd Try.prog w f 3 (List.take (Try.prog.cellsOf 3) (List.drop 0 [v0, v1, v2, v3, v4])) := hf 0 _ rfl
    rw [show Try.prog.cellsOf 3 = 1 from by kernel_rfl] at r0
    replace r0 : Rd Try.prog w f 3 [v0] := r0
    have r1 : Rd Try.prog w f 3 (List.take (Try.prog.cellsOf 3) (List.drop 1 [v0, v1, v2, v3, v4])) := hf 1 _ rfl
    rw [show Try.prog.cellsOf 3 = 1 from by kernel_rfl] at r1
    replace r1 : Rd Try.prog w f 3 [v1] := r1
    have r2 : Rd Try.prog w f 3 (List.take (Try.prog.cellsOf 3) (List.drop 2 [v0, v1, v2, v3, v4])) := hf 2 _ rfl
    rw [show Try.prog.cellsOf 3 = 1 from by kernel_rfl] at r2
    replace r2 : Rd Try.prog w f 3 [v2] := r2
    have r3 : Rd Try.prog w f 3 (List.take (Try.prog.cellsOf 3) (List.drop 3 [v0, v1, v2, v3, v4])) := hf 3 _ rfl
    rw [show Try.prog.cellsOf 3 = 1 from by kernel_rfl] at r3
    replace r3 : Rd Try.prog w f 3 [v3] := r3
    have r4 : Rd Try.prog w f 28 (List.take (Try.prog.cellsOf 28) (List.drop 4 [v0, v1, v2, v3, v4])) := hf 4 _ rfl
    rw [show Try.prog.cellsOf 28 = 1 from by kernel_rfl] at r4
    replace r4 : Rd Try.prog w f 28 [v4] := r4
    obtain ⟨x0, e0, w0⟩ := r0.int
    cases e0
    obtain ⟨x1, e1, w1⟩ := r1.int
    cases e1
    obtain ⟨x2, e2, w2⟩ := r2.int
    cases e2
    obtain ⟨x3, e3, w3⟩ := r3.int
    cases e3
    obtain ⟨a4, n4, c4, l4, e4, z4, _, y4, b4⟩ := r4.bytes (by kernel_rfl) (by kernel_rfl)
    cases e4
    exact ⟨⟨x0, x1, x2, x3, a4, n4, c4, l4⟩, rfl, ⟨w0, w1, w2, w3, ⟨z4, y4, b4⟩⟩⟩

theorem frame_of {w : World} {f : Nat} {cs : Array Value} (h : Rd Try.prog w f 98 cs.toList) : ∃ (g : FrV) (a : Option Addr) (c : Nat), cs = frC g a c ∧ InV g ∧ Bs w a g.2.2.2.2.length g.2.2.2.2 ∧ g.2.2.2.2.length ≤ c := by
  obtain ⟨o, he, h1, h2, h3, h4, h5, h6, h7⟩ := frmV_of h
  have hl := h7.len
  refine ⟨(o.Lsn', o.Epoch', o.Index', o.Count', o.B'), o.B'a, o.B'c, ?_, ⟨wf_i64 h1, wf_i64 h2, wf_i64 h3, wf_i64 h4, show o.B'.length ≤ _ by omega⟩, show Bs w o.B'a o.B'.length o.B' by rw [← hl]; exact h7, show o.B'.length ≤ o.B'c by rw [← hl]; exact h5⟩
  obtain ⟨cl⟩ := cs
  have he : cl = o.cells := he
  subst he
  show (⟨o.cells⟩ : Array Value) = _
  unfold FrmV.cells frC
  rw [hl]

end Go.Proofs.Ytjmlcodlnohgdaa
