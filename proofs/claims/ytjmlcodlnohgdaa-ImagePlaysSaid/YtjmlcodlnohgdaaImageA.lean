/-
  The writes among the arguments of the laws on image.
-/
import Derived.Test.YtjmlcodlnohgdaaC12
import Derived.Test.YtjmlcodlnohgdaaC9
import Derived.Test.YtjmlcodlnohgdaaTy
set_option linter.unusedVariables false
namespace Go.Proofs.Ytjmlcodlnohgdaa
open Go Brv
structure WriteV where
  mk ::
  (Block' : Int)
  (B'a : Option Addr) (B'n B'c : Nat) (B' : List UInt8)
def WriteV.cells (o : WriteV) : List Value := [.int .i64 o.Block', .slice o.B'a o.B'n o.B'c]
def WriteV.ok (w : World) (o : WriteV) : Prop := (Lit.int .i64 o.Block').wf = true ∧ (o.B'n ≤ o.B'c ∧ o.B'c ≤ 140737488351232 ∧ Bs w o.B'a o.B'n o.B')
theorem WriteV.ok.ext0 {w w' : World} {o : WriteV} (h : o.ok w) (he : Ext [] w w') : o.ok w' := by
  obtain ⟨h0, h1⟩ := h
  exact ⟨h0, ⟨h1.1, h1.2.1, h1.2.2.ext0 he⟩⟩
theorem WriteV.cells.length (o : WriteV) : o.cells.length = 2 := rfl
theorem WriteV.cells.one (o : WriteV) : ∀ u ∈ o.cells.toArray.toList, u.oneCell' = true := by
  intro u hu
  simp only [WriteV.cells, List.mem_cons, List.not_mem_nil, or_false] at hu
  rcases hu with rfl | rfl <;> rfl
set_option maxRecDepth 100000 in
theorem writeV_of {w : World} {f : Nat} {cs : List Value} (h : Rd Try.prog w f 51 cs) : ∃ o : WriteV, cs = o.cells ∧ o.ok w := by
  cases f with
  | zero => exact h.elim
  | succ f =>
    unfold Rd at h
    rw [Try.underlying51] at h
    obtain ⟨hl, hf⟩ := h
    rw [show Try.prog.cellsOf 51 = 2 from by kernel_rfl] at hl
    obtain ⟨v0, v1, rfl⟩ : ∃ v0 v1, cs = [v0, v1] := by
      match cs, hl with
      | [v0, v1], _ => exact ⟨v0, v1, rfl⟩
    have r0 : Rd Try.prog w f 3 (List.take (Try.prog.cellsOf 3) (List.drop 0 [v0, v1])) := hf 0 _ rfl
    rw [show Try.prog.cellsOf 3 = 1 from by kernel_rfl] at r0
    replace r0 : Rd Try.prog w f 3 [v0] := r0
    have r1 : Rd Try.prog w f 28 (List.take (Try.prog.cellsOf 28) (List.drop 1 [v0, v1])) := hf 1 _ rfl
    rw [show Try.prog.cellsOf 28 = 1 from by kernel_rfl] at r1
    replace r1 : Rd Try.prog w f 28 [v1] := r1
    obtain ⟨x0, e0, w0⟩ := r0.int
    cases e0
    obtain ⟨a1, n1, c1, l1, e1, z1, _, y1, b1⟩ := r1.bytes (by kernel_rfl) (by kernel_rfl)
    cases e1
    exact ⟨⟨x0, a1, n1, c1, l1⟩, rfl, ⟨w0, ⟨z1, y1, b1⟩⟩⟩
set_option maxRecDepth 100000 in
theorem writeV_rows36 {w : World} {f : Nat} {cs : List Value} (h : Rd Try.prog w f 36 cs) : ∃ a n c, ∃ os : List WriteV, cs = [.slice a n c] ∧ n ≤ c ∧ c * 32 ≤ 140737488351232 ∧ Tab w a n 2 (os.map WriteV.cells) ∧ ∀ o ∈ os, o.ok w := by
  cases f with
  | zero => exact h.elim
  | succ f =>
    unfold Rd at h
    rw [Try.underlying36] at h
    obtain ⟨a, n, c, rfl, hnc, _, hb, vss, hl, hcell, hv⟩ := h
    rw [show Try.prog.bytesOf 51 = 32 from by kernel_rfl] at hb
    have hex : ∃ os : List WriteV, vss = os.map WriteV.cells ∧ ∀ o ∈ os, o.ok w := by
      clear hcell hl
      induction vss with
      | nil => exact ⟨[], rfl, by simp⟩
      | cons vs r ih =>
        obtain ⟨o, rfl, ho⟩ := writeV_of (hv vs (by simp)).2
        obtain ⟨os, rfl, hos⟩ := ih (fun x hx => hv x (by simp [hx]))
        exact ⟨o :: os, rfl, fun x hx => (List.mem_cons.1 hx).elim (fun e => e ▸ ho) (hos x)⟩
    obtain ⟨os, rfl, hos⟩ := hex
    exact ⟨a, n, c, os, rfl, hnc, hb, ⟨hcell, hl.symm, fun vs hvs => by obtain ⟨o, _, rfl⟩ := List.mem_map.1 hvs; rfl⟩, hos⟩

end Go.Proofs.Ytjmlcodlnohgdaa
