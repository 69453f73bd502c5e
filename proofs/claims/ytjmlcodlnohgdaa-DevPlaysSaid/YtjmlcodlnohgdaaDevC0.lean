/-
  The acts among the arguments of DevPlays.
-/
import Derived.Test.YtjmlcodlnohgdaaC16
import Derived.Test.YtjmlcodlnohgdaaC9
import Derived.Test.YtjmlcodlnohgdaaTy
set_option linter.unusedVariables false
namespace Go.Proofs.Ytjmlcodlnohgdaa
open Go Brv
structure OpV where
  mk ::
  (Kind' : Int)
  (At' : Int)
  (N' : Int)
  (B'a : Option Addr) (B'n B'c : Nat) (B' : List UInt8)
  (Keep'a : Option Addr) (Keep'n Keep'c : Nat) (Keep' : List Bool)
def OpV.cells (o : OpV) : List Value := [.int .i64 o.Kind', .int .i64 o.At', .int .i64 o.N', .slice o.B'a o.B'n o.B'c, .slice o.Keep'a o.Keep'n o.Keep'c]
def OpV.ok (w : World) (o : OpV) : Prop := (Lit.int .i64 o.Kind').wf = true ∧ (Lit.int .i64 o.At').wf = true ∧ (Lit.int .i64 o.N').wf = true ∧ (o.B'n ≤ o.B'c ∧ o.B'c ≤ 140737488351232 ∧ Bs w o.B'a o.B'n o.B') ∧ (o.Keep'n ≤ o.Keep'c ∧ o.Keep'c ≤ 140737488351232 ∧ Cells w o.Keep'a (o.Keep'.map Value.bool) ∧ o.Keep'n = o.Keep'.length)
theorem OpV.ok.ext0 {w w' : World} {o : OpV} (h : o.ok w) (he : Ext [] w w') : o.ok w' := by
  obtain ⟨h0, h1, h2, h3, h4⟩ := h
  exact ⟨h0, h1, h2, ⟨h3.1, h3.2.1, h3.2.2.ext0 he⟩, ⟨h4.1, h4.2.1, h4.2.2.1.ext0 he, h4.2.2.2⟩⟩
theorem OpV.cells.length (o : OpV) : o.cells.length = 5 := rfl
theorem OpV.cells.one (o : OpV) : ∀ u ∈ o.cells.toArray.toList, u.oneCell' = true := by
  intro u hu
  simp only [OpV.cells, List.mem_cons, List.not_mem_nil, or_false] at hu
  rcases hu with rfl | rfl | rfl | rfl | rfl <;> rfl
set_option maxRecDepth 100000 in
theorem opV_of {w : World} {f : Nat} {cs : List Value} (h : Rd Try.prog w f 76 cs) : ∃ o : OpV, cs = o.cells ∧ o.ok w := by
  cases f with
  | zero => exact h.elim
  | succ f =>
    unfold Rd at h
    rw [Try.underlying76] at h
    obtain ⟨hl, hf⟩ := h
    rw [show Try.prog.cellsOf 76 = 5 from by kernel_rfl] at hl
    obtain ⟨v0, v1, v2, v3, v4, rfl⟩ : ∃ v0 v1 v2 v3 v4, cs = [v0, v1, v2, v3, v4] := by
      match cs, hl with
      | [v0, v1, v2, v3, v4], _ => exact ⟨v0, v1, v2, v3, v4, rfl⟩
    have r0 : Rd Try.prog w f 3 (List.take (Try.prog.cellsOf 3) (List.drop 0 [v0, v1, v2, v3, v4])) := hf 0 _ rfl
    rw [show Try.prog.cellsOf 3 = 1 from by kernel_rfl] at r0
    replace r0 : Rd Try.prog w f 3 [v0] := r0
    have r1 : Rd Try.prog w f 3 (List.take (Try.prog.cellsOf 3) (List.drop 1 [v0, v1, v2, v3, v4])) := hf 1 _ rfl
    rw [show Try.prog.cellsOf 3 = 1 from by kernel_rfl] at r1
    replace r1 : Rd Try.prog w f 3 [v1] := r1
    have r2 : Rd Try.prog w f 3 (List.take (Try.prog.cellsOf 3) (List.drop 2 [v0, v1, v2, v3, v4])) := hf 2 _ rfl
    rw [show Try.prog.cellsOf 3 = 1 from by kernel_rfl] at r2
    replace r2 : Rd Try.prog w f 3 [v2] := r2
    have r3 : Rd Try.prog w f 28 (List.take (Try.prog.cellsOf 28) (List.drop 3 [v0, v1, v2, v3, v4])) := hf 3 _ rfl
    rw [show Try.prog.cellsOf 28 = 1 from by kernel_rfl] at r3
    replace r3 : Rd Try.prog w f 28 [v3] := r3
    have r4 : Rd Try.prog w f 67 (List.take (Try.prog.cellsOf 67) (List.drop 4 [v0, v1, v2, v3, v4])) := hf 4 _ rfl
    rw [show Try.prog.cellsOf 67 = 1 from by kernel_rfl] at r4
    replace r4 : Rd Try.prog w f 67 [v4] := r4
    obtain ⟨x0, e0, w0⟩ := r0.int
    cases e0
    obtain ⟨x1, e1, w1⟩ := r1.int
    cases e1
    obtain ⟨x2, e2, w2⟩ := r2.int
    cases e2
    obtain ⟨a3, n3, c3, l3, e3, z3, _, y3, b3⟩ := r3.bytes (by kernel_rfl) (by kernel_rfl)
    cases e3
    obtain ⟨a4, n4, c4, l4, e4, z4, y4, b4, q4⟩ := Rd.bools (E := 4) Try.underlying67 (by kernel_rfl) r4
    cases e4
    exact ⟨⟨x0, x1, x2, a3, n3, c3, l3, a4, n4, c4, l4⟩, rfl, ⟨w0, w1, w2, ⟨z3, y3, b3⟩, ⟨z4, y4, b4, q4⟩⟩⟩
set_option maxRecDepth 100000 in
theorem opV_rows69 {w : World} {f : Nat} {cs : List Value} (h : Rd Try.prog w f 69 cs) : ∃ a n c, ∃ os : List OpV, cs = [.slice a n c] ∧ n ≤ c ∧ c * 72 ≤ 140737488351232 ∧ Tab w a n 5 (os.map OpV.cells) ∧ ∀ o ∈ os, o.ok w := by
  cases f with
  | zero => exact h.elim
  | succ f =>
    unfold Rd at h
    rw [Try.underlying69] at h
    obtain ⟨a, n, c, rfl, hnc, _, hb, vss, hl, hcell, hv⟩ := h
    rw [show Try.prog.bytesOf 76 = 72 from by kernel_rfl] at hb
    have hex : ∃ os : List OpV, vss = os.map OpV.cells ∧ ∀ o ∈ os, o.ok w := by
      clear hcell hl
      induction vss with
      | nil => exact ⟨[], rfl, by simp⟩
      | cons vs r ih =>
        obtain ⟨o, rfl, ho⟩ := opV_of (hv vs (by simp)).2
        obtain ⟨os, rfl, hos⟩ := ih (fun x hx => hv x (by simp [hx]))
        exact ⟨o :: os, rfl, fun x hx => (List.mem_cons.1 hx).elim (fun e => e ▸ ho) (hos x)⟩
    obtain ⟨os, rfl, hos⟩ := hex
    exact ⟨a, n, c, os, rfl, hnc, hb, ⟨hcell, hl.symm, fun vs hvs => by obtain ⟨o, _, rfl⟩ := List.mem_map.1 hvs; rfl⟩, hos⟩

end Go.Proofs.Ytjmlcodlnohgdaa
