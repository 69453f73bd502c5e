/-
  What the operations write.
-/
import Derived.Test.YtfbkbobphjncfaaPackA
import Derived.Test.YtfbkbobphjncfaaPackPure
set_option linter.unusedVariables false
namespace Go.Proofs.Ytfbkbobphjncfaa
open Go Brv Brv.Crc Brv.Pack
def addOp (l : List UInt8) (o : OpV) : List UInt8 :=
  if o.Kind'.tmod 2 = 0 then l ++ (if fitsF o.N' o.W' then be o.W'.toNat o.N'.toNat else []) else l ++ textF o.B'
def wrOps (os : List OpV) : List UInt8 := os.foldl addOp []
theorem wrOps_succ {os : List OpV} {k : Nat} (h : k < os.length) : wrOps (os.take (k + 1)) = addOp (wrOps (os.take k)) os[k] := by
  unfold wrOps
  rw [List.take_succ_eq_append_getElem h, List.foldl_append]; rfl
theorem addOp_num {l : List UInt8} {o : OpV} (h : o.Kind'.tmod 2 = 0) : addOp l o = l ++ (if fitsF o.N' o.W' then be o.W'.toNat o.N'.toNat else []) := if_pos h
theorem addOp_text {l : List UInt8} {o : OpV} (h : ¬ o.Kind'.tmod 2 = 0) : addOp l o = l ++ textF o.B' := if_neg h
theorem addOp_length {l : List UInt8} {o : OpV} (h : o.B'.length ≤ 400) : (addOp l o).length ≤ l.length + 402 := by
  unfold addOp
  split
  · rw [List.length_append]
    split
    · rename_i hf
      have := (fitsF_spec.1 hf).2.1
      rw [be_length]; omega
    · simp
  · rw [List.length_append]
    simp [textF, be_length]; omega
end Go.Proofs.Ytfbkbobphjncfaa
