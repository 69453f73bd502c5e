/-
  The structs of plain fields, to be compared.
-/
import Derived.Test.YthpolibakkmmeaaC17
import Derived.Test.YthpolibakkmmeaaTy
set_option linter.unusedVariables false
set_option maxRecDepth 100000
namespace Go.Proofs.Ythpolibakkmmeaa
open Go Brv
instance : TyEqS Try.prog 66 [.i .i64, .i .i64, .i .i64, .s] := ⟨by kernel_rfl, by kernel_rfl, by kernel_rfl, by kernel_rfl⟩ -- breviarylaw04.Op
instance : TyEqS Try.prog 77 [.i .i64, .s] := ⟨by kernel_rfl, by kernel_rfl, by kernel_rfl, by kernel_rfl⟩ -- breviaryref04.Pair
instance : TyEqS Try.prog 121 [.i .i64, .i .i64, .i .i64, .i .i64, .i .i64, .i .i64, .i .i64] := ⟨by kernel_rfl, by kernel_rfl, by kernel_rfl, by kernel_rfl⟩ -- api.Control
instance : TyEqS Try.prog 182 [.s, .i .i64] := ⟨by kernel_rfl, by kernel_rfl, by kernel_rfl, by kernel_rfl⟩ -- order.pair[string,int]
instance : TyEqS Try.prog 194 [.i .i64, .s] := ⟨by kernel_rfl, by kernel_rfl, by kernel_rfl, by kernel_rfl⟩ -- order.pair[int,string]
instance : TyEqS Try.prog 224 [.s, .i .i64] := ⟨by kernel_rfl, by kernel_rfl, by kernel_rfl, by kernel_rfl⟩ -- breviaryref03.Scan
end Go.Proofs.Ythpolibakkmmeaa
