/-
  The arrays of bytes, to be compared.
-/
import Derived.Test.YthpolibakkmmeaaC13
import Derived.Test.YthpolibakkmmeaaTy
set_option linter.unusedVariables false
namespace Go.Proofs.Ythpolibakkmmeaa
open Go Brv
instance : TyBArr Try.prog 165 64 := ⟨⟨_, Try.underlying165, Try.underlying5, by kernel_rfl⟩, by kernel_rfl⟩
instance : TyBArr Try.prog 166 64 := ⟨⟨_, Try.underlying166, Try.underlying5, by kernel_rfl⟩, by kernel_rfl⟩
end Go.Proofs.Ythpolibakkmmeaa
