/-
  The arrays of bytes, to be compared.
-/
import Derived.Test.YtjmlcodlnohgdaaC13
import Derived.Test.YtjmlcodlnohgdaaTy
set_option linter.unusedVariables false
namespace Go.Proofs.Ytjmlcodlnohgdaa
open Go Brv
instance : TyBArr Try.prog 60 64 := ⟨⟨_, Try.underlying60, Try.underlying5, by kernel_rfl⟩, by kernel_rfl⟩
instance : TyBArr Try.prog 123 64 := ⟨⟨_, Try.underlying123, Try.underlying5, by kernel_rfl⟩, by kernel_rfl⟩
end Go.Proofs.Ytjmlcodlnohgdaa
