/-
  What is lifted.
-/
import Derived.Test.YtlhkpakbenghgaaRows
import Derived.JoinedOf
import Derived.KernelRfl
set_option maxRecDepth 100000
namespace Go.Proofs.Ytlhkpakbenghgaa.Facts
open Go
theorem lifts : Try.prog.liftsFinal = false := by kernel_rfl
end Go.Proofs.Ytlhkpakbenghgaa.Facts
