/-
  What is lifted.
-/
import Derived.Test.YthpolibakkmmeaaRows
import Derived.JoinedOf
import Derived.KernelRfl
set_option maxRecDepth 100000
namespace Go.Proofs.Ythpolibakkmmeaa.Facts
open Go
theorem lifts : Try.prog.liftsFinal = false := by kernel_rfl
end Go.Proofs.Ythpolibakkmmeaa.Facts
