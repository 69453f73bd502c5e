/-
  What is lifted.
-/
import Derived.Test.YtcedgodfmohleaaRows
import Derived.JoinedOf
import Derived.KernelRfl
set_option maxRecDepth 100000
namespace Go.Proofs.Ytcedgodfmohleaa.Facts
open Go
theorem lifts : Try.prog.liftsFinal = false := by kernel_rfl
end Go.Proofs.Ytcedgodfmohleaa.Facts
