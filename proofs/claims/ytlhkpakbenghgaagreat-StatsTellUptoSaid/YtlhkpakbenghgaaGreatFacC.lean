/-
  What is lifted.
-/
import Derived.Test.YtlhkpakbenghgaaGreatRows
import Derived.JoinedOf
import Derived.KernelRfl
set_option maxRecDepth 100000
namespace Go.Proofs.YtlhkpakbenghgaaGreat.Facts
open Go
theorem lifts : Tryz.prog.liftsFinal = false := by kernel_rfl
end Go.Proofs.YtlhkpakbenghgaaGreat.Facts
