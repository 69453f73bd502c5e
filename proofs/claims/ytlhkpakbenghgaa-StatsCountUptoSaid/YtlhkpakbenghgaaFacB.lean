/-
  The program may enter.
-/
import Derived.Test.YtlhkpakbenghgaaRows
import Derived.JoinedOf
import Derived.KernelRfl
set_option maxRecDepth 100000
namespace Go.Proofs.Ytlhkpakbenghgaa.Facts
open Go
theorem mayEnter : Try.prog.mayEnter = true := by kernel_rfl
end Go.Proofs.Ytlhkpakbenghgaa.Facts
