/-
  The program may enter.
-/
import Derived.Test.YtiiiplhfgblamaaRows
import Derived.JoinedOf
import Derived.KernelRfl
set_option maxRecDepth 100000
namespace Go.Proofs.Ytiiiplhfgblamaa.Facts
open Go
theorem mayEnter : Try.prog.mayEnter = true := by kernel_rfl
end Go.Proofs.Ytiiiplhfgblamaa.Facts
