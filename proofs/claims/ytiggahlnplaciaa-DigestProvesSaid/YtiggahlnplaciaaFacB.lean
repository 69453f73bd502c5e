/-
  The program may enter.
-/
import Derived.Test.YtiggahlnplaciaaRows
import Derived.JoinedOf
import Derived.KernelRfl
set_option maxRecDepth 100000
namespace Go.Proofs.Ytiggahlnplaciaa.Facts
open Go
theorem mayEnter : Try.prog.mayEnter = true := by kernel_rfl
end Go.Proofs.Ytiggahlnplaciaa.Facts
