/-
  The program may enter.
-/
import Derived.Test.YtlhkpakbenghgaaGreatRows
import Derived.JoinedOf
import Derived.KernelRfl
set_option maxRecDepth 100000
namespace Go.Proofs.YtlhkpakbenghgaaGreat.Facts
open Go
theorem mayEnter : Tryz.prog.mayEnter = true := by kernel_rfl
end Go.Proofs.YtlhkpakbenghgaaGreat.Facts
