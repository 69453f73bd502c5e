/-
  How the program is made.
-/
import Derived.Test.YteaihincmfbblaaRows
import Derived.JoinedOf
import Derived.KernelRfl
set_option maxRecDepth 100000
namespace Go.Proofs.Yteaihincmfbblaa.Facts
open Go
theorem make : Try.prog.make = some Rows.patchMakesRow.make := by kernel_rfl
end Go.Proofs.Yteaihincmfbblaa.Facts
