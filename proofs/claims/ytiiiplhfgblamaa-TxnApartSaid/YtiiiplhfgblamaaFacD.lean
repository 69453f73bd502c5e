/-
  How the program is made.
-/
import Derived.Test.YtiiiplhfgblamaaRows
import Derived.JoinedOf
import Derived.KernelRfl
set_option maxRecDepth 100000
namespace Go.Proofs.Ytiiiplhfgblamaa.Facts
open Go
theorem make : Try.prog.make = some Rows.recordTellsRow.make := by kernel_rfl
end Go.Proofs.Ytiiiplhfgblamaa.Facts
