/-
  How the program is made.
-/
import Derived.Test.YtcedgodfmohleaaRows
import Derived.JoinedOf
import Derived.KernelRfl
set_option maxRecDepth 100000
namespace Go.Proofs.Ytcedgodfmohleaa.Facts
open Go
theorem make : Try.prog.make = some Rows.ringWalksRow.make := by kernel_rfl
end Go.Proofs.Ytcedgodfmohleaa.Facts
