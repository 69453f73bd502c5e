/-
  How the program is made.
-/
import Derived.Test.YtmbppidafnakhaaRows
import Derived.JoinedOf
import Derived.KernelRfl
set_option maxRecDepth 100000
namespace Go.Proofs.Ytmbppidafnakhaa.Facts
open Go
theorem make : Try.prog.make = some Rows.poolSavesRow.make := by kernel_rfl
end Go.Proofs.Ytmbppidafnakhaa.Facts
