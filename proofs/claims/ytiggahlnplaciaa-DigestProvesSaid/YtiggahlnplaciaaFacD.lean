/-
  How the program is made.
-/
import Derived.Test.YtiggahlnplaciaaRows
import Derived.JoinedOf
import Derived.KernelRfl
set_option maxRecDepth 100000
namespace Go.Proofs.Ytiggahlnplaciaa.Facts
open Go
theorem make : Try.prog.make = some Rows.digestTellsRow.make := by kernel_rfl
end Go.Proofs.Ytiggahlnplaciaa.Facts
