/-
  How the program is made.
-/
import Derived.Test.YthpolibakkmmeaaRows
import Derived.JoinedOf
import Derived.KernelRfl
set_option maxRecDepth 100000
namespace Go.Proofs.Ythpolibakkmmeaa.Facts
open Go
theorem make : Try.prog.make = some Rows.digestTellsRow.make := by kernel_rfl
end Go.Proofs.Ythpolibakkmmeaa.Facts
