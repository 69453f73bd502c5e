/-
  How the program is made.
-/
import Derived.Test.YtlhkpakbenghgaaGreatRows
import Derived.JoinedOf
import Derived.KernelRfl
set_option maxRecDepth 100000
namespace Go.Proofs.YtlhkpakbenghgaaGreat.Facts
open Go
theorem make : Tryz.prog.make = some Rows.statsTellRow.make := by kernel_rfl
end Go.Proofs.YtlhkpakbenghgaaGreat.Facts
