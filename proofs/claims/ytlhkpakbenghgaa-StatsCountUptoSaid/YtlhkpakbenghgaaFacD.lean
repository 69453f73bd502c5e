/-
  How the program is made.
-/
import Derived.Test.YtlhkpakbenghgaaRows
import Derived.JoinedOf
import Derived.KernelRfl
set_option maxRecDepth 100000
namespace Go.Proofs.Ytlhkpakbenghgaa.Facts
open Go
theorem make : Try.prog.make = some Rows.statsCountRow.make := by kernel_rfl
end Go.Proofs.Ytlhkpakbenghgaa.Facts
