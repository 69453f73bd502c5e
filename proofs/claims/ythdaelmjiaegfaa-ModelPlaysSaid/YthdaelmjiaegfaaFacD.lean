/-
  How the program is made.
-/
import Derived.Test.YthdaelmjiaegfaaRows
import Derived.JoinedOf
import Derived.KernelRfl
set_option maxRecDepth 100000
namespace Go.Proofs.Ythdaelmjiaegfaa.Facts
open Go
theorem make : Try.prog.make = some Rows.modelStaysRow.make := by kernel_rfl
end Go.Proofs.Ythdaelmjiaegfaa.Facts
