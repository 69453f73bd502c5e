/-
  The program is laid out, and has no stops.
-/
import Derived.Test.YtcedgodfmohleaaRows
import Derived.JoinedOf
import Derived.KernelRfl
set_option maxRecDepth 100000
namespace Go.Proofs.Ytcedgodfmohleaa.Facts
open Go
theorem laid : laidOutB Try.prog = true := by kernel_rfl
theorem mapsRowed : Go.mapsRowed Try.prog = true := by kernel_rfl
theorem stops : (Try.prog.stops == []) = true := by kernel_rfl
theorem stopKnobs : (Try.prog.stopKnobs == []) = true := by kernel_rfl
theorem plainKeys : Try.prog.plainKeys = true := by kernel_rfl
theorem stopsHeard : Try.prog.stopsHeard = true := by kernel_rfl
end Go.Proofs.Ytcedgodfmohleaa.Facts
