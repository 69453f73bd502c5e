/-
  The program is laid out, and has no stops.
-/
import Derived.Test.YtlhkpakbenghgaaGreatRows
import Derived.JoinedOf
import Derived.KernelRfl
set_option maxRecDepth 100000
namespace Go.Proofs.YtlhkpakbenghgaaGreat.Facts
open Go
theorem laid : laidOutB Tryz.prog = true := by kernel_rfl
theorem mapsRowed : Go.mapsRowed Tryz.prog = true := by kernel_rfl
theorem stops : (Tryz.prog.stops == []) = true := by kernel_rfl
theorem stopKnobs : (Tryz.prog.stopKnobs == []) = true := by kernel_rfl
theorem plainKeys : Tryz.prog.plainKeys = true := by kernel_rfl
theorem stopsHeard : Tryz.prog.stopsHeard = true := by kernel_rfl
end Go.Proofs.YtlhkpakbenghgaaGreat.Facts
