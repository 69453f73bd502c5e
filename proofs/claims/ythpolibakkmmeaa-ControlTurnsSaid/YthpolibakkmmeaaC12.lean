/-
  Structures among a row's arguments.
-/
import Derived.Test.YthpolibakkmmeaaC11
import Derived.Test.YthpolibakkmmeaaC7
set_option linter.unusedVariables false
namespace Brv
open Go
theorem okWide_struct {P : Program} {w : World} {r : Reach} {base : Nat} {t : TypeId} {v : Value} {fs : Array Field} (ht : P.underlying t = some (.struct fs)) (h : Value.okWide P w r base t v) : ∃ cs, v = .agg cs ∧ cs.size = P.cellsOf t := by
  simp only [Value.okWide, ht] at h
  obtain ⟨cs, h1, h2, _⟩ := h
  exact ⟨cs, h1, h2⟩
end Brv
