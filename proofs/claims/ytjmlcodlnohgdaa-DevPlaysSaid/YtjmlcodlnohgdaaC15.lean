/-
  A return of a struct that lives in a block.
-/
import Derived.Test.YtjmlcodlnohgdaaC9
set_option linter.unusedVariables false
namespace Brv
open Go
section
variable {P : Program} {n : Nat} {ks : List K} {ρ : Env} {w : World} {fn : Func} {Φ : Value → World → Prop}
theorem G.retC {t : Nat} {T : TypeId} {s b : Nat} [ta : TyAgg P T s] {cs : Array Value} {U : TypeId} {fz : Nat × Nat} (hr : fn.results = #[.cell t T]) (hv : look ρ t = some (.pointer (some ⟨b, 0, none⟩)))
    (hb : Blk w b cs U fz) (hs : cs.size = s) (h : Φ (.agg cs) w) : G P (Func.base P fn Φ) ⟨n, [], none⟩ ks ρ w .ret := by
  refine G.retM (n := ⟨n, [], none⟩) rfl (fun a ha => ?_) h
  have h1 := ha.vals t _ hv
  have hl := run_loadN (P := P) (T := T) (s := s) (w := w) (p := ⟨b, 0, none⟩) (vs := cs.toList) hb.cellsAll (by simpa using hs)
  simp only [Instr.loadAt, Instr.sureAddr] at hl
  simp [results, hr, h1, asAddr] at hl ⊢
  simp [hl]
end
end Brv
