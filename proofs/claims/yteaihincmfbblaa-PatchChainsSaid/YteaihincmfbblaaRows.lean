/-
  No cell of these rows narrows 'for every input' (looked for: loops, veiled, ifaces, maps, wideKeys, modest, calm, conditions, laid).
  DERIVED. THE GIVEN ROWS OF THIS SEAT. 3 by the template 'for every input the law returns true; each argument reads behind the call as it read before'; 0 by the template 'total and deterministic' (their statements: YteaihincmfbblaaTotals.lean).
  GIVEN WITH THE SEED: the statements are not yours to turn. If you find one false, say at which input.
  Laid BY PROGRAM, IN A SANDBOX (cutbox-rows.mjs): the forced cells as the released guide's own fill.sh prints them over the translation 27225b24d1f763bc… (all of the seat's roots in one cut). By AI agents, Wed Nov 11 2026. No macro, syntax, notation, axiom, sorry.
-/
import Derived.Test.YteaihincmfbblaaChecked
import GoSem.Claim
import GoSem.ClaimJoined
import GoSem.ClaimMapViews
import Derived.JoinedTies
import Derived.KernelRfl
namespace Go.Proofs.Yteaihincmfbblaa
/- THE CELL 'sum', in the pinned program and in every row, IS THE sha256 OF THE DUMP (.gsa) THAT YteaihincmfbblaaProg.lean LOADS. Nothing in Lean hashes anything: it is a label: what it is worth is what the hold of that sum in a sandbox is worth. -/
noncomputable def Try.pinned : Pinned := { name := "yteaihincmfbblaa", sum := "27225b24d1f763bc7a95f486528bf92b020c8cfd21acd863167ab77a033778f7", checked := Try.checked }
namespace Rows
def none {H : Type} : Left H := { results := [], args := [] }

/-- 'breviarylaw46.PatchMakes': WHATEVER THE INPUT: true; the input reads as it did. -/
def patchMakesSpec : ChangeSpec := { name := "patchMakes", fn := fun _ => fun
  | [d1, d2] => { results := [.lit (.bool true)], args := [d1, d2] }
  | _ => none }
def patchMakesRow : OpenClaim := { program := "yteaihincmfbblaa", sum := "27225b24d1f763bc7a95f486528bf92b020c8cfd21acd863167ab77a033778f7", func := "breviary/breviarylaw46.PatchMakes", spec := "patchMakes", inPlace := ["internal/bytealg.MakeNoZero"], unfollowed := true, recurses := true, apart := false }
def PatchMakesSaid : Prop := patchMakesRow.holds Try.pinned (OpenSpec.ofChange patchMakesSpec)

/-- ITS FALSE NEIGHBOUR: 'it returns false'. Refute it at one input. -/
def patchMakesWrong : ChangeSpec := { name := "patchMakes", fn := fun _ => fun
  | [d1, d2] => { results := [.lit (.bool false)], args := [d1, d2] }
  | _ => none }
def PatchMakesWrongFalsely : Prop := patchMakesRow.holds Try.pinned (OpenSpec.ofChange patchMakesWrong)

/-- 'breviarylaw46.PatchTells': WHATEVER THE INPUT: true; the input reads as it did. -/
def patchTellsSpec : ChangeSpec := { name := "patchTells", fn := fun _ => fun
  | [d1, d2, d3] => { results := [.lit (.bool true)], args := [d1, d2, d3] }
  | _ => none }
def patchTellsRow : OpenClaim := { program := "yteaihincmfbblaa", sum := "27225b24d1f763bc7a95f486528bf92b020c8cfd21acd863167ab77a033778f7", func := "breviary/breviarylaw46.PatchTells", spec := "patchTells", inPlace := ["internal/bytealg.MakeNoZero"], unfollowed := true, recurses := true, apart := false }
def PatchTellsSaid : Prop := patchTellsRow.holds Try.pinned (OpenSpec.ofChange patchTellsSpec)

/-- ITS FALSE NEIGHBOUR: 'it returns false'. Refute it at one input. -/
def patchTellsWrong : ChangeSpec := { name := "patchTells", fn := fun _ => fun
  | [d1, d2, d3] => { results := [.lit (.bool false)], args := [d1, d2, d3] }
  | _ => none }
def PatchTellsWrongFalsely : Prop := patchTellsRow.holds Try.pinned (OpenSpec.ofChange patchTellsWrong)

/-- 'breviarylaw46.PatchChains': WHATEVER THE INPUT: true; the input reads as it did. -/
def patchChainsSpec : ChangeSpec := { name := "patchChains", fn := fun _ => fun
  | [d1, d2] => { results := [.lit (.bool true)], args := [d1, d2] }
  | _ => none }
def patchChainsRow : OpenClaim := { program := "yteaihincmfbblaa", sum := "27225b24d1f763bc7a95f486528bf92b020c8cfd21acd863167ab77a033778f7", func := "breviary/breviarylaw46.PatchChains", spec := "patchChains", inPlace := ["internal/bytealg.MakeNoZero"], unfollowed := true, recurses := true, apart := false }
def PatchChainsSaid : Prop := patchChainsRow.holds Try.pinned (OpenSpec.ofChange patchChainsSpec)

/-- ITS FALSE NEIGHBOUR: 'it returns false'. Refute it at one input. -/
def patchChainsWrong : ChangeSpec := { name := "patchChains", fn := fun _ => fun
  | [d1, d2] => { results := [.lit (.bool false)], args := [d1, d2] }
  | _ => none }
def PatchChainsWrongFalsely : Prop := patchChainsRow.holds Try.pinned (OpenSpec.ofChange patchChainsWrong)

/- THE SECOND FORM. 'bulk': how many values and letters a reading holds, each counted each time it is reached (what is shared counts as often as it is met; a slice's spare places count too). A statement '..UptoSaid' is the law's where the arguments, and the package variables that the reading takes, are together of bulk at most 1048576: NARROWER than '..Said'. Prove '..Said' where nothing that the law and all that it calls make is longer than what came in: it says more and counts as full. Else prove '..UptoSaid'. A law counts once. -/
mutual
def uptoBulk {H : Type} : DataW H → Nat
  | .lit (.string bytes) => bytes.length + 1
  | .lit _ => 1
  | .nil => 1
  | .ptr d => uptoBulk d + 1
  | .slice elems spare => uptoBulkAll elems + uptoBulkAll spare + 1
  | .agg parts => uptoBulkAll parts + 1
  | .iface _ d => uptoBulk d + 1
  | .map entries => uptoBulkEntries entries + 1
  | .held _ => 1
def uptoBulkAll {H : Type} : List (DataW H) → Nat
  | [] => 0
  | d :: r => uptoBulk d + uptoBulkAll r
def uptoBulkEntries {H : Type} : List (Lit × DataW H) → Nat
  | [] => 0
  | x :: r => uptoBulkEntry x + uptoBulkEntries r
def uptoBulkEntry {H : Type} : Lit × DataW H → Nat
  | (.string bytes, d) => bytes.length + uptoBulk d + 1
  | (_, d) => uptoBulk d + 1
 end
def uptoSmall : (H : Type) → List (DataW H) → Bool := fun _ ds => decide (uptoBulkAll ds ≤ 1048576)
def OpenSpec.upto (s : _root_.Go.ChangeSpec) : _root_.Go.OpenSpec := { _root_.Go.OpenSpec.ofChange s with cond := some uptoSmall }

/-- 'breviarylaw46.PatchMakes', WHERE WHAT IT READS IS OF BULK AT MOST 1048576: true; the input reads as it did. -/
def patchMakesUptoRow : OpenClaim := { program := "yteaihincmfbblaa", sum := "27225b24d1f763bc7a95f486528bf92b020c8cfd21acd863167ab77a033778f7", func := "breviary/breviarylaw46.PatchMakes", spec := "patchMakes", inPlace := ["internal/bytealg.MakeNoZero"], unfollowed := true, recurses := true, apart := false, narrowed := true }
def PatchMakesUptoSaid : Prop := patchMakesUptoRow.holds Try.pinned (OpenSpec.upto patchMakesSpec)

/-- 'breviarylaw46.PatchTells', WHERE WHAT IT READS IS OF BULK AT MOST 1048576: true; the input reads as it did. -/
def patchTellsUptoRow : OpenClaim := { program := "yteaihincmfbblaa", sum := "27225b24d1f763bc7a95f486528bf92b020c8cfd21acd863167ab77a033778f7", func := "breviary/breviarylaw46.PatchTells", spec := "patchTells", inPlace := ["internal/bytealg.MakeNoZero"], unfollowed := true, recurses := true, apart := false, narrowed := true }
def PatchTellsUptoSaid : Prop := patchTellsUptoRow.holds Try.pinned (OpenSpec.upto patchTellsSpec)

/-- 'breviarylaw46.PatchChains', WHERE WHAT IT READS IS OF BULK AT MOST 1048576: true; the input reads as it did. -/
def patchChainsUptoRow : OpenClaim := { program := "yteaihincmfbblaa", sum := "27225b24d1f763bc7a95f486528bf92b020c8cfd21acd863167ab77a033778f7", func := "breviary/breviarylaw46.PatchChains", spec := "patchChains", inPlace := ["internal/bytealg.MakeNoZero"], unfollowed := true, recurses := true, apart := false, narrowed := true }
def PatchChainsUptoSaid : Prop := patchChainsUptoRow.holds Try.pinned (OpenSpec.upto patchChainsSpec)

end Rows
end Go.Proofs.Yteaihincmfbblaa
