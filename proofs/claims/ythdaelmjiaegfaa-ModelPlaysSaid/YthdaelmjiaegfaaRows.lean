/-
  No cell of these rows narrows 'for every input' (looked for: loops, veiled, ifaces, maps, wideKeys, modest, calm, conditions, laid).
  DERIVED. THE GIVEN ROWS OF THIS SEAT. 3 by the template 'for every input the law returns true; each argument reads behind the call as it read before'; 0 by the template 'total and deterministic' (their statements: YthdaelmjiaegfaaTotals.lean).
  GIVEN WITH THE SEED: the statements are not yours to turn. If you find one false, say at which input.
  Laid BY PROGRAM, IN A SANDBOX (cutbox-rows.mjs): the forced cells as the released guide's own fill.sh prints them over the translation 73556be1462df991… (all of the seat's roots in one cut). By AI agents, Wed Nov 11 2026. No macro, syntax, notation, axiom, sorry.
-/
import Derived.Test.YthdaelmjiaegfaaChecked
import GoSem.Claim
import GoSem.ClaimJoined
import GoSem.ClaimMapViews
import Derived.JoinedTies
import Derived.KernelRfl
namespace Go.Proofs.Ythdaelmjiaegfaa
/- THE CELL 'sum', in the pinned program and in every row, IS THE sha256 OF THE DUMP (.gsa) THAT YthdaelmjiaegfaaProg.lean LOADS. Nothing in Lean hashes anything: it is a label: what it is worth is what the hold of that sum in a sandbox is worth. -/
noncomputable def Try.pinned : Pinned := { name := "ythdaelmjiaegfaa", sum := "73556be1462df99165dd5f8505ef73626ba7db01aa64f5413e47c1ee16cff8a0", checked := Try.checked }
namespace Rows
def none {H : Type} : Left H := { results := [], args := [] }

/-- 'breviarylaw27.ModelStays': WHATEVER THE INPUT: true; the input reads as it did. -/
def modelStaysSpec : ChangeSpec := { name := "modelStays", fn := fun _ => fun
  | [d] => { results := [.lit (.bool true)], args := [d] }
  | _ => none }
def modelStaysRow : OpenClaim := { program := "ythdaelmjiaegfaa", sum := "73556be1462df99165dd5f8505ef73626ba7db01aa64f5413e47c1ee16cff8a0", func := "breviary/breviarylaw27.ModelStays", spec := "modelStays", inPlace := ["slices.overlaps[breviary/order.pair[int, *breviary/image.Disk]]", "slices.overlaps[breviary/order.pair[int, breviary/model.line]]"], unfollowed := true, recurses := true, plainKeys := false, apart := false }
def ModelStaysSaid : Prop := modelStaysRow.holds Try.pinned (OpenSpec.ofChange modelStaysSpec)

/-- ITS FALSE NEIGHBOUR: 'it returns false'. Refute it at one input. -/
def modelStaysWrong : ChangeSpec := { name := "modelStays", fn := fun _ => fun
  | [d] => { results := [.lit (.bool false)], args := [d] }
  | _ => none }
def ModelStaysWrongFalsely : Prop := modelStaysRow.holds Try.pinned (OpenSpec.ofChange modelStaysWrong)

/-- 'breviarylaw27.ModelCommits': WHATEVER THE INPUT: true; the input reads as it did. -/
def modelCommitsSpec : ChangeSpec := { name := "modelCommits", fn := fun _ => fun
  | [d] => { results := [.lit (.bool true)], args := [d] }
  | _ => none }
def modelCommitsRow : OpenClaim := { program := "ythdaelmjiaegfaa", sum := "73556be1462df99165dd5f8505ef73626ba7db01aa64f5413e47c1ee16cff8a0", func := "breviary/breviarylaw27.ModelCommits", spec := "modelCommits", inPlace := ["slices.overlaps[breviary/order.pair[int, *breviary/image.Disk]]", "slices.overlaps[breviary/order.pair[int, breviary/model.line]]"], unfollowed := true, recurses := true, plainKeys := false, apart := false }
def ModelCommitsSaid : Prop := modelCommitsRow.holds Try.pinned (OpenSpec.ofChange modelCommitsSpec)

/-- ITS FALSE NEIGHBOUR: 'it returns false'. Refute it at one input. -/
def modelCommitsWrong : ChangeSpec := { name := "modelCommits", fn := fun _ => fun
  | [d] => { results := [.lit (.bool false)], args := [d] }
  | _ => none }
def ModelCommitsWrongFalsely : Prop := modelCommitsRow.holds Try.pinned (OpenSpec.ofChange modelCommitsWrong)

/-- 'breviarylaw27.ModelPlays': WHATEVER THE INPUT: true; the input reads as it did. -/
def modelPlaysSpec : ChangeSpec := { name := "modelPlays", fn := fun _ => fun
  | [d1, d2] => { results := [.lit (.bool true)], args := [d1, d2] }
  | _ => none }
def modelPlaysRow : OpenClaim := { program := "ythdaelmjiaegfaa", sum := "73556be1462df99165dd5f8505ef73626ba7db01aa64f5413e47c1ee16cff8a0", func := "breviary/breviarylaw27.ModelPlays", spec := "modelPlays", inPlace := ["slices.overlaps[breviary/order.pair[int, *breviary/image.Disk]]", "slices.overlaps[breviary/order.pair[int, breviary/model.line]]"], unfollowed := true, recurses := true, plainKeys := false, apart := false }
def ModelPlaysSaid : Prop := modelPlaysRow.holds Try.pinned (OpenSpec.ofChange modelPlaysSpec)

/-- ITS FALSE NEIGHBOUR: 'it returns false'. Refute it at one input. -/
def modelPlaysWrong : ChangeSpec := { name := "modelPlays", fn := fun _ => fun
  | [d1, d2] => { results := [.lit (.bool false)], args := [d1, d2] }
  | _ => none }
def ModelPlaysWrongFalsely : Prop := modelPlaysRow.holds Try.pinned (OpenSpec.ofChange modelPlaysWrong)

/- THE SECOND FORM. 'bulk': how many values and letters a reading holds, each counted each time it is reached (what is shared counts as often as it is met; a slice's spare places count too). A statement '..UptoSaid' is the law's where the arguments, and the package variables that the reading takes, are together of bulk at most 1048576: NARROWER than '..Said'. Prove '..Said' where nothing that the law and all that it calls make is longer than what came in: it says more and counts as full. Else prove '..UptoSaid'. A law counts once. -/
mutual
def uptoBulk {H : Type} : DataW H → Nat
  | .lit (.string bytes) => bytes.length + 1
  | .lit _ => 1
  | .nil => 1
  | .ptr d => uptoBulk d + 1
  | .slice elems spare => uptoBulkAll elems + uptoBulkAll spare + 1
  | .agg parts => uptoBulkAll parts + 1
  | .iface _ d => uptoBulk d + 1
  | .map entries => uptoBulkEntries entries + 1
  | .held _ => 1
def uptoBulkAll {H : Type} : List (DataW H) → Nat
  | [] => 0
  | d :: r => uptoBulk d + uptoBulkAll r
def uptoBulkEntries {H : Type} : List (Lit × DataW H) → Nat
  | [] => 0
  | x :: r => uptoBulkEntry x + uptoBulkEntries r
def uptoBulkEntry {H : Type} : Lit × DataW H → Nat
  | (.string bytes, d) => bytes.length + uptoBulk d + 1
  | (_, d) => uptoBulk d + 1
 end
def uptoSmall : (H : Type) → List (DataW H) → Bool := fun _ ds => decide (uptoBulkAll ds ≤ 1048576)
def OpenSpec.upto (s : _root_.Go.ChangeSpec) : _root_.Go.OpenSpec := { _root_.Go.OpenSpec.ofChange s with cond := some uptoSmall }

/-- 'breviarylaw27.ModelStays', WHERE WHAT IT READS IS OF BULK AT MOST 1048576: true; the input reads as it did. -/
def modelStaysUptoRow : OpenClaim := { program := "ythdaelmjiaegfaa", sum := "73556be1462df99165dd5f8505ef73626ba7db01aa64f5413e47c1ee16cff8a0", func := "breviary/breviarylaw27.ModelStays", spec := "modelStays", inPlace := ["slices.overlaps[breviary/order.pair[int, *breviary/image.Disk]]", "slices.overlaps[breviary/order.pair[int, breviary/model.line]]"], unfollowed := true, recurses := true, plainKeys := false, apart := false, narrowed := true }
def ModelStaysUptoSaid : Prop := modelStaysUptoRow.holds Try.pinned (OpenSpec.upto modelStaysSpec)

/-- 'breviarylaw27.ModelCommits', WHERE WHAT IT READS IS OF BULK AT MOST 1048576: true; the input reads as it did. -/
def modelCommitsUptoRow : OpenClaim := { program := "ythdaelmjiaegfaa", sum := "73556be1462df99165dd5f8505ef73626ba7db01aa64f5413e47c1ee16cff8a0", func := "breviary/breviarylaw27.ModelCommits", spec := "modelCommits", inPlace := ["slices.overlaps[breviary/order.pair[int, *breviary/image.Disk]]", "slices.overlaps[breviary/order.pair[int, breviary/model.line]]"], unfollowed := true, recurses := true, plainKeys := false, apart := false, narrowed := true }
def ModelCommitsUptoSaid : Prop := modelCommitsUptoRow.holds Try.pinned (OpenSpec.upto modelCommitsSpec)

/-- 'breviarylaw27.ModelPlays', WHERE WHAT IT READS IS OF BULK AT MOST 1048576: true; the input reads as it did. -/
def modelPlaysUptoRow : OpenClaim := { program := "ythdaelmjiaegfaa", sum := "73556be1462df99165dd5f8505ef73626ba7db01aa64f5413e47c1ee16cff8a0", func := "breviary/breviarylaw27.ModelPlays", spec := "modelPlays", inPlace := ["slices.overlaps[breviary/order.pair[int, *breviary/image.Disk]]", "slices.overlaps[breviary/order.pair[int, breviary/model.line]]"], unfollowed := true, recurses := true, plainKeys := false, apart := false, narrowed := true }
def ModelPlaysUptoSaid : Prop := modelPlaysUptoRow.holds Try.pinned (OpenSpec.upto modelPlaysSpec)

end Rows
end Go.Proofs.Ythdaelmjiaegfaa
