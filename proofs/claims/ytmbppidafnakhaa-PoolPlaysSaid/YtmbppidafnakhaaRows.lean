/-
  No cell of these rows narrows 'for every input' (looked for: loops, veiled, ifaces, maps, wideKeys, modest, calm, conditions, laid).
  DERIVED. THE GIVEN ROWS OF THIS SEAT. 3 by the template 'for every input the law returns true; each argument reads behind the call as it read before'; 0 by the template 'total and deterministic' (their statements: YtmbppidafnakhaaTotals.lean).
  GIVEN WITH THE SEED: the statements are not yours to turn. If you find one false, say at which input.
  Laid BY PROGRAM, IN A SANDBOX (cutbox-rows.mjs): the forced cells as the released guide's own fill.sh prints them over the translation f54cbf5fec913a27… (all of the seat's roots in one cut). By AI agents, Wed Nov 11 2026. No macro, syntax, notation, axiom, sorry.
-/
import Derived.Test.YtmbppidafnakhaaChecked
import GoSem.Claim
import GoSem.ClaimJoined
import GoSem.ClaimMapViews
import Derived.JoinedTies
import Derived.KernelRfl
namespace Go.Proofs.Ytmbppidafnakhaa
/- THE CELL 'sum', in the pinned program and in every row, IS THE sha256 OF THE DUMP (.gsa) THAT YtmbppidafnakhaaProg.lean LOADS. Nothing in Lean hashes anything: it is a label: what it is worth is what the hold of that sum in a sandbox is worth. -/
noncomputable def Try.pinned : Pinned := { name := "ytmbppidafnakhaa", sum := "f54cbf5fec913a27a1214073eacc581f1dc72e69625054ad7e00c53490cd1464", checked := Try.checked }
namespace Rows
def none {H : Type} : Left H := { results := [], args := [] }

/-- 'breviarylaw11.PoolSaves': WHATEVER THE INPUT: true; the input reads as it did. -/
def poolSavesSpec : ChangeSpec := { name := "poolSaves", fn := fun _ => fun
  | [d1, d2] => { results := [.lit (.bool true)], args := [d1, d2] }
  | _ => none }
def poolSavesRow : OpenClaim := { program := "ytmbppidafnakhaa", sum := "f54cbf5fec913a27a1214073eacc581f1dc72e69625054ad7e00c53490cd1464", func := "breviary/breviarylaw11.PoolSaves", spec := "poolSaves", inPlace := ["slices.overlaps[breviary/order.pair[int, breviary/pool.held]]"], unfollowed := true, recurses := true, apart := false }
def PoolSavesSaid : Prop := poolSavesRow.holds Try.pinned (OpenSpec.ofChange poolSavesSpec)

/-- ITS FALSE NEIGHBOUR: 'it returns false'. Refute it at one input. -/
def poolSavesWrong : ChangeSpec := { name := "poolSaves", fn := fun _ => fun
  | [d1, d2] => { results := [.lit (.bool false)], args := [d1, d2] }
  | _ => none }
def PoolSavesWrongFalsely : Prop := poolSavesRow.holds Try.pinned (OpenSpec.ofChange poolSavesWrong)

/-- 'breviarylaw11.PoolKeeps': WHATEVER THE INPUT: true; the input reads as it did. -/
def poolKeepsSpec : ChangeSpec := { name := "poolKeeps", fn := fun _ => fun
  | [d1, d2] => { results := [.lit (.bool true)], args := [d1, d2] }
  | _ => none }
def poolKeepsRow : OpenClaim := { program := "ytmbppidafnakhaa", sum := "f54cbf5fec913a27a1214073eacc581f1dc72e69625054ad7e00c53490cd1464", func := "breviary/breviarylaw11.PoolKeeps", spec := "poolKeeps", inPlace := ["slices.overlaps[breviary/order.pair[int, breviary/pool.held]]"], unfollowed := true, recurses := true, apart := false }
def PoolKeepsSaid : Prop := poolKeepsRow.holds Try.pinned (OpenSpec.ofChange poolKeepsSpec)

/-- ITS FALSE NEIGHBOUR: 'it returns false'. Refute it at one input. -/
def poolKeepsWrong : ChangeSpec := { name := "poolKeeps", fn := fun _ => fun
  | [d1, d2] => { results := [.lit (.bool false)], args := [d1, d2] }
  | _ => none }
def PoolKeepsWrongFalsely : Prop := poolKeepsRow.holds Try.pinned (OpenSpec.ofChange poolKeepsWrong)

/-- 'breviarylaw11.PoolPlays': WHATEVER THE INPUT: true; the input reads as it did. -/
def poolPlaysSpec : ChangeSpec := { name := "poolPlays", fn := fun _ => fun
  | [d1, d2, d3] => { results := [.lit (.bool true)], args := [d1, d2, d3] }
  | _ => none }
def poolPlaysRow : OpenClaim := { program := "ytmbppidafnakhaa", sum := "f54cbf5fec913a27a1214073eacc581f1dc72e69625054ad7e00c53490cd1464", func := "breviary/breviarylaw11.PoolPlays", spec := "poolPlays", inPlace := ["slices.overlaps[breviary/order.pair[int, breviary/pool.held]]"], unfollowed := true, recurses := true, apart := false }
def PoolPlaysSaid : Prop := poolPlaysRow.holds Try.pinned (OpenSpec.ofChange poolPlaysSpec)

/-- ITS FALSE NEIGHBOUR: 'it returns false'. Refute it at one input. -/
def poolPlaysWrong : ChangeSpec := { name := "poolPlays", fn := fun _ => fun
  | [d1, d2, d3] => { results := [.lit (.bool false)], args := [d1, d2, d3] }
  | _ => none }
def PoolPlaysWrongFalsely : Prop := poolPlaysRow.holds Try.pinned (OpenSpec.ofChange poolPlaysWrong)

/- THE SECOND FORM. 'bulk': how many values and letters a reading holds, each counted each time it is reached (what is shared counts as often as it is met; a slice's spare places count too). A statement '..UptoSaid' is the law's where the arguments, and the package variables that the reading takes, are together of bulk at most 1048576: NARROWER than '..Said'. Prove '..Said' where nothing that the law and all that it calls make is longer than what came in: it says more and counts as full. Else prove '..UptoSaid'. A law counts once. -/
mutual
def uptoBulk {H : Type} : DataW H → Nat
  | .lit (.string bytes) => bytes.length + 1
  | .lit _ => 1
  | .nil => 1
  | .ptr d => uptoBulk d + 1
  | .slice elems spare => uptoBulkAll elems + uptoBulkAll spare + 1
  | .agg parts => uptoBulkAll parts + 1
  | .iface _ d => uptoBulk d + 1
  | .map entries => uptoBulkEntries entries + 1
  | .held _ => 1
def uptoBulkAll {H : Type} : List (DataW H) → Nat
  | [] => 0
  | d :: r => uptoBulk d + uptoBulkAll r
def uptoBulkEntries {H : Type} : List (Lit × DataW H) → Nat
  | [] => 0
  | x :: r => uptoBulkEntry x + uptoBulkEntries r
def uptoBulkEntry {H : Type} : Lit × DataW H → Nat
  | (.string bytes, d) => bytes.length + uptoBulk d + 1
  | (_, d) => uptoBulk d + 1
 end
def uptoSmall : (H : Type) → List (DataW H) → Bool := fun _ ds => decide (uptoBulkAll ds ≤ 1048576)
def OpenSpec.upto (s : _root_.Go.ChangeSpec) : _root_.Go.OpenSpec := { _root_.Go.OpenSpec.ofChange s with cond := some uptoSmall }

/-- 'breviarylaw11.PoolSaves', WHERE WHAT IT READS IS OF BULK AT MOST 1048576: true; the input reads as it did. -/
def poolSavesUptoRow : OpenClaim := { program := "ytmbppidafnakhaa", sum := "f54cbf5fec913a27a1214073eacc581f1dc72e69625054ad7e00c53490cd1464", func := "breviary/breviarylaw11.PoolSaves", spec := "poolSaves", inPlace := ["slices.overlaps[breviary/order.pair[int, breviary/pool.held]]"], unfollowed := true, recurses := true, apart := false, narrowed := true }
def PoolSavesUptoSaid : Prop := poolSavesUptoRow.holds Try.pinned (OpenSpec.upto poolSavesSpec)

/-- 'breviarylaw11.PoolKeeps', WHERE WHAT IT READS IS OF BULK AT MOST 1048576: true; the input reads as it did. -/
def poolKeepsUptoRow : OpenClaim := { program := "ytmbppidafnakhaa", sum := "f54cbf5fec913a27a1214073eacc581f1dc72e69625054ad7e00c53490cd1464", func := "breviary/breviarylaw11.PoolKeeps", spec := "poolKeeps", inPlace := ["slices.overlaps[breviary/order.pair[int, breviary/pool.held]]"], unfollowed := true, recurses := true, apart := false, narrowed := true }
def PoolKeepsUptoSaid : Prop := poolKeepsUptoRow.holds Try.pinned (OpenSpec.upto poolKeepsSpec)

/-- 'breviarylaw11.PoolPlays', WHERE WHAT IT READS IS OF BULK AT MOST 1048576: true; the input reads as it did. -/
def poolPlaysUptoRow : OpenClaim := { program := "ytmbppidafnakhaa", sum := "f54cbf5fec913a27a1214073eacc581f1dc72e69625054ad7e00c53490cd1464", func := "breviary/breviarylaw11.PoolPlays", spec := "poolPlays", inPlace := ["slices.overlaps[breviary/order.pair[int, breviary/pool.held]]"], unfollowed := true, recurses := true, apart := false, narrowed := true }
def PoolPlaysUptoSaid : Prop := poolPlaysUptoRow.holds Try.pinned (OpenSpec.upto poolPlaysSpec)

end Rows
end Go.Proofs.Ytmbppidafnakhaa
