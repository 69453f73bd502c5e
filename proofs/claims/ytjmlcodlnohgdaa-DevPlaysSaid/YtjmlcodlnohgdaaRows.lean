/-
  No cell of these rows narrows 'for every input' (looked for: loops, veiled, ifaces, maps, wideKeys, modest, calm, conditions, laid).
  DERIVED. THE GIVEN ROWS OF THIS SEAT. 13 by the template 'for every input the law returns true; each argument reads behind the call as it read before'; 0 by the template 'total and deterministic' (their statements: YtjmlcodlnohgdaaTotals.lean).
  GIVEN WITH THE SEED: the statements are not yours to turn. If you find one false, say at which input.
  Laid BY PROGRAM, IN A SANDBOX (cutbox-rows.mjs): the forced cells as the released guide's own fill.sh prints them over the translation 1f74bdd1908c2f87… (all of the seat's roots in one cut). By AI agents, Wed Nov 11 2026. No macro, syntax, notation, axiom, sorry.
-/
import Derived.Test.YtjmlcodlnohgdaaChecked
import GoSem.Claim
import GoSem.ClaimJoined
import GoSem.ClaimMapViews
import Derived.JoinedTies
import Derived.KernelRfl
namespace Go.Proofs.Ytjmlcodlnohgdaa
/- THE CELL 'sum', in the pinned program and in every row, IS THE sha256 OF THE DUMP (.gsa) THAT YtjmlcodlnohgdaaProg.lean LOADS. Nothing in Lean hashes anything: it is a label: what it is worth is what the hold of that sum in a sandbox is worth. -/
noncomputable def Try.pinned : Pinned := { name := "ytjmlcodlnohgdaa", sum := "1f74bdd1908c2f87fa0c22b6f0bbe5d06bfe881cf11856aba52f1659e4466c26", checked := Try.checked }
namespace Rows
def none {H : Type} : Left H := { results := [], args := [] }

/-- 'breviarylaw10.ImagePlays': WHATEVER THE INPUT: true; the input reads as it did. -/
def imagePlaysSpec : ChangeSpec := { name := "imagePlays", fn := fun _ => fun
  | [d1, d2] => { results := [.lit (.bool true)], args := [d1, d2] }
  | _ => none }
def imagePlaysRow : OpenClaim := { program := "ytjmlcodlnohgdaa", sum := "1f74bdd1908c2f87fa0c22b6f0bbe5d06bfe881cf11856aba52f1659e4466c26", func := "breviary/breviarylaw10.ImagePlays", spec := "imagePlays", unfollowed := true, recurses := true, apart := false }
def ImagePlaysSaid : Prop := imagePlaysRow.holds Try.pinned (OpenSpec.ofChange imagePlaysSpec)

/-- ITS FALSE NEIGHBOUR: 'it returns false'. Refute it at one input. -/
def imagePlaysWrong : ChangeSpec := { name := "imagePlays", fn := fun _ => fun
  | [d1, d2] => { results := [.lit (.bool false)], args := [d1, d2] }
  | _ => none }
def ImagePlaysWrongFalsely : Prop := imagePlaysRow.holds Try.pinned (OpenSpec.ofChange imagePlaysWrong)

/-- 'breviarylaw10.ImageStays': WHATEVER THE INPUT: true; the input reads as it did. -/
def imageStaysSpec : ChangeSpec := { name := "imageStays", fn := fun _ => fun
  | [d1, d2] => { results := [.lit (.bool true)], args := [d1, d2] }
  | _ => none }
def imageStaysRow : OpenClaim := { program := "ytjmlcodlnohgdaa", sum := "1f74bdd1908c2f87fa0c22b6f0bbe5d06bfe881cf11856aba52f1659e4466c26", func := "breviary/breviarylaw10.ImageStays", spec := "imageStays", unfollowed := true, recurses := true, apart := false }
def ImageStaysSaid : Prop := imageStaysRow.holds Try.pinned (OpenSpec.ofChange imageStaysSpec)

/-- ITS FALSE NEIGHBOUR: 'it returns false'. Refute it at one input. -/
def imageStaysWrong : ChangeSpec := { name := "imageStays", fn := fun _ => fun
  | [d1, d2] => { results := [.lit (.bool false)], args := [d1, d2] }
  | _ => none }
def ImageStaysWrongFalsely : Prop := imageStaysRow.holds Try.pinned (OpenSpec.ofChange imageStaysWrong)

/-- 'breviarylaw10.ImageJoins': WHATEVER THE INPUT: true; the input reads as it did. -/
def imageJoinsSpec : ChangeSpec := { name := "imageJoins", fn := fun _ => fun
  | [d1, d2] => { results := [.lit (.bool true)], args := [d1, d2] }
  | _ => none }
def imageJoinsRow : OpenClaim := { program := "ytjmlcodlnohgdaa", sum := "1f74bdd1908c2f87fa0c22b6f0bbe5d06bfe881cf11856aba52f1659e4466c26", func := "breviary/breviarylaw10.ImageJoins", spec := "imageJoins", unfollowed := true, recurses := true, apart := false }
def ImageJoinsSaid : Prop := imageJoinsRow.holds Try.pinned (OpenSpec.ofChange imageJoinsSpec)

/-- ITS FALSE NEIGHBOUR: 'it returns false'. Refute it at one input. -/
def imageJoinsWrong : ChangeSpec := { name := "imageJoins", fn := fun _ => fun
  | [d1, d2] => { results := [.lit (.bool false)], args := [d1, d2] }
  | _ => none }
def ImageJoinsWrongFalsely : Prop := imageJoinsRow.holds Try.pinned (OpenSpec.ofChange imageJoinsWrong)

/-- 'breviarylaw10.ImageFrom': WHATEVER THE INPUT: true; the input reads as it did. -/
def imageFromSpec : ChangeSpec := { name := "imageFrom", fn := fun _ => fun
  | [d] => { results := [.lit (.bool true)], args := [d] }
  | _ => none }
def imageFromRow : OpenClaim := { program := "ytjmlcodlnohgdaa", sum := "1f74bdd1908c2f87fa0c22b6f0bbe5d06bfe881cf11856aba52f1659e4466c26", func := "breviary/breviarylaw10.ImageFrom", spec := "imageFrom", unfollowed := true, recurses := true, apart := false }
def ImageFromSaid : Prop := imageFromRow.holds Try.pinned (OpenSpec.ofChange imageFromSpec)

/-- ITS FALSE NEIGHBOUR: 'it returns false'. Refute it at one input. -/
def imageFromWrong : ChangeSpec := { name := "imageFrom", fn := fun _ => fun
  | [d] => { results := [.lit (.bool false)], args := [d] }
  | _ => none }
def ImageFromWrongFalsely : Prop := imageFromRow.holds Try.pinned (OpenSpec.ofChange imageFromWrong)

/-- 'breviarylaw01.DevLast': WHATEVER THE INPUT: true; the input reads as it did. -/
def devLastSpec : ChangeSpec := { name := "devLast", fn := fun _ => fun
  | [d1, d2] => { results := [.lit (.bool true)], args := [d1, d2] }
  | _ => none }
def devLastRow : OpenClaim := { program := "ytjmlcodlnohgdaa", sum := "1f74bdd1908c2f87fa0c22b6f0bbe5d06bfe881cf11856aba52f1659e4466c26", func := "breviary/breviarylaw01.DevLast", spec := "devLast", unfollowed := true, recurses := true, apart := false }
def DevLastSaid : Prop := devLastRow.holds Try.pinned (OpenSpec.ofChange devLastSpec)

/-- ITS FALSE NEIGHBOUR: 'it returns false'. Refute it at one input. -/
def devLastWrong : ChangeSpec := { name := "devLast", fn := fun _ => fun
  | [d1, d2] => { results := [.lit (.bool false)], args := [d1, d2] }
  | _ => none }
def DevLastWrongFalsely : Prop := devLastRow.holds Try.pinned (OpenSpec.ofChange devLastWrong)

/-- 'breviarylaw01.DevKeeps': WHATEVER THE INPUT: true; the input reads as it did. -/
def devKeepsSpec : ChangeSpec := { name := "devKeeps", fn := fun _ => fun
  | [d1, d2, d3] => { results := [.lit (.bool true)], args := [d1, d2, d3] }
  | _ => none }
def devKeepsRow : OpenClaim := { program := "ytjmlcodlnohgdaa", sum := "1f74bdd1908c2f87fa0c22b6f0bbe5d06bfe881cf11856aba52f1659e4466c26", func := "breviary/breviarylaw01.DevKeeps", spec := "devKeeps", unfollowed := true, recurses := true, apart := false }
def DevKeepsSaid : Prop := devKeepsRow.holds Try.pinned (OpenSpec.ofChange devKeepsSpec)

/-- ITS FALSE NEIGHBOUR: 'it returns false'. Refute it at one input. -/
def devKeepsWrong : ChangeSpec := { name := "devKeeps", fn := fun _ => fun
  | [d1, d2, d3] => { results := [.lit (.bool false)], args := [d1, d2, d3] }
  | _ => none }
def DevKeepsWrongFalsely : Prop := devKeepsRow.holds Try.pinned (OpenSpec.ofChange devKeepsWrong)

/-- 'breviarylaw01.DevPlays': WHATEVER THE INPUT: true; the input reads as it did. -/
def devPlaysSpec : ChangeSpec := { name := "devPlays", fn := fun _ => fun
  | [d1, d2] => { results := [.lit (.bool true)], args := [d1, d2] }
  | _ => none }
def devPlaysRow : OpenClaim := { program := "ytjmlcodlnohgdaa", sum := "1f74bdd1908c2f87fa0c22b6f0bbe5d06bfe881cf11856aba52f1659e4466c26", func := "breviary/breviarylaw01.DevPlays", spec := "devPlays", unfollowed := true, recurses := true, apart := false }
def DevPlaysSaid : Prop := devPlaysRow.holds Try.pinned (OpenSpec.ofChange devPlaysSpec)

/-- ITS FALSE NEIGHBOUR: 'it returns false'. Refute it at one input. -/
def devPlaysWrong : ChangeSpec := { name := "devPlays", fn := fun _ => fun
  | [d1, d2] => { results := [.lit (.bool false)], args := [d1, d2] }
  | _ => none }
def DevPlaysWrongFalsely : Prop := devPlaysRow.holds Try.pinned (OpenSpec.ofChange devPlaysWrong)

/-- 'breviarylaw38.ShrinkTells': WHATEVER THE INPUT: true; the input reads as it did. -/
def shrinkTellsSpec : ChangeSpec := { name := "shrinkTells", fn := fun _ => fun
  | [d1, d2, d3] => { results := [.lit (.bool true)], args := [d1, d2, d3] }
  | _ => none }
def shrinkTellsRow : OpenClaim := { program := "ytjmlcodlnohgdaa", sum := "1f74bdd1908c2f87fa0c22b6f0bbe5d06bfe881cf11856aba52f1659e4466c26", func := "breviary/breviarylaw38.ShrinkTells", spec := "shrinkTells", inPlace := ["internal/bytealg.MakeNoZero"], apart := false }
def ShrinkTellsSaid : Prop := shrinkTellsRow.holds Try.pinned (OpenSpec.ofChange shrinkTellsSpec)

/-- ITS FALSE NEIGHBOUR: 'it returns false'. Refute it at one input. -/
def shrinkTellsWrong : ChangeSpec := { name := "shrinkTells", fn := fun _ => fun
  | [d1, d2, d3] => { results := [.lit (.bool false)], args := [d1, d2, d3] }
  | _ => none }
def ShrinkTellsWrongFalsely : Prop := shrinkTellsRow.holds Try.pinned (OpenSpec.ofChange shrinkTellsWrong)

/-- 'breviarylaw38.ShrinkDeltas': WHATEVER THE INPUT: true; the input reads as it did. -/
def shrinkDeltasSpec : ChangeSpec := { name := "shrinkDeltas", fn := fun _ => fun
  | [d1, d2, d3] => { results := [.lit (.bool true)], args := [d1, d2, d3] }
  | _ => none }
def shrinkDeltasRow : OpenClaim := { program := "ytjmlcodlnohgdaa", sum := "1f74bdd1908c2f87fa0c22b6f0bbe5d06bfe881cf11856aba52f1659e4466c26", func := "breviary/breviarylaw38.ShrinkDeltas", spec := "shrinkDeltas", inPlace := ["internal/bytealg.MakeNoZero"], apart := false }
def ShrinkDeltasSaid : Prop := shrinkDeltasRow.holds Try.pinned (OpenSpec.ofChange shrinkDeltasSpec)

/-- ITS FALSE NEIGHBOUR: 'it returns false'. Refute it at one input. -/
def shrinkDeltasWrong : ChangeSpec := { name := "shrinkDeltas", fn := fun _ => fun
  | [d1, d2, d3] => { results := [.lit (.bool false)], args := [d1, d2, d3] }
  | _ => none }
def ShrinkDeltasWrongFalsely : Prop := shrinkDeltasRow.holds Try.pinned (OpenSpec.ofChange shrinkDeltasWrong)

/-- 'breviarylaw38.ShrinkBack': WHATEVER THE INPUT: true; the input reads as it did. -/
def shrinkBackSpec : ChangeSpec := { name := "shrinkBack", fn := fun _ => fun
  | [d1, d2] => { results := [.lit (.bool true)], args := [d1, d2] }
  | _ => none }
def shrinkBackRow : OpenClaim := { program := "ytjmlcodlnohgdaa", sum := "1f74bdd1908c2f87fa0c22b6f0bbe5d06bfe881cf11856aba52f1659e4466c26", func := "breviary/breviarylaw38.ShrinkBack", spec := "shrinkBack", inPlace := ["internal/bytealg.MakeNoZero"], apart := false }
def ShrinkBackSaid : Prop := shrinkBackRow.holds Try.pinned (OpenSpec.ofChange shrinkBackSpec)

/-- ITS FALSE NEIGHBOUR: 'it returns false'. Refute it at one input. -/
def shrinkBackWrong : ChangeSpec := { name := "shrinkBack", fn := fun _ => fun
  | [d1, d2] => { results := [.lit (.bool false)], args := [d1, d2] }
  | _ => none }
def ShrinkBackWrongFalsely : Prop := shrinkBackRow.holds Try.pinned (OpenSpec.ofChange shrinkBackWrong)

/-- 'breviarylaw06.FrameTells': WHATEVER THE INPUT: true; the input reads as it did. -/
def frameTellsSpec : ChangeSpec := { name := "frameTells", fn := fun _ => fun
  | [d1, d2] => { results := [.lit (.bool true)], args := [d1, d2] }
  | _ => none }
def frameTellsRow : OpenClaim := { program := "ytjmlcodlnohgdaa", sum := "1f74bdd1908c2f87fa0c22b6f0bbe5d06bfe881cf11856aba52f1659e4466c26", func := "breviary/breviarylaw06.FrameTells", spec := "frameTells", unfollowed := true, recurses := true, apart := false }
def FrameTellsSaid : Prop := frameTellsRow.holds Try.pinned (OpenSpec.ofChange frameTellsSpec)

/-- ITS FALSE NEIGHBOUR: 'it returns false'. Refute it at one input. -/
def frameTellsWrong : ChangeSpec := { name := "frameTells", fn := fun _ => fun
  | [d1, d2] => { results := [.lit (.bool false)], args := [d1, d2] }
  | _ => none }
def FrameTellsWrongFalsely : Prop := frameTellsRow.holds Try.pinned (OpenSpec.ofChange frameTellsWrong)

/-- 'breviarylaw06.FrameBack': WHATEVER THE INPUT: true; the input reads as it did. -/
def frameBackSpec : ChangeSpec := { name := "frameBack", fn := fun _ => fun
  | [d1, d2, d3] => { results := [.lit (.bool true)], args := [d1, d2, d3] }
  | _ => none }
def frameBackRow : OpenClaim := { program := "ytjmlcodlnohgdaa", sum := "1f74bdd1908c2f87fa0c22b6f0bbe5d06bfe881cf11856aba52f1659e4466c26", func := "breviary/breviarylaw06.FrameBack", spec := "frameBack", unfollowed := true, recurses := true, apart := false }
def FrameBackSaid : Prop := frameBackRow.holds Try.pinned (OpenSpec.ofChange frameBackSpec)

/-- ITS FALSE NEIGHBOUR: 'it returns false'. Refute it at one input. -/
def frameBackWrong : ChangeSpec := { name := "frameBack", fn := fun _ => fun
  | [d1, d2, d3] => { results := [.lit (.bool false)], args := [d1, d2, d3] }
  | _ => none }
def FrameBackWrongFalsely : Prop := frameBackRow.holds Try.pinned (OpenSpec.ofChange frameBackWrong)

/-- 'breviarylaw06.FrameUnlike': WHATEVER THE INPUT: true; the input reads as it did. -/
def frameUnlikeSpec : ChangeSpec := { name := "frameUnlike", fn := fun _ => fun
  | [d1, d2] => { results := [.lit (.bool true)], args := [d1, d2] }
  | _ => none }
def frameUnlikeRow : OpenClaim := { program := "ytjmlcodlnohgdaa", sum := "1f74bdd1908c2f87fa0c22b6f0bbe5d06bfe881cf11856aba52f1659e4466c26", func := "breviary/breviarylaw06.FrameUnlike", spec := "frameUnlike", unfollowed := true, recurses := true, apart := false }
def FrameUnlikeSaid : Prop := frameUnlikeRow.holds Try.pinned (OpenSpec.ofChange frameUnlikeSpec)

/-- ITS FALSE NEIGHBOUR: 'it returns false'. Refute it at one input. -/
def frameUnlikeWrong : ChangeSpec := { name := "frameUnlike", fn := fun _ => fun
  | [d1, d2] => { results := [.lit (.bool false)], args := [d1, d2] }
  | _ => none }
def FrameUnlikeWrongFalsely : Prop := frameUnlikeRow.holds Try.pinned (OpenSpec.ofChange frameUnlikeWrong)

/- THE SECOND FORM. 'bulk': how many values and letters a reading holds, each counted each time it is reached (what is shared counts as often as it is met; a slice's spare places count too). A statement '..UptoSaid' is the law's where the arguments, and the package variables that the reading takes, are together of bulk at most 1048576: NARROWER than '..Said'. Prove '..Said' where nothing that the law and all that it calls make is longer than what came in: it says more and counts as full. Else prove '..UptoSaid'. A law counts once. -/
mutual
def uptoBulk {H : Type} : DataW H → Nat
  | .lit (.string bytes) => bytes.length + 1
  | .lit _ => 1
  | .nil => 1
  | .ptr d => uptoBulk d + 1
  | .slice elems spare => uptoBulkAll elems + uptoBulkAll spare + 1
  | .agg parts => uptoBulkAll parts + 1
  | .iface _ d => uptoBulk d + 1
  | .map entries => uptoBulkEntries entries + 1
  | .held _ => 1
def uptoBulkAll {H : Type} : List (DataW H) → Nat
  | [] => 0
  | d :: r => uptoBulk d + uptoBulkAll r
def uptoBulkEntries {H : Type} : List (Lit × DataW H) → Nat
  | [] => 0
  | x :: r => uptoBulkEntry x + uptoBulkEntries r
def uptoBulkEntry {H : Type} : Lit × DataW H → Nat
  | (.string bytes, d) => bytes.length + uptoBulk d + 1
  | (_, d) => uptoBulk d + 1
 end
def uptoSmall : (H : Type) → List (DataW H) → Bool := fun _ ds => decide (uptoBulkAll ds ≤ 1048576)
def OpenSpec.upto (s : _root_.Go.ChangeSpec) : _root_.Go.OpenSpec := { _root_.Go.OpenSpec.ofChange s with cond := some uptoSmall }

/-- 'breviarylaw10.ImagePlays', WHERE WHAT IT READS IS OF BULK AT MOST 1048576: true; the input reads as it did. -/
def imagePlaysUptoRow : OpenClaim := { program := "ytjmlcodlnohgdaa", sum := "1f74bdd1908c2f87fa0c22b6f0bbe5d06bfe881cf11856aba52f1659e4466c26", func := "breviary/breviarylaw10.ImagePlays", spec := "imagePlays", unfollowed := true, recurses := true, apart := false, narrowed := true }
def ImagePlaysUptoSaid : Prop := imagePlaysUptoRow.holds Try.pinned (OpenSpec.upto imagePlaysSpec)

/-- 'breviarylaw10.ImageStays', WHERE WHAT IT READS IS OF BULK AT MOST 1048576: true; the input reads as it did. -/
def imageStaysUptoRow : OpenClaim := { program := "ytjmlcodlnohgdaa", sum := "1f74bdd1908c2f87fa0c22b6f0bbe5d06bfe881cf11856aba52f1659e4466c26", func := "breviary/breviarylaw10.ImageStays", spec := "imageStays", unfollowed := true, recurses := true, apart := false, narrowed := true }
def ImageStaysUptoSaid : Prop := imageStaysUptoRow.holds Try.pinned (OpenSpec.upto imageStaysSpec)

/-- 'breviarylaw10.ImageJoins', WHERE WHAT IT READS IS OF BULK AT MOST 1048576: true; the input reads as it did. -/
def imageJoinsUptoRow : OpenClaim := { program := "ytjmlcodlnohgdaa", sum := "1f74bdd1908c2f87fa0c22b6f0bbe5d06bfe881cf11856aba52f1659e4466c26", func := "breviary/breviarylaw10.ImageJoins", spec := "imageJoins", unfollowed := true, recurses := true, apart := false, narrowed := true }
def ImageJoinsUptoSaid : Prop := imageJoinsUptoRow.holds Try.pinned (OpenSpec.upto imageJoinsSpec)

/-- 'breviarylaw10.ImageFrom', WHERE WHAT IT READS IS OF BULK AT MOST 1048576: true; the input reads as it did. -/
def imageFromUptoRow : OpenClaim := { program := "ytjmlcodlnohgdaa", sum := "1f74bdd1908c2f87fa0c22b6f0bbe5d06bfe881cf11856aba52f1659e4466c26", func := "breviary/breviarylaw10.ImageFrom", spec := "imageFrom", unfollowed := true, recurses := true, apart := false, narrowed := true }
def ImageFromUptoSaid : Prop := imageFromUptoRow.holds Try.pinned (OpenSpec.upto imageFromSpec)

/-- 'breviarylaw01.DevLast', WHERE WHAT IT READS IS OF BULK AT MOST 1048576: true; the input reads as it did. -/
def devLastUptoRow : OpenClaim := { program := "ytjmlcodlnohgdaa", sum := "1f74bdd1908c2f87fa0c22b6f0bbe5d06bfe881cf11856aba52f1659e4466c26", func := "breviary/breviarylaw01.DevLast", spec := "devLast", unfollowed := true, recurses := true, apart := false, narrowed := true }
def DevLastUptoSaid : Prop := devLastUptoRow.holds Try.pinned (OpenSpec.upto devLastSpec)

/-- 'breviarylaw01.DevKeeps', WHERE WHAT IT READS IS OF BULK AT MOST 1048576: true; the input reads as it did. -/
def devKeepsUptoRow : OpenClaim := { program := "ytjmlcodlnohgdaa", sum := "1f74bdd1908c2f87fa0c22b6f0bbe5d06bfe881cf11856aba52f1659e4466c26", func := "breviary/breviarylaw01.DevKeeps", spec := "devKeeps", unfollowed := true, recurses := true, apart := false, narrowed := true }
def DevKeepsUptoSaid : Prop := devKeepsUptoRow.holds Try.pinned (OpenSpec.upto devKeepsSpec)

/-- 'breviarylaw01.DevPlays', WHERE WHAT IT READS IS OF BULK AT MOST 1048576: true; the input reads as it did. -/
def devPlaysUptoRow : OpenClaim := { program := "ytjmlcodlnohgdaa", sum := "1f74bdd1908c2f87fa0c22b6f0bbe5d06bfe881cf11856aba52f1659e4466c26", func := "breviary/breviarylaw01.DevPlays", spec := "devPlays", unfollowed := true, recurses := true, apart := false, narrowed := true }
def DevPlaysUptoSaid : Prop := devPlaysUptoRow.holds Try.pinned (OpenSpec.upto devPlaysSpec)

/-- 'breviarylaw38.ShrinkTells', WHERE WHAT IT READS IS OF BULK AT MOST 1048576: true; the input reads as it did. -/
def shrinkTellsUptoRow : OpenClaim := { program := "ytjmlcodlnohgdaa", sum := "1f74bdd1908c2f87fa0c22b6f0bbe5d06bfe881cf11856aba52f1659e4466c26", func := "breviary/breviarylaw38.ShrinkTells", spec := "shrinkTells", inPlace := ["internal/bytealg.MakeNoZero"], apart := false, narrowed := true }
def ShrinkTellsUptoSaid : Prop := shrinkTellsUptoRow.holds Try.pinned (OpenSpec.upto shrinkTellsSpec)

/-- 'breviarylaw38.ShrinkDeltas', WHERE WHAT IT READS IS OF BULK AT MOST 1048576: true; the input reads as it did. -/
def shrinkDeltasUptoRow : OpenClaim := { program := "ytjmlcodlnohgdaa", sum := "1f74bdd1908c2f87fa0c22b6f0bbe5d06bfe881cf11856aba52f1659e4466c26", func := "breviary/breviarylaw38.ShrinkDeltas", spec := "shrinkDeltas", inPlace := ["internal/bytealg.MakeNoZero"], apart := false, narrowed := true }
def ShrinkDeltasUptoSaid : Prop := shrinkDeltasUptoRow.holds Try.pinned (OpenSpec.upto shrinkDeltasSpec)

/-- 'breviarylaw38.ShrinkBack', WHERE WHAT IT READS IS OF BULK AT MOST 1048576: true; the input reads as it did. -/
def shrinkBackUptoRow : OpenClaim := { program := "ytjmlcodlnohgdaa", sum := "1f74bdd1908c2f87fa0c22b6f0bbe5d06bfe881cf11856aba52f1659e4466c26", func := "breviary/breviarylaw38.ShrinkBack", spec := "shrinkBack", inPlace := ["internal/bytealg.MakeNoZero"], apart := false, narrowed := true }
def ShrinkBackUptoSaid : Prop := shrinkBackUptoRow.holds Try.pinned (OpenSpec.upto shrinkBackSpec)

/-- 'breviarylaw06.FrameTells', WHERE WHAT IT READS IS OF BULK AT MOST 1048576: true; the input reads as it did. -/
def frameTellsUptoRow : OpenClaim := { program := "ytjmlcodlnohgdaa", sum := "1f74bdd1908c2f87fa0c22b6f0bbe5d06bfe881cf11856aba52f1659e4466c26", func := "breviary/breviarylaw06.FrameTells", spec := "frameTells", unfollowed := true, recurses := true, apart := false, narrowed := true }
def FrameTellsUptoSaid : Prop := frameTellsUptoRow.holds Try.pinned (OpenSpec.upto frameTellsSpec)

/-- 'breviarylaw06.FrameBack', WHERE WHAT IT READS IS OF BULK AT MOST 1048576: true; the input reads as it did. -/
def frameBackUptoRow : OpenClaim := { program := "ytjmlcodlnohgdaa", sum := "1f74bdd1908c2f87fa0c22b6f0bbe5d06bfe881cf11856aba52f1659e4466c26", func := "breviary/breviarylaw06.FrameBack", spec := "frameBack", unfollowed := true, recurses := true, apart := false, narrowed := true }
def FrameBackUptoSaid : Prop := frameBackUptoRow.holds Try.pinned (OpenSpec.upto frameBackSpec)

/-- 'breviarylaw06.FrameUnlike', WHERE WHAT IT READS IS OF BULK AT MOST 1048576: true; the input reads as it did. -/
def frameUnlikeUptoRow : OpenClaim := { program := "ytjmlcodlnohgdaa", sum := "1f74bdd1908c2f87fa0c22b6f0bbe5d06bfe881cf11856aba52f1659e4466c26", func := "breviary/breviarylaw06.FrameUnlike", spec := "frameUnlike", unfollowed := true, recurses := true, apart := false, narrowed := true }
def FrameUnlikeUptoSaid : Prop := frameUnlikeUptoRow.holds Try.pinned (OpenSpec.upto frameUnlikeSpec)

end Rows
end Go.Proofs.Ytjmlcodlnohgdaa
