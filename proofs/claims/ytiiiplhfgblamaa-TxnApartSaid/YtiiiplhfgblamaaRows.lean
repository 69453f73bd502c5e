/-
  No cell of these rows narrows 'for every input' (looked for: loops, veiled, ifaces, maps, wideKeys, modest, calm, conditions, laid).
  DERIVED. THE GIVEN ROWS OF THIS SEAT. 9 by the template 'for every input the law returns true; each argument reads behind the call as it read before'; 0 by the template 'total and deterministic' (their statements: YtiiiplhfgblamaaTotals.lean).
  GIVEN WITH THE SEED: the statements are not yours to turn. If you find one false, say at which input.
  Laid BY PROGRAM, IN A SANDBOX (cutbox-rows.mjs): the forced cells as the released guide's own fill.sh prints them over the translation b3577aee06f0583f… (all of the seat's roots in one cut). By AI agents, Wed Nov 11 2026. No macro, syntax, notation, axiom, sorry.
-/
import Derived.Test.YtiiiplhfgblamaaChecked
import GoSem.Claim
import GoSem.ClaimJoined
import GoSem.ClaimMapViews
import Derived.JoinedTies
import Derived.KernelRfl
namespace Go.Proofs.Ytiiiplhfgblamaa
/- THE CELL 'sum', in the pinned program and in every row, IS THE sha256 OF THE DUMP (.gsa) THAT YtiiiplhfgblamaaProg.lean LOADS. Nothing in Lean hashes anything: it is a label: what it is worth is what the hold of that sum in a sandbox is worth. -/
noncomputable def Try.pinned : Pinned := { name := "ytiiiplhfgblamaa", sum := "b3577aee06f0583f041f9e8af6d88935c02c22d8e2142c5ae636a089897b250e", checked := Try.checked }
namespace Rows
def none {H : Type} : Left H := { results := [], args := [] }

/-- 'breviarylaw07.RecordTells': WHATEVER THE INPUT: true; the input reads as it did. -/
def recordTellsSpec : ChangeSpec := { name := "recordTells", fn := fun _ => fun
  | [d1, d2, d3] => { results := [.lit (.bool true)], args := [d1, d2, d3] }
  | _ => none }
def recordTellsRow : OpenClaim := { program := "ytiiiplhfgblamaa", sum := "b3577aee06f0583f041f9e8af6d88935c02c22d8e2142c5ae636a089897b250e", func := "breviary/breviarylaw07.RecordTells", spec := "recordTells", inPlace := ["slices.overlaps[breviary/order.pair[int, []byte]]"], unfollowed := true, recurses := true, apart := false }
def RecordTellsSaid : Prop := recordTellsRow.holds Try.pinned (OpenSpec.ofChange recordTellsSpec)

/-- ITS FALSE NEIGHBOUR: 'it returns false'. Refute it at one input. -/
def recordTellsWrong : ChangeSpec := { name := "recordTells", fn := fun _ => fun
  | [d1, d2, d3] => { results := [.lit (.bool false)], args := [d1, d2, d3] }
  | _ => none }
def RecordTellsWrongFalsely : Prop := recordTellsRow.holds Try.pinned (OpenSpec.ofChange recordTellsWrong)

/-- 'breviarylaw07.RecordMerges': WHATEVER THE INPUT: true; the input reads as it did. -/
def recordMergesSpec : ChangeSpec := { name := "recordMerges", fn := fun _ => fun
  | [d] => { results := [.lit (.bool true)], args := [d] }
  | _ => none }
def recordMergesRow : OpenClaim := { program := "ytiiiplhfgblamaa", sum := "b3577aee06f0583f041f9e8af6d88935c02c22d8e2142c5ae636a089897b250e", func := "breviary/breviarylaw07.RecordMerges", spec := "recordMerges", inPlace := ["slices.overlaps[breviary/order.pair[int, []byte]]"], unfollowed := true, recurses := true, apart := false }
def RecordMergesSaid : Prop := recordMergesRow.holds Try.pinned (OpenSpec.ofChange recordMergesSpec)

/-- ITS FALSE NEIGHBOUR: 'it returns false'. Refute it at one input. -/
def recordMergesWrong : ChangeSpec := { name := "recordMerges", fn := fun _ => fun
  | [d] => { results := [.lit (.bool false)], args := [d] }
  | _ => none }
def RecordMergesWrongFalsely : Prop := recordMergesRow.holds Try.pinned (OpenSpec.ofChange recordMergesWrong)

/-- 'breviarylaw07.RecordBack': WHATEVER THE INPUT: true; the input reads as it did. -/
def recordBackSpec : ChangeSpec := { name := "recordBack", fn := fun _ => fun
  | [d1, d2] => { results := [.lit (.bool true)], args := [d1, d2] }
  | _ => none }
def recordBackRow : OpenClaim := { program := "ytiiiplhfgblamaa", sum := "b3577aee06f0583f041f9e8af6d88935c02c22d8e2142c5ae636a089897b250e", func := "breviary/breviarylaw07.RecordBack", spec := "recordBack", inPlace := ["slices.overlaps[breviary/order.pair[int, []byte]]"], unfollowed := true, recurses := true, apart := false }
def RecordBackSaid : Prop := recordBackRow.holds Try.pinned (OpenSpec.ofChange recordBackSpec)

/-- ITS FALSE NEIGHBOUR: 'it returns false'. Refute it at one input. -/
def recordBackWrong : ChangeSpec := { name := "recordBack", fn := fun _ => fun
  | [d1, d2] => { results := [.lit (.bool false)], args := [d1, d2] }
  | _ => none }
def RecordBackWrongFalsely : Prop := recordBackRow.holds Try.pinned (OpenSpec.ofChange recordBackWrong)

/-- 'breviarylaw07.RecordJoins': WHATEVER THE INPUT: true; the input reads as it did. -/
def recordJoinsSpec : ChangeSpec := { name := "recordJoins", fn := fun _ => fun
  | [d1, d2, d3] => { results := [.lit (.bool true)], args := [d1, d2, d3] }
  | _ => none }
def recordJoinsRow : OpenClaim := { program := "ytiiiplhfgblamaa", sum := "b3577aee06f0583f041f9e8af6d88935c02c22d8e2142c5ae636a089897b250e", func := "breviary/breviarylaw07.RecordJoins", spec := "recordJoins", inPlace := ["slices.overlaps[breviary/order.pair[int, []byte]]"], unfollowed := true, recurses := true, apart := false }
def RecordJoinsSaid : Prop := recordJoinsRow.holds Try.pinned (OpenSpec.ofChange recordJoinsSpec)

/-- ITS FALSE NEIGHBOUR: 'it returns false'. Refute it at one input. -/
def recordJoinsWrong : ChangeSpec := { name := "recordJoins", fn := fun _ => fun
  | [d1, d2, d3] => { results := [.lit (.bool false)], args := [d1, d2, d3] }
  | _ => none }
def RecordJoinsWrongFalsely : Prop := recordJoinsRow.holds Try.pinned (OpenSpec.ofChange recordJoinsWrong)

/-- 'breviarylaw13.TxnApart': WHATEVER THE INPUT: true; the input reads as it did. -/
def txnApartSpec : ChangeSpec := { name := "txnApart", fn := fun _ => fun
  | [d] => { results := [.lit (.bool true)], args := [d] }
  | _ => none }
def txnApartRow : OpenClaim := { program := "ytiiiplhfgblamaa", sum := "b3577aee06f0583f041f9e8af6d88935c02c22d8e2142c5ae636a089897b250e", func := "breviary/breviarylaw13.TxnApart", spec := "txnApart", inPlace := ["slices.overlaps[breviary/order.pair[int, []breviary/api.Write]]", "slices.overlaps[breviary/order.pair[int, []byte]]"], unfollowed := true, recurses := true, apart := false }
def TxnApartSaid : Prop := txnApartRow.holds Try.pinned (OpenSpec.ofChange txnApartSpec)

/-- ITS FALSE NEIGHBOUR: 'it returns false'. Refute it at one input. -/
def txnApartWrong : ChangeSpec := { name := "txnApart", fn := fun _ => fun
  | [d] => { results := [.lit (.bool false)], args := [d] }
  | _ => none }
def TxnApartWrongFalsely : Prop := txnApartRow.holds Try.pinned (OpenSpec.ofChange txnApartWrong)

/-- 'breviarylaw13.TxnWrites': WHATEVER THE INPUT: true; the input reads as it did. -/
def txnWritesSpec : ChangeSpec := { name := "txnWrites", fn := fun _ => fun
  | [d] => { results := [.lit (.bool true)], args := [d] }
  | _ => none }
def txnWritesRow : OpenClaim := { program := "ytiiiplhfgblamaa", sum := "b3577aee06f0583f041f9e8af6d88935c02c22d8e2142c5ae636a089897b250e", func := "breviary/breviarylaw13.TxnWrites", spec := "txnWrites", inPlace := ["slices.overlaps[breviary/order.pair[int, []breviary/api.Write]]", "slices.overlaps[breviary/order.pair[int, []byte]]"], unfollowed := true, recurses := true, apart := false }
def TxnWritesSaid : Prop := txnWritesRow.holds Try.pinned (OpenSpec.ofChange txnWritesSpec)

/-- ITS FALSE NEIGHBOUR: 'it returns false'. Refute it at one input. -/
def txnWritesWrong : ChangeSpec := { name := "txnWrites", fn := fun _ => fun
  | [d] => { results := [.lit (.bool false)], args := [d] }
  | _ => none }
def TxnWritesWrongFalsely : Prop := txnWritesRow.holds Try.pinned (OpenSpec.ofChange txnWritesWrong)

/-- 'breviarylaw13.TxnPlays': WHATEVER THE INPUT: true; the input reads as it did. -/
def txnPlaysSpec : ChangeSpec := { name := "txnPlays", fn := fun _ => fun
  | [d1, d2] => { results := [.lit (.bool true)], args := [d1, d2] }
  | _ => none }
def txnPlaysRow : OpenClaim := { program := "ytiiiplhfgblamaa", sum := "b3577aee06f0583f041f9e8af6d88935c02c22d8e2142c5ae636a089897b250e", func := "breviary/breviarylaw13.TxnPlays", spec := "txnPlays", inPlace := ["slices.overlaps[breviary/order.pair[int, []breviary/api.Write]]", "slices.overlaps[breviary/order.pair[int, []byte]]"], unfollowed := true, recurses := true, apart := false }
def TxnPlaysSaid : Prop := txnPlaysRow.holds Try.pinned (OpenSpec.ofChange txnPlaysSpec)

/-- ITS FALSE NEIGHBOUR: 'it returns false'. Refute it at one input. -/
def txnPlaysWrong : ChangeSpec := { name := "txnPlays", fn := fun _ => fun
  | [d1, d2] => { results := [.lit (.bool false)], args := [d1, d2] }
  | _ => none }
def TxnPlaysWrongFalsely : Prop := txnPlaysRow.holds Try.pinned (OpenSpec.ofChange txnPlaysWrong)

/-- 'breviarylaw44.DigestTells': WHATEVER THE INPUT: true; the input reads as it did. -/
def digestTellsSpec : ChangeSpec := { name := "digestTells", fn := fun _ => fun
  | [d1, d2, d3] => { results := [.lit (.bool true)], args := [d1, d2, d3] }
  | _ => none }
def digestTellsRow : OpenClaim := { program := "ytiiiplhfgblamaa", sum := "b3577aee06f0583f041f9e8af6d88935c02c22d8e2142c5ae636a089897b250e", func := "breviary/breviarylaw44.DigestTells", spec := "digestTells", unfollowed := true, recurses := true, apart := false }
def DigestTellsSaid : Prop := digestTellsRow.holds Try.pinned (OpenSpec.ofChange digestTellsSpec)

/-- ITS FALSE NEIGHBOUR: 'it returns false'. Refute it at one input. -/
def digestTellsWrong : ChangeSpec := { name := "digestTells", fn := fun _ => fun
  | [d1, d2, d3] => { results := [.lit (.bool false)], args := [d1, d2, d3] }
  | _ => none }
def DigestTellsWrongFalsely : Prop := digestTellsRow.holds Try.pinned (OpenSpec.ofChange digestTellsWrong)

/-- 'breviarylaw44.DigestProves': WHATEVER THE INPUT: true; the input reads as it did. -/
def digestProvesSpec : ChangeSpec := { name := "digestProves", fn := fun _ => fun
  | [d1, d2] => { results := [.lit (.bool true)], args := [d1, d2] }
  | _ => none }
def digestProvesRow : OpenClaim := { program := "ytiiiplhfgblamaa", sum := "b3577aee06f0583f041f9e8af6d88935c02c22d8e2142c5ae636a089897b250e", func := "breviary/breviarylaw44.DigestProves", spec := "digestProves", unfollowed := true, recurses := true, apart := false }
def DigestProvesSaid : Prop := digestProvesRow.holds Try.pinned (OpenSpec.ofChange digestProvesSpec)

/-- ITS FALSE NEIGHBOUR: 'it returns false'. Refute it at one input. -/
def digestProvesWrong : ChangeSpec := { name := "digestProves", fn := fun _ => fun
  | [d1, d2] => { results := [.lit (.bool false)], args := [d1, d2] }
  | _ => none }
def DigestProvesWrongFalsely : Prop := digestProvesRow.holds Try.pinned (OpenSpec.ofChange digestProvesWrong)

/- THE SECOND FORM. 'bulk': how many values and letters a reading holds, each counted each time it is reached (what is shared counts as often as it is met; a slice's spare places count too). A statement '..UptoSaid' is the law's where the arguments, and the package variables that the reading takes, are together of bulk at most 1048576: NARROWER than '..Said'. Prove '..Said' where nothing that the law and all that it calls make is longer than what came in: it says more and counts as full. Else prove '..UptoSaid'. A law counts once. -/
mutual
def uptoBulk {H : Type} : DataW H → Nat
  | .lit (.string bytes) => bytes.length + 1
  | .lit _ => 1
  | .nil => 1
  | .ptr d => uptoBulk d + 1
  | .slice elems spare => uptoBulkAll elems + uptoBulkAll spare + 1
  | .agg parts => uptoBulkAll parts + 1
  | .iface _ d => uptoBulk d + 1
  | .map entries => uptoBulkEntries entries + 1
  | .held _ => 1
def uptoBulkAll {H : Type} : List (DataW H) → Nat
  | [] => 0
  | d :: r => uptoBulk d + uptoBulkAll r
def uptoBulkEntries {H : Type} : List (Lit × DataW H) → Nat
  | [] => 0
  | x :: r => uptoBulkEntry x + uptoBulkEntries r
def uptoBulkEntry {H : Type} : Lit × DataW H → Nat
  | (.string bytes, d) => bytes.length + uptoBulk d + 1
  | (_, d) => uptoBulk d + 1
 end
def uptoSmall : (H : Type) → List (DataW H) → Bool := fun _ ds => decide (uptoBulkAll ds ≤ 1048576)
def OpenSpec.upto (s : _root_.Go.ChangeSpec) : _root_.Go.OpenSpec := { _root_.Go.OpenSpec.ofChange s with cond := some uptoSmall }

/-- 'breviarylaw07.RecordTells', WHERE WHAT IT READS IS OF BULK AT MOST 1048576: true; the input reads as it did. -/
def recordTellsUptoRow : OpenClaim := { program := "ytiiiplhfgblamaa", sum := "b3577aee06f0583f041f9e8af6d88935c02c22d8e2142c5ae636a089897b250e", func := "breviary/breviarylaw07.RecordTells", spec := "recordTells", inPlace := ["slices.overlaps[breviary/order.pair[int, []byte]]"], unfollowed := true, recurses := true, apart := false, narrowed := true }
def RecordTellsUptoSaid : Prop := recordTellsUptoRow.holds Try.pinned (OpenSpec.upto recordTellsSpec)

/-- 'breviarylaw07.RecordMerges', WHERE WHAT IT READS IS OF BULK AT MOST 1048576: true; the input reads as it did. -/
def recordMergesUptoRow : OpenClaim := { program := "ytiiiplhfgblamaa", sum := "b3577aee06f0583f041f9e8af6d88935c02c22d8e2142c5ae636a089897b250e", func := "breviary/breviarylaw07.RecordMerges", spec := "recordMerges", inPlace := ["slices.overlaps[breviary/order.pair[int, []byte]]"], unfollowed := true, recurses := true, apart := false, narrowed := true }
def RecordMergesUptoSaid : Prop := recordMergesUptoRow.holds Try.pinned (OpenSpec.upto recordMergesSpec)

/-- 'breviarylaw07.RecordBack', WHERE WHAT IT READS IS OF BULK AT MOST 1048576: true; the input reads as it did. -/
def recordBackUptoRow : OpenClaim := { program := "ytiiiplhfgblamaa", sum := "b3577aee06f0583f041f9e8af6d88935c02c22d8e2142c5ae636a089897b250e", func := "breviary/breviarylaw07.RecordBack", spec := "recordBack", inPlace := ["slices.overlaps[breviary/order.pair[int, []byte]]"], unfollowed := true, recurses := true, apart := false, narrowed := true }
def RecordBackUptoSaid : Prop := recordBackUptoRow.holds Try.pinned (OpenSpec.upto recordBackSpec)

/-- 'breviarylaw07.RecordJoins', WHERE WHAT IT READS IS OF BULK AT MOST 1048576: true; the input reads as it did. -/
def recordJoinsUptoRow : OpenClaim := { program := "ytiiiplhfgblamaa", sum := "b3577aee06f0583f041f9e8af6d88935c02c22d8e2142c5ae636a089897b250e", func := "breviary/breviarylaw07.RecordJoins", spec := "recordJoins", inPlace := ["slices.overlaps[breviary/order.pair[int, []byte]]"], unfollowed := true, recurses := true, apart := false, narrowed := true }
def RecordJoinsUptoSaid : Prop := recordJoinsUptoRow.holds Try.pinned (OpenSpec.upto recordJoinsSpec)

/-- 'breviarylaw13.TxnApart', WHERE WHAT IT READS IS OF BULK AT MOST 1048576: true; the input reads as it did. -/
def txnApartUptoRow : OpenClaim := { program := "ytiiiplhfgblamaa", sum := "b3577aee06f0583f041f9e8af6d88935c02c22d8e2142c5ae636a089897b250e", func := "breviary/breviarylaw13.TxnApart", spec := "txnApart", inPlace := ["slices.overlaps[breviary/order.pair[int, []breviary/api.Write]]", "slices.overlaps[breviary/order.pair[int, []byte]]"], unfollowed := true, recurses := true, apart := false, narrowed := true }
def TxnApartUptoSaid : Prop := txnApartUptoRow.holds Try.pinned (OpenSpec.upto txnApartSpec)

/-- 'breviarylaw13.TxnWrites', WHERE WHAT IT READS IS OF BULK AT MOST 1048576: true; the input reads as it did. -/
def txnWritesUptoRow : OpenClaim := { program := "ytiiiplhfgblamaa", sum := "b3577aee06f0583f041f9e8af6d88935c02c22d8e2142c5ae636a089897b250e", func := "breviary/breviarylaw13.TxnWrites", spec := "txnWrites", inPlace := ["slices.overlaps[breviary/order.pair[int, []breviary/api.Write]]", "slices.overlaps[breviary/order.pair[int, []byte]]"], unfollowed := true, recurses := true, apart := false, narrowed := true }
def TxnWritesUptoSaid : Prop := txnWritesUptoRow.holds Try.pinned (OpenSpec.upto txnWritesSpec)

/-- 'breviarylaw13.TxnPlays', WHERE WHAT IT READS IS OF BULK AT MOST 1048576: true; the input reads as it did. -/
def txnPlaysUptoRow : OpenClaim := { program := "ytiiiplhfgblamaa", sum := "b3577aee06f0583f041f9e8af6d88935c02c22d8e2142c5ae636a089897b250e", func := "breviary/breviarylaw13.TxnPlays", spec := "txnPlays", inPlace := ["slices.overlaps[breviary/order.pair[int, []breviary/api.Write]]", "slices.overlaps[breviary/order.pair[int, []byte]]"], unfollowed := true, recurses := true, apart := false, narrowed := true }
def TxnPlaysUptoSaid : Prop := txnPlaysUptoRow.holds Try.pinned (OpenSpec.upto txnPlaysSpec)

/-- 'breviarylaw44.DigestTells', WHERE WHAT IT READS IS OF BULK AT MOST 1048576: true; the input reads as it did. -/
def digestTellsUptoRow : OpenClaim := { program := "ytiiiplhfgblamaa", sum := "b3577aee06f0583f041f9e8af6d88935c02c22d8e2142c5ae636a089897b250e", func := "breviary/breviarylaw44.DigestTells", spec := "digestTells", unfollowed := true, recurses := true, apart := false, narrowed := true }
def DigestTellsUptoSaid : Prop := digestTellsUptoRow.holds Try.pinned (OpenSpec.upto digestTellsSpec)

/-- 'breviarylaw44.DigestProves', WHERE WHAT IT READS IS OF BULK AT MOST 1048576: true; the input reads as it did. -/
def digestProvesUptoRow : OpenClaim := { program := "ytiiiplhfgblamaa", sum := "b3577aee06f0583f041f9e8af6d88935c02c22d8e2142c5ae636a089897b250e", func := "breviary/breviarylaw44.DigestProves", spec := "digestProves", unfollowed := true, recurses := true, apart := false, narrowed := true }
def DigestProvesUptoSaid : Prop := digestProvesUptoRow.holds Try.pinned (OpenSpec.upto digestProvesSpec)

end Rows
end Go.Proofs.Ytiiiplhfgblamaa
