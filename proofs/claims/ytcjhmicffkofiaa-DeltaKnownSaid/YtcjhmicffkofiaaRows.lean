/-
  No cell of these rows narrows 'for every input' (looked for: loops, veiled, ifaces, maps, wideKeys, modest, calm, conditions, laid).
  DERIVED. THE GIVEN ROWS OF THIS SEAT. 5 by the template 'for every input the law returns true; each argument reads behind the call as it read before'; 0 by the template 'total and deterministic' (their statements: YtcjhmicffkofiaaTotals.lean).
  GIVEN WITH THE SEED: the statements are not yours to turn. If you find one false, say at which input.
  Laid BY PROGRAM, IN A SANDBOX (cutbox-rows.mjs): the forced cells as the released guide's own fill.sh prints them over the translation 6ead61988191f6a6… (all of the seat's roots in one cut). By AI agents, Wed Nov 11 2026. No macro, syntax, notation, axiom, sorry.
-/
import Derived.Test.YtcjhmicffkofiaaChecked
import GoSem.Claim
import GoSem.ClaimJoined
import GoSem.ClaimMapViews
import Derived.JoinedTies
import Derived.KernelRfl
namespace Go.Proofs.Ytcjhmicffkofiaa
/- THE CELL 'sum', in the pinned program and in every row, IS THE sha256 OF THE DUMP (.gsa) THAT YtcjhmicffkofiaaProg.lean LOADS. Nothing in Lean hashes anything: it is a label: what it is worth is what the hold of that sum in a sandbox is worth. -/
noncomputable def Try.pinned : Pinned := { name := "ytcjhmicffkofiaa", sum := "6ead61988191f6a699016b15c425323936208d5bc1622166c39b34ff37266dd8", checked := Try.checked }
namespace Rows
def none {H : Type} : Left H := { results := [], args := [] }

/-- 'ferrulelaw11.DeltaKnown': WHATEVER THE INPUT: true; the input reads as it did. -/
def deltaKnownSpec : ChangeSpec := { name := "deltaKnown", fn := fun _ => fun
  | [] => { results := [.lit (.bool true)], args := [] }
  | _ => none }
def deltaKnownRow : OpenClaim := { program := "ytcjhmicffkofiaa", sum := "6ead61988191f6a699016b15c425323936208d5bc1622166c39b34ff37266dd8", func := "ferrule/ferrulelaw11.DeltaKnown", spec := "deltaKnown", apart := false }
def DeltaKnownSaid : Prop := deltaKnownRow.holds Try.pinned (OpenSpec.ofChange deltaKnownSpec)

/-- ITS FALSE NEIGHBOUR: 'it returns false'. Refute it at one input. -/
def deltaKnownWrong : ChangeSpec := { name := "deltaKnown", fn := fun _ => fun
  | [] => { results := [.lit (.bool false)], args := [] }
  | _ => none }
def DeltaKnownWrongFalsely : Prop := deltaKnownRow.holds Try.pinned (OpenSpec.ofChange deltaKnownWrong)

/-- 'ferrulelaw11.DeltaRecords': WHATEVER THE INPUT: true; the input reads as it did. -/
def deltaRecordsSpec : ChangeSpec := { name := "deltaRecords", fn := fun _ => fun
  | [d] => { results := [.lit (.bool true)], args := [d] }
  | _ => none }
def deltaRecordsRow : OpenClaim := { program := "ytcjhmicffkofiaa", sum := "6ead61988191f6a699016b15c425323936208d5bc1622166c39b34ff37266dd8", func := "ferrule/ferrulelaw11.DeltaRecords", spec := "deltaRecords", recurses := true, apart := false }
def DeltaRecordsSaid : Prop := deltaRecordsRow.holds Try.pinned (OpenSpec.ofChange deltaRecordsSpec)

/-- ITS FALSE NEIGHBOUR: 'it returns false'. Refute it at one input. -/
def deltaRecordsWrong : ChangeSpec := { name := "deltaRecords", fn := fun _ => fun
  | [d] => { results := [.lit (.bool false)], args := [d] }
  | _ => none }
def DeltaRecordsWrongFalsely : Prop := deltaRecordsRow.holds Try.pinned (OpenSpec.ofChange deltaRecordsWrong)

/-- 'ferrulelaw11.DeltaReads': WHATEVER THE INPUT: true; the input reads as it did. -/
def deltaReadsSpec : ChangeSpec := { name := "deltaReads", fn := fun _ => fun
  | [d1, d2, d3, d4, d5, d6] => { results := [.lit (.bool true)], args := [d1, d2, d3, d4, d5, d6] }
  | _ => none }
def deltaReadsRow : OpenClaim := { program := "ytcjhmicffkofiaa", sum := "6ead61988191f6a699016b15c425323936208d5bc1622166c39b34ff37266dd8", func := "ferrule/ferrulelaw11.DeltaReads", spec := "deltaReads", recurses := true, apart := false }
def DeltaReadsSaid : Prop := deltaReadsRow.holds Try.pinned (OpenSpec.ofChange deltaReadsSpec)

/-- ITS FALSE NEIGHBOUR: 'it returns false'. Refute it at one input. -/
def deltaReadsWrong : ChangeSpec := { name := "deltaReads", fn := fun _ => fun
  | [d1, d2, d3, d4, d5, d6] => { results := [.lit (.bool false)], args := [d1, d2, d3, d4, d5, d6] }
  | _ => none }
def DeltaReadsWrongFalsely : Prop := deltaReadsRow.holds Try.pinned (OpenSpec.ofChange deltaReadsWrong)

/-- 'ferrulelaw11.DeltaSnapshots': WHATEVER THE INPUT: true; the input reads as it did. -/
def deltaSnapshotsSpec : ChangeSpec := { name := "deltaSnapshots", fn := fun _ => fun
  | [d1, d2] => { results := [.lit (.bool true)], args := [d1, d2] }
  | _ => none }
def deltaSnapshotsRow : OpenClaim := { program := "ytcjhmicffkofiaa", sum := "6ead61988191f6a699016b15c425323936208d5bc1622166c39b34ff37266dd8", func := "ferrule/ferrulelaw11.DeltaSnapshots", spec := "deltaSnapshots", recurses := true, apart := false }
def DeltaSnapshotsSaid : Prop := deltaSnapshotsRow.holds Try.pinned (OpenSpec.ofChange deltaSnapshotsSpec)

/-- ITS FALSE NEIGHBOUR: 'it returns false'. Refute it at one input. -/
def deltaSnapshotsWrong : ChangeSpec := { name := "deltaSnapshots", fn := fun _ => fun
  | [d1, d2] => { results := [.lit (.bool false)], args := [d1, d2] }
  | _ => none }
def DeltaSnapshotsWrongFalsely : Prop := deltaSnapshotsRow.holds Try.pinned (OpenSpec.ofChange deltaSnapshotsWrong)

/-- 'ferrulelaw11.DeltaShort': WHATEVER THE INPUT: true; the input reads as it did. -/
def deltaShortSpec : ChangeSpec := { name := "deltaShort", fn := fun _ => fun
  | [d] => { results := [.lit (.bool true)], args := [d] }
  | _ => none }
def deltaShortRow : OpenClaim := { program := "ytcjhmicffkofiaa", sum := "6ead61988191f6a699016b15c425323936208d5bc1622166c39b34ff37266dd8", func := "ferrule/ferrulelaw11.DeltaShort", spec := "deltaShort", apart := false }
def DeltaShortSaid : Prop := deltaShortRow.holds Try.pinned (OpenSpec.ofChange deltaShortSpec)

/-- ITS FALSE NEIGHBOUR: 'it returns false'. Refute it at one input. -/
def deltaShortWrong : ChangeSpec := { name := "deltaShort", fn := fun _ => fun
  | [d] => { results := [.lit (.bool false)], args := [d] }
  | _ => none }
def DeltaShortWrongFalsely : Prop := deltaShortRow.holds Try.pinned (OpenSpec.ofChange deltaShortWrong)

/- THE SECOND FORM. 'bulk': how many values and letters a reading holds, each counted each time it is reached (what is shared counts as often as it is met; a slice's spare places count too). A statement '..UptoSaid' is the law's where the arguments, and the package variables that the reading takes, are together of bulk at most 1048576: NARROWER than '..Said'. Prove '..Said' where nothing that the law and all that it calls make is longer than what came in: it says more and counts as full. Else prove '..UptoSaid'. A law counts once. -/
mutual
def uptoBulk {H : Type} : DataW H → Nat
  | .lit (.string bytes) => bytes.length + 1
  | .lit _ => 1
  | .nil => 1
  | .ptr d => uptoBulk d + 1
  | .slice elems spare => uptoBulkAll elems + uptoBulkAll spare + 1
  | .agg parts => uptoBulkAll parts + 1
  | .iface _ d => uptoBulk d + 1
  | .map entries => uptoBulkEntries entries + 1
  | .held _ => 1
def uptoBulkAll {H : Type} : List (DataW H) → Nat
  | [] => 0
  | d :: r => uptoBulk d + uptoBulkAll r
def uptoBulkEntries {H : Type} : List (Lit × DataW H) → Nat
  | [] => 0
  | x :: r => uptoBulkEntry x + uptoBulkEntries r
def uptoBulkEntry {H : Type} : Lit × DataW H → Nat
  | (.string bytes, d) => bytes.length + uptoBulk d + 1
  | (_, d) => uptoBulk d + 1
 end
def uptoSmall : (H : Type) → List (DataW H) → Bool := fun _ ds => decide (uptoBulkAll ds ≤ 1048576)
def OpenSpec.upto (s : _root_.Go.ChangeSpec) : _root_.Go.OpenSpec := { _root_.Go.OpenSpec.ofChange s with cond := some uptoSmall }

/-- 'ferrulelaw11.DeltaKnown', WHERE WHAT IT READS IS OF BULK AT MOST 1048576: true; the input reads as it did. -/
def deltaKnownUptoRow : OpenClaim := { program := "ytcjhmicffkofiaa", sum := "6ead61988191f6a699016b15c425323936208d5bc1622166c39b34ff37266dd8", func := "ferrule/ferrulelaw11.DeltaKnown", spec := "deltaKnown", apart := false, narrowed := true }
def DeltaKnownUptoSaid : Prop := deltaKnownUptoRow.holds Try.pinned (OpenSpec.upto deltaKnownSpec)

/-- 'ferrulelaw11.DeltaRecords', WHERE WHAT IT READS IS OF BULK AT MOST 1048576: true; the input reads as it did. -/
def deltaRecordsUptoRow : OpenClaim := { program := "ytcjhmicffkofiaa", sum := "6ead61988191f6a699016b15c425323936208d5bc1622166c39b34ff37266dd8", func := "ferrule/ferrulelaw11.DeltaRecords", spec := "deltaRecords", recurses := true, apart := false, narrowed := true }
def DeltaRecordsUptoSaid : Prop := deltaRecordsUptoRow.holds Try.pinned (OpenSpec.upto deltaRecordsSpec)

/-- 'ferrulelaw11.DeltaReads', WHERE WHAT IT READS IS OF BULK AT MOST 1048576: true; the input reads as it did. -/
def deltaReadsUptoRow : OpenClaim := { program := "ytcjhmicffkofiaa", sum := "6ead61988191f6a699016b15c425323936208d5bc1622166c39b34ff37266dd8", func := "ferrule/ferrulelaw11.DeltaReads", spec := "deltaReads", recurses := true, apart := false, narrowed := true }
def DeltaReadsUptoSaid : Prop := deltaReadsUptoRow.holds Try.pinned (OpenSpec.upto deltaReadsSpec)

/-- 'ferrulelaw11.DeltaSnapshots', WHERE WHAT IT READS IS OF BULK AT MOST 1048576: true; the input reads as it did. -/
def deltaSnapshotsUptoRow : OpenClaim := { program := "ytcjhmicffkofiaa", sum := "6ead61988191f6a699016b15c425323936208d5bc1622166c39b34ff37266dd8", func := "ferrule/ferrulelaw11.DeltaSnapshots", spec := "deltaSnapshots", recurses := true, apart := false, narrowed := true }
def DeltaSnapshotsUptoSaid : Prop := deltaSnapshotsUptoRow.holds Try.pinned (OpenSpec.upto deltaSnapshotsSpec)

/-- 'ferrulelaw11.DeltaShort', WHERE WHAT IT READS IS OF BULK AT MOST 1048576: true; the input reads as it did. -/
def deltaShortUptoRow : OpenClaim := { program := "ytcjhmicffkofiaa", sum := "6ead61988191f6a699016b15c425323936208d5bc1622166c39b34ff37266dd8", func := "ferrule/ferrulelaw11.DeltaShort", spec := "deltaShort", apart := false, narrowed := true }
def DeltaShortUptoSaid : Prop := deltaShortUptoRow.holds Try.pinned (OpenSpec.upto deltaShortSpec)

end Rows
end Go.Proofs.Ytcjhmicffkofiaa
