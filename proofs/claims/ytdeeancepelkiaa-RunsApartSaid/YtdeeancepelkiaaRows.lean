/-
  No cell of these rows narrows 'for every input' (looked for: loops, veiled, ifaces, maps, wideKeys, modest, calm, conditions, laid).
  DERIVED. THE GIVEN ROWS OF THIS SEAT. 5 by the template 'for every input the law returns true; each argument reads behind the call as it read before'; 0 by the template 'total and deterministic' (their statements: YtdeeancepelkiaaTotals.lean).
  GIVEN WITH THE SEED: the statements are not yours to turn. If you find one false, say at which input.
  Laid BY PROGRAM, IN A SANDBOX (cutbox-rows.mjs): the forced cells as the released guide's own fill.sh prints them over the translation 7b0832fe8b381be9… (all of the seat's roots in one cut). By AI agents, Wed Nov 11 2026. No macro, syntax, notation, axiom, sorry.
-/
import Derived.Test.YtdeeancepelkiaaChecked
import GoSem.Claim
import GoSem.ClaimJoined
import GoSem.ClaimMapViews
import Derived.JoinedTies
import Derived.KernelRfl
namespace Go.Proofs.Ytdeeancepelkiaa
/- THE CELL 'sum', in the pinned program and in every row, IS THE sha256 OF THE DUMP (.gsa) THAT YtdeeancepelkiaaProg.lean LOADS. Nothing in Lean hashes anything: it is a label: what it is worth is what the hold of that sum in a sandbox is worth. -/
noncomputable def Try.pinned : Pinned := { name := "ytdeeancepelkiaa", sum := "7b0832fe8b381be9557d195897fe281e866e26424b0164e9347acf6f6d4c26c0", checked := Try.checked }
namespace Rows
def none {H : Type} : Left H := { results := [], args := [] }

/-- 'ferrulelaw8.RunsKnown': WHATEVER THE INPUT: true; the input reads as it did. -/
def runsKnownSpec : ChangeSpec := { name := "runsKnown", fn := fun _ => fun
  | [] => { results := [.lit (.bool true)], args := [] }
  | _ => none }
def runsKnownRow : OpenClaim := { program := "ytdeeancepelkiaa", sum := "7b0832fe8b381be9557d195897fe281e866e26424b0164e9347acf6f6d4c26c0", func := "ferrule/ferrulelaw8.RunsKnown", spec := "runsKnown", unfollowed := true, recurses := true, apart := false }
def RunsKnownSaid : Prop := runsKnownRow.holds Try.pinned (OpenSpec.ofChange runsKnownSpec)

/-- ITS FALSE NEIGHBOUR: 'it returns false'. Refute it at one input. -/
def runsKnownWrong : ChangeSpec := { name := "runsKnown", fn := fun _ => fun
  | [] => { results := [.lit (.bool false)], args := [] }
  | _ => none }
def RunsKnownWrongFalsely : Prop := runsKnownRow.holds Try.pinned (OpenSpec.ofChange runsKnownWrong)

/-- 'ferrulelaw8.RunsApart': WHATEVER THE INPUT: true; the input reads as it did. -/
def runsApartSpec : ChangeSpec := { name := "runsApart", fn := fun _ => fun
  | [d1, d2, d3, d4] => { results := [.lit (.bool true)], args := [d1, d2, d3, d4] }
  | _ => none }
def runsApartRow : OpenClaim := { program := "ytdeeancepelkiaa", sum := "7b0832fe8b381be9557d195897fe281e866e26424b0164e9347acf6f6d4c26c0", func := "ferrule/ferrulelaw8.RunsApart", spec := "runsApart", unfollowed := true, recurses := true, apart := false }
def RunsApartSaid : Prop := runsApartRow.holds Try.pinned (OpenSpec.ofChange runsApartSpec)

/-- ITS FALSE NEIGHBOUR: 'it returns false'. Refute it at one input. -/
def runsApartWrong : ChangeSpec := { name := "runsApart", fn := fun _ => fun
  | [d1, d2, d3, d4] => { results := [.lit (.bool false)], args := [d1, d2, d3, d4] }
  | _ => none }
def RunsApartWrongFalsely : Prop := runsApartRow.holds Try.pinned (OpenSpec.ofChange runsApartWrong)

/-- 'ferrulelaw8.RunsCleared': WHATEVER THE INPUT: true; the input reads as it did. -/
def runsClearedSpec : ChangeSpec := { name := "runsCleared", fn := fun _ => fun
  | [d1, d2, d3, d4] => { results := [.lit (.bool true)], args := [d1, d2, d3, d4] }
  | _ => none }
def runsClearedRow : OpenClaim := { program := "ytdeeancepelkiaa", sum := "7b0832fe8b381be9557d195897fe281e866e26424b0164e9347acf6f6d4c26c0", func := "ferrule/ferrulelaw8.RunsCleared", spec := "runsCleared", unfollowed := true, recurses := true, apart := false }
def RunsClearedSaid : Prop := runsClearedRow.holds Try.pinned (OpenSpec.ofChange runsClearedSpec)

/-- ITS FALSE NEIGHBOUR: 'it returns false'. Refute it at one input. -/
def runsClearedWrong : ChangeSpec := { name := "runsCleared", fn := fun _ => fun
  | [d1, d2, d3, d4] => { results := [.lit (.bool false)], args := [d1, d2, d3, d4] }
  | _ => none }
def RunsClearedWrongFalsely : Prop := runsClearedRow.holds Try.pinned (OpenSpec.ofChange runsClearedWrong)

/-- 'ferrulelaw8.RunsPlays': WHATEVER THE INPUT: true; the input reads as it did. -/
def runsPlaysSpec : ChangeSpec := { name := "runsPlays", fn := fun _ => fun
  | [d1, d2, d3, d4, d5] => { results := [.lit (.bool true)], args := [d1, d2, d3, d4, d5] }
  | _ => none }
def runsPlaysRow : OpenClaim := { program := "ytdeeancepelkiaa", sum := "7b0832fe8b381be9557d195897fe281e866e26424b0164e9347acf6f6d4c26c0", func := "ferrule/ferrulelaw8.RunsPlays", spec := "runsPlays", unfollowed := true, recurses := true, apart := false }
def RunsPlaysSaid : Prop := runsPlaysRow.holds Try.pinned (OpenSpec.ofChange runsPlaysSpec)

/-- ITS FALSE NEIGHBOUR: 'it returns false'. Refute it at one input. -/
def runsPlaysWrong : ChangeSpec := { name := "runsPlays", fn := fun _ => fun
  | [d1, d2, d3, d4, d5] => { results := [.lit (.bool false)], args := [d1, d2, d3, d4, d5] }
  | _ => none }
def RunsPlaysWrongFalsely : Prop := runsPlaysRow.holds Try.pinned (OpenSpec.ofChange runsPlaysWrong)

/-- 'ferrulelaw8.RunsAgain': WHATEVER THE INPUT: true; the input reads as it did. -/
def runsAgainSpec : ChangeSpec := { name := "runsAgain", fn := fun _ => fun
  | [d1, d2, d3, d4] => { results := [.lit (.bool true)], args := [d1, d2, d3, d4] }
  | _ => none }
def runsAgainRow : OpenClaim := { program := "ytdeeancepelkiaa", sum := "7b0832fe8b381be9557d195897fe281e866e26424b0164e9347acf6f6d4c26c0", func := "ferrule/ferrulelaw8.RunsAgain", spec := "runsAgain", unfollowed := true, recurses := true, apart := false }
def RunsAgainSaid : Prop := runsAgainRow.holds Try.pinned (OpenSpec.ofChange runsAgainSpec)

/-- ITS FALSE NEIGHBOUR: 'it returns false'. Refute it at one input. -/
def runsAgainWrong : ChangeSpec := { name := "runsAgain", fn := fun _ => fun
  | [d1, d2, d3, d4] => { results := [.lit (.bool false)], args := [d1, d2, d3, d4] }
  | _ => none }
def RunsAgainWrongFalsely : Prop := runsAgainRow.holds Try.pinned (OpenSpec.ofChange runsAgainWrong)

/- THE SECOND FORM. 'bulk': how many values and letters a reading holds, each counted each time it is reached (what is shared counts as often as it is met; a slice's spare places count too). A statement '..UptoSaid' is the law's where the arguments, and the package variables that the reading takes, are together of bulk at most 1048576: NARROWER than '..Said'. Prove '..Said' where nothing that the law and all that it calls make is longer than what came in: it says more and counts as full. Else prove '..UptoSaid'. A law counts once. -/
mutual
def uptoBulk {H : Type} : DataW H → Nat
  | .lit (.string bytes) => bytes.length + 1
  | .lit _ => 1
  | .nil => 1
  | .ptr d => uptoBulk d + 1
  | .slice elems spare => uptoBulkAll elems + uptoBulkAll spare + 1
  | .agg parts => uptoBulkAll parts + 1
  | .iface _ d => uptoBulk d + 1
  | .map entries => uptoBulkEntries entries + 1
  | .held _ => 1
def uptoBulkAll {H : Type} : List (DataW H) → Nat
  | [] => 0
  | d :: r => uptoBulk d + uptoBulkAll r
def uptoBulkEntries {H : Type} : List (Lit × DataW H) → Nat
  | [] => 0
  | x :: r => uptoBulkEntry x + uptoBulkEntries r
def uptoBulkEntry {H : Type} : Lit × DataW H → Nat
  | (.string bytes, d) => bytes.length + uptoBulk d + 1
  | (_, d) => uptoBulk d + 1
 end
def uptoSmall : (H : Type) → List (DataW H) → Bool := fun _ ds => decide (uptoBulkAll ds ≤ 1048576)
def OpenSpec.upto (s : _root_.Go.ChangeSpec) : _root_.Go.OpenSpec := { _root_.Go.OpenSpec.ofChange s with cond := some uptoSmall }

/-- 'ferrulelaw8.RunsKnown', WHERE WHAT IT READS IS OF BULK AT MOST 1048576: true; the input reads as it did. -/
def runsKnownUptoRow : OpenClaim := { program := "ytdeeancepelkiaa", sum := "7b0832fe8b381be9557d195897fe281e866e26424b0164e9347acf6f6d4c26c0", func := "ferrule/ferrulelaw8.RunsKnown", spec := "runsKnown", unfollowed := true, recurses := true, apart := false, narrowed := true }
def RunsKnownUptoSaid : Prop := runsKnownUptoRow.holds Try.pinned (OpenSpec.upto runsKnownSpec)

/-- 'ferrulelaw8.RunsApart', WHERE WHAT IT READS IS OF BULK AT MOST 1048576: true; the input reads as it did. -/
def runsApartUptoRow : OpenClaim := { program := "ytdeeancepelkiaa", sum := "7b0832fe8b381be9557d195897fe281e866e26424b0164e9347acf6f6d4c26c0", func := "ferrule/ferrulelaw8.RunsApart", spec := "runsApart", unfollowed := true, recurses := true, apart := false, narrowed := true }
def RunsApartUptoSaid : Prop := runsApartUptoRow.holds Try.pinned (OpenSpec.upto runsApartSpec)

/-- 'ferrulelaw8.RunsCleared', WHERE WHAT IT READS IS OF BULK AT MOST 1048576: true; the input reads as it did. -/
def runsClearedUptoRow : OpenClaim := { program := "ytdeeancepelkiaa", sum := "7b0832fe8b381be9557d195897fe281e866e26424b0164e9347acf6f6d4c26c0", func := "ferrule/ferrulelaw8.RunsCleared", spec := "runsCleared", unfollowed := true, recurses := true, apart := false, narrowed := true }
def RunsClearedUptoSaid : Prop := runsClearedUptoRow.holds Try.pinned (OpenSpec.upto runsClearedSpec)

/-- 'ferrulelaw8.RunsPlays', WHERE WHAT IT READS IS OF BULK AT MOST 1048576: true; the input reads as it did. -/
def runsPlaysUptoRow : OpenClaim := { program := "ytdeeancepelkiaa", sum := "7b0832fe8b381be9557d195897fe281e866e26424b0164e9347acf6f6d4c26c0", func := "ferrule/ferrulelaw8.RunsPlays", spec := "runsPlays", unfollowed := true, recurses := true, apart := false, narrowed := true }
def RunsPlaysUptoSaid : Prop := runsPlaysUptoRow.holds Try.pinned (OpenSpec.upto runsPlaysSpec)

/-- 'ferrulelaw8.RunsAgain', WHERE WHAT IT READS IS OF BULK AT MOST 1048576: true; the input reads as it did. -/
def runsAgainUptoRow : OpenClaim := { program := "ytdeeancepelkiaa", sum := "7b0832fe8b381be9557d195897fe281e866e26424b0164e9347acf6f6d4c26c0", func := "ferrule/ferrulelaw8.RunsAgain", spec := "runsAgain", unfollowed := true, recurses := true, apart := false, narrowed := true }
def RunsAgainUptoSaid : Prop := runsAgainUptoRow.holds Try.pinned (OpenSpec.upto runsAgainSpec)

end Rows
end Go.Proofs.Ytdeeancepelkiaa
