/-
  No cell of these rows narrows 'for every input' (looked for: loops, veiled, ifaces, maps, wideKeys, modest, calm, conditions, laid).
  DERIVED. THE GIVEN ROWS OF THIS SEAT. 4 by the template 'for every input the law returns true; each argument reads behind the call as it read before'; 0 by the template 'total and deterministic' (their statements: YthhmapgolnkjcaaTotals.lean).
  GIVEN WITH THE SEED: the statements are not yours to turn. If you find one false, say at which input.
  Laid BY PROGRAM, IN A SANDBOX (cutbox-rows.mjs): the forced cells as the released guide's own fill.sh prints them over the translation b9c6b34b49daaa90… (all of the seat's roots in one cut). By AI agents, Wed Nov 11 2026. No macro, syntax, notation, axiom, sorry.
-/
import Derived.Test.YthhmapgolnkjcaaChecked
import GoSem.Claim
import GoSem.ClaimJoined
import GoSem.ClaimMapViews
import Derived.JoinedTies
import Derived.KernelRfl
namespace Go.Proofs.Ythhmapgolnkjcaa
/- THE CELL 'sum', in the pinned program and in every row, IS THE sha256 OF THE DUMP (.gsa) THAT YthhmapgolnkjcaaProg.lean LOADS. Nothing in Lean hashes anything: it is a label: what it is worth is what the hold of that sum in a sandbox is worth. -/
noncomputable def Try.pinned : Pinned := { name := "ythhmapgolnkjcaa", sum := "b9c6b34b49daaa900d9ca2b8fc1ad71a836b7afc5a9002592149c06394b2b691", checked := Try.checked }
namespace Rows
def none {H : Type} : Left H := { results := [], args := [] }

/-- 'ferrulelaw9.FlatKnown': WHATEVER THE INPUT: true; the input reads as it did. -/
def flatKnownSpec : ChangeSpec := { name := "flatKnown", fn := fun _ => fun
  | [] => { results := [.lit (.bool true)], args := [] }
  | _ => none }
def flatKnownRow : OpenClaim := { program := "ythhmapgolnkjcaa", sum := "b9c6b34b49daaa900d9ca2b8fc1ad71a836b7afc5a9002592149c06394b2b691", func := "ferrule/ferrulelaw9.FlatKnown", spec := "flatKnown", unfollowed := true, recurses := true, apart := false }
def FlatKnownSaid : Prop := flatKnownRow.holds Try.pinned (OpenSpec.ofChange flatKnownSpec)

/-- ITS FALSE NEIGHBOUR: 'it returns false'. Refute it at one input. -/
def flatKnownWrong : ChangeSpec := { name := "flatKnown", fn := fun _ => fun
  | [] => { results := [.lit (.bool false)], args := [] }
  | _ => none }
def FlatKnownWrongFalsely : Prop := flatKnownRow.holds Try.pinned (OpenSpec.ofChange flatKnownWrong)

/-- 'ferrulelaw9.FlatPlays': WHATEVER THE INPUT: true; the input reads as it did. -/
def flatPlaysSpec : ChangeSpec := { name := "flatPlays", fn := fun _ => fun
  | [d1, d2, d3, d4, d5] => { results := [.lit (.bool true)], args := [d1, d2, d3, d4, d5] }
  | _ => none }
def flatPlaysRow : OpenClaim := { program := "ythhmapgolnkjcaa", sum := "b9c6b34b49daaa900d9ca2b8fc1ad71a836b7afc5a9002592149c06394b2b691", func := "ferrule/ferrulelaw9.FlatPlays", spec := "flatPlays", unfollowed := true, recurses := true, apart := false }
def FlatPlaysSaid : Prop := flatPlaysRow.holds Try.pinned (OpenSpec.ofChange flatPlaysSpec)

/-- ITS FALSE NEIGHBOUR: 'it returns false'. Refute it at one input. -/
def flatPlaysWrong : ChangeSpec := { name := "flatPlays", fn := fun _ => fun
  | [d1, d2, d3, d4, d5] => { results := [.lit (.bool false)], args := [d1, d2, d3, d4, d5] }
  | _ => none }
def FlatPlaysWrongFalsely : Prop := flatPlaysRow.holds Try.pinned (OpenSpec.ofChange flatPlaysWrong)

/-- 'ferrulelaw9.FlatKeeps': WHATEVER THE INPUT: true; the input reads as it did. -/
def flatKeepsSpec : ChangeSpec := { name := "flatKeeps", fn := fun _ => fun
  | [d1, d2, d3] => { results := [.lit (.bool true)], args := [d1, d2, d3] }
  | _ => none }
def flatKeepsRow : OpenClaim := { program := "ythhmapgolnkjcaa", sum := "b9c6b34b49daaa900d9ca2b8fc1ad71a836b7afc5a9002592149c06394b2b691", func := "ferrule/ferrulelaw9.FlatKeeps", spec := "flatKeeps", unfollowed := true, recurses := true, apart := false }
def FlatKeepsSaid : Prop := flatKeepsRow.holds Try.pinned (OpenSpec.ofChange flatKeepsSpec)

/-- ITS FALSE NEIGHBOUR: 'it returns false'. Refute it at one input. -/
def flatKeepsWrong : ChangeSpec := { name := "flatKeeps", fn := fun _ => fun
  | [d1, d2, d3] => { results := [.lit (.bool false)], args := [d1, d2, d3] }
  | _ => none }
def FlatKeepsWrongFalsely : Prop := flatKeepsRow.holds Try.pinned (OpenSpec.ofChange flatKeepsWrong)

/-- 'ferrulelaw9.FlatSame': WHATEVER THE INPUT: true; the input reads as it did. -/
def flatSameSpec : ChangeSpec := { name := "flatSame", fn := fun _ => fun
  | [d1, d2, d3, d4, d5] => { results := [.lit (.bool true)], args := [d1, d2, d3, d4, d5] }
  | _ => none }
def flatSameRow : OpenClaim := { program := "ythhmapgolnkjcaa", sum := "b9c6b34b49daaa900d9ca2b8fc1ad71a836b7afc5a9002592149c06394b2b691", func := "ferrule/ferrulelaw9.FlatSame", spec := "flatSame", unfollowed := true, recurses := true, apart := false }
def FlatSameSaid : Prop := flatSameRow.holds Try.pinned (OpenSpec.ofChange flatSameSpec)

/-- ITS FALSE NEIGHBOUR: 'it returns false'. Refute it at one input. -/
def flatSameWrong : ChangeSpec := { name := "flatSame", fn := fun _ => fun
  | [d1, d2, d3, d4, d5] => { results := [.lit (.bool false)], args := [d1, d2, d3, d4, d5] }
  | _ => none }
def FlatSameWrongFalsely : Prop := flatSameRow.holds Try.pinned (OpenSpec.ofChange flatSameWrong)

/- THE SECOND FORM. 'bulk': how many values and letters a reading holds, each counted each time it is reached (what is shared counts as often as it is met; a slice's spare places count too). A statement '..UptoSaid' is the law's where the arguments, and the package variables that the reading takes, are together of bulk at most 1048576: NARROWER than '..Said'. Prove '..Said' where nothing that the law and all that it calls make is longer than what came in: it says more and counts as full. Else prove '..UptoSaid'. A law counts once. -/
mutual
def uptoBulk {H : Type} : DataW H → Nat
  | .lit (.string bytes) => bytes.length + 1
  | .lit _ => 1
  | .nil => 1
  | .ptr d => uptoBulk d + 1
  | .slice elems spare => uptoBulkAll elems + uptoBulkAll spare + 1
  | .agg parts => uptoBulkAll parts + 1
  | .iface _ d => uptoBulk d + 1
  | .map entries => uptoBulkEntries entries + 1
  | .held _ => 1
def uptoBulkAll {H : Type} : List (DataW H) → Nat
  | [] => 0
  | d :: r => uptoBulk d + uptoBulkAll r
def uptoBulkEntries {H : Type} : List (Lit × DataW H) → Nat
  | [] => 0
  | x :: r => uptoBulkEntry x + uptoBulkEntries r
def uptoBulkEntry {H : Type} : Lit × DataW H → Nat
  | (.string bytes, d) => bytes.length + uptoBulk d + 1
  | (_, d) => uptoBulk d + 1
 end
def uptoSmall : (H : Type) → List (DataW H) → Bool := fun _ ds => decide (uptoBulkAll ds ≤ 1048576)
def OpenSpec.upto (s : _root_.Go.ChangeSpec) : _root_.Go.OpenSpec := { _root_.Go.OpenSpec.ofChange s with cond := some uptoSmall }

/-- 'ferrulelaw9.FlatKnown', WHERE WHAT IT READS IS OF BULK AT MOST 1048576: true; the input reads as it did. -/
def flatKnownUptoRow : OpenClaim := { program := "ythhmapgolnkjcaa", sum := "b9c6b34b49daaa900d9ca2b8fc1ad71a836b7afc5a9002592149c06394b2b691", func := "ferrule/ferrulelaw9.FlatKnown", spec := "flatKnown", unfollowed := true, recurses := true, apart := false, narrowed := true }
def FlatKnownUptoSaid : Prop := flatKnownUptoRow.holds Try.pinned (OpenSpec.upto flatKnownSpec)

/-- 'ferrulelaw9.FlatPlays', WHERE WHAT IT READS IS OF BULK AT MOST 1048576: true; the input reads as it did. -/
def flatPlaysUptoRow : OpenClaim := { program := "ythhmapgolnkjcaa", sum := "b9c6b34b49daaa900d9ca2b8fc1ad71a836b7afc5a9002592149c06394b2b691", func := "ferrule/ferrulelaw9.FlatPlays", spec := "flatPlays", unfollowed := true, recurses := true, apart := false, narrowed := true }
def FlatPlaysUptoSaid : Prop := flatPlaysUptoRow.holds Try.pinned (OpenSpec.upto flatPlaysSpec)

/-- 'ferrulelaw9.FlatKeeps', WHERE WHAT IT READS IS OF BULK AT MOST 1048576: true; the input reads as it did. -/
def flatKeepsUptoRow : OpenClaim := { program := "ythhmapgolnkjcaa", sum := "b9c6b34b49daaa900d9ca2b8fc1ad71a836b7afc5a9002592149c06394b2b691", func := "ferrule/ferrulelaw9.FlatKeeps", spec := "flatKeeps", unfollowed := true, recurses := true, apart := false, narrowed := true }
def FlatKeepsUptoSaid : Prop := flatKeepsUptoRow.holds Try.pinned (OpenSpec.upto flatKeepsSpec)

/-- 'ferrulelaw9.FlatSame', WHERE WHAT IT READS IS OF BULK AT MOST 1048576: true; the input reads as it did. -/
def flatSameUptoRow : OpenClaim := { program := "ythhmapgolnkjcaa", sum := "b9c6b34b49daaa900d9ca2b8fc1ad71a836b7afc5a9002592149c06394b2b691", func := "ferrule/ferrulelaw9.FlatSame", spec := "flatSame", unfollowed := true, recurses := true, apart := false, narrowed := true }
def FlatSameUptoSaid : Prop := flatSameUptoRow.holds Try.pinned (OpenSpec.upto flatSameSpec)

end Rows
end Go.Proofs.Ythhmapgolnkjcaa
