/-
  No cell of these rows narrows 'for every input' (looked for: loops, veiled, ifaces, maps, wideKeys, modest, calm, conditions, laid).
  DERIVED. THE GIVEN ROWS OF THIS SEAT. 5 by the template 'for every input the law returns true; each argument reads behind the call as it read before'; 0 by the template 'total and deterministic' (their statements: YtmkolibmadbenaaTotals.lean).
  GIVEN WITH THE SEED: the statements are not yours to turn. If you find one false, say at which input.
  Laid BY PROGRAM, IN A SANDBOX (cutbox-rows.mjs): the forced cells as the released guide's own fill.sh prints them over the translation 85d285d9e5f9ce8b… (all of the seat's roots in one cut). By AI agents, Wed Nov 11 2026. No macro, syntax, notation, axiom, sorry.
-/
import Derived.Test.YtmkolibmadbenaaChecked
import GoSem.Claim
import GoSem.ClaimJoined
import GoSem.ClaimMapViews
import Derived.JoinedTies
import Derived.KernelRfl
namespace Go.Proofs.Ytmkolibmadbenaa
/- THE CELL 'sum', in the pinned program and in every row, IS THE sha256 OF THE DUMP (.gsa) THAT YtmkolibmadbenaaProg.lean LOADS. Nothing in Lean hashes anything: it is a label: what it is worth is what the hold of that sum in a sandbox is worth. -/
noncomputable def Try.pinned : Pinned := { name := "ytmkolibmadbenaa", sum := "85d285d9e5f9ce8b1aa64e3ea416be0aef29325b8f34e4c18772b04a195aac22", checked := Try.checked }
namespace Rows
def none {H : Type} : Left H := { results := [], args := [] }

/-- 'ferrulelaw2.NandKnown': WHATEVER THE INPUT: true; the input reads as it did. -/
def nandKnownSpec : ChangeSpec := { name := "nandKnown", fn := fun _ => fun
  | [] => { results := [.lit (.bool true)], args := [] }
  | _ => none }
def nandKnownRow : OpenClaim := { program := "ytmkolibmadbenaa", sum := "85d285d9e5f9ce8b1aa64e3ea416be0aef29325b8f34e4c18772b04a195aac22", func := "ferrule/ferrulelaw2.NandKnown", spec := "nandKnown", apart := false }
def NandKnownSaid : Prop := nandKnownRow.holds Try.pinned (OpenSpec.ofChange nandKnownSpec)

/-- ITS FALSE NEIGHBOUR: 'it returns false'. Refute it at one input. -/
def nandKnownWrong : ChangeSpec := { name := "nandKnown", fn := fun _ => fun
  | [] => { results := [.lit (.bool false)], args := [] }
  | _ => none }
def NandKnownWrongFalsely : Prop := nandKnownRow.holds Try.pinned (OpenSpec.ofChange nandKnownWrong)

/-- 'ferrulelaw2.NandPlays': WHATEVER THE INPUT: true; the input reads as it did. -/
def nandPlaysSpec : ChangeSpec := { name := "nandPlays", fn := fun _ => fun
  | [d1, d2, d3] => { results := [.lit (.bool true)], args := [d1, d2, d3] }
  | _ => none }
def nandPlaysRow : OpenClaim := { program := "ytmkolibmadbenaa", sum := "85d285d9e5f9ce8b1aa64e3ea416be0aef29325b8f34e4c18772b04a195aac22", func := "ferrule/ferrulelaw2.NandPlays", spec := "nandPlays", apart := false }
def NandPlaysSaid : Prop := nandPlaysRow.holds Try.pinned (OpenSpec.ofChange nandPlaysSpec)

/-- ITS FALSE NEIGHBOUR: 'it returns false'. Refute it at one input. -/
def nandPlaysWrong : ChangeSpec := { name := "nandPlays", fn := fun _ => fun
  | [d1, d2, d3] => { results := [.lit (.bool false)], args := [d1, d2, d3] }
  | _ => none }
def NandPlaysWrongFalsely : Prop := nandPlaysRow.holds Try.pinned (OpenSpec.ofChange nandPlaysWrong)

/-- 'ferrulelaw2.NandSteps': WHATEVER THE INPUT: true; the input reads as it did. -/
def nandStepsSpec : ChangeSpec := { name := "nandSteps", fn := fun _ => fun
  | [d1, d2] => { results := [.lit (.bool true)], args := [d1, d2] }
  | _ => none }
def nandStepsRow : OpenClaim := { program := "ytmkolibmadbenaa", sum := "85d285d9e5f9ce8b1aa64e3ea416be0aef29325b8f34e4c18772b04a195aac22", func := "ferrule/ferrulelaw2.NandSteps", spec := "nandSteps", apart := false }
def NandStepsSaid : Prop := nandStepsRow.holds Try.pinned (OpenSpec.ofChange nandStepsSpec)

/-- ITS FALSE NEIGHBOUR: 'it returns false'. Refute it at one input. -/
def nandStepsWrong : ChangeSpec := { name := "nandSteps", fn := fun _ => fun
  | [d1, d2] => { results := [.lit (.bool false)], args := [d1, d2] }
  | _ => none }
def NandStepsWrongFalsely : Prop := nandStepsRow.holds Try.pinned (OpenSpec.ofChange nandStepsWrong)

/-- 'ferrulelaw2.NandWears': WHATEVER THE INPUT: true; the input reads as it did. -/
def nandWearsSpec : ChangeSpec := { name := "nandWears", fn := fun _ => fun
  | [d1, d2, d3] => { results := [.lit (.bool true)], args := [d1, d2, d3] }
  | _ => none }
def nandWearsRow : OpenClaim := { program := "ytmkolibmadbenaa", sum := "85d285d9e5f9ce8b1aa64e3ea416be0aef29325b8f34e4c18772b04a195aac22", func := "ferrule/ferrulelaw2.NandWears", spec := "nandWears", apart := false }
def NandWearsSaid : Prop := nandWearsRow.holds Try.pinned (OpenSpec.ofChange nandWearsSpec)

/-- ITS FALSE NEIGHBOUR: 'it returns false'. Refute it at one input. -/
def nandWearsWrong : ChangeSpec := { name := "nandWears", fn := fun _ => fun
  | [d1, d2, d3] => { results := [.lit (.bool false)], args := [d1, d2, d3] }
  | _ => none }
def NandWearsWrongFalsely : Prop := nandWearsRow.holds Try.pinned (OpenSpec.ofChange nandWearsWrong)

/-- 'ferrulelaw2.NandLoads': WHATEVER THE INPUT: true; the input reads as it did. -/
def nandLoadsSpec : ChangeSpec := { name := "nandLoads", fn := fun _ => fun
  | [d1, d2, d3, d4, d5, d6] => { results := [.lit (.bool true)], args := [d1, d2, d3, d4, d5, d6] }
  | _ => none }
def nandLoadsRow : OpenClaim := { program := "ytmkolibmadbenaa", sum := "85d285d9e5f9ce8b1aa64e3ea416be0aef29325b8f34e4c18772b04a195aac22", func := "ferrule/ferrulelaw2.NandLoads", spec := "nandLoads", apart := false }
def NandLoadsSaid : Prop := nandLoadsRow.holds Try.pinned (OpenSpec.ofChange nandLoadsSpec)

/-- ITS FALSE NEIGHBOUR: 'it returns false'. Refute it at one input. -/
def nandLoadsWrong : ChangeSpec := { name := "nandLoads", fn := fun _ => fun
  | [d1, d2, d3, d4, d5, d6] => { results := [.lit (.bool false)], args := [d1, d2, d3, d4, d5, d6] }
  | _ => none }
def NandLoadsWrongFalsely : Prop := nandLoadsRow.holds Try.pinned (OpenSpec.ofChange nandLoadsWrong)

/- THE SECOND FORM. 'bulk': how many values and letters a reading holds, each counted each time it is reached (what is shared counts as often as it is met; a slice's spare places count too). A statement '..UptoSaid' is the law's where the arguments, and the package variables that the reading takes, are together of bulk at most 1048576: NARROWER than '..Said'. Prove '..Said' where nothing that the law and all that it calls make is longer than what came in: it says more and counts as full. Else prove '..UptoSaid'. A law counts once. -/
mutual
def uptoBulk {H : Type} : DataW H → Nat
  | .lit (.string bytes) => bytes.length + 1
  | .lit _ => 1
  | .nil => 1
  | .ptr d => uptoBulk d + 1
  | .slice elems spare => uptoBulkAll elems + uptoBulkAll spare + 1
  | .agg parts => uptoBulkAll parts + 1
  | .iface _ d => uptoBulk d + 1
  | .map entries => uptoBulkEntries entries + 1
  | .held _ => 1
def uptoBulkAll {H : Type} : List (DataW H) → Nat
  | [] => 0
  | d :: r => uptoBulk d + uptoBulkAll r
def uptoBulkEntries {H : Type} : List (Lit × DataW H) → Nat
  | [] => 0
  | x :: r => uptoBulkEntry x + uptoBulkEntries r
def uptoBulkEntry {H : Type} : Lit × DataW H → Nat
  | (.string bytes, d) => bytes.length + uptoBulk d + 1
  | (_, d) => uptoBulk d + 1
 end
def uptoSmall : (H : Type) → List (DataW H) → Bool := fun _ ds => decide (uptoBulkAll ds ≤ 1048576)
def OpenSpec.upto (s : _root_.Go.ChangeSpec) : _root_.Go.OpenSpec := { _root_.Go.OpenSpec.ofChange s with cond := some uptoSmall }

/-- 'ferrulelaw2.NandKnown', WHERE WHAT IT READS IS OF BULK AT MOST 1048576: true; the input reads as it did. -/
def nandKnownUptoRow : OpenClaim := { program := "ytmkolibmadbenaa", sum := "85d285d9e5f9ce8b1aa64e3ea416be0aef29325b8f34e4c18772b04a195aac22", func := "ferrule/ferrulelaw2.NandKnown", spec := "nandKnown", apart := false, narrowed := true }
def NandKnownUptoSaid : Prop := nandKnownUptoRow.holds Try.pinned (OpenSpec.upto nandKnownSpec)

/-- 'ferrulelaw2.NandPlays', WHERE WHAT IT READS IS OF BULK AT MOST 1048576: true; the input reads as it did. -/
def nandPlaysUptoRow : OpenClaim := { program := "ytmkolibmadbenaa", sum := "85d285d9e5f9ce8b1aa64e3ea416be0aef29325b8f34e4c18772b04a195aac22", func := "ferrule/ferrulelaw2.NandPlays", spec := "nandPlays", apart := false, narrowed := true }
def NandPlaysUptoSaid : Prop := nandPlaysUptoRow.holds Try.pinned (OpenSpec.upto nandPlaysSpec)

/-- 'ferrulelaw2.NandSteps', WHERE WHAT IT READS IS OF BULK AT MOST 1048576: true; the input reads as it did. -/
def nandStepsUptoRow : OpenClaim := { program := "ytmkolibmadbenaa", sum := "85d285d9e5f9ce8b1aa64e3ea416be0aef29325b8f34e4c18772b04a195aac22", func := "ferrule/ferrulelaw2.NandSteps", spec := "nandSteps", apart := false, narrowed := true }
def NandStepsUptoSaid : Prop := nandStepsUptoRow.holds Try.pinned (OpenSpec.upto nandStepsSpec)

/-- 'ferrulelaw2.NandWears', WHERE WHAT IT READS IS OF BULK AT MOST 1048576: true; the input reads as it did. -/
def nandWearsUptoRow : OpenClaim := { program := "ytmkolibmadbenaa", sum := "85d285d9e5f9ce8b1aa64e3ea416be0aef29325b8f34e4c18772b04a195aac22", func := "ferrule/ferrulelaw2.NandWears", spec := "nandWears", apart := false, narrowed := true }
def NandWearsUptoSaid : Prop := nandWearsUptoRow.holds Try.pinned (OpenSpec.upto nandWearsSpec)

/-- 'ferrulelaw2.NandLoads', WHERE WHAT IT READS IS OF BULK AT MOST 1048576: true; the input reads as it did. -/
def nandLoadsUptoRow : OpenClaim := { program := "ytmkolibmadbenaa", sum := "85d285d9e5f9ce8b1aa64e3ea416be0aef29325b8f34e4c18772b04a195aac22", func := "ferrule/ferrulelaw2.NandLoads", spec := "nandLoads", apart := false, narrowed := true }
def NandLoadsUptoSaid : Prop := nandLoadsUptoRow.holds Try.pinned (OpenSpec.upto nandLoadsSpec)

end Rows
end Go.Proofs.Ytmkolibmadbenaa
