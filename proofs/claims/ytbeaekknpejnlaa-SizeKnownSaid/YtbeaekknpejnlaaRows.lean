/-
  No cell of these rows narrows 'for every input' (looked for: loops, veiled, ifaces, maps, wideKeys, modest, calm, conditions, laid).
  DERIVED. THE GIVEN ROWS OF THIS SEAT. 5 by the template 'for every input the law returns true; each argument reads behind the call as it read before'; 0 by the template 'total and deterministic' (their statements: YtbeaekknpejnlaaTotals.lean).
  GIVEN WITH THE SEED: the statements are not yours to turn. If you find one false, say at which input.
  Laid BY PROGRAM, IN A SANDBOX (cutbox-rows.mjs): the forced cells as the released guide's own fill.sh prints them over the translation 245d0e7d6ce8cca2… (all of the seat's roots in one cut). By AI agents, Wed Nov 11 2026. No macro, syntax, notation, axiom, sorry.
-/
import Derived.Test.YtbeaekknpejnlaaChecked
import GoSem.Claim
import GoSem.ClaimJoined
import GoSem.ClaimMapViews
import Derived.JoinedTies
import Derived.KernelRfl
namespace Go.Proofs.Ytbeaekknpejnlaa
/- THE CELL 'sum', in the pinned program and in every row, IS THE sha256 OF THE DUMP (.gsa) THAT YtbeaekknpejnlaaProg.lean LOADS. Nothing in Lean hashes anything: it is a label: what it is worth is what the hold of that sum in a sandbox is worth. -/
noncomputable def Try.pinned : Pinned := { name := "ytbeaekknpejnlaa", sum := "245d0e7d6ce8cca2304127401e3285a5a0a9b01046bcd028269d8e3d9c7e3bfb", checked := Try.checked }
namespace Rows
def none {H : Type} : Left H := { results := [], args := [] }

/-- 'ferrulelaw16.SizeKnown': WHATEVER THE INPUT: true; the input reads as it did. -/
def sizeKnownSpec : ChangeSpec := { name := "sizeKnown", fn := fun _ => fun
  | [] => { results := [.lit (.bool true)], args := [] }
  | _ => none }
def sizeKnownRow : OpenClaim := { program := "ytbeaekknpejnlaa", sum := "245d0e7d6ce8cca2304127401e3285a5a0a9b01046bcd028269d8e3d9c7e3bfb", func := "ferrule/ferrulelaw16.SizeKnown", spec := "sizeKnown", apart := false }
def SizeKnownSaid : Prop := sizeKnownRow.holds Try.pinned (OpenSpec.ofChange sizeKnownSpec)

/-- ITS FALSE NEIGHBOUR: 'it returns false'. Refute it at one input. -/
def sizeKnownWrong : ChangeSpec := { name := "sizeKnown", fn := fun _ => fun
  | [] => { results := [.lit (.bool false)], args := [] }
  | _ => none }
def SizeKnownWrongFalsely : Prop := sizeKnownRow.holds Try.pinned (OpenSpec.ofChange sizeKnownWrong)

/-- 'ferrulelaw16.SizeTells': WHATEVER THE INPUT: true; the input reads as it did. -/
def sizeTellsSpec : ChangeSpec := { name := "sizeTells", fn := fun _ => fun
  | [d1, d2, d3] => { results := [.lit (.bool true)], args := [d1, d2, d3] }
  | _ => none }
def sizeTellsRow : OpenClaim := { program := "ytbeaekknpejnlaa", sum := "245d0e7d6ce8cca2304127401e3285a5a0a9b01046bcd028269d8e3d9c7e3bfb", func := "ferrule/ferrulelaw16.SizeTells", spec := "sizeTells", recurses := true, apart := false }
def SizeTellsSaid : Prop := sizeTellsRow.holds Try.pinned (OpenSpec.ofChange sizeTellsSpec)

/-- ITS FALSE NEIGHBOUR: 'it returns false'. Refute it at one input. -/
def sizeTellsWrong : ChangeSpec := { name := "sizeTells", fn := fun _ => fun
  | [d1, d2, d3] => { results := [.lit (.bool false)], args := [d1, d2, d3] }
  | _ => none }
def SizeTellsWrongFalsely : Prop := sizeTellsRow.holds Try.pinned (OpenSpec.ofChange sizeTellsWrong)

/-- 'ferrulelaw16.SizeGreatest': WHATEVER THE INPUT: true; the input reads as it did. -/
def sizeGreatestSpec : ChangeSpec := { name := "sizeGreatest", fn := fun _ => fun
  | [d] => { results := [.lit (.bool true)], args := [d] }
  | _ => none }
def sizeGreatestRow : OpenClaim := { program := "ytbeaekknpejnlaa", sum := "245d0e7d6ce8cca2304127401e3285a5a0a9b01046bcd028269d8e3d9c7e3bfb", func := "ferrule/ferrulelaw16.SizeGreatest", spec := "sizeGreatest", recurses := true, apart := false }
def SizeGreatestSaid : Prop := sizeGreatestRow.holds Try.pinned (OpenSpec.ofChange sizeGreatestSpec)

/-- ITS FALSE NEIGHBOUR: 'it returns false'. Refute it at one input. -/
def sizeGreatestWrong : ChangeSpec := { name := "sizeGreatest", fn := fun _ => fun
  | [d] => { results := [.lit (.bool false)], args := [d] }
  | _ => none }
def SizeGreatestWrongFalsely : Prop := sizeGreatestRow.holds Try.pinned (OpenSpec.ofChange sizeGreatestWrong)

/-- 'ferrulelaw16.SizeLess': WHATEVER THE INPUT: true; the input reads as it did. -/
def sizeLessSpec : ChangeSpec := { name := "sizeLess", fn := fun _ => fun
  | [d1, d2, d3] => { results := [.lit (.bool true)], args := [d1, d2, d3] }
  | _ => none }
def sizeLessRow : OpenClaim := { program := "ytbeaekknpejnlaa", sum := "245d0e7d6ce8cca2304127401e3285a5a0a9b01046bcd028269d8e3d9c7e3bfb", func := "ferrule/ferrulelaw16.SizeLess", spec := "sizeLess", apart := false }
def SizeLessSaid : Prop := sizeLessRow.holds Try.pinned (OpenSpec.ofChange sizeLessSpec)

/-- ITS FALSE NEIGHBOUR: 'it returns false'. Refute it at one input. -/
def sizeLessWrong : ChangeSpec := { name := "sizeLess", fn := fun _ => fun
  | [d1, d2, d3] => { results := [.lit (.bool false)], args := [d1, d2, d3] }
  | _ => none }
def SizeLessWrongFalsely : Prop := sizeLessRow.holds Try.pinned (OpenSpec.ofChange sizeLessWrong)

/-- 'ferrulelaw16.SizeRoom': WHATEVER THE INPUT: true; the input reads as it did. -/
def sizeRoomSpec : ChangeSpec := { name := "sizeRoom", fn := fun _ => fun
  | [d1, d2] => { results := [.lit (.bool true)], args := [d1, d2] }
  | _ => none }
def sizeRoomRow : OpenClaim := { program := "ytbeaekknpejnlaa", sum := "245d0e7d6ce8cca2304127401e3285a5a0a9b01046bcd028269d8e3d9c7e3bfb", func := "ferrule/ferrulelaw16.SizeRoom", spec := "sizeRoom", apart := false }
def SizeRoomSaid : Prop := sizeRoomRow.holds Try.pinned (OpenSpec.ofChange sizeRoomSpec)

/-- ITS FALSE NEIGHBOUR: 'it returns false'. Refute it at one input. -/
def sizeRoomWrong : ChangeSpec := { name := "sizeRoom", fn := fun _ => fun
  | [d1, d2] => { results := [.lit (.bool false)], args := [d1, d2] }
  | _ => none }
def SizeRoomWrongFalsely : Prop := sizeRoomRow.holds Try.pinned (OpenSpec.ofChange sizeRoomWrong)

/- THE SECOND FORM. 'bulk': how many values and letters a reading holds, each counted each time it is reached (what is shared counts as often as it is met; a slice's spare places count too). A statement '..UptoSaid' is the law's where the arguments, and the package variables that the reading takes, are together of bulk at most 1048576: NARROWER than '..Said'. Prove '..Said' where nothing that the law and all that it calls make is longer than what came in: it says more and counts as full. Else prove '..UptoSaid'. A law counts once. -/
mutual
def uptoBulk {H : Type} : DataW H → Nat
  | .lit (.string bytes) => bytes.length + 1
  | .lit _ => 1
  | .nil => 1
  | .ptr d => uptoBulk d + 1
  | .slice elems spare => uptoBulkAll elems + uptoBulkAll spare + 1
  | .agg parts => uptoBulkAll parts + 1
  | .iface _ d => uptoBulk d + 1
  | .map entries => uptoBulkEntries entries + 1
  | .held _ => 1
def uptoBulkAll {H : Type} : List (DataW H) → Nat
  | [] => 0
  | d :: r => uptoBulk d + uptoBulkAll r
def uptoBulkEntries {H : Type} : List (Lit × DataW H) → Nat
  | [] => 0
  | x :: r => uptoBulkEntry x + uptoBulkEntries r
def uptoBulkEntry {H : Type} : Lit × DataW H → Nat
  | (.string bytes, d) => bytes.length + uptoBulk d + 1
  | (_, d) => uptoBulk d + 1
 end
def uptoSmall : (H : Type) → List (DataW H) → Bool := fun _ ds => decide (uptoBulkAll ds ≤ 1048576)
def OpenSpec.upto (s : _root_.Go.ChangeSpec) : _root_.Go.OpenSpec := { _root_.Go.OpenSpec.ofChange s with cond := some uptoSmall }

/-- 'ferrulelaw16.SizeKnown', WHERE WHAT IT READS IS OF BULK AT MOST 1048576: true; the input reads as it did. -/
def sizeKnownUptoRow : OpenClaim := { program := "ytbeaekknpejnlaa", sum := "245d0e7d6ce8cca2304127401e3285a5a0a9b01046bcd028269d8e3d9c7e3bfb", func := "ferrule/ferrulelaw16.SizeKnown", spec := "sizeKnown", apart := false, narrowed := true }
def SizeKnownUptoSaid : Prop := sizeKnownUptoRow.holds Try.pinned (OpenSpec.upto sizeKnownSpec)

/-- 'ferrulelaw16.SizeTells', WHERE WHAT IT READS IS OF BULK AT MOST 1048576: true; the input reads as it did. -/
def sizeTellsUptoRow : OpenClaim := { program := "ytbeaekknpejnlaa", sum := "245d0e7d6ce8cca2304127401e3285a5a0a9b01046bcd028269d8e3d9c7e3bfb", func := "ferrule/ferrulelaw16.SizeTells", spec := "sizeTells", recurses := true, apart := false, narrowed := true }
def SizeTellsUptoSaid : Prop := sizeTellsUptoRow.holds Try.pinned (OpenSpec.upto sizeTellsSpec)

/-- 'ferrulelaw16.SizeGreatest', WHERE WHAT IT READS IS OF BULK AT MOST 1048576: true; the input reads as it did. -/
def sizeGreatestUptoRow : OpenClaim := { program := "ytbeaekknpejnlaa", sum := "245d0e7d6ce8cca2304127401e3285a5a0a9b01046bcd028269d8e3d9c7e3bfb", func := "ferrule/ferrulelaw16.SizeGreatest", spec := "sizeGreatest", recurses := true, apart := false, narrowed := true }
def SizeGreatestUptoSaid : Prop := sizeGreatestUptoRow.holds Try.pinned (OpenSpec.upto sizeGreatestSpec)

/-- 'ferrulelaw16.SizeLess', WHERE WHAT IT READS IS OF BULK AT MOST 1048576: true; the input reads as it did. -/
def sizeLessUptoRow : OpenClaim := { program := "ytbeaekknpejnlaa", sum := "245d0e7d6ce8cca2304127401e3285a5a0a9b01046bcd028269d8e3d9c7e3bfb", func := "ferrule/ferrulelaw16.SizeLess", spec := "sizeLess", apart := false, narrowed := true }
def SizeLessUptoSaid : Prop := sizeLessUptoRow.holds Try.pinned (OpenSpec.upto sizeLessSpec)

/-- 'ferrulelaw16.SizeRoom', WHERE WHAT IT READS IS OF BULK AT MOST 1048576: true; the input reads as it did. -/
def sizeRoomUptoRow : OpenClaim := { program := "ytbeaekknpejnlaa", sum := "245d0e7d6ce8cca2304127401e3285a5a0a9b01046bcd028269d8e3d9c7e3bfb", func := "ferrule/ferrulelaw16.SizeRoom", spec := "sizeRoom", apart := false, narrowed := true }
def SizeRoomUptoSaid : Prop := sizeRoomUptoRow.holds Try.pinned (OpenSpec.upto sizeRoomSpec)

end Rows
end Go.Proofs.Ytbeaekknpejnlaa
