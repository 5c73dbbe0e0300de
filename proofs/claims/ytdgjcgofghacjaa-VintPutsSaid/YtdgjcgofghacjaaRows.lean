/-
  No cell of these rows narrows 'for every input' (looked for: loops, veiled, ifaces, maps, wideKeys, modest, calm, conditions, laid).
  DERIVED. THE GIVEN ROWS OF THIS SEAT. 5 by the template 'for every input the law returns true; each argument reads behind the call as it read before'; 0 by the template 'total and deterministic' (their statements: YtdgjcgofghacjaaTotals.lean).
  GIVEN WITH THE SEED: the statements are not yours to turn. If you find one false, say at which input.
  Laid BY PROGRAM, IN A SANDBOX (cutbox-rows.mjs): the forced cells as the released guide's own fill.sh prints them over the translation 022a12ec8c4f5af1… (all of the seat's roots in one cut). By AI agents, Wed Nov 11 2026. No macro, syntax, notation, axiom, sorry.
-/
import Derived.Test.YtdgjcgofghacjaaChecked
import GoSem.Claim
import GoSem.ClaimJoined
import GoSem.ClaimMapViews
import Derived.JoinedTies
import Derived.KernelRfl
namespace Go.Proofs.Ytdgjcgofghacjaa
/- THE CELL 'sum', in the pinned program and in every row, IS THE sha256 OF THE DUMP (.gsa) THAT YtdgjcgofghacjaaProg.lean LOADS. Nothing in Lean hashes anything: it is a label: what it is worth is what the hold of that sum in a sandbox is worth. -/
noncomputable def Try.pinned : Pinned := { name := "ytdgjcgofghacjaa", sum := "022a12ec8c4f5af1d39640666b199b8446c422c5bdc6329b73dee070c0c0a95d", checked := Try.checked }
namespace Rows
def none {H : Type} : Left H := { results := [], args := [] }

/-- 'ferrulelaw4.VintKnown': WHATEVER THE INPUT: true; the input reads as it did. -/
def vintKnownSpec : ChangeSpec := { name := "vintKnown", fn := fun _ => fun
  | [] => { results := [.lit (.bool true)], args := [] }
  | _ => none }
def vintKnownRow : OpenClaim := { program := "ytdgjcgofghacjaa", sum := "022a12ec8c4f5af1d39640666b199b8446c422c5bdc6329b73dee070c0c0a95d", func := "ferrule/ferrulelaw4.VintKnown", spec := "vintKnown", apart := false }
def VintKnownSaid : Prop := vintKnownRow.holds Try.pinned (OpenSpec.ofChange vintKnownSpec)

/-- ITS FALSE NEIGHBOUR: 'it returns false'. Refute it at one input. -/
def vintKnownWrong : ChangeSpec := { name := "vintKnown", fn := fun _ => fun
  | [] => { results := [.lit (.bool false)], args := [] }
  | _ => none }
def VintKnownWrongFalsely : Prop := vintKnownRow.holds Try.pinned (OpenSpec.ofChange vintKnownWrong)

/-- 'ferrulelaw4.VintPuts': WHATEVER THE INPUT: true; the input reads as it did. -/
def vintPutsSpec : ChangeSpec := { name := "vintPuts", fn := fun _ => fun
  | [d1, d2, d3] => { results := [.lit (.bool true)], args := [d1, d2, d3] }
  | _ => none }
def vintPutsRow : OpenClaim := { program := "ytdgjcgofghacjaa", sum := "022a12ec8c4f5af1d39640666b199b8446c422c5bdc6329b73dee070c0c0a95d", func := "ferrule/ferrulelaw4.VintPuts", spec := "vintPuts", recurses := true, apart := false }
def VintPutsSaid : Prop := vintPutsRow.holds Try.pinned (OpenSpec.ofChange vintPutsSpec)

/-- ITS FALSE NEIGHBOUR: 'it returns false'. Refute it at one input. -/
def vintPutsWrong : ChangeSpec := { name := "vintPuts", fn := fun _ => fun
  | [d1, d2, d3] => { results := [.lit (.bool false)], args := [d1, d2, d3] }
  | _ => none }
def VintPutsWrongFalsely : Prop := vintPutsRow.holds Try.pinned (OpenSpec.ofChange vintPutsWrong)

/-- 'ferrulelaw4.VintGets': WHATEVER THE INPUT: true; the input reads as it did. -/
def vintGetsSpec : ChangeSpec := { name := "vintGets", fn := fun _ => fun
  | [d] => { results := [.lit (.bool true)], args := [d] }
  | _ => none }
def vintGetsRow : OpenClaim := { program := "ytdgjcgofghacjaa", sum := "022a12ec8c4f5af1d39640666b199b8446c422c5bdc6329b73dee070c0c0a95d", func := "ferrule/ferrulelaw4.VintGets", spec := "vintGets", apart := false }
def VintGetsSaid : Prop := vintGetsRow.holds Try.pinned (OpenSpec.ofChange vintGetsSpec)

/-- ITS FALSE NEIGHBOUR: 'it returns false'. Refute it at one input. -/
def vintGetsWrong : ChangeSpec := { name := "vintGets", fn := fun _ => fun
  | [d] => { results := [.lit (.bool false)], args := [d] }
  | _ => none }
def VintGetsWrongFalsely : Prop := vintGetsRow.holds Try.pinned (OpenSpec.ofChange vintGetsWrong)

/-- 'ferrulelaw4.VintOrder': WHATEVER THE INPUT: true; the input reads as it did. -/
def vintOrderSpec : ChangeSpec := { name := "vintOrder", fn := fun _ => fun
  | [d1, d2] => { results := [.lit (.bool true)], args := [d1, d2] }
  | _ => none }
def vintOrderRow : OpenClaim := { program := "ytdgjcgofghacjaa", sum := "022a12ec8c4f5af1d39640666b199b8446c422c5bdc6329b73dee070c0c0a95d", func := "ferrule/ferrulelaw4.VintOrder", spec := "vintOrder", apart := false }
def VintOrderSaid : Prop := vintOrderRow.holds Try.pinned (OpenSpec.ofChange vintOrderSpec)

/-- ITS FALSE NEIGHBOUR: 'it returns false'. Refute it at one input. -/
def vintOrderWrong : ChangeSpec := { name := "vintOrder", fn := fun _ => fun
  | [d1, d2] => { results := [.lit (.bool false)], args := [d1, d2] }
  | _ => none }
def VintOrderWrongFalsely : Prop := vintOrderRow.holds Try.pinned (OpenSpec.ofChange vintOrderWrong)

/-- 'ferrulelaw4.VintRows': WHATEVER THE INPUT: true; the input reads as it did. -/
def vintRowsSpec : ChangeSpec := { name := "vintRows", fn := fun _ => fun
  | [d] => { results := [.lit (.bool true)], args := [d] }
  | _ => none }
def vintRowsRow : OpenClaim := { program := "ytdgjcgofghacjaa", sum := "022a12ec8c4f5af1d39640666b199b8446c422c5bdc6329b73dee070c0c0a95d", func := "ferrule/ferrulelaw4.VintRows", spec := "vintRows", apart := false }
def VintRowsSaid : Prop := vintRowsRow.holds Try.pinned (OpenSpec.ofChange vintRowsSpec)

/-- ITS FALSE NEIGHBOUR: 'it returns false'. Refute it at one input. -/
def vintRowsWrong : ChangeSpec := { name := "vintRows", fn := fun _ => fun
  | [d] => { results := [.lit (.bool false)], args := [d] }
  | _ => none }
def VintRowsWrongFalsely : Prop := vintRowsRow.holds Try.pinned (OpenSpec.ofChange vintRowsWrong)

/- THE SECOND FORM. 'bulk': how many values and letters a reading holds, each counted each time it is reached (what is shared counts as often as it is met; a slice's spare places count too). A statement '..UptoSaid' is the law's where the arguments, and the package variables that the reading takes, are together of bulk at most 1048576: NARROWER than '..Said'. Prove '..Said' where nothing that the law and all that it calls make is longer than what came in: it says more and counts as full. Else prove '..UptoSaid'. A law counts once. -/
mutual
def uptoBulk {H : Type} : DataW H → Nat
  | .lit (.string bytes) => bytes.length + 1
  | .lit _ => 1
  | .nil => 1
  | .ptr d => uptoBulk d + 1
  | .slice elems spare => uptoBulkAll elems + uptoBulkAll spare + 1
  | .agg parts => uptoBulkAll parts + 1
  | .iface _ d => uptoBulk d + 1
  | .map entries => uptoBulkEntries entries + 1
  | .held _ => 1
def uptoBulkAll {H : Type} : List (DataW H) → Nat
  | [] => 0
  | d :: r => uptoBulk d + uptoBulkAll r
def uptoBulkEntries {H : Type} : List (Lit × DataW H) → Nat
  | [] => 0
  | x :: r => uptoBulkEntry x + uptoBulkEntries r
def uptoBulkEntry {H : Type} : Lit × DataW H → Nat
  | (.string bytes, d) => bytes.length + uptoBulk d + 1
  | (_, d) => uptoBulk d + 1
 end
def uptoSmall : (H : Type) → List (DataW H) → Bool := fun _ ds => decide (uptoBulkAll ds ≤ 1048576)
def OpenSpec.upto (s : _root_.Go.ChangeSpec) : _root_.Go.OpenSpec := { _root_.Go.OpenSpec.ofChange s with cond := some uptoSmall }

/-- 'ferrulelaw4.VintKnown', WHERE WHAT IT READS IS OF BULK AT MOST 1048576: true; the input reads as it did. -/
def vintKnownUptoRow : OpenClaim := { program := "ytdgjcgofghacjaa", sum := "022a12ec8c4f5af1d39640666b199b8446c422c5bdc6329b73dee070c0c0a95d", func := "ferrule/ferrulelaw4.VintKnown", spec := "vintKnown", apart := false, narrowed := true }
def VintKnownUptoSaid : Prop := vintKnownUptoRow.holds Try.pinned (OpenSpec.upto vintKnownSpec)

/-- 'ferrulelaw4.VintPuts', WHERE WHAT IT READS IS OF BULK AT MOST 1048576: true; the input reads as it did. -/
def vintPutsUptoRow : OpenClaim := { program := "ytdgjcgofghacjaa", sum := "022a12ec8c4f5af1d39640666b199b8446c422c5bdc6329b73dee070c0c0a95d", func := "ferrule/ferrulelaw4.VintPuts", spec := "vintPuts", recurses := true, apart := false, narrowed := true }
def VintPutsUptoSaid : Prop := vintPutsUptoRow.holds Try.pinned (OpenSpec.upto vintPutsSpec)

/-- 'ferrulelaw4.VintGets', WHERE WHAT IT READS IS OF BULK AT MOST 1048576: true; the input reads as it did. -/
def vintGetsUptoRow : OpenClaim := { program := "ytdgjcgofghacjaa", sum := "022a12ec8c4f5af1d39640666b199b8446c422c5bdc6329b73dee070c0c0a95d", func := "ferrule/ferrulelaw4.VintGets", spec := "vintGets", apart := false, narrowed := true }
def VintGetsUptoSaid : Prop := vintGetsUptoRow.holds Try.pinned (OpenSpec.upto vintGetsSpec)

/-- 'ferrulelaw4.VintOrder', WHERE WHAT IT READS IS OF BULK AT MOST 1048576: true; the input reads as it did. -/
def vintOrderUptoRow : OpenClaim := { program := "ytdgjcgofghacjaa", sum := "022a12ec8c4f5af1d39640666b199b8446c422c5bdc6329b73dee070c0c0a95d", func := "ferrule/ferrulelaw4.VintOrder", spec := "vintOrder", apart := false, narrowed := true }
def VintOrderUptoSaid : Prop := vintOrderUptoRow.holds Try.pinned (OpenSpec.upto vintOrderSpec)

/-- 'ferrulelaw4.VintRows', WHERE WHAT IT READS IS OF BULK AT MOST 1048576: true; the input reads as it did. -/
def vintRowsUptoRow : OpenClaim := { program := "ytdgjcgofghacjaa", sum := "022a12ec8c4f5af1d39640666b199b8446c422c5bdc6329b73dee070c0c0a95d", func := "ferrule/ferrulelaw4.VintRows", spec := "vintRows", apart := false, narrowed := true }
def VintRowsUptoSaid : Prop := vintRowsUptoRow.holds Try.pinned (OpenSpec.upto vintRowsSpec)

end Rows
end Go.Proofs.Ytdgjcgofghacjaa
