/-
  No cell of these rows narrows 'for every input' (looked for: loops, veiled, ifaces, maps, wideKeys, modest, calm, conditions, laid).
  DERIVED. THE GIVEN ROWS OF THIS SEAT. 6 by the template 'for every input the law returns true; each argument reads behind the call as it read before'; 0 by the template 'total and deterministic' (their statements: YtmkiicmkdceacaaTotals.lean).
  GIVEN WITH THE SEED: the statements are not yours to turn. If you find one false, say at which input.
  Laid BY PROGRAM, IN A SANDBOX (cutbox-rows.mjs): the forced cells as the released guide's own fill.sh prints them over the translation 8fe5ba0c1ca4667c… (all of the seat's roots in one cut). By AI agents, Wed Nov 11 2026. No macro, syntax, notation, axiom, sorry.
-/
import Derived.Test.YtmkiicmkdceacaaChecked
import GoSem.Claim
import GoSem.ClaimJoined
import GoSem.ClaimMapViews
import Derived.JoinedTies
import Derived.KernelRfl
namespace Go.Proofs.Ytmkiicmkdceacaa
/- THE CELL 'sum', in the pinned program and in every row, IS THE sha256 OF THE DUMP (.gsa) THAT YtmkiicmkdceacaaProg.lean LOADS. Nothing in Lean hashes anything: it is a label: what it is worth is what the hold of that sum in a sandbox is worth. -/
noncomputable def Try.pinned : Pinned := { name := "ytmkiicmkdceacaa", sum := "8fe5ba0c1ca4667cdef12379d80bec60e3b9cd715101fd2c4d8266fe98f246f9", checked := Try.checked }
namespace Rows
def none {H : Type} : Left H := { results := [], args := [] }

/-- 'ferrulelaw10.SpanKnown': WHATEVER THE INPUT: true; the input reads as it did. -/
def spanKnownSpec : ChangeSpec := { name := "spanKnown", fn := fun _ => fun
  | [] => { results := [.lit (.bool true)], args := [] }
  | _ => none }
def spanKnownRow : OpenClaim := { program := "ytmkiicmkdceacaa", sum := "8fe5ba0c1ca4667cdef12379d80bec60e3b9cd715101fd2c4d8266fe98f246f9", func := "ferrule/ferrulelaw10.SpanKnown", spec := "spanKnown", unfollowed := true, recurses := true, apart := false }
def SpanKnownSaid : Prop := spanKnownRow.holds Try.pinned (OpenSpec.ofChange spanKnownSpec)

/-- ITS FALSE NEIGHBOUR: 'it returns false'. Refute it at one input. -/
def spanKnownWrong : ChangeSpec := { name := "spanKnown", fn := fun _ => fun
  | [] => { results := [.lit (.bool false)], args := [] }
  | _ => none }
def SpanKnownWrongFalsely : Prop := spanKnownRow.holds Try.pinned (OpenSpec.ofChange spanKnownWrong)

/-- 'ferrulelaw10.SpanSame': WHATEVER THE INPUT: true; the input reads as it did. -/
def spanSameSpec : ChangeSpec := { name := "spanSame", fn := fun _ => fun
  | [d1, d2, d3, d4, d5] => { results := [.lit (.bool true)], args := [d1, d2, d3, d4, d5] }
  | _ => none }
def spanSameRow : OpenClaim := { program := "ytmkiicmkdceacaa", sum := "8fe5ba0c1ca4667cdef12379d80bec60e3b9cd715101fd2c4d8266fe98f246f9", func := "ferrule/ferrulelaw10.SpanSame", spec := "spanSame", unfollowed := true, recurses := true, apart := false }
def SpanSameSaid : Prop := spanSameRow.holds Try.pinned (OpenSpec.ofChange spanSameSpec)

/-- ITS FALSE NEIGHBOUR: 'it returns false'. Refute it at one input. -/
def spanSameWrong : ChangeSpec := { name := "spanSame", fn := fun _ => fun
  | [d1, d2, d3, d4, d5] => { results := [.lit (.bool false)], args := [d1, d2, d3, d4, d5] }
  | _ => none }
def SpanSameWrongFalsely : Prop := spanSameRow.holds Try.pinned (OpenSpec.ofChange spanSameWrong)

/-- 'ferrulelaw10.SpanForm': WHATEVER THE INPUT: true; the input reads as it did. -/
def spanFormSpec : ChangeSpec := { name := "spanForm", fn := fun _ => fun
  | [d1, d2] => { results := [.lit (.bool true)], args := [d1, d2] }
  | _ => none }
def spanFormRow : OpenClaim := { program := "ytmkiicmkdceacaa", sum := "8fe5ba0c1ca4667cdef12379d80bec60e3b9cd715101fd2c4d8266fe98f246f9", func := "ferrule/ferrulelaw10.SpanForm", spec := "spanForm", unfollowed := true, recurses := true, apart := false }
def SpanFormSaid : Prop := spanFormRow.holds Try.pinned (OpenSpec.ofChange spanFormSpec)

/-- ITS FALSE NEIGHBOUR: 'it returns false'. Refute it at one input. -/
def spanFormWrong : ChangeSpec := { name := "spanForm", fn := fun _ => fun
  | [d1, d2] => { results := [.lit (.bool false)], args := [d1, d2] }
  | _ => none }
def SpanFormWrongFalsely : Prop := spanFormRow.holds Try.pinned (OpenSpec.ofChange spanFormWrong)

/-- 'ferrulelaw10.SpanParts': WHATEVER THE INPUT: true; the input reads as it did. -/
def spanPartsSpec : ChangeSpec := { name := "spanParts", fn := fun _ => fun
  | [d1, d2, d3, d4] => { results := [.lit (.bool true)], args := [d1, d2, d3, d4] }
  | _ => none }
def spanPartsRow : OpenClaim := { program := "ytmkiicmkdceacaa", sum := "8fe5ba0c1ca4667cdef12379d80bec60e3b9cd715101fd2c4d8266fe98f246f9", func := "ferrule/ferrulelaw10.SpanParts", spec := "spanParts", unfollowed := true, recurses := true, apart := false }
def SpanPartsSaid : Prop := spanPartsRow.holds Try.pinned (OpenSpec.ofChange spanPartsSpec)

/-- ITS FALSE NEIGHBOUR: 'it returns false'. Refute it at one input. -/
def spanPartsWrong : ChangeSpec := { name := "spanParts", fn := fun _ => fun
  | [d1, d2, d3, d4] => { results := [.lit (.bool false)], args := [d1, d2, d3, d4] }
  | _ => none }
def SpanPartsWrongFalsely : Prop := spanPartsRow.holds Try.pinned (OpenSpec.ofChange spanPartsWrong)

/-- 'ferrulelaw10.SpanFolds': WHATEVER THE INPUT: true; the input reads as it did. -/
def spanFoldsSpec : ChangeSpec := { name := "spanFolds", fn := fun _ => fun
  | [d1, d2, d3] => { results := [.lit (.bool true)], args := [d1, d2, d3] }
  | _ => none }
def spanFoldsRow : OpenClaim := { program := "ytmkiicmkdceacaa", sum := "8fe5ba0c1ca4667cdef12379d80bec60e3b9cd715101fd2c4d8266fe98f246f9", func := "ferrule/ferrulelaw10.SpanFolds", spec := "spanFolds", unfollowed := true, recurses := true, apart := false }
def SpanFoldsSaid : Prop := spanFoldsRow.holds Try.pinned (OpenSpec.ofChange spanFoldsSpec)

/-- ITS FALSE NEIGHBOUR: 'it returns false'. Refute it at one input. -/
def spanFoldsWrong : ChangeSpec := { name := "spanFolds", fn := fun _ => fun
  | [d1, d2, d3] => { results := [.lit (.bool false)], args := [d1, d2, d3] }
  | _ => none }
def SpanFoldsWrongFalsely : Prop := spanFoldsRow.holds Try.pinned (OpenSpec.ofChange spanFoldsWrong)

/-- 'ferrulelaw10.SpanMaps': WHATEVER THE INPUT: true; the input reads as it did. -/
def spanMapsSpec : ChangeSpec := { name := "spanMaps", fn := fun _ => fun
  | [d1, d2, d3] => { results := [.lit (.bool true)], args := [d1, d2, d3] }
  | _ => none }
def spanMapsRow : OpenClaim := { program := "ytmkiicmkdceacaa", sum := "8fe5ba0c1ca4667cdef12379d80bec60e3b9cd715101fd2c4d8266fe98f246f9", func := "ferrule/ferrulelaw10.SpanMaps", spec := "spanMaps", unfollowed := true, recurses := true, apart := false }
def SpanMapsSaid : Prop := spanMapsRow.holds Try.pinned (OpenSpec.ofChange spanMapsSpec)

/-- ITS FALSE NEIGHBOUR: 'it returns false'. Refute it at one input. -/
def spanMapsWrong : ChangeSpec := { name := "spanMaps", fn := fun _ => fun
  | [d1, d2, d3] => { results := [.lit (.bool false)], args := [d1, d2, d3] }
  | _ => none }
def SpanMapsWrongFalsely : Prop := spanMapsRow.holds Try.pinned (OpenSpec.ofChange spanMapsWrong)

/- THE SECOND FORM. 'bulk': how many values and letters a reading holds, each counted each time it is reached (what is shared counts as often as it is met; a slice's spare places count too). A statement '..UptoSaid' is the law's where the arguments, and the package variables that the reading takes, are together of bulk at most 1048576: NARROWER than '..Said'. Prove '..Said' where nothing that the law and all that it calls make is longer than what came in: it says more and counts as full. Else prove '..UptoSaid'. A law counts once. -/
mutual
def uptoBulk {H : Type} : DataW H → Nat
  | .lit (.string bytes) => bytes.length + 1
  | .lit _ => 1
  | .nil => 1
  | .ptr d => uptoBulk d + 1
  | .slice elems spare => uptoBulkAll elems + uptoBulkAll spare + 1
  | .agg parts => uptoBulkAll parts + 1
  | .iface _ d => uptoBulk d + 1
  | .map entries => uptoBulkEntries entries + 1
  | .held _ => 1
def uptoBulkAll {H : Type} : List (DataW H) → Nat
  | [] => 0
  | d :: r => uptoBulk d + uptoBulkAll r
def uptoBulkEntries {H : Type} : List (Lit × DataW H) → Nat
  | [] => 0
  | x :: r => uptoBulkEntry x + uptoBulkEntries r
def uptoBulkEntry {H : Type} : Lit × DataW H → Nat
  | (.string bytes, d) => bytes.length + uptoBulk d + 1
  | (_, d) => uptoBulk d + 1
 end
def uptoSmall : (H : Type) → List (DataW H) → Bool := fun _ ds => decide (uptoBulkAll ds ≤ 1048576)
def OpenSpec.upto (s : _root_.Go.ChangeSpec) : _root_.Go.OpenSpec := { _root_.Go.OpenSpec.ofChange s with cond := some uptoSmall }

/-- 'ferrulelaw10.SpanKnown', WHERE WHAT IT READS IS OF BULK AT MOST 1048576: true; the input reads as it did. -/
def spanKnownUptoRow : OpenClaim := { program := "ytmkiicmkdceacaa", sum := "8fe5ba0c1ca4667cdef12379d80bec60e3b9cd715101fd2c4d8266fe98f246f9", func := "ferrule/ferrulelaw10.SpanKnown", spec := "spanKnown", unfollowed := true, recurses := true, apart := false, narrowed := true }
def SpanKnownUptoSaid : Prop := spanKnownUptoRow.holds Try.pinned (OpenSpec.upto spanKnownSpec)

/-- 'ferrulelaw10.SpanSame', WHERE WHAT IT READS IS OF BULK AT MOST 1048576: true; the input reads as it did. -/
def spanSameUptoRow : OpenClaim := { program := "ytmkiicmkdceacaa", sum := "8fe5ba0c1ca4667cdef12379d80bec60e3b9cd715101fd2c4d8266fe98f246f9", func := "ferrule/ferrulelaw10.SpanSame", spec := "spanSame", unfollowed := true, recurses := true, apart := false, narrowed := true }
def SpanSameUptoSaid : Prop := spanSameUptoRow.holds Try.pinned (OpenSpec.upto spanSameSpec)

/-- 'ferrulelaw10.SpanForm', WHERE WHAT IT READS IS OF BULK AT MOST 1048576: true; the input reads as it did. -/
def spanFormUptoRow : OpenClaim := { program := "ytmkiicmkdceacaa", sum := "8fe5ba0c1ca4667cdef12379d80bec60e3b9cd715101fd2c4d8266fe98f246f9", func := "ferrule/ferrulelaw10.SpanForm", spec := "spanForm", unfollowed := true, recurses := true, apart := false, narrowed := true }
def SpanFormUptoSaid : Prop := spanFormUptoRow.holds Try.pinned (OpenSpec.upto spanFormSpec)

/-- 'ferrulelaw10.SpanParts', WHERE WHAT IT READS IS OF BULK AT MOST 1048576: true; the input reads as it did. -/
def spanPartsUptoRow : OpenClaim := { program := "ytmkiicmkdceacaa", sum := "8fe5ba0c1ca4667cdef12379d80bec60e3b9cd715101fd2c4d8266fe98f246f9", func := "ferrule/ferrulelaw10.SpanParts", spec := "spanParts", unfollowed := true, recurses := true, apart := false, narrowed := true }
def SpanPartsUptoSaid : Prop := spanPartsUptoRow.holds Try.pinned (OpenSpec.upto spanPartsSpec)

/-- 'ferrulelaw10.SpanFolds', WHERE WHAT IT READS IS OF BULK AT MOST 1048576: true; the input reads as it did. -/
def spanFoldsUptoRow : OpenClaim := { program := "ytmkiicmkdceacaa", sum := "8fe5ba0c1ca4667cdef12379d80bec60e3b9cd715101fd2c4d8266fe98f246f9", func := "ferrule/ferrulelaw10.SpanFolds", spec := "spanFolds", unfollowed := true, recurses := true, apart := false, narrowed := true }
def SpanFoldsUptoSaid : Prop := spanFoldsUptoRow.holds Try.pinned (OpenSpec.upto spanFoldsSpec)

/-- 'ferrulelaw10.SpanMaps', WHERE WHAT IT READS IS OF BULK AT MOST 1048576: true; the input reads as it did. -/
def spanMapsUptoRow : OpenClaim := { program := "ytmkiicmkdceacaa", sum := "8fe5ba0c1ca4667cdef12379d80bec60e3b9cd715101fd2c4d8266fe98f246f9", func := "ferrule/ferrulelaw10.SpanMaps", spec := "spanMaps", unfollowed := true, recurses := true, apart := false, narrowed := true }
def SpanMapsUptoSaid : Prop := spanMapsUptoRow.holds Try.pinned (OpenSpec.upto spanMapsSpec)

end Rows
end Go.Proofs.Ytmkiicmkdceacaa
