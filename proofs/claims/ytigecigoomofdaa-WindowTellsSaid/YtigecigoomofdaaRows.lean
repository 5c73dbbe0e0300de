/-
  No cell of these rows narrows 'for every input' (looked for: loops, veiled, ifaces, maps, wideKeys, modest, calm, conditions, laid).
  DERIVED. THE GIVEN ROWS OF THIS SEAT. 4 by the template 'for every input the law returns true; each argument reads behind the call as it read before'; 0 by the template 'total and deterministic' (their statements: YtigecigoomofdaaTotals.lean).
  GIVEN WITH THE SEED: the statements are not yours to turn. If you find one false, say at which input.
  Laid BY PROGRAM, IN A SANDBOX (cutbox-rows.mjs): the forced cells as the released guide's own fill.sh prints them over the translation 132f79c48455202d… (all of the seat's roots in one cut). By AI agents, Wed Nov 11 2026. No macro, syntax, notation, axiom, sorry.
-/
import Derived.Test.YtigecigoomofdaaChecked
import GoSem.Claim
import GoSem.ClaimJoined
import GoSem.ClaimMapViews
import Derived.JoinedTies
import Derived.KernelRfl
namespace Go.Proofs.Ytigecigoomofdaa
/- THE CELL 'sum', in the pinned program and in every row, IS THE sha256 OF THE DUMP (.gsa) THAT YtigecigoomofdaaProg.lean LOADS. Nothing in Lean hashes anything: it is a label: what it is worth is what the hold of that sum in a sandbox is worth. -/
noncomputable def Try.pinned : Pinned := { name := "ytigecigoomofdaa", sum := "132f79c48455202db7bcce969129b36c5f0321e292aacf54c320e42eae3827e8", checked := Try.checked }
namespace Rows
def none {H : Type} : Left H := { results := [], args := [] }

/-- 'ferrulelaw15.WindowKnown': WHATEVER THE INPUT: true; the input reads as it did. -/
def windowKnownSpec : ChangeSpec := { name := "windowKnown", fn := fun _ => fun
  | [] => { results := [.lit (.bool true)], args := [] }
  | _ => none }
def windowKnownRow : OpenClaim := { program := "ytigecigoomofdaa", sum := "132f79c48455202db7bcce969129b36c5f0321e292aacf54c320e42eae3827e8", func := "ferrule/ferrulelaw15.WindowKnown", spec := "windowKnown", apart := false }
def WindowKnownSaid : Prop := windowKnownRow.holds Try.pinned (OpenSpec.ofChange windowKnownSpec)

/-- ITS FALSE NEIGHBOUR: 'it returns false'. Refute it at one input. -/
def windowKnownWrong : ChangeSpec := { name := "windowKnown", fn := fun _ => fun
  | [] => { results := [.lit (.bool false)], args := [] }
  | _ => none }
def WindowKnownWrongFalsely : Prop := windowKnownRow.holds Try.pinned (OpenSpec.ofChange windowKnownWrong)

/-- 'ferrulelaw15.WindowTells': WHATEVER THE INPUT: true; the input reads as it did. -/
def windowTellsSpec : ChangeSpec := { name := "windowTells", fn := fun _ => fun
  | [d1, d2, d3, d4, d5, d6] => { results := [.lit (.bool true)], args := [d1, d2, d3, d4, d5, d6] }
  | _ => none }
def windowTellsRow : OpenClaim := { program := "ytigecigoomofdaa", sum := "132f79c48455202db7bcce969129b36c5f0321e292aacf54c320e42eae3827e8", func := "ferrule/ferrulelaw15.WindowTells", spec := "windowTells", apart := false }
def WindowTellsSaid : Prop := windowTellsRow.holds Try.pinned (OpenSpec.ofChange windowTellsSpec)

/-- ITS FALSE NEIGHBOUR: 'it returns false'. Refute it at one input. -/
def windowTellsWrong : ChangeSpec := { name := "windowTells", fn := fun _ => fun
  | [d1, d2, d3, d4, d5, d6] => { results := [.lit (.bool false)], args := [d1, d2, d3, d4, d5, d6] }
  | _ => none }
def WindowTellsWrongFalsely : Prop := windowTellsRow.holds Try.pinned (OpenSpec.ofChange windowTellsWrong)

/-- 'ferrulelaw15.WindowRich': WHATEVER THE INPUT: true; the input reads as it did. -/
def windowRichSpec : ChangeSpec := { name := "windowRich", fn := fun _ => fun
  | [d1, d2] => { results := [.lit (.bool true)], args := [d1, d2] }
  | _ => none }
def windowRichRow : OpenClaim := { program := "ytigecigoomofdaa", sum := "132f79c48455202db7bcce969129b36c5f0321e292aacf54c320e42eae3827e8", func := "ferrule/ferrulelaw15.WindowRich", spec := "windowRich", apart := false }
def WindowRichSaid : Prop := windowRichRow.holds Try.pinned (OpenSpec.ofChange windowRichSpec)

/-- ITS FALSE NEIGHBOUR: 'it returns false'. Refute it at one input. -/
def windowRichWrong : ChangeSpec := { name := "windowRich", fn := fun _ => fun
  | [d1, d2] => { results := [.lit (.bool false)], args := [d1, d2] }
  | _ => none }
def WindowRichWrongFalsely : Prop := windowRichRow.holds Try.pinned (OpenSpec.ofChange windowRichWrong)

/-- 'ferrulelaw15.WindowRewrite': WHATEVER THE INPUT: true; the input reads as it did. -/
def windowRewriteSpec : ChangeSpec := { name := "windowRewrite", fn := fun _ => fun
  | [d1, d2, d3] => { results := [.lit (.bool true)], args := [d1, d2, d3] }
  | _ => none }
def windowRewriteRow : OpenClaim := { program := "ytigecigoomofdaa", sum := "132f79c48455202db7bcce969129b36c5f0321e292aacf54c320e42eae3827e8", func := "ferrule/ferrulelaw15.WindowRewrite", spec := "windowRewrite", unfollowed := true, recurses := true, apart := false }
def WindowRewriteSaid : Prop := windowRewriteRow.holds Try.pinned (OpenSpec.ofChange windowRewriteSpec)

/-- ITS FALSE NEIGHBOUR: 'it returns false'. Refute it at one input. -/
def windowRewriteWrong : ChangeSpec := { name := "windowRewrite", fn := fun _ => fun
  | [d1, d2, d3] => { results := [.lit (.bool false)], args := [d1, d2, d3] }
  | _ => none }
def WindowRewriteWrongFalsely : Prop := windowRewriteRow.holds Try.pinned (OpenSpec.ofChange windowRewriteWrong)

/- THE SECOND FORM. 'bulk': how many values and letters a reading holds, each counted each time it is reached (what is shared counts as often as it is met; a slice's spare places count too). A statement '..UptoSaid' is the law's where the arguments, and the package variables that the reading takes, are together of bulk at most 1048576: NARROWER than '..Said'. Prove '..Said' where nothing that the law and all that it calls make is longer than what came in: it says more and counts as full. Else prove '..UptoSaid'. A law counts once. -/
mutual
def uptoBulk {H : Type} : DataW H → Nat
  | .lit (.string bytes) => bytes.length + 1
  | .lit _ => 1
  | .nil => 1
  | .ptr d => uptoBulk d + 1
  | .slice elems spare => uptoBulkAll elems + uptoBulkAll spare + 1
  | .agg parts => uptoBulkAll parts + 1
  | .iface _ d => uptoBulk d + 1
  | .map entries => uptoBulkEntries entries + 1
  | .held _ => 1
def uptoBulkAll {H : Type} : List (DataW H) → Nat
  | [] => 0
  | d :: r => uptoBulk d + uptoBulkAll r
def uptoBulkEntries {H : Type} : List (Lit × DataW H) → Nat
  | [] => 0
  | x :: r => uptoBulkEntry x + uptoBulkEntries r
def uptoBulkEntry {H : Type} : Lit × DataW H → Nat
  | (.string bytes, d) => bytes.length + uptoBulk d + 1
  | (_, d) => uptoBulk d + 1
 end
def uptoSmall : (H : Type) → List (DataW H) → Bool := fun _ ds => decide (uptoBulkAll ds ≤ 1048576)
def OpenSpec.upto (s : _root_.Go.ChangeSpec) : _root_.Go.OpenSpec := { _root_.Go.OpenSpec.ofChange s with cond := some uptoSmall }

/-- 'ferrulelaw15.WindowKnown', WHERE WHAT IT READS IS OF BULK AT MOST 1048576: true; the input reads as it did. -/
def windowKnownUptoRow : OpenClaim := { program := "ytigecigoomofdaa", sum := "132f79c48455202db7bcce969129b36c5f0321e292aacf54c320e42eae3827e8", func := "ferrule/ferrulelaw15.WindowKnown", spec := "windowKnown", apart := false, narrowed := true }
def WindowKnownUptoSaid : Prop := windowKnownUptoRow.holds Try.pinned (OpenSpec.upto windowKnownSpec)

/-- 'ferrulelaw15.WindowTells', WHERE WHAT IT READS IS OF BULK AT MOST 1048576: true; the input reads as it did. -/
def windowTellsUptoRow : OpenClaim := { program := "ytigecigoomofdaa", sum := "132f79c48455202db7bcce969129b36c5f0321e292aacf54c320e42eae3827e8", func := "ferrule/ferrulelaw15.WindowTells", spec := "windowTells", apart := false, narrowed := true }
def WindowTellsUptoSaid : Prop := windowTellsUptoRow.holds Try.pinned (OpenSpec.upto windowTellsSpec)

/-- 'ferrulelaw15.WindowRich', WHERE WHAT IT READS IS OF BULK AT MOST 1048576: true; the input reads as it did. -/
def windowRichUptoRow : OpenClaim := { program := "ytigecigoomofdaa", sum := "132f79c48455202db7bcce969129b36c5f0321e292aacf54c320e42eae3827e8", func := "ferrule/ferrulelaw15.WindowRich", spec := "windowRich", apart := false, narrowed := true }
def WindowRichUptoSaid : Prop := windowRichUptoRow.holds Try.pinned (OpenSpec.upto windowRichSpec)

/-- 'ferrulelaw15.WindowRewrite', WHERE WHAT IT READS IS OF BULK AT MOST 1048576: true; the input reads as it did. -/
def windowRewriteUptoRow : OpenClaim := { program := "ytigecigoomofdaa", sum := "132f79c48455202db7bcce969129b36c5f0321e292aacf54c320e42eae3827e8", func := "ferrule/ferrulelaw15.WindowRewrite", spec := "windowRewrite", unfollowed := true, recurses := true, apart := false, narrowed := true }
def WindowRewriteUptoSaid : Prop := windowRewriteUptoRow.holds Try.pinned (OpenSpec.upto windowRewriteSpec)

end Rows
end Go.Proofs.Ytigecigoomofdaa
