/-
  No cell of these rows narrows 'for every input' (looked for: loops, veiled, ifaces, maps, wideKeys, modest, calm, conditions, laid).
  DERIVED. THE GIVEN ROWS OF THIS SEAT. 5 by the template 'for every input the law returns true; each argument reads behind the call as it read before'; 0 by the template 'total and deterministic' (their statements: YtnogokemjcfaoaaTotals.lean).
  GIVEN WITH THE SEED: the statements are not yours to turn. If you find one false, say at which input.
  Laid BY PROGRAM, IN A SANDBOX (cutbox-rows.mjs): the forced cells as the released guide's own fill.sh prints them over the translation cac841f9d442eed3… (all of the seat's roots in one cut). By AI agents, Wed Nov 11 2026. No macro, syntax, notation, axiom, sorry.
-/
import Derived.Test.YtnogokemjcfaoaaChecked
import GoSem.Claim
import GoSem.ClaimJoined
import GoSem.ClaimMapViews
import Derived.JoinedTies
import Derived.KernelRfl
namespace Go.Proofs.Ytnogokemjcfaoaa
/- THE CELL 'sum', in the pinned program and in every row, IS THE sha256 OF THE DUMP (.gsa) THAT YtnogokemjcfaoaaProg.lean LOADS. Nothing in Lean hashes anything: it is a label: what it is worth is what the hold of that sum in a sandbox is worth. -/
noncomputable def Try.pinned : Pinned := { name := "ytnogokemjcfaoaa", sum := "cac841f9d442eed365948c5d4fac5f6efcd07a09d221960cafa850d36615047b", checked := Try.checked }
namespace Rows
def none {H : Type} : Left H := { results := [], args := [] }

/-- 'ferrulelaw13.BlocksKnown': WHATEVER THE INPUT: true; the input reads as it did. -/
def blocksKnownSpec : ChangeSpec := { name := "blocksKnown", fn := fun _ => fun
  | [] => { results := [.lit (.bool true)], args := [] }
  | _ => none }
def blocksKnownRow : OpenClaim := { program := "ytnogokemjcfaoaa", sum := "cac841f9d442eed365948c5d4fac5f6efcd07a09d221960cafa850d36615047b", func := "ferrule/ferrulelaw13.BlocksKnown", spec := "blocksKnown", apart := false }
def BlocksKnownSaid : Prop := blocksKnownRow.holds Try.pinned (OpenSpec.ofChange blocksKnownSpec)

/-- ITS FALSE NEIGHBOUR: 'it returns false'. Refute it at one input. -/
def blocksKnownWrong : ChangeSpec := { name := "blocksKnown", fn := fun _ => fun
  | [] => { results := [.lit (.bool false)], args := [] }
  | _ => none }
def BlocksKnownWrongFalsely : Prop := blocksKnownRow.holds Try.pinned (OpenSpec.ofChange blocksKnownWrong)

/-- 'ferrulelaw13.BlocksRuns': WHATEVER THE INPUT: true; the input reads as it did. -/
def blocksRunsSpec : ChangeSpec := { name := "blocksRuns", fn := fun _ => fun
  | [d1, d2, d3, d4, d5] => { results := [.lit (.bool true)], args := [d1, d2, d3, d4, d5] }
  | _ => none }
def blocksRunsRow : OpenClaim := { program := "ytnogokemjcfaoaa", sum := "cac841f9d442eed365948c5d4fac5f6efcd07a09d221960cafa850d36615047b", func := "ferrule/ferrulelaw13.BlocksRuns", spec := "blocksRuns", apart := false }
def BlocksRunsSaid : Prop := blocksRunsRow.holds Try.pinned (OpenSpec.ofChange blocksRunsSpec)

/-- ITS FALSE NEIGHBOUR: 'it returns false'. Refute it at one input. -/
def blocksRunsWrong : ChangeSpec := { name := "blocksRuns", fn := fun _ => fun
  | [d1, d2, d3, d4, d5] => { results := [.lit (.bool false)], args := [d1, d2, d3, d4, d5] }
  | _ => none }
def BlocksRunsWrongFalsely : Prop := blocksRunsRow.holds Try.pinned (OpenSpec.ofChange blocksRunsWrong)

/-- 'ferrulelaw13.BlocksVictim': WHATEVER THE INPUT: true; the input reads as it did. -/
def blocksVictimSpec : ChangeSpec := { name := "blocksVictim", fn := fun _ => fun
  | [d1, d2] => { results := [.lit (.bool true)], args := [d1, d2] }
  | _ => none }
def blocksVictimRow : OpenClaim := { program := "ytnogokemjcfaoaa", sum := "cac841f9d442eed365948c5d4fac5f6efcd07a09d221960cafa850d36615047b", func := "ferrule/ferrulelaw13.BlocksVictim", spec := "blocksVictim", apart := false }
def BlocksVictimSaid : Prop := blocksVictimRow.holds Try.pinned (OpenSpec.ofChange blocksVictimSpec)

/-- ITS FALSE NEIGHBOUR: 'it returns false'. Refute it at one input. -/
def blocksVictimWrong : ChangeSpec := { name := "blocksVictim", fn := fun _ => fun
  | [d1, d2] => { results := [.lit (.bool false)], args := [d1, d2] }
  | _ => none }
def BlocksVictimWrongFalsely : Prop := blocksVictimRow.holds Try.pinned (OpenSpec.ofChange blocksVictimWrong)

/-- 'ferrulelaw13.BlocksParts': WHATEVER THE INPUT: true; the input reads as it did. -/
def blocksPartsSpec : ChangeSpec := { name := "blocksParts", fn := fun _ => fun
  | [d1, d2] => { results := [.lit (.bool true)], args := [d1, d2] }
  | _ => none }
def blocksPartsRow : OpenClaim := { program := "ytnogokemjcfaoaa", sum := "cac841f9d442eed365948c5d4fac5f6efcd07a09d221960cafa850d36615047b", func := "ferrule/ferrulelaw13.BlocksParts", spec := "blocksParts", apart := false }
def BlocksPartsSaid : Prop := blocksPartsRow.holds Try.pinned (OpenSpec.ofChange blocksPartsSpec)

/-- ITS FALSE NEIGHBOUR: 'it returns false'. Refute it at one input. -/
def blocksPartsWrong : ChangeSpec := { name := "blocksParts", fn := fun _ => fun
  | [d1, d2] => { results := [.lit (.bool false)], args := [d1, d2] }
  | _ => none }
def BlocksPartsWrongFalsely : Prop := blocksPartsRow.holds Try.pinned (OpenSpec.ofChange blocksPartsWrong)

/-- 'ferrulelaw13.BlocksCollect': WHATEVER THE INPUT: true; the input reads as it did. -/
def blocksCollectSpec : ChangeSpec := { name := "blocksCollect", fn := fun _ => fun
  | [d1, d2, d3, d4] => { results := [.lit (.bool true)], args := [d1, d2, d3, d4] }
  | _ => none }
def blocksCollectRow : OpenClaim := { program := "ytnogokemjcfaoaa", sum := "cac841f9d442eed365948c5d4fac5f6efcd07a09d221960cafa850d36615047b", func := "ferrule/ferrulelaw13.BlocksCollect", spec := "blocksCollect", unfollowed := true, recurses := true, apart := false }
def BlocksCollectSaid : Prop := blocksCollectRow.holds Try.pinned (OpenSpec.ofChange blocksCollectSpec)

/-- ITS FALSE NEIGHBOUR: 'it returns false'. Refute it at one input. -/
def blocksCollectWrong : ChangeSpec := { name := "blocksCollect", fn := fun _ => fun
  | [d1, d2, d3, d4] => { results := [.lit (.bool false)], args := [d1, d2, d3, d4] }
  | _ => none }
def BlocksCollectWrongFalsely : Prop := blocksCollectRow.holds Try.pinned (OpenSpec.ofChange blocksCollectWrong)

/- THE SECOND FORM. 'bulk': how many values and letters a reading holds, each counted each time it is reached (what is shared counts as often as it is met; a slice's spare places count too). A statement '..UptoSaid' is the law's where the arguments, and the package variables that the reading takes, are together of bulk at most 1048576: NARROWER than '..Said'. Prove '..Said' where nothing that the law and all that it calls make is longer than what came in: it says more and counts as full. Else prove '..UptoSaid'. A law counts once. -/
mutual
def uptoBulk {H : Type} : DataW H → Nat
  | .lit (.string bytes) => bytes.length + 1
  | .lit _ => 1
  | .nil => 1
  | .ptr d => uptoBulk d + 1
  | .slice elems spare => uptoBulkAll elems + uptoBulkAll spare + 1
  | .agg parts => uptoBulkAll parts + 1
  | .iface _ d => uptoBulk d + 1
  | .map entries => uptoBulkEntries entries + 1
  | .held _ => 1
def uptoBulkAll {H : Type} : List (DataW H) → Nat
  | [] => 0
  | d :: r => uptoBulk d + uptoBulkAll r
def uptoBulkEntries {H : Type} : List (Lit × DataW H) → Nat
  | [] => 0
  | x :: r => uptoBulkEntry x + uptoBulkEntries r
def uptoBulkEntry {H : Type} : Lit × DataW H → Nat
  | (.string bytes, d) => bytes.length + uptoBulk d + 1
  | (_, d) => uptoBulk d + 1
 end
def uptoSmall : (H : Type) → List (DataW H) → Bool := fun _ ds => decide (uptoBulkAll ds ≤ 1048576)
def OpenSpec.upto (s : _root_.Go.ChangeSpec) : _root_.Go.OpenSpec := { _root_.Go.OpenSpec.ofChange s with cond := some uptoSmall }

/-- 'ferrulelaw13.BlocksKnown', WHERE WHAT IT READS IS OF BULK AT MOST 1048576: true; the input reads as it did. -/
def blocksKnownUptoRow : OpenClaim := { program := "ytnogokemjcfaoaa", sum := "cac841f9d442eed365948c5d4fac5f6efcd07a09d221960cafa850d36615047b", func := "ferrule/ferrulelaw13.BlocksKnown", spec := "blocksKnown", apart := false, narrowed := true }
def BlocksKnownUptoSaid : Prop := blocksKnownUptoRow.holds Try.pinned (OpenSpec.upto blocksKnownSpec)

/-- 'ferrulelaw13.BlocksRuns', WHERE WHAT IT READS IS OF BULK AT MOST 1048576: true; the input reads as it did. -/
def blocksRunsUptoRow : OpenClaim := { program := "ytnogokemjcfaoaa", sum := "cac841f9d442eed365948c5d4fac5f6efcd07a09d221960cafa850d36615047b", func := "ferrule/ferrulelaw13.BlocksRuns", spec := "blocksRuns", apart := false, narrowed := true }
def BlocksRunsUptoSaid : Prop := blocksRunsUptoRow.holds Try.pinned (OpenSpec.upto blocksRunsSpec)

/-- 'ferrulelaw13.BlocksVictim', WHERE WHAT IT READS IS OF BULK AT MOST 1048576: true; the input reads as it did. -/
def blocksVictimUptoRow : OpenClaim := { program := "ytnogokemjcfaoaa", sum := "cac841f9d442eed365948c5d4fac5f6efcd07a09d221960cafa850d36615047b", func := "ferrule/ferrulelaw13.BlocksVictim", spec := "blocksVictim", apart := false, narrowed := true }
def BlocksVictimUptoSaid : Prop := blocksVictimUptoRow.holds Try.pinned (OpenSpec.upto blocksVictimSpec)

/-- 'ferrulelaw13.BlocksParts', WHERE WHAT IT READS IS OF BULK AT MOST 1048576: true; the input reads as it did. -/
def blocksPartsUptoRow : OpenClaim := { program := "ytnogokemjcfaoaa", sum := "cac841f9d442eed365948c5d4fac5f6efcd07a09d221960cafa850d36615047b", func := "ferrule/ferrulelaw13.BlocksParts", spec := "blocksParts", apart := false, narrowed := true }
def BlocksPartsUptoSaid : Prop := blocksPartsUptoRow.holds Try.pinned (OpenSpec.upto blocksPartsSpec)

/-- 'ferrulelaw13.BlocksCollect', WHERE WHAT IT READS IS OF BULK AT MOST 1048576: true; the input reads as it did. -/
def blocksCollectUptoRow : OpenClaim := { program := "ytnogokemjcfaoaa", sum := "cac841f9d442eed365948c5d4fac5f6efcd07a09d221960cafa850d36615047b", func := "ferrule/ferrulelaw13.BlocksCollect", spec := "blocksCollect", unfollowed := true, recurses := true, apart := false, narrowed := true }
def BlocksCollectUptoSaid : Prop := blocksCollectUptoRow.holds Try.pinned (OpenSpec.upto blocksCollectSpec)

end Rows
end Go.Proofs.Ytnogokemjcfaoaa
