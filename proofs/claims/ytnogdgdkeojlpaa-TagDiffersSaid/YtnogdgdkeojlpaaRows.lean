/-
  No cell of these rows narrows 'for every input' (looked for: loops, veiled, ifaces, maps, wideKeys, modest, calm, conditions, laid).
  DERIVED. THE GIVEN ROWS OF THIS SEAT. 5 by the template 'for every input the law returns true; each argument reads behind the call as it read before'; 0 by the template 'total and deterministic' (their statements: YtnogdgdkeojlpaaTotals.lean).
  GIVEN WITH THE SEED: the statements are not yours to turn. If you find one false, say at which input.
  Laid BY PROGRAM, IN A SANDBOX (cutbox-rows.mjs): the forced cells as the released guide's own fill.sh prints them over the translation 9d387f8df6b39019… (all of the seat's roots in one cut). By AI agents, Wed Nov 11 2026. No macro, syntax, notation, axiom, sorry.
-/
import Derived.Test.YtnogdgdkeojlpaaChecked
import GoSem.Claim
import GoSem.ClaimJoined
import GoSem.ClaimMapViews
import Derived.JoinedTies
import Derived.KernelRfl
namespace Go.Proofs.Ytnogdgdkeojlpaa
/- THE CELL 'sum', in the pinned program and in every row, IS THE sha256 OF THE DUMP (.gsa) THAT YtnogdgdkeojlpaaProg.lean LOADS. Nothing in Lean hashes anything: it is a label: what it is worth is what the hold of that sum in a sandbox is worth. -/
noncomputable def Try.pinned : Pinned := { name := "ytnogdgdkeojlpaa", sum := "9d387f8df6b390190d0497ac2a998bd319fcf09df55bfda808a3c040565e0cf8", checked := Try.checked }
namespace Rows
def none {H : Type} : Left H := { results := [], args := [] }

/-- 'ferrulelaw3.TagKnown': WHATEVER THE INPUT: true; the input reads as it did. -/
def tagKnownSpec : ChangeSpec := { name := "tagKnown", fn := fun _ => fun
  | [] => { results := [.lit (.bool true)], args := [] }
  | _ => none }
def tagKnownRow : OpenClaim := { program := "ytnogdgdkeojlpaa", sum := "9d387f8df6b390190d0497ac2a998bd319fcf09df55bfda808a3c040565e0cf8", func := "ferrule/ferrulelaw3.TagKnown", spec := "tagKnown", inPlace := ["internal/bytealg.Count", "internal/bytealg.IndexByte", "internal/bytealg.Index"], named := ["internal/bytealg.MaxLen"], apart := false }
def TagKnownSaid : Prop := tagKnownRow.holds Try.pinned (OpenSpec.ofChange tagKnownSpec)

/-- ITS FALSE NEIGHBOUR: 'it returns false'. Refute it at one input. -/
def tagKnownWrong : ChangeSpec := { name := "tagKnown", fn := fun _ => fun
  | [] => { results := [.lit (.bool false)], args := [] }
  | _ => none }
def TagKnownWrongFalsely : Prop := tagKnownRow.holds Try.pinned (OpenSpec.ofChange tagKnownWrong)

/-- 'ferrulelaw3.TagPages': WHATEVER THE INPUT: true; the input reads as it did. -/
def tagPagesSpec : ChangeSpec := { name := "tagPages", fn := fun _ => fun
  | [d1, d2, d3] => { results := [.lit (.bool true)], args := [d1, d2, d3] }
  | _ => none }
def tagPagesRow : OpenClaim := { program := "ytnogdgdkeojlpaa", sum := "9d387f8df6b390190d0497ac2a998bd319fcf09df55bfda808a3c040565e0cf8", func := "ferrule/ferrulelaw3.TagPages", spec := "tagPages", inPlace := ["internal/bytealg.Count", "internal/bytealg.IndexByte", "internal/bytealg.Index"], named := ["internal/bytealg.MaxLen"], apart := false }
def TagPagesSaid : Prop := tagPagesRow.holds Try.pinned (OpenSpec.ofChange tagPagesSpec)

/-- ITS FALSE NEIGHBOUR: 'it returns false'. Refute it at one input. -/
def tagPagesWrong : ChangeSpec := { name := "tagPages", fn := fun _ => fun
  | [d1, d2, d3] => { results := [.lit (.bool false)], args := [d1, d2, d3] }
  | _ => none }
def TagPagesWrongFalsely : Prop := tagPagesRow.holds Try.pinned (OpenSpec.ofChange tagPagesWrong)

/-- 'ferrulelaw3.TagBytes': WHATEVER THE INPUT: true; the input reads as it did. -/
def tagBytesSpec : ChangeSpec := { name := "tagBytes", fn := fun _ => fun
  | [d1, d2, d3, d4] => { results := [.lit (.bool true)], args := [d1, d2, d3, d4] }
  | _ => none }
def tagBytesRow : OpenClaim := { program := "ytnogdgdkeojlpaa", sum := "9d387f8df6b390190d0497ac2a998bd319fcf09df55bfda808a3c040565e0cf8", func := "ferrule/ferrulelaw3.TagBytes", spec := "tagBytes", inPlace := ["internal/bytealg.Count", "internal/bytealg.IndexByte", "internal/bytealg.Index"], named := ["internal/bytealg.MaxLen"], apart := false }
def TagBytesSaid : Prop := tagBytesRow.holds Try.pinned (OpenSpec.ofChange tagBytesSpec)

/-- ITS FALSE NEIGHBOUR: 'it returns false'. Refute it at one input. -/
def tagBytesWrong : ChangeSpec := { name := "tagBytes", fn := fun _ => fun
  | [d1, d2, d3, d4] => { results := [.lit (.bool false)], args := [d1, d2, d3, d4] }
  | _ => none }
def TagBytesWrongFalsely : Prop := tagBytesRow.holds Try.pinned (OpenSpec.ofChange tagBytesWrong)

/-- 'ferrulelaw3.TagTorn': WHATEVER THE INPUT: true; the input reads as it did. -/
def tagTornSpec : ChangeSpec := { name := "tagTorn", fn := fun _ => fun
  | [d1, d2, d3, d4] => { results := [.lit (.bool true)], args := [d1, d2, d3, d4] }
  | _ => none }
def tagTornRow : OpenClaim := { program := "ytnogdgdkeojlpaa", sum := "9d387f8df6b390190d0497ac2a998bd319fcf09df55bfda808a3c040565e0cf8", func := "ferrule/ferrulelaw3.TagTorn", spec := "tagTorn", inPlace := ["internal/bytealg.Count", "internal/bytealg.IndexByte", "internal/bytealg.Index"], named := ["internal/bytealg.MaxLen"], apart := false }
def TagTornSaid : Prop := tagTornRow.holds Try.pinned (OpenSpec.ofChange tagTornSpec)

/-- ITS FALSE NEIGHBOUR: 'it returns false'. Refute it at one input. -/
def tagTornWrong : ChangeSpec := { name := "tagTorn", fn := fun _ => fun
  | [d1, d2, d3, d4] => { results := [.lit (.bool false)], args := [d1, d2, d3, d4] }
  | _ => none }
def TagTornWrongFalsely : Prop := tagTornRow.holds Try.pinned (OpenSpec.ofChange tagTornWrong)

/-- 'ferrulelaw3.TagDiffers': WHATEVER THE INPUT: true; the input reads as it did. -/
def tagDiffersSpec : ChangeSpec := { name := "tagDiffers", fn := fun _ => fun
  | [d1, d2, d3, d4] => { results := [.lit (.bool true)], args := [d1, d2, d3, d4] }
  | _ => none }
def tagDiffersRow : OpenClaim := { program := "ytnogdgdkeojlpaa", sum := "9d387f8df6b390190d0497ac2a998bd319fcf09df55bfda808a3c040565e0cf8", func := "ferrule/ferrulelaw3.TagDiffers", spec := "tagDiffers", inPlace := ["internal/bytealg.Count", "internal/bytealg.IndexByte", "internal/bytealg.Index"], named := ["internal/bytealg.MaxLen"], apart := false }
def TagDiffersSaid : Prop := tagDiffersRow.holds Try.pinned (OpenSpec.ofChange tagDiffersSpec)

/-- ITS FALSE NEIGHBOUR: 'it returns false'. Refute it at one input. -/
def tagDiffersWrong : ChangeSpec := { name := "tagDiffers", fn := fun _ => fun
  | [d1, d2, d3, d4] => { results := [.lit (.bool false)], args := [d1, d2, d3, d4] }
  | _ => none }
def TagDiffersWrongFalsely : Prop := tagDiffersRow.holds Try.pinned (OpenSpec.ofChange tagDiffersWrong)

/- THE SECOND FORM. 'bulk': how many values and letters a reading holds, each counted each time it is reached (what is shared counts as often as it is met; a slice's spare places count too). A statement '..UptoSaid' is the law's where the arguments, and the package variables that the reading takes, are together of bulk at most 1048576: NARROWER than '..Said'. Prove '..Said' where nothing that the law and all that it calls make is longer than what came in: it says more and counts as full. Else prove '..UptoSaid'. A law counts once. -/
mutual
def uptoBulk {H : Type} : DataW H → Nat
  | .lit (.string bytes) => bytes.length + 1
  | .lit _ => 1
  | .nil => 1
  | .ptr d => uptoBulk d + 1
  | .slice elems spare => uptoBulkAll elems + uptoBulkAll spare + 1
  | .agg parts => uptoBulkAll parts + 1
  | .iface _ d => uptoBulk d + 1
  | .map entries => uptoBulkEntries entries + 1
  | .held _ => 1
def uptoBulkAll {H : Type} : List (DataW H) → Nat
  | [] => 0
  | d :: r => uptoBulk d + uptoBulkAll r
def uptoBulkEntries {H : Type} : List (Lit × DataW H) → Nat
  | [] => 0
  | x :: r => uptoBulkEntry x + uptoBulkEntries r
def uptoBulkEntry {H : Type} : Lit × DataW H → Nat
  | (.string bytes, d) => bytes.length + uptoBulk d + 1
  | (_, d) => uptoBulk d + 1
 end
def uptoSmall : (H : Type) → List (DataW H) → Bool := fun _ ds => decide (uptoBulkAll ds ≤ 1048576)
def OpenSpec.upto (s : _root_.Go.ChangeSpec) : _root_.Go.OpenSpec := { _root_.Go.OpenSpec.ofChange s with cond := some uptoSmall }

/-- 'ferrulelaw3.TagKnown', WHERE WHAT IT READS IS OF BULK AT MOST 1048576: true; the input reads as it did. -/
def tagKnownUptoRow : OpenClaim := { program := "ytnogdgdkeojlpaa", sum := "9d387f8df6b390190d0497ac2a998bd319fcf09df55bfda808a3c040565e0cf8", func := "ferrule/ferrulelaw3.TagKnown", spec := "tagKnown", inPlace := ["internal/bytealg.Count", "internal/bytealg.IndexByte", "internal/bytealg.Index"], named := ["internal/bytealg.MaxLen"], apart := false, narrowed := true }
def TagKnownUptoSaid : Prop := tagKnownUptoRow.holds Try.pinned (OpenSpec.upto tagKnownSpec)

/-- 'ferrulelaw3.TagPages', WHERE WHAT IT READS IS OF BULK AT MOST 1048576: true; the input reads as it did. -/
def tagPagesUptoRow : OpenClaim := { program := "ytnogdgdkeojlpaa", sum := "9d387f8df6b390190d0497ac2a998bd319fcf09df55bfda808a3c040565e0cf8", func := "ferrule/ferrulelaw3.TagPages", spec := "tagPages", inPlace := ["internal/bytealg.Count", "internal/bytealg.IndexByte", "internal/bytealg.Index"], named := ["internal/bytealg.MaxLen"], apart := false, narrowed := true }
def TagPagesUptoSaid : Prop := tagPagesUptoRow.holds Try.pinned (OpenSpec.upto tagPagesSpec)

/-- 'ferrulelaw3.TagBytes', WHERE WHAT IT READS IS OF BULK AT MOST 1048576: true; the input reads as it did. -/
def tagBytesUptoRow : OpenClaim := { program := "ytnogdgdkeojlpaa", sum := "9d387f8df6b390190d0497ac2a998bd319fcf09df55bfda808a3c040565e0cf8", func := "ferrule/ferrulelaw3.TagBytes", spec := "tagBytes", inPlace := ["internal/bytealg.Count", "internal/bytealg.IndexByte", "internal/bytealg.Index"], named := ["internal/bytealg.MaxLen"], apart := false, narrowed := true }
def TagBytesUptoSaid : Prop := tagBytesUptoRow.holds Try.pinned (OpenSpec.upto tagBytesSpec)

/-- 'ferrulelaw3.TagTorn', WHERE WHAT IT READS IS OF BULK AT MOST 1048576: true; the input reads as it did. -/
def tagTornUptoRow : OpenClaim := { program := "ytnogdgdkeojlpaa", sum := "9d387f8df6b390190d0497ac2a998bd319fcf09df55bfda808a3c040565e0cf8", func := "ferrule/ferrulelaw3.TagTorn", spec := "tagTorn", inPlace := ["internal/bytealg.Count", "internal/bytealg.IndexByte", "internal/bytealg.Index"], named := ["internal/bytealg.MaxLen"], apart := false, narrowed := true }
def TagTornUptoSaid : Prop := tagTornUptoRow.holds Try.pinned (OpenSpec.upto tagTornSpec)

/-- 'ferrulelaw3.TagDiffers', WHERE WHAT IT READS IS OF BULK AT MOST 1048576: true; the input reads as it did. -/
def tagDiffersUptoRow : OpenClaim := { program := "ytnogdgdkeojlpaa", sum := "9d387f8df6b390190d0497ac2a998bd319fcf09df55bfda808a3c040565e0cf8", func := "ferrule/ferrulelaw3.TagDiffers", spec := "tagDiffers", inPlace := ["internal/bytealg.Count", "internal/bytealg.IndexByte", "internal/bytealg.Index"], named := ["internal/bytealg.MaxLen"], apart := false, narrowed := true }
def TagDiffersUptoSaid : Prop := tagDiffersUptoRow.holds Try.pinned (OpenSpec.upto tagDiffersSpec)

end Rows
end Go.Proofs.Ytnogdgdkeojlpaa
