/- The examples of chapter 9 answer as told. No conditions. -/
import Derived.Test.YthhmapgolnkjcaaAwake
namespace Go.Proofs.Ythhmapgolnkjcaa.Am
open Go.Proofs
set_option maxRecDepth 1000000
theorem runFlatKnown : saysTrue (evF tbA 100000 3 [] LH.empty) = true := by kernel_rfl
theorem flatKnown_calls (w : World) : Calls Try.prog 3 #[] w (fun e w' => e = .returned (.bool true) ∧ Go.RowKit.Below w.heap.size w w') := closed_true (by kernel_rfl) 100000 runFlatKnown w
end Go.Proofs.Ythhmapgolnkjcaa.Am
