/- The examples of chapter 3 answer as told. No conditions. -/
import Derived.Test.YtnogdgdkeojlpaaTb
namespace Go.Proofs.Ytnogdgdkeojlpaa.Am
open Go.Proofs
set_option maxRecDepth 1000000
theorem runTagKnown : saysTrue (evF tb 100000 3 [] LH.empty) = true := by kernel_rfl
theorem tagKnown_calls (w : World) : Calls Try.prog 3 #[] w (fun e w' => e = .returned (.bool true) ∧ Go.RowKit.Below w.heap.size w w') := closed_true (by kernel_rfl) 100000 runTagKnown w
end Go.Proofs.Ytnogdgdkeojlpaa.Am
