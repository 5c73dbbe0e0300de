/- The examples of chapter 7 answer as told. No conditions. -/
import Derived.Test.YtpogfelbimcglaaAwake
namespace Go.Proofs.Ytpogfelbimcglaa.Am
open Go.Proofs
set_option maxRecDepth 1000000
theorem runTreeKnown : saysTrue (evF tbA 100000 3 [] LH.empty) = true := by kernel_rfl
theorem treeKnown_calls (w : World) : Calls Try.prog 3 #[] w (fun e w' => e = .returned (.bool true) ∧ Go.RowKit.Below w.heap.size w w') := closed_true (by kernel_rfl) 100000 runTreeKnown w
end Go.Proofs.Ytpogfelbimcglaa.Am
