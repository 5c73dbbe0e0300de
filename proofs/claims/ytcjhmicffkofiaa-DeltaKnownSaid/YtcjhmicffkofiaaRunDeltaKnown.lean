/- The examples of chapter 11 answer as told. No conditions. -/
import Derived.Test.YtcjhmicffkofiaaAwake
namespace Go.Proofs.Ytcjhmicffkofiaa.Am
open Go.Proofs
set_option maxRecDepth 1000000
theorem runDeltaKnown : saysTrue (evF tbA 100000 3 [] LH.empty) = true := by kernel_rfl
theorem deltaKnown_calls (w : World) : Calls Try.prog 3 #[] w (fun e w' => e = .returned (.bool true) ∧ Go.RowKit.Below w.heap.size w w') := closed_true (by kernel_rfl) 100000 runDeltaKnown w
end Go.Proofs.Ytcjhmicffkofiaa.Am
