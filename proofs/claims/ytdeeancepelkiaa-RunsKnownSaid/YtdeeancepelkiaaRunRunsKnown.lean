/- The examples of chapter 8 answer as told. No conditions. -/
import Derived.Test.YtdeeancepelkiaaAwake
namespace Go.Proofs.Ytdeeancepelkiaa.Am
open Go.Proofs
set_option maxRecDepth 1000000
theorem runRunsKnown : saysTrue (evF tbA 100000 3 [] LH.empty) = true := by kernel_rfl
theorem runsKnown_calls (w : World) : Calls Try.prog 3 #[] w (fun e w' => e = .returned (.bool true) ∧ Go.RowKit.Below w.heap.size w w') := closed_true (by kernel_rfl) 100000 runRunsKnown w
end Go.Proofs.Ytdeeancepelkiaa.Am
