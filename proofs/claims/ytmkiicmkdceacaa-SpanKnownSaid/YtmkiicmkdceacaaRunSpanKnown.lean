/- The examples of chapter 10 answer as told. No conditions. -/
import Derived.Test.YtmkiicmkdceacaaAwake
namespace Go.Proofs.Ytmkiicmkdceacaa.Am
open Go.Proofs
set_option maxRecDepth 1000000
theorem runSpanKnown : saysTrue (evF tbA 100000 3 [] LH.empty) = true := by kernel_rfl
theorem spanKnown_calls (w : World) : Calls Try.prog 3 #[] w (fun e w' => e = .returned (.bool true) ∧ Go.RowKit.Below w.heap.size w w') := closed_true (by kernel_rfl) 100000 runSpanKnown w
end Go.Proofs.Ytmkiicmkdceacaa.Am
