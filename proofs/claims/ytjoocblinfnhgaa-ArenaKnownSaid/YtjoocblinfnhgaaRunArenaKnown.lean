/- The examples of chapter 6 answer as told. No conditions. -/
import Derived.Test.YtjoocblinfnhgaaTb
namespace Go.Proofs.Ytjoocblinfnhgaa.Am
open Go.Proofs
set_option maxRecDepth 1000000
theorem runArenaKnown : saysTrue (evF tb 1000 3 [] LH.empty) = true := by kernel_rfl
theorem arenaKnown_calls (w : World) : Calls Try.prog 3 #[] w (fun e w' => e = .returned (.bool true) ∧ Go.RowKit.Below w.heap.size w w') := closed_true (by kernel_rfl) 1000 runArenaKnown w
end Go.Proofs.Ytjoocblinfnhgaa.Am
