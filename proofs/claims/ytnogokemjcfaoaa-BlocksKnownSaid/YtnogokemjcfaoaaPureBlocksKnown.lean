/- The examples of chapter 13 answer as told: a closed statement, no conditions. -/
import Derived.Test.YtnogokemjcfaoaaPBlocksKnownx6
namespace Go.Proofs.Ytnogokemjcfaoaa.Pure
open Go.RowKit Go.Proofs.Ytnogokemjcfaoaa.PBlocksKnown Go.Proofs.YtnogokemjcfaoaaW.PrintWords Go.Proofs.YtnogokemjcfaoaaW.PrintLast

theorem BlocksKnown : ferrulelaw13_BlocksKnown.Pure := ⟨100, by decide +kernel⟩

end Go.Proofs.Ytnogokemjcfaoaa.Pure
