/- The examples of chapter 1 answer as told: a closed statement, no conditions. -/
import Derived.Test.YtfbbphpgiblhlaaPCrcKnownx1
namespace Go.Proofs.Ytfbbphpgiblhlaa.Pure
open Go.RowKit Go.Proofs.Ytfbbphpgiblhlaa.PCrcKnown Go.Proofs.YtfbbphpgiblhlaaW.PrintWords Go.Proofs.YtfbbphpgiblhlaaW.PrintLast

theorem CrcKnown : ferrulelaw1_CrcKnown.Pure := ⟨200, by decide +kernel⟩

end Go.Proofs.Ytfbbphpgiblhlaa.Pure
