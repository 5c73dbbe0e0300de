/- The examples of chapter 15 answer as told: a closed statement, no conditions. -/
import Derived.Test.YtigecigoomofdaaPWindowKnownx5
namespace Go.Proofs.Ytigecigoomofdaa.Pure
open Go.RowKit Go.Proofs.Ytigecigoomofdaa.PWindowKnown Go.Proofs.YtigecigoomofdaaW.PrintWords Go.Proofs.YtigecigoomofdaaW.PrintLast

theorem WindowKnown : ferrulelaw15_WindowKnown.Pure := ⟨100, by decide +kernel⟩

end Go.Proofs.Ytigecigoomofdaa.Pure
