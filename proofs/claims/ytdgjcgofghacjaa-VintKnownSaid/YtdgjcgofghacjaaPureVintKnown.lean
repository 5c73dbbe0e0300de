/- vint's known bytes: closed, computed by the kernel. -/
import Derived.Test.YtdgjcgofghacjaaPVintKnownx2
namespace Go.Proofs.Ytdgjcgofghacjaa.Pure
open Go.RowKit Go.Proofs.Ytdgjcgofghacjaa.PVintKnown Go.Proofs.YtdgjcgofghacjaaW.PrintWords Go.Proofs.YtdgjcgofghacjaaW.PrintLast

theorem VintKnown : ferrulelaw4_VintKnown.Pure := ⟨60, by decide +kernel⟩

end Go.Proofs.Ytdgjcgofghacjaa.Pure
