/- The examples of chapter 16 answer as told. No conditions. -/
import Derived.Test.YtbeaekknpejnlaaPSizeKnownx4
namespace Go.Proofs.Ytbeaekknpejnlaa.Pure
open Go.RowKit Go.Proofs.Ytbeaekknpejnlaa.PSizeKnown Go.Proofs.YtbeaekknpejnlaaW.PrintWords Go.Proofs.YtbeaekknpejnlaaW.PrintLast

/-- YOURS: ∃ k, ferrulelaw16_SizeKnown.f k  = some true
What it reaches (each with k first where it has rounds; `.mono`: more rounds tell the same; `.l0`, ..: its loops, with `.mono_l`): size_within.f, bits_Len64.f, vint_Len.f, size_length.f, leaf_Pages.f, size_up.f, size_Of.f, ferrulelaw16_sample.f, size_Good.f, size_Rewrites.f, size_CallPrograms.f, size_Greatest.f, ferrulelaw16_awake.f, ferrulelaw16_SizeKnown.f -/
theorem SizeKnown : ferrulelaw16_SizeKnown.Pure := by
  exact ⟨600, by decide +kernel⟩

end Go.Proofs.Ytbeaekknpejnlaa.Pure
