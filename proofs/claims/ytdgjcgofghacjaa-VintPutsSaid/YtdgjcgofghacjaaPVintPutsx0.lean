-- By a program of this session (NOTES.md). Lean checks it.
import Derived.Test.YtdgjcgofghacjaaProg
import Derived.Below
import Derived.Deep.Draws
import Derived.Deep.AppendLies
import Derived.Maps.AppendAt
import Derived.OwnWalk
import Derived.Laws.BytesArg
import Derived.Laws.MakeOwn
import Derived.Laws.OwnMore
import Derived.Deep.OwnRows
import Derived.Tactics
import Derived.Lib.ConvBytes
import Derived.Laws.Slices
import Derived.WalkKit
import Derived.KernelRfl
import Derived.RowKit3
import Derived.Deep.LoopGhost
import Derived.Deep.QuietTactic
import Derived.BigQuiet
import Derived.WideLaws
import Derived.Deep.DeepCutAuto
import Derived.Deep.CutBlock
import Derived.Deep.RegionHeld3
import Derived.Laws.Rows
import Derived.Lib.AppendStr
import Derived.ArgAppend
import Derived.Laws.IdiomCopy
import Derived.OrdersHeld
import Derived.Laws.BitsLemmas
import Derived.RowKit
import Derived.Test.YtdgjcgofghacjaaWWords
import Derived.Test.YtdgjcgofghacjaaWLast
import Derived.Test.YtdgjcgofghacjaaWTab
import Derived.Test.YtdgjcgofghacjaaWFour
import Derived.Test.YtdgjcgofghacjaaWQPut
import Derived.Test.YtdgjcgofghacjaaWApart
import Derived.Test.YtdgjcgofghacjaaWArr
import Derived.Test.YtdgjcgofghacjaaWZeros
import Derived.Test.YtdgjcgofghacjaaWFoot
import Derived.Test.YtdgjcgofghacjaaWKept
import Derived.Test.YtdgjcgofghacjaaWShare
import Derived.Test.YtdgjcgofghacjaaWN
import Derived.Test.YtdgjcgofghacjaaWFootNe
import Derived.Test.YtdgjcgofghacjaaWAt
import Derived.Test.YtdgjcgofghacjaaWEqStruct
import Derived.Test.YtdgjcgofghacjaaWRepsOne
import Derived.Test.YtdgjcgofghacjaaWInv
import Derived.Test.YtdgjcgofghacjaaWInvWords
import Derived.Test.YtdgjcgofghacjaaWGuard
import Derived.Test.YtdgjcgofghacjaaWNEv
import Derived.Test.YtdgjcgofghacjaaWMore
namespace Go.Proofs.Ytdgjcgofghacjaa.PVintPuts
open Go.RowKit Go.Proofs.YtdgjcgofghacjaaW.PrintWords Go.Proofs.YtdgjcgofghacjaaW.PrintLast Go.Proofs.YtdgjcgofghacjaaW.PrintMore
attribute [local go_sem] max2_int min2_int max_two min_two max_three min_three max_four min_four   -- for this text's walks alone
set_option linter.unusedVariables false
set_option linter.unusedSimpArgs false



def errW : Option Int → Value
  | none => .nilIface
  | some c => .iface 0 (.int .i64 c)
theorem errW_none : errW none = .nilIface := rfl
theorem errW_some (c : Int) : errW (some c) = .iface 0 (.int .i64 c) := rfl

theorem info5 : (Try.prog.info? 5).map (fun i => (i.zero, i.size, i.bytes)) = some (some (.int .u8 0), 1, 1) := by kernel_rfl
-- the values' own types

end Go.Proofs.Ytdgjcgofghacjaa.PVintPuts
