-- By a program of this session (NOTES.md). Lean checks it.
import Derived.Test.YtbeaekknpejnlaaProg
import Derived.Below
import Derived.Deep.Draws
import Derived.Deep.AppendLies
import Derived.Maps.AppendAt
import Derived.OwnWalk
import Derived.Laws.BytesArg
import Derived.Laws.MakeOwn
import Derived.Laws.OwnMore
import Derived.Deep.OwnRows
import Derived.Tactics
import Derived.Lib.ConvBytes
import Derived.Laws.Slices
import Derived.WalkKit
import Derived.KernelRfl
import Derived.RowKit3
import Derived.Deep.LoopGhost
import Derived.Deep.QuietTactic
import Derived.BigQuiet
import Derived.WideLaws
import Derived.Deep.DeepCutAuto
import Derived.Deep.CutBlock
import Derived.Deep.RegionHeld3
import Derived.Laws.Rows
import Derived.Lib.AppendStr
import Derived.ArgAppend
import Derived.Laws.IdiomCopy
import Derived.OrdersHeld
import Derived.Laws.BitsLemmas
import Derived.RowKit
import Derived.Test.YtbeaekknpejnlaaWWords
import Derived.Test.YtbeaekknpejnlaaWLast
import Derived.Test.YtbeaekknpejnlaaWTab
import Derived.Test.YtbeaekknpejnlaaWFour
import Derived.Test.YtbeaekknpejnlaaWQPut
import Derived.Test.YtbeaekknpejnlaaWApart
import Derived.Test.YtbeaekknpejnlaaWArr
import Derived.Test.YtbeaekknpejnlaaWZeros
import Derived.Test.YtbeaekknpejnlaaWFoot
import Derived.Test.YtbeaekknpejnlaaWKept
import Derived.Test.YtbeaekknpejnlaaWShare
import Derived.Test.YtbeaekknpejnlaaWN
import Derived.Test.YtbeaekknpejnlaaWFootNe
import Derived.Test.YtbeaekknpejnlaaWAt
import Derived.Test.YtbeaekknpejnlaaWEqStruct
import Derived.Test.YtbeaekknpejnlaaWRepsOne
import Derived.Test.YtbeaekknpejnlaaWInv
import Derived.Test.YtbeaekknpejnlaaWInvWords
import Derived.Test.YtbeaekknpejnlaaWGuard
import Derived.Test.YtbeaekknpejnlaaWNEv
import Derived.Test.YtbeaekknpejnlaaWMore
namespace Go.Proofs.Ytbeaekknpejnlaa.PSizeKnown
open Go.RowKit Go.Proofs.YtbeaekknpejnlaaW.PrintWords Go.Proofs.YtbeaekknpejnlaaW.PrintLast Go.Proofs.YtbeaekknpejnlaaW.PrintMore
attribute [local go_sem] max2_int min2_int max_two min_two max_three min_three max_four min_four   -- for this text's walks alone
set_option linter.unusedVariables false
set_option linter.unusedSimpArgs false



def errW : Option Int → Value
  | none => .nilIface
  | some c => .iface 0 (.int .i64 c)
theorem errW_none : errW none = .nilIface := rfl
theorem errW_some (c : Int) : errW (some c) = .iface 0 (.int .i64 c) := rfl

-- the values' own types

theorem sc_drewN (w : World) (n : Nat) (a : Addr) (v : Value) : (w.drewN n).setCell a v = (w.setCell a v).drewN n := rfl
end Go.Proofs.Ytbeaekknpejnlaa.PSizeKnown
