-- By a program of this session (NOTES.md). Lean checks it.
import Derived.Test.YtfbbphpgiblhlaaProg
import Derived.Below
import Derived.Deep.Draws
import Derived.Deep.AppendLies
import Derived.Maps.AppendAt
import Derived.OwnWalk
import Derived.Laws.BytesArg
import Derived.Laws.MakeOwn
import Derived.Laws.OwnMore
import Derived.Deep.OwnRows
import Derived.Tactics
import Derived.Lib.ConvBytes
import Derived.Laws.Slices
import Derived.WalkKit
import Derived.KernelRfl
import Derived.RowKit3
import Derived.Deep.LoopGhost
import Derived.Deep.QuietTactic
import Derived.BigQuiet
import Derived.WideLaws
import Derived.Deep.DeepCutAuto
import Derived.Deep.CutBlock
import Derived.Deep.RegionHeld3
import Derived.Laws.Rows
import Derived.Lib.AppendStr
import Derived.ArgAppend
import Derived.Laws.IdiomCopy
import Derived.OrdersHeld
import Derived.Laws.BitsLemmas
import Derived.RowKit
import Derived.Test.YtfbbphpgiblhlaaWWords
import Derived.Test.YtfbbphpgiblhlaaWLast
import Derived.Test.YtfbbphpgiblhlaaWTab
import Derived.Test.YtfbbphpgiblhlaaWFour
import Derived.Test.YtfbbphpgiblhlaaWQPut
import Derived.Test.YtfbbphpgiblhlaaWApart
import Derived.Test.YtfbbphpgiblhlaaWArr
import Derived.Test.YtfbbphpgiblhlaaWZeros
import Derived.Test.YtfbbphpgiblhlaaWFoot
import Derived.Test.YtfbbphpgiblhlaaWKept
import Derived.Test.YtfbbphpgiblhlaaWShare
import Derived.Test.YtfbbphpgiblhlaaWN
import Derived.Test.YtfbbphpgiblhlaaWFootNe
import Derived.Test.YtfbbphpgiblhlaaWAt
import Derived.Test.YtfbbphpgiblhlaaWEqStruct
import Derived.Test.YtfbbphpgiblhlaaWRepsOne
import Derived.Test.YtfbbphpgiblhlaaWInv
import Derived.Test.YtfbbphpgiblhlaaWInvWords
import Derived.Test.YtfbbphpgiblhlaaWGuard
import Derived.Test.YtfbbphpgiblhlaaWNEv
import Derived.Test.YtfbbphpgiblhlaaWMore
namespace Go.Proofs.Ytfbbphpgiblhlaa.PCrcSums
open Go.RowKit Go.Proofs.YtfbbphpgiblhlaaW.PrintWords Go.Proofs.YtfbbphpgiblhlaaW.PrintLast Go.Proofs.YtfbbphpgiblhlaaW.PrintMore
attribute [local go_sem] max2_int min2_int max_two min_two max_three min_three max_four min_four   -- for this text's walks alone
set_option linter.unusedVariables false
set_option linter.unusedSimpArgs false



def errW : Option Int → Value
  | none => .nilIface
  | some c => .iface 0 (.int .i64 c)
theorem errW_none : errW none = .nilIface := rfl
theorem errW_some (c : Int) : errW (some c) = .iface 0 (.int .i64 c) := rfl

theorem info5 : (Try.prog.info? 5).map (fun i => (i.zero, i.size, i.bytes)) = some (some (.int .u8 0), 1, 1) := by kernel_rfl
-- the values' own types

end Go.Proofs.Ytfbbphpgiblhlaa.PCrcSums
