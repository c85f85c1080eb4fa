-- PRINTED BY print.sh 35421559b90ae4d0a3588c463048766b98c2df88dd9212a6774a882060cdf62d: not written by this session
import Derived.Test.YtbnpdiahogigiaaProg
import Derived.Below
import Derived.Deep.Draws
import Derived.Deep.AppendLies
import Derived.Maps.AppendAt
import Derived.OwnWalk
import Derived.Laws.BytesArg
import Derived.Laws.MakeOwn
import Derived.Laws.OwnMore
import Derived.Deep.OwnRows
import Derived.Tactics
import Derived.Lib.ConvBytes
import Derived.Laws.Slices
import Derived.WalkKit
import Derived.KernelRfl
import Derived.RowKit3
import Derived.Deep.LoopGhost
import Derived.Deep.QuietTactic
import Derived.BigQuiet
import Derived.WideLaws
import Derived.Deep.DeepCutAuto
import Derived.Deep.CutBlock
import Derived.Deep.RegionHeld3
import Derived.Laws.Rows
import Derived.Lib.AppendStr
import Derived.ArgAppend
import Derived.Laws.IdiomCopy
import Derived.OrdersHeld
import Derived.Laws.BitsLemmas
import Derived.RowKit
import Derived.Test.YtbnpdiahogigiaaWWords
import Derived.Test.YtbnpdiahogigiaaWLast
import Derived.Test.YtbnpdiahogigiaaWTab
import Derived.Test.YtbnpdiahogigiaaWFour
import Derived.Test.YtbnpdiahogigiaaWQPut
import Derived.Test.YtbnpdiahogigiaaWApart
import Derived.Test.YtbnpdiahogigiaaWArr
import Derived.Test.YtbnpdiahogigiaaWZeros
import Derived.Test.YtbnpdiahogigiaaWFoot
import Derived.Test.YtbnpdiahogigiaaWKept
import Derived.Test.YtbnpdiahogigiaaWShare
import Derived.Test.YtbnpdiahogigiaaWN
import Derived.Test.YtbnpdiahogigiaaWFootNe
import Derived.Test.YtbnpdiahogigiaaWAt
import Derived.Test.YtbnpdiahogigiaaWEqStruct
import Derived.Test.YtbnpdiahogigiaaWRepsOne
import Derived.Test.YtbnpdiahogigiaaWInv
import Derived.Test.YtbnpdiahogigiaaWInvWords
import Derived.Test.YtbnpdiahogigiaaWGuard
import Derived.Test.YtbnpdiahogigiaaWNEv
import Derived.Test.YtbnpdiahogigiaaWMore
namespace Go.Proofs.Ytbnpdiahogigiaa.PFnExactBoardValid
open Go.RowKit Go.Proofs.YtbnpdiahogigiaaW.PrintWords Go.Proofs.YtbnpdiahogigiaaW.PrintLast Go.Proofs.YtbnpdiahogigiaaW.PrintMore
attribute [local go_sem] max2_int min2_int max_two min_two max_three min_three max_four min_four   -- for this text's walks alone
set_option linter.unusedVariables false
set_option linter.unusedSimpArgs false



def errW : Option Int → Value
  | none => .nilIface
  | some c => .iface 0 (.int .i64 c)
theorem errW_none : errW none = .nilIface := rfl
theorem errW_some (c : Int) : errW (some c) = .iface 0 (.int .i64 c) := rfl

-- the values' own types

end Go.Proofs.Ytbnpdiahogigiaa.PFnExactBoardValid
