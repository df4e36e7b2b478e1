-- PRINTED BY print.sh 35421559b90ae4d0a3588c463048766b98c2df88dd9212a6774a882060cdf62d: not written by this session
import Derived.Test.YteiocdbkilfnkaaProg
import Derived.Below
import Derived.Deep.Draws
import Derived.Deep.AppendLies
import Derived.Maps.AppendAt
import Derived.OwnWalk
import Derived.Laws.BytesArg
import Derived.Laws.MakeOwn
import Derived.Laws.OwnMore
import Derived.Deep.OwnRows
import Derived.Tactics
import Derived.Lib.ConvBytes
import Derived.Laws.Slices
import Derived.WalkKit
import Derived.KernelRfl
import Derived.RowKit3
import Derived.Deep.LoopGhost
import Derived.Deep.QuietTactic
import Derived.BigQuiet
import Derived.WideLaws
import Derived.Deep.DeepCutAuto
import Derived.Deep.CutBlock
import Derived.Deep.RegionHeld3
import Derived.Laws.Rows
import Derived.Lib.AppendStr
import Derived.ArgAppend
import Derived.Laws.IdiomCopy
import Derived.OrdersHeld
import Derived.Laws.BitsLemmas
import Derived.RowKit
import Derived.Test.YteiocdbkilfnkaaWWords
import Derived.Test.YteiocdbkilfnkaaWLast
import Derived.Test.YteiocdbkilfnkaaWTab
import Derived.Test.YteiocdbkilfnkaaWFour
import Derived.Test.YteiocdbkilfnkaaWQPut
import Derived.Test.YteiocdbkilfnkaaWApart
import Derived.Test.YteiocdbkilfnkaaWArr
import Derived.Test.YteiocdbkilfnkaaWZeros
import Derived.Test.YteiocdbkilfnkaaWFoot
import Derived.Test.YteiocdbkilfnkaaWKept
import Derived.Test.YteiocdbkilfnkaaWShare
import Derived.Test.YteiocdbkilfnkaaWN
import Derived.Test.YteiocdbkilfnkaaWFootNe
import Derived.Test.YteiocdbkilfnkaaWAt
import Derived.Test.YteiocdbkilfnkaaWEqStruct
import Derived.Test.YteiocdbkilfnkaaWRepsOne
import Derived.Test.YteiocdbkilfnkaaWInv
import Derived.Test.YteiocdbkilfnkaaWInvWords
import Derived.Test.YteiocdbkilfnkaaWGuard
import Derived.Test.YteiocdbkilfnkaaWNEv
import Derived.Test.YteiocdbkilfnkaaWMore
namespace Go.Proofs.Yteiocdbkilfnkaa.PTapeTells
open Go.RowKit Go.Proofs.YteiocdbkilfnkaaW.PrintWords Go.Proofs.YteiocdbkilfnkaaW.PrintLast Go.Proofs.YteiocdbkilfnkaaW.PrintMore
attribute [local go_sem] max2_int min2_int max_two min_two max_three min_three max_four min_four   -- for this text's walks alone
set_option linter.unusedVariables false
set_option linter.unusedSimpArgs false



def errW : Option Int → Value
  | none => .nilIface
  | some c => .iface 0 (.int .i64 c)
theorem errW_none : errW none = .nilIface := rfl
theorem errW_some (c : Int) : errW (some c) = .iface 0 (.int .i64 c) := rfl

-- the values' own types

end Go.Proofs.Yteiocdbkilfnkaa.PTapeTells
