-- PRINTED BY print.sh 35421559b90ae4d0a3588c463048766b98c2df88dd9212a6774a882060cdf62d: not written by this session
import Derived.Test.YtbephainjmgpjaaProg
import Derived.Below
import Derived.Deep.Draws
import Derived.Deep.AppendLies
import Derived.Maps.AppendAt
import Derived.OwnWalk
import Derived.Laws.BytesArg
import Derived.Laws.MakeOwn
import Derived.Laws.OwnMore
import Derived.Deep.OwnRows
import Derived.Tactics
import Derived.Lib.ConvBytes
import Derived.Laws.Slices
import Derived.WalkKit
import Derived.KernelRfl
import Derived.RowKit3
import Derived.Deep.LoopGhost
import Derived.Deep.QuietTactic
import Derived.BigQuiet
import Derived.WideLaws
import Derived.Deep.DeepCutAuto
import Derived.Deep.CutBlock
import Derived.Deep.RegionHeld3
import Derived.Laws.Rows
import Derived.Lib.AppendStr
import Derived.ArgAppend
import Derived.Laws.IdiomCopy
import Derived.OrdersHeld
import Derived.Laws.BitsLemmas
import Derived.RowKit
import Derived.Test.YtbephainjmgpjaaWWords
import Derived.Test.YtbephainjmgpjaaWLast
import Derived.Test.YtbephainjmgpjaaWTab
import Derived.Test.YtbephainjmgpjaaWFour
import Derived.Test.YtbephainjmgpjaaWQPut
import Derived.Test.YtbephainjmgpjaaWApart
import Derived.Test.YtbephainjmgpjaaWArr
import Derived.Test.YtbephainjmgpjaaWZeros
import Derived.Test.YtbephainjmgpjaaWFoot
import Derived.Test.YtbephainjmgpjaaWKept
import Derived.Test.YtbephainjmgpjaaWShare
import Derived.Test.YtbephainjmgpjaaWN
import Derived.Test.YtbephainjmgpjaaWFootNe
import Derived.Test.YtbephainjmgpjaaWAt
import Derived.Test.YtbephainjmgpjaaWEqStruct
import Derived.Test.YtbephainjmgpjaaWRepsOne
import Derived.Test.YtbephainjmgpjaaWInv
import Derived.Test.YtbephainjmgpjaaWInvWords
import Derived.Test.YtbephainjmgpjaaWGuard
import Derived.Test.YtbephainjmgpjaaWNEv
import Derived.Test.YtbephainjmgpjaaWMore
namespace Go.Proofs.Ytbephainjmgpjaa.PWordAll
open Go.RowKit Go.Proofs.YtbephainjmgpjaaW.PrintWords Go.Proofs.YtbephainjmgpjaaW.PrintLast Go.Proofs.YtbephainjmgpjaaW.PrintMore
attribute [local go_sem] max2_int min2_int max_two min_two max_three min_three max_four min_four   -- for this text's walks alone
set_option linter.unusedVariables false
set_option linter.unusedSimpArgs false



def errW : Option Int → Value
  | none => .nilIface
  | some c => .iface 0 (.int .i64 c)
theorem errW_none : errW none = .nilIface := rfl
theorem errW_some (c : Int) : errW (some c) = .iface 0 (.int .i64 c) := rfl

-- the values' own types

end Go.Proofs.Ytbephainjmgpjaa.PWordAll
