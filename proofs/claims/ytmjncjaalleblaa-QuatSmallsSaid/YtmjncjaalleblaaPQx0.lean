-- Laid by a program of this session's own (wip/print-patch.py over the kit's print), out of the translation; Lean checks it.
import Derived.Test.YtmjncjaalleblaaProg
import Derived.Below
import Derived.Deep.Draws
import Derived.Deep.AppendLies
import Derived.Maps.AppendAt
import Derived.OwnWalk
import Derived.Laws.BytesArg
import Derived.Laws.MakeOwn
import Derived.Laws.OwnMore
import Derived.Deep.OwnRows
import Derived.Tactics
import Derived.Lib.ConvBytes
import Derived.Laws.Slices
import Derived.WalkKit
import Derived.KernelRfl
import Derived.RowKit3
import Derived.Deep.LoopGhost
import Derived.Deep.QuietTactic
import Derived.BigQuiet
import Derived.WideLaws
import Derived.Deep.DeepCutAuto
import Derived.Deep.CutBlock
import Derived.Deep.RegionHeld3
import Derived.Laws.Rows
import Derived.Lib.AppendStr
import Derived.ArgAppend
import Derived.Laws.IdiomCopy
import Derived.OrdersHeld
import Derived.Laws.BitsLemmas
import Derived.RowKit
import Derived.Test.YtmjncjaalleblaaShelf
import Derived.Test.YtmjncjaalleblaaWWords
import Derived.Test.YtmjncjaalleblaaWLast
import Derived.Test.YtmjncjaalleblaaWTab
import Derived.Test.YtmjncjaalleblaaWFour
import Derived.Test.YtmjncjaalleblaaWQPut
import Derived.Test.YtmjncjaalleblaaWApart
import Derived.Test.YtmjncjaalleblaaWArr
import Derived.Test.YtmjncjaalleblaaWZeros
import Derived.Test.YtmjncjaalleblaaWFoot
import Derived.Test.YtmjncjaalleblaaWKept
import Derived.Test.YtmjncjaalleblaaWShare
import Derived.Test.YtmjncjaalleblaaWN
import Derived.Test.YtmjncjaalleblaaWFootNe
import Derived.Test.YtmjncjaalleblaaWAt
import Derived.Test.YtmjncjaalleblaaWEqStruct
import Derived.Test.YtmjncjaalleblaaWRepsOne
import Derived.Test.YtmjncjaalleblaaWInv
import Derived.Test.YtmjncjaalleblaaWInvWords
import Derived.Test.YtmjncjaalleblaaWGuard
import Derived.Test.YtmjncjaalleblaaWNEv
import Derived.Test.YtmjncjaalleblaaWMore
namespace Go.Proofs.Ytmjncjaalleblaa.PQ
open Go.RowKit Go.Proofs.YtmjncjaalleblaaW.PrintWords Go.Proofs.YtmjncjaalleblaaW.PrintLast Go.Proofs.YtmjncjaalleblaaW.PrintMore
attribute [local go_sem] max2_int min2_int max_two min_two max_three min_three max_four min_four   -- for this text's walks alone
set_option linter.unusedVariables false
set_option linter.unusedSimpArgs false



def errW : Option Int → Value
  | none => .nilIface
  | some c => .iface 0 (.int .i64 c)
theorem errW_none : errW none = .nilIface := rfl
theorem errW_some (c : Int) : errW (some c) = .iface 0 (.int .i64 c) := rfl

-- the values' own types

end Go.Proofs.Ytmjncjaalleblaa.PQ
