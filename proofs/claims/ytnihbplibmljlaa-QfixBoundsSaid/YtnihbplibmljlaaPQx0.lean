-- Laid by a program of this session's own (wip/print-patch.py over the kit's print), out of the translation; Lean checks it.
import Derived.Test.YtnihbplibmljlaaProg
import Derived.Below
import Derived.Deep.Draws
import Derived.Deep.AppendLies
import Derived.Maps.AppendAt
import Derived.OwnWalk
import Derived.Laws.BytesArg
import Derived.Laws.MakeOwn
import Derived.Laws.OwnMore
import Derived.Deep.OwnRows
import Derived.Tactics
import Derived.Lib.ConvBytes
import Derived.Laws.Slices
import Derived.WalkKit
import Derived.KernelRfl
import Derived.RowKit3
import Derived.Deep.LoopGhost
import Derived.Deep.QuietTactic
import Derived.BigQuiet
import Derived.WideLaws
import Derived.Deep.DeepCutAuto
import Derived.Deep.CutBlock
import Derived.Deep.RegionHeld3
import Derived.Laws.Rows
import Derived.Lib.AppendStr
import Derived.ArgAppend
import Derived.Laws.IdiomCopy
import Derived.OrdersHeld
import Derived.Laws.BitsLemmas
import Derived.RowKit
import Derived.Test.YtnihbplibmljlaaShelf
import Derived.Test.YtnihbplibmljlaaWWords
import Derived.Test.YtnihbplibmljlaaWLast
import Derived.Test.YtnihbplibmljlaaWTab
import Derived.Test.YtnihbplibmljlaaWFour
import Derived.Test.YtnihbplibmljlaaWQPut
import Derived.Test.YtnihbplibmljlaaWApart
import Derived.Test.YtnihbplibmljlaaWArr
import Derived.Test.YtnihbplibmljlaaWZeros
import Derived.Test.YtnihbplibmljlaaWFoot
import Derived.Test.YtnihbplibmljlaaWKept
import Derived.Test.YtnihbplibmljlaaWShare
import Derived.Test.YtnihbplibmljlaaWN
import Derived.Test.YtnihbplibmljlaaWFootNe
import Derived.Test.YtnihbplibmljlaaWAt
import Derived.Test.YtnihbplibmljlaaWEqStruct
import Derived.Test.YtnihbplibmljlaaWRepsOne
import Derived.Test.YtnihbplibmljlaaWInv
import Derived.Test.YtnihbplibmljlaaWInvWords
import Derived.Test.YtnihbplibmljlaaWGuard
import Derived.Test.YtnihbplibmljlaaWNEv
import Derived.Test.YtnihbplibmljlaaWMore
namespace Go.Proofs.Ytnihbplibmljlaa.PQ
open Go.RowKit Go.Proofs.YtnihbplibmljlaaW.PrintWords Go.Proofs.YtnihbplibmljlaaW.PrintLast Go.Proofs.YtnihbplibmljlaaW.PrintMore
attribute [local go_sem] max2_int min2_int max_two min_two max_three min_three max_four min_four   -- for this text's walks alone
set_option linter.unusedVariables false
set_option linter.unusedSimpArgs false



def errW : Option Int → Value
  | none => .nilIface
  | some c => .iface 0 (.int .i64 c)
theorem errW_none : errW none = .nilIface := rfl
theorem errW_some (c : Int) : errW (some c) = .iface 0 (.int .i64 c) := rfl

-- the values' own types

end Go.Proofs.Ytnihbplibmljlaa.PQ
