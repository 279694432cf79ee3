import Derived.Test.YtninmcmajbfccaaProg
import Derived.Test.YtninmcmajbfccaaZ10
import Derived.Test.YtninmcmajbfccaaZ11
import Derived.Test.YtninmcmajbfccaaZ4
import Derived.Test.YtninmcmajbfccaaZ1
import Derived.Test.YtninmcmajbfccaaZ2
import Derived.Test.YtninmcmajbfccaaZ3
import Derived.Test.YtninmcmajbfccaaZ5
/- Joined by a program of this session's own (wip/pack.py) out of its texts; the parts PQ, PR, PS were laid by its own program (wip/print-patch.py over the kit's print) out of the translation; Lean checks all. -/
-- Laid by a program of this session's own (wip/print-patch.py over the kit's print), out of the translation; Lean checks it.
namespace Go.Proofs.Ytninmcmajbfccaa.PR
open Go.RowKit Go.Proofs.Ytninmcmajbfccaa.PQ Go.Proofs.YtninmcmajbfccaaW.PrintWords Go.Proofs.YtninmcmajbfccaaW.PrintLast Go.Proofs.YtninmcmajbfccaaW.PrintMore
attribute [local go_sem] max2_int min2_int max_two min_two max_three min_three max_four min_four   -- for this text's walks alone
set_option linter.unusedVariables false
set_option linter.unusedSimpArgs false



def errW : Option Int → Value
  | none => .nilIface
  | some c => .iface 0 (.int .i64 c)
theorem errW_none : errW none = .nilIface := rfl
theorem errW_some (c : Int) : errW (some c) = .iface 0 (.int .i64 c) := rfl

-- the values' own types

end Go.Proofs.Ytninmcmajbfccaa.PR
