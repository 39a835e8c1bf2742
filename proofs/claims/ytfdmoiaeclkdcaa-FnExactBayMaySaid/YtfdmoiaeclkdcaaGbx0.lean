-- Printed by wip/gen.py of this session's repo, over the kit's print.py. Not trusted: Lean checks it.
import Derived.Test.YtfdmoiaeclkdcaaProg
import Derived.Below
import Derived.Deep.Draws
import Derived.Deep.AppendLies
import Derived.Maps.AppendAt
import Derived.OwnWalk
import Derived.Laws.BytesArg
import Derived.Laws.MakeOwn
import Derived.Laws.OwnMore
import Derived.Deep.OwnRows
import Derived.Tactics
import Derived.Lib.ConvBytes
import Derived.Laws.Slices
import Derived.WalkKit
import Derived.KernelRfl
import Derived.RowKit3
import Derived.Deep.LoopGhost
import Derived.Deep.QuietTactic
import Derived.BigQuiet
import Derived.WideLaws
import Derived.Deep.DeepCutAuto
import Derived.Deep.CutBlock
import Derived.Deep.RegionHeld3
import Derived.Laws.Rows
import Derived.Lib.AppendStr
import Derived.ArgAppend
import Derived.Laws.IdiomCopy
import Derived.OrdersHeld
import Derived.Laws.BitsLemmas
import Derived.RowKit
import Derived.Test.YtfdmoiaeclkdcaaWWords
import Derived.Test.YtfdmoiaeclkdcaaWLast
import Derived.Test.YtfdmoiaeclkdcaaWTab
import Derived.Test.YtfdmoiaeclkdcaaWFour
import Derived.Test.YtfdmoiaeclkdcaaWQPut
import Derived.Test.YtfdmoiaeclkdcaaWApart
import Derived.Test.YtfdmoiaeclkdcaaWArr
import Derived.Test.YtfdmoiaeclkdcaaWZeros
import Derived.Test.YtfdmoiaeclkdcaaWFoot
import Derived.Test.YtfdmoiaeclkdcaaWKept
import Derived.Test.YtfdmoiaeclkdcaaWShare
import Derived.Test.YtfdmoiaeclkdcaaWN
import Derived.Test.YtfdmoiaeclkdcaaWFootNe
import Derived.Test.YtfdmoiaeclkdcaaWAt
import Derived.Test.YtfdmoiaeclkdcaaWEqStruct
import Derived.Test.YtfdmoiaeclkdcaaWRepsOne
import Derived.Test.YtfdmoiaeclkdcaaWInv
import Derived.Test.YtfdmoiaeclkdcaaWInvWords
import Derived.Test.YtfdmoiaeclkdcaaWGuard
import Derived.Test.YtfdmoiaeclkdcaaWNEv
import Derived.Test.YtfdmoiaeclkdcaaWMore
namespace Go.Proofs.Ytfdmoiaeclkdcaa.Gb
open Go.RowKit Go.Proofs.YtfdmoiaeclkdcaaW.PrintWords Go.Proofs.YtfdmoiaeclkdcaaW.PrintLast Go.Proofs.YtfdmoiaeclkdcaaW.PrintMore
attribute [local go_sem] max2_int min2_int max_two min_two max_three min_three max_four min_four   -- for this text's walks alone
set_option linter.unusedVariables false
set_option linter.unusedSimpArgs false



def errW : Option Int → Value
  | none => .nilIface
  | some c => .iface 0 (.int .i64 c)
theorem errW_none : errW none = .nilIface := rfl
theorem errW_some (c : Int) : errW (some c) = .iface 0 (.int .i64 c) := rfl

-- the values' own types

end Go.Proofs.Ytfdmoiaeclkdcaa.Gb
