/- The printed functions without rounds: what each answers when there are rounds enough, and its equation. No condition. -/
import Derived.Test.YtoajkfhjgnonjaaDoorGx10
import Derived.Test.YtoajkfhjgnonjaaDoorLim
import Derived.Test.YtoajkfhjgnonjaaDoorV1
import Derived.Test.YtoajkfhjgnonjaaDoorV2
import Derived.Test.YtoajkfhjgnonjaaDoorV5
import Derived.Test.YtoajkfhjgnonjaaDoorV6
import Derived.Test.YtoajkfhjgnonjaaDoorV7
namespace Go.Proofs.YtoajkfhjgnonjaaDoor.G
open Go.RowKit Go.Proofs.YtoajkfhjgnonjaaDoorW.PrintWords Go.Proofs.YtoajkfhjgnonjaaDoorW.PrintLast Go.Proofs.YtoajkfhjgnonjaaDoorW.PrintMore
set_option linter.unusedVariables false
/-! ### spec_BayRun -/
noncomputable def spec_BayRun.vl0 (x1 : List Int) (x6 : Int) (x410000 : Bool) (x410001 : Bool) (x410002 : Bool) (x410003 : Bool) : Option (Bool × Bool × Bool × Bool × Int) := Op.lim (fun k => spec_BayRun.l0 k x1 x6 x410000 x410001 x410002 x410003)
theorem spec_BayRun.Ll0 (x1 : List Int) (x6 : Int) (x410000 : Bool) (x410001 : Bool) (x410002 : Bool) (x410003 : Bool) : Op.Lim (fun k => spec_BayRun.l0 k x1 x6 x410000 x410001 x410002 x410003) (spec_BayRun.vl0 x1 x6 x410000 x410001 x410002 x410003) := Op.Lim.of (fun k => (spec_BayRun.mono_l k) x1 x6 x410000 x410001 x410002 x410003)
noncomputable def spec_BayRun.v (a0_0 : Bool) (a0_1 : Bool) (a0_2 : Bool) (a0_3 : Bool) (l1 : List Int) : Option (Bool × Bool × Bool × Bool × Int) := Op.lim (fun k => spec_BayRun.f k a0_0 a0_1 a0_2 a0_3 l1)
theorem spec_BayRun.L (a0_0 : Bool) (a0_1 : Bool) (a0_2 : Bool) (a0_3 : Bool) (l1 : List Int) : Op.Lim (fun k => spec_BayRun.f k a0_0 a0_1 a0_2 a0_3 l1) (spec_BayRun.v a0_0 a0_1 a0_2 a0_3 l1) := Op.Lim.of (fun k => spec_BayRun.mono a0_0 a0_1 a0_2 a0_3 l1 k)
theorem spec_BayRun.vl0_eq (x1 : List Int) (x6 : Int) (x410000 : Bool) (x410001 : Bool) (x410002 : Bool) (x410003 : Bool) : spec_BayRun.vl0 x1 x6 x410000 x410001 x410002 x410003 = (if x6 < (x1.length : Int) then (if 0 ≤ x6 then ((spec_BayDo.f x410000 x410001 x410002 x410003 (rd x1 x6)).bind fun bt412 => (if bt412.2.2.2.2 = true then (spec_BayRun.vl0 x1 (wrap64 (x6 + 1)) bt412.1 bt412.2.1 bt412.2.2.1 bt412.2.2.2.1) else (some (x410000, x410001, x410002, x410003, x6)))) else (none)) else (some (x410000, x410001, x410002, x410003, (x1.length : Int)))) := Op.Lim.unique (spec_BayRun.Ll0 x1 x6 x410000 x410001 x410002 x410003) (Op.Lim.succ (spec_BayRun.Ll0 x1 x6 x410000 x410001 x410002 x410003).up (by simp only [spec_BayRun.l0]; repeat' first | exact Op.Lim.const _ | apply spec_BayRun.Ll0 | refine Op.Lim.bind ?_ (fun _ => ?_) | refine Op.Lim.ite ?_ ?_))
theorem spec_BayRun.v_eq (a0_0 : Bool) (a0_1 : Bool) (a0_2 : Bool) (a0_3 : Bool) (l1 : List Int) : spec_BayRun.v a0_0 a0_1 a0_2 a0_3 l1 = (spec_BayRun.vl0 l1 0 a0_0 a0_1 a0_2 a0_3) := Op.Lim.unique (spec_BayRun.L a0_0 a0_1 a0_2 a0_3 l1) (by unfold spec_BayRun.f; repeat' first | exact Op.Lim.const _ | apply spec_BayRun.Ll0 | refine Op.Lim.bind ?_ (fun _ => ?_) | refine Op.Lim.ite ?_ ?_)
end Go.Proofs.YtoajkfhjgnonjaaDoor.G
