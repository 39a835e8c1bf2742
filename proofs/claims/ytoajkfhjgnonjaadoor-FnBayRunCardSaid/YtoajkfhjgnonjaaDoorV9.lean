/- The printed functions without rounds: what each answers when there are rounds enough, and its equation. No condition. -/
import Derived.Test.YtoajkfhjgnonjaaDoorGx9
import Derived.Test.YtoajkfhjgnonjaaDoorLim
import Derived.Test.YtoajkfhjgnonjaaDoorV1
import Derived.Test.YtoajkfhjgnonjaaDoorV2
import Derived.Test.YtoajkfhjgnonjaaDoorV5
import Derived.Test.YtoajkfhjgnonjaaDoorV6
import Derived.Test.YtoajkfhjgnonjaaDoorV7
namespace Go.Proofs.YtoajkfhjgnonjaaDoor.G
open Go.RowKit Go.Proofs.YtoajkfhjgnonjaaDoorW.PrintWords Go.Proofs.YtoajkfhjgnonjaaDoorW.PrintLast Go.Proofs.YtoajkfhjgnonjaaDoorW.PrintMore
set_option linter.unusedVariables false
/-! ### impl_BayRun -/
noncomputable def impl_BayRun.vl0 (x1 : List Int) (x10 : List Int) (x11 : Int) (x12 : Int) (x401000 : Bool) (x401001 : Bool) (x401002 : Bool) (x401003 : Bool) : Option (Bool × Bool × Bool × Bool × Int) := Op.lim (fun k => impl_BayRun.l0 k x1 x10 x11 x12 x401000 x401001 x401002 x401003)
theorem impl_BayRun.Ll0 (x1 : List Int) (x10 : List Int) (x11 : Int) (x12 : Int) (x401000 : Bool) (x401001 : Bool) (x401002 : Bool) (x401003 : Bool) : Op.Lim (fun k => impl_BayRun.l0 k x1 x10 x11 x12 x401000 x401001 x401002 x401003) (impl_BayRun.vl0 x1 x10 x11 x12 x401000 x401001 x401002 x401003) := Op.Lim.of (fun k => (impl_BayRun.mono_l k) x1 x10 x11 x12 x401000 x401001 x401002 x401003)
noncomputable def impl_BayRun.v (a0_0 : Bool) (a0_1 : Bool) (a0_2 : Bool) (a0_3 : Bool) (l1 : List Int) : Option (Bool × Bool × Bool × Bool × Int) := Op.lim (fun k => impl_BayRun.f k a0_0 a0_1 a0_2 a0_3 l1)
theorem impl_BayRun.L (a0_0 : Bool) (a0_1 : Bool) (a0_2 : Bool) (a0_3 : Bool) (l1 : List Int) : Op.Lim (fun k => impl_BayRun.f k a0_0 a0_1 a0_2 a0_3 l1) (impl_BayRun.v a0_0 a0_1 a0_2 a0_3 l1) := Op.Lim.of (fun k => impl_BayRun.mono a0_0 a0_1 a0_2 a0_3 l1 k)
theorem impl_BayRun.vl0_eq (x1 : List Int) (x10 : List Int) (x11 : Int) (x12 : Int) (x401000 : Bool) (x401001 : Bool) (x401002 : Bool) (x401003 : Bool) : impl_BayRun.vl0 x1 x10 x11 x12 x401000 x401001 x401002 x401003 = (if x12 < x11 then (if 0 ≤ x12 then (if x12 < (x10.length : Int) then ((impl_BayDo.f x401000 x401001 x401002 x401003 (rd x10 x12)).bind fun bt403 => (if bt403.2.2.2.2 = true then (impl_BayRun.vl0 x1 x10 x11 (wrap64 (x12 + 1)) bt403.1 bt403.2.1 bt403.2.2.1 bt403.2.2.2.1) else (some (x401000, x401001, x401002, x401003, x12)))) else (none)) else (none)) else (some (x401000, x401001, x401002, x401003, (x1.length : Int)))) := Op.Lim.unique (impl_BayRun.Ll0 x1 x10 x11 x12 x401000 x401001 x401002 x401003) (Op.Lim.succ (impl_BayRun.Ll0 x1 x10 x11 x12 x401000 x401001 x401002 x401003).up (by simp only [impl_BayRun.l0]; repeat' first | exact Op.Lim.const _ | apply impl_BayRun.Ll0 | refine Op.Lim.bind ?_ (fun _ => ?_) | refine Op.Lim.ite ?_ ?_))
theorem impl_BayRun.v_eq (a0_0 : Bool) (a0_1 : Bool) (a0_2 : Bool) (a0_3 : Bool) (l1 : List Int) : impl_BayRun.v a0_0 a0_1 a0_2 a0_3 l1 = (impl_BayRun.vl0 l1 l1 (l1.length : Int) 0 a0_0 a0_1 a0_2 a0_3) := Op.Lim.unique (impl_BayRun.L a0_0 a0_1 a0_2 a0_3 l1) (by unfold impl_BayRun.f; repeat' first | exact Op.Lim.const _ | apply impl_BayRun.Ll0 | refine Op.Lim.bind ?_ (fun _ => ?_) | refine Op.Lim.ite ?_ ?_)
end Go.Proofs.YtoajkfhjgnonjaaDoor.G
