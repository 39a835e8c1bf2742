/- The printed functions without rounds: what each answers when there are rounds enough, and its equation. No condition. -/
import Derived.Test.YtoajkfhjgnonjaaDoorGx20
import Derived.Test.YtoajkfhjgnonjaaDoorLim
import Derived.Test.YtoajkfhjgnonjaaDoorV1
import Derived.Test.YtoajkfhjgnonjaaDoorV2
namespace Go.Proofs.YtoajkfhjgnonjaaDoor.G
open Go.RowKit Go.Proofs.YtoajkfhjgnonjaaDoorW.PrintWords Go.Proofs.YtoajkfhjgnonjaaDoorW.PrintLast Go.Proofs.YtoajkfhjgnonjaaDoorW.PrintMore
set_option linter.unusedVariables false
/-! ### laws_FnBaySafe -/
noncomputable def laws_FnBaySafe.v (l0 : List Int) : Option (Bool) := Op.lim (fun k => laws_FnBaySafe.f k l0)
theorem laws_FnBaySafe.L (l0 : List Int) : Op.Lim (fun k => laws_FnBaySafe.f k l0) (laws_FnBaySafe.v l0) := Op.Lim.of (fun k => laws_FnBaySafe.mono l0 k)
theorem laws_FnBaySafe.v_eq (l0 : List Int) : laws_FnBaySafe.v l0 = (if (l0.length : Int) > 1048576 then (some true) else ((spec_DrawBaySafe.v l0).bind fun bt => (laws_alive.v))) := Op.Lim.unique (laws_FnBaySafe.L l0) (by unfold laws_FnBaySafe.f; repeat' first | exact Op.Lim.const _ | apply spec_DrawBaySafe.L | apply laws_alive.L | refine Op.Lim.bind ?_ (fun _ => ?_) | refine Op.Lim.ite ?_ ?_)
end Go.Proofs.YtoajkfhjgnonjaaDoor.G
