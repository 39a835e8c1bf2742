/- The printed functions without rounds: what each answers when there are rounds enough, and its equation. No condition. -/
import Derived.Test.YtoajkfhjgnonjaaDoorGx21
import Derived.Test.YtoajkfhjgnonjaaDoorLim
import Derived.Test.YtoajkfhjgnonjaaDoorV1
import Derived.Test.YtoajkfhjgnonjaaDoorV2
import Derived.Test.YtoajkfhjgnonjaaDoorV5
import Derived.Test.YtoajkfhjgnonjaaDoorV6
import Derived.Test.YtoajkfhjgnonjaaDoorV7
namespace Go.Proofs.YtoajkfhjgnonjaaDoor.G
open Go.RowKit Go.Proofs.YtoajkfhjgnonjaaDoorW.PrintWords Go.Proofs.YtoajkfhjgnonjaaDoorW.PrintLast Go.Proofs.YtoajkfhjgnonjaaDoorW.PrintMore
set_option linter.unusedVariables false
/-! ### laws_FnBayMay -/
noncomputable def laws_FnBayMay.v (l0 : List Int) : Option (Bool) := Op.lim (fun k => laws_FnBayMay.f k l0)
theorem laws_FnBayMay.L (l0 : List Int) : Op.Lim (fun k => laws_FnBayMay.f k l0) (laws_FnBayMay.v l0) := Op.Lim.of (fun k => laws_FnBayMay.mono l0 k)
theorem laws_FnBayMay.v_eq (l0 : List Int) : laws_FnBayMay.v l0 = (if (l0.length : Int) > 1048576 then (some true) else ((spec_DrawBayMay.v l0).bind fun bt => (if laws_FnBayMay.ok bt = true then (some true) else (laws_alive.v)))) := Op.Lim.unique (laws_FnBayMay.L l0) (by unfold laws_FnBayMay.f; repeat' first | exact Op.Lim.const _ | apply spec_DrawBayMay.L | apply laws_alive.L | refine Op.Lim.bind ?_ (fun _ => ?_) | refine Op.Lim.ite ?_ ?_)
end Go.Proofs.YtoajkfhjgnonjaaDoor.G
