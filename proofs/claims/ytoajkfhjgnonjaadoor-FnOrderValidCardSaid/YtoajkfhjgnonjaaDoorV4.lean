/- The printed functions without rounds: what each answers when there are rounds enough, and its equation. No condition. -/
import Derived.Test.YtoajkfhjgnonjaaDoorGx4
import Derived.Test.YtoajkfhjgnonjaaDoorLim
import Derived.Test.YtoajkfhjgnonjaaDoorV1
import Derived.Test.YtoajkfhjgnonjaaDoorV2
import Derived.Test.YtoajkfhjgnonjaaDoorV3
namespace Go.Proofs.YtoajkfhjgnonjaaDoor.G
open Go.RowKit Go.Proofs.YtoajkfhjgnonjaaDoorW.PrintWords Go.Proofs.YtoajkfhjgnonjaaDoorW.PrintLast Go.Proofs.YtoajkfhjgnonjaaDoorW.PrintMore
set_option linter.unusedVariables false
/-! ### laws_FnOrderValid -/
noncomputable def laws_FnOrderValid.v (l0 : List Int) : Option (Bool) := Op.lim (fun k => laws_FnOrderValid.f k l0)
theorem laws_FnOrderValid.L (l0 : List Int) : Op.Lim (fun k => laws_FnOrderValid.f k l0) (laws_FnOrderValid.v l0) := Op.Lim.of (fun k => laws_FnOrderValid.mono l0 k)
theorem laws_FnOrderValid.v_eq (l0 : List Int) : laws_FnOrderValid.v l0 = (if (l0.length : Int) > 1048576 then (some true) else ((spec_DrawOrderValid.v l0).bind fun t228 => ((impl_OrderValid.v t228).bind fun t231 => ((spec_OrderValid.v t228).bind fun t232 => (if (t231 != t232) = true then (some false) else ((some (([] : List (S70)) : List (S70))).bind fun y233 => (if y233.length + t228.length < 8796093022208 then ((some (y233 ++ t228 : List (S70))).bind fun y236 => (if y236.length < 8796093022208 then ((some (y236 ++ [(⟨10, false⟩ : S70)] : List (S70))).bind fun y239 => (if t231 = true then (if (t228.length : Int) = 0 then ((impl_OrderValid.v y239).bind fun t242 => (if t242 = true then (some false) else ((impl_OrderValid.v ([] : List (S70))).bind fun t243 => (if t243 = true then ((laws_alive.v).bind fun t244 => (some t244)) else (some false))))) else (if 1 ≤ (t228.length : Int) then ((impl_OrderValid.v (t228.drop 1)).bind fun t249 => (if t249 = true then ((impl_OrderValid.v y239).bind fun t250 => (if t250 = true then (some false) else ((impl_OrderValid.v ([] : List (S70))).bind fun t251 => (if t251 = true then ((laws_alive.v).bind fun t252 => (some t252)) else (some false))))) else (some false))) else (none))) else ((impl_OrderValid.v y239).bind fun t253 => (if t253 = true then (some false) else ((impl_OrderValid.v ([] : List (S70))).bind fun t254 => (if t254 = true then ((laws_alive.v).bind fun t255 => (some t255)) else (some false))))))) else (none))) else (none)))))))) := Op.Lim.unique (laws_FnOrderValid.L l0) (by unfold laws_FnOrderValid.f; repeat' first | exact Op.Lim.const _ | apply spec_DrawOrderValid.L | apply impl_OrderValid.L | apply spec_OrderValid.L | apply laws_alive.L | refine Op.Lim.bind ?_ (fun _ => ?_) | refine Op.Lim.ite ?_ ?_)
end Go.Proofs.YtoajkfhjgnonjaaDoor.G
