/- The printed functions without rounds: what each answers when there are rounds enough, and its equation. No condition. -/
import Derived.Test.YtoajkfhjgnonjaaDoorGx7
import Derived.Test.YtoajkfhjgnonjaaDoorLim
import Derived.Test.YtoajkfhjgnonjaaDoorV1
import Derived.Test.YtoajkfhjgnonjaaDoorV2
import Derived.Test.YtoajkfhjgnonjaaDoorV5
import Derived.Test.YtoajkfhjgnonjaaDoorV6
namespace Go.Proofs.YtoajkfhjgnonjaaDoor.G
open Go.RowKit Go.Proofs.YtoajkfhjgnonjaaDoorW.PrintWords Go.Proofs.YtoajkfhjgnonjaaDoorW.PrintLast Go.Proofs.YtoajkfhjgnonjaaDoorW.PrintMore
set_option linter.unusedVariables false
/-! ### spec_DrawBayDo -/
noncomputable def spec_DrawBayDo.v (l0 : List Int) : Option (Bool × Bool × Bool × Bool × Int) := Op.lim (fun k => spec_DrawBayDo.f k l0)
theorem spec_DrawBayDo.L (l0 : List Int) : Op.Lim (fun k => spec_DrawBayDo.f k l0) (spec_DrawBayDo.v l0) := Op.Lim.of (fun k => spec_DrawBayDo.mono l0 k)
theorem spec_DrawBayDo.v_eq (l0 : List Int) : spec_DrawBayDo.v l0 = ((spec_DrawBayMay.v l0).bind fun bt346 => (some (bt346.1, bt346.2.1, bt346.2.2.1, bt346.2.2.2.1, bt346.2.2.2.2))) := Op.Lim.unique (spec_DrawBayDo.L l0) (by unfold spec_DrawBayDo.f; repeat' first | exact Op.Lim.const _ | apply spec_DrawBayMay.L | refine Op.Lim.bind ?_ (fun _ => ?_) | refine Op.Lim.ite ?_ ?_)
/-! ### spec_l20Deeds -/
noncomputable def spec_l20Deeds.vl0 (x3 : List Int) (x4 : Int) (x1000 : List Int) (x1001 : Int) : Option (List Int × Int) := Op.lim (fun k => spec_l20Deeds.l0 k x3 x4 x1000 x1001)
theorem spec_l20Deeds.Ll0 (x3 : List Int) (x4 : Int) (x1000 : List Int) (x1001 : Int) : Op.Lim (fun k => spec_l20Deeds.l0 k x3 x4 x1000 x1001) (spec_l20Deeds.vl0 x3 x4 x1000 x1001) := Op.Lim.of (fun k => (spec_l20Deeds.mono_l k) x3 x4 x1000 x1001)
noncomputable def spec_l20Deeds.v (s0_0 : List Int) (s0_1 : Int) : Option (List Int × Int) := Op.lim (fun k => spec_l20Deeds.f k s0_0 s0_1)
theorem spec_l20Deeds.L (s0_0 : List Int) (s0_1 : Int) : Op.Lim (fun k => spec_l20Deeds.f k s0_0 s0_1) (spec_l20Deeds.v s0_0 s0_1) := Op.Lim.of (fun k => spec_l20Deeds.mono s0_0 s0_1 k)
theorem spec_l20Deeds.vl0_eq (x3 : List Int) (x4 : Int) (x1000 : List Int) (x1001 : Int) : spec_l20Deeds.vl0 x3 x4 x1000 x1001 = (if x4 > 0 then ((spec_l20Rd_pick.v x1000 x1001 9).bind fun bt365 => ((spec_l20Rd_pick.v x1000 bt365.2 9).bind fun bt367 => (if x3.length < 17592186044416 then (spec_l20Deeds.vl0 (x3 ++ [wrap64 (bt365.1 - (wrap64 (Int.tdiv bt367.1 8)))]) (wrap64 (x4 - 1)) x1000 bt367.2) else (none)))) else (some (x3, x1001))) := Op.Lim.unique (spec_l20Deeds.Ll0 x3 x4 x1000 x1001) (Op.Lim.succ (spec_l20Deeds.Ll0 x3 x4 x1000 x1001).up (by simp only [spec_l20Deeds.l0]; repeat' first | exact Op.Lim.const _ | apply spec_l20Rd_pick.L | apply spec_l20Deeds.Ll0 | refine Op.Lim.bind ?_ (fun _ => ?_) | refine Op.Lim.ite ?_ ?_))
theorem spec_l20Deeds.v_eq (s0_0 : List Int) (s0_1 : Int) : spec_l20Deeds.v s0_0 s0_1 = ((spec_l20Rd_pick.v s0_0 s0_1 9).bind fun bt363 => (spec_l20Deeds.vl0 (([] : List Int)) bt363.1 s0_0 bt363.2)) := Op.Lim.unique (spec_l20Deeds.L s0_0 s0_1) (by unfold spec_l20Deeds.f; repeat' first | exact Op.Lim.const _ | apply spec_l20Rd_pick.L | apply spec_l20Deeds.Ll0 | refine Op.Lim.bind ?_ (fun _ => ?_) | refine Op.Lim.ite ?_ ?_)
end Go.Proofs.YtoajkfhjgnonjaaDoor.G
