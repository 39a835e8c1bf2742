/- The printed functions without rounds: what each answers when there are rounds enough, and its equation. No condition. -/
import Derived.Test.YtihmidnjiaomhaaDoorGx18
import Derived.Test.YtihmidnjiaomhaaDoorLim
import Derived.Test.YtihmidnjiaomhaaDoorV10
import Derived.Test.YtihmidnjiaomhaaDoorV13
import Derived.Test.YtihmidnjiaomhaaDoorV14
import Derived.Test.YtihmidnjiaomhaaDoorV15
import Derived.Test.YtihmidnjiaomhaaDoorV3
import Derived.Test.YtihmidnjiaomhaaDoorV4
import Derived.Test.YtihmidnjiaomhaaDoorV5
import Derived.Test.YtihmidnjiaomhaaDoorV6
import Derived.Test.YtihmidnjiaomhaaDoorV7
namespace Go.Proofs.YtihmidnjiaomhaaDoor.G
open Go.RowKit Go.Proofs.YtihmidnjiaomhaaDoorW.PrintWords Go.Proofs.YtihmidnjiaomhaaDoorW.PrintLast Go.Proofs.YtihmidnjiaomhaaDoorW.PrintMore
set_option linter.unusedVariables false
/-! ### laws_alive -/
noncomputable def laws_alive.v : Option (Bool) := Op.lim (fun k => laws_alive.f k )
theorem laws_alive.L : Op.Lim (fun k => laws_alive.f k ) (laws_alive.v ) := Op.Lim.of (fun k => laws_alive.mono  k)
theorem laws_alive.v_eq : laws_alive.v  = ((impl_OtherEnd.v 2 (([(⟨0, 1, 1⟩ : S42)] : List (S42))) 0 0).bind fun t250 => (if t250 = 1 then ((impl_NetText.v 0 ([] : List (S42))).bind fun t251 => (some (t251.toList == ([] : List UInt8)))) else (some false))) := Op.Lim.unique (laws_alive.L ) (by unfold laws_alive.f; repeat' first | exact Op.Lim.const _ | apply impl_OtherEnd.L | apply impl_NetText.L | refine Op.Lim.bind ?_ (fun _ => ?_) | refine Op.Lim.ite ?_ ?_)
/-! ### laws_sameSteps -/
noncomputable def laws_sameSteps.vl0 (x0 : List (S87)) (x1 : List (S87)) (x5 : Int) : Option (Bool) := Op.lim (fun k => laws_sameSteps.l0 k x0 x1 x5)
theorem laws_sameSteps.Ll0 (x0 : List (S87)) (x1 : List (S87)) (x5 : Int) : Op.Lim (fun k => laws_sameSteps.l0 k x0 x1 x5) (laws_sameSteps.vl0 x0 x1 x5) := Op.Lim.of (fun k => (laws_sameSteps.mono_l k) x0 x1 x5)
noncomputable def laws_sameSteps.v (l0 : List (S87)) (l1 : List (S87)) : Option (Bool) := Op.lim (fun k => laws_sameSteps.f k l0 l1)
theorem laws_sameSteps.L (l0 : List (S87)) (l1 : List (S87)) : Op.Lim (fun k => laws_sameSteps.f k l0 l1) (laws_sameSteps.v l0 l1) := Op.Lim.of (fun k => laws_sameSteps.mono l0 l1 k)
theorem laws_sameSteps.vl0_eq (x0 : List (S87)) (x1 : List (S87)) (x5 : Int) : laws_sameSteps.vl0 x0 x1 x5 = (if x5 < (x0.length : Int) then (if 0 ≤ x5 then (if x5 < (x1.length : Int) then (if (!(((rd_T87 x0 x5).f0) == ((rd_T87 x1 x5).f0)) || (!(((rd_T87 x0 x5).f1) == ((rd_T87 x1 x5).f1)))) = true then (some false) else (laws_sameSteps.vl0 x0 x1 (wrap64 (x5 + 1)))) else (none)) else (none)) else (some true)) := Op.Lim.unique (laws_sameSteps.Ll0 x0 x1 x5) (Op.Lim.succ (laws_sameSteps.Ll0 x0 x1 x5).up (by simp only [laws_sameSteps.l0]; repeat' first | exact Op.Lim.const _ | apply laws_sameSteps.Ll0 | refine Op.Lim.bind ?_ (fun _ => ?_) | refine Op.Lim.ite ?_ ?_))
theorem laws_sameSteps.v_eq (l0 : List (S87)) (l1 : List (S87)) : laws_sameSteps.v l0 l1 = (if (l0.length : Int) = (l1.length : Int) then (laws_sameSteps.vl0 l0 l1 0) else (some false)) := Op.Lim.unique (laws_sameSteps.L l0 l1) (by unfold laws_sameSteps.f; repeat' first | exact Op.Lim.const _ | apply laws_sameSteps.Ll0 | refine Op.Lim.bind ?_ (fun _ => ?_) | refine Op.Lim.ite ?_ ?_)
/-! ### laws_sameBools -/
noncomputable def laws_sameBools.vl0 (x0 : List Bool) (x1 : List Bool) (x5 : Int) : Option (Bool) := Op.lim (fun k => laws_sameBools.l0 k x0 x1 x5)
theorem laws_sameBools.Ll0 (x0 : List Bool) (x1 : List Bool) (x5 : Int) : Op.Lim (fun k => laws_sameBools.l0 k x0 x1 x5) (laws_sameBools.vl0 x0 x1 x5) := Op.Lim.of (fun k => (laws_sameBools.mono_l k) x0 x1 x5)
noncomputable def laws_sameBools.v (l0 : List Bool) (l1 : List Bool) : Option (Bool) := Op.lim (fun k => laws_sameBools.f k l0 l1)
theorem laws_sameBools.L (l0 : List Bool) (l1 : List Bool) : Op.Lim (fun k => laws_sameBools.f k l0 l1) (laws_sameBools.v l0 l1) := Op.Lim.of (fun k => laws_sameBools.mono l0 l1 k)
theorem laws_sameBools.vl0_eq (x0 : List Bool) (x1 : List Bool) (x5 : Int) : laws_sameBools.vl0 x0 x1 x5 = (if x5 < (x0.length : Int) then (if 0 ≤ x5 then (if x5 < (x1.length : Int) then (if ((rdOf false x0 x5) != (rdOf false x1 x5)) = true then (some false) else (laws_sameBools.vl0 x0 x1 (wrap64 (x5 + 1)))) else (none)) else (none)) else (some true)) := Op.Lim.unique (laws_sameBools.Ll0 x0 x1 x5) (Op.Lim.succ (laws_sameBools.Ll0 x0 x1 x5).up (by simp only [laws_sameBools.l0]; repeat' first | exact Op.Lim.const _ | apply laws_sameBools.Ll0 | refine Op.Lim.bind ?_ (fun _ => ?_) | refine Op.Lim.ite ?_ ?_))
theorem laws_sameBools.v_eq (l0 : List Bool) (l1 : List Bool) : laws_sameBools.v l0 l1 = (if (l0.length : Int) = (l1.length : Int) then (laws_sameBools.vl0 l0 l1 0) else (some false)) := Op.Lim.unique (laws_sameBools.L l0 l1) (by unfold laws_sameBools.f; repeat' first | exact Op.Lim.const _ | apply laws_sameBools.Ll0 | refine Op.Lim.bind ?_ (fun _ => ?_) | refine Op.Lim.ite ?_ ?_)
/-! ### laws_FnOrderTo -/
noncomputable def laws_FnOrderTo.vj0 (x3 : List Bool) (x4 : List Bool) (x5 : List (S87)) (x36 : Bool) : Option (Bool) := Op.lim (fun k => laws_FnOrderTo.j0 k x3 x4 x5 x36)
theorem laws_FnOrderTo.Lj0 (x3 : List Bool) (x4 : List Bool) (x5 : List (S87)) (x36 : Bool) : Op.Lim (fun k => laws_FnOrderTo.j0 k x3 x4 x5 x36) (laws_FnOrderTo.vj0 x3 x4 x5 x36) := Op.Lim.of (fun k => (laws_FnOrderTo.mono_l k).1 x3 x4 x5 x36)
noncomputable def laws_FnOrderTo.vl0 (x3 : List Bool) (x4 : List Bool) (x5 : List (S87)) (x7 : Int) (x418000 : Int) (x418001 : List (S42)) : Option (Bool) := Op.lim (fun k => laws_FnOrderTo.l0 k x3 x4 x5 x7 x418000 x418001)
theorem laws_FnOrderTo.Ll0 (x3 : List Bool) (x4 : List Bool) (x5 : List (S87)) (x7 : Int) (x418000 : Int) (x418001 : List (S42)) : Op.Lim (fun k => laws_FnOrderTo.l0 k x3 x4 x5 x7 x418000 x418001) (laws_FnOrderTo.vl0 x3 x4 x5 x7 x418000 x418001) := Op.Lim.of (fun k => (laws_FnOrderTo.mono_l k).2 x3 x4 x5 x7 x418000 x418001)
noncomputable def laws_FnOrderTo.v (l0 : List Int) : Option (Bool) := Op.lim (fun k => laws_FnOrderTo.f k l0)
theorem laws_FnOrderTo.L (l0 : List Int) : Op.Lim (fun k => laws_FnOrderTo.f k l0) (laws_FnOrderTo.v l0) := Op.Lim.of (fun k => laws_FnOrderTo.mono l0 k)
theorem laws_FnOrderTo.vj0_eq (x3 : List Bool) (x4 : List Bool) (x5 : List (S87)) (x36 : Bool) : laws_FnOrderTo.vj0 x3 x4 x5 x36 = (if x36 = true then (if (x5.length : Int) = 0 then ((laws_alive.v).bind fun t416 => (some t416)) else (some false)) else (laws_FnOrderTo.vl0 x3 x4 x5 0 2 ([] : List (S42)))) := Op.Lim.unique (laws_FnOrderTo.Lj0 x3 x4 x5 x36) (Op.Lim.succ (laws_FnOrderTo.Lj0 x3 x4 x5 x36).up (by simp only [laws_FnOrderTo.j0]; repeat' first | exact Op.Lim.const _ | apply laws_alive.L | apply laws_FnOrderTo.Ll0 | refine Op.Lim.bind ?_ (fun _ => ?_) | refine Op.Lim.ite ?_ ?_))
theorem laws_FnOrderTo.vl0_eq (x3 : List Bool) (x4 : List Bool) (x5 : List (S87)) (x7 : Int) (x418000 : Int) (x418001 : List (S42)) : laws_FnOrderTo.vl0 x3 x4 x5 x7 x418000 x418001 = (if x7 < (x3.length : Int) then (if x418001.length < 5864062014805 then (laws_FnOrderTo.vl0 x3 x4 x5 (wrap64 (x7 + 1)) x418000 (x418001 ++ [(⟨0, 1, 1⟩ : S42)])) else (none)) else ((impl_OrderRun.v x418000 x418001 x3 x5).bind fun bt421 => ((laws_sameBools.v bt421.1 x4).bind fun t425 => (if t425 = true then (if bt421.2 = (x5.length : Int) then ((impl_Changes.v x3 x4).bind fun t426 => (some (bt421.2 == (t426.length : Int)))) else (some false)) else (some false))))) := Op.Lim.unique (laws_FnOrderTo.Ll0 x3 x4 x5 x7 x418000 x418001) (Op.Lim.succ (laws_FnOrderTo.Ll0 x3 x4 x5 x7 x418000 x418001).up (by simp only [laws_FnOrderTo.l0]; repeat' first | exact Op.Lim.const _ | apply laws_FnOrderTo.Ll0 | apply impl_OrderRun.L | apply laws_sameBools.L | apply impl_Changes.L | refine Op.Lim.bind ?_ (fun _ => ?_) | refine Op.Lim.ite ?_ ?_))
theorem laws_FnOrderTo.v_eq (l0 : List Int) : laws_FnOrderTo.v l0 = (if (l0.length : Int) > 1048576 then (some true) else ((spec_DrawOrderTo.v l0).bind fun bt403 => ((impl_OrderTo.v bt403.1 bt403.2).bind fun t409 => ((spec_OrderTo.v bt403.1 bt403.2).bind fun t412 => ((laws_sameSteps.v t409 t412).bind fun t415 => (if t415 = true then (if (bt403.1.length : Int) = (bt403.2.length : Int) then (laws_FnOrderTo.vj0 bt403.1 bt403.2 t409 (decide ((bt403.1.length : Int) > 10))) else (laws_FnOrderTo.vj0 bt403.1 bt403.2 t409 true)) else (some false))))))) := Op.Lim.unique (laws_FnOrderTo.L l0) (by unfold laws_FnOrderTo.f; repeat' first | exact Op.Lim.const _ | apply spec_DrawOrderTo.L | apply impl_OrderTo.L | apply spec_OrderTo.L | apply laws_sameSteps.L | apply laws_FnOrderTo.Lj0 | refine Op.Lim.bind ?_ (fun _ => ?_) | refine Op.Lim.ite ?_ ?_)
end Go.Proofs.YtihmidnjiaomhaaDoor.G
