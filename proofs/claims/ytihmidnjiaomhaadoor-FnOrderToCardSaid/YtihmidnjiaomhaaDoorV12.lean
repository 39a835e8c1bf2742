/- The printed functions without rounds: what each answers when there are rounds enough, and its equation. No condition. -/
import Derived.Test.YtihmidnjiaomhaaDoorGx12
import Derived.Test.YtihmidnjiaomhaaDoorLim
import Derived.Test.YtihmidnjiaomhaaDoorV10
import Derived.Test.YtihmidnjiaomhaaDoorV11
import Derived.Test.YtihmidnjiaomhaaDoorV7
namespace Go.Proofs.YtihmidnjiaomhaaDoor.G
open Go.RowKit Go.Proofs.YtihmidnjiaomhaaDoorW.PrintWords Go.Proofs.YtihmidnjiaomhaaDoorW.PrintLast Go.Proofs.YtihmidnjiaomhaaDoorW.PrintMore
set_option linter.unusedVariables false
/-! ### spec_OrderRun -/
noncomputable def spec_OrderRun.vj0 (x1 : List Bool) (x2 : List (S87)) (x18 : Bool) : Option (List Bool × Int) := Op.lim (fun k => spec_OrderRun.j0 k x1 x2 x18)
theorem spec_OrderRun.Lj0 (x1 : List Bool) (x2 : List (S87)) (x18 : Bool) : Op.Lim (fun k => spec_OrderRun.j0 k x1 x2 x18) (spec_OrderRun.vj0 x1 x2 x18) := Op.Lim.of (fun k => (spec_OrderRun.mono_l k).1 x1 x2 x18)
noncomputable def spec_OrderRun.vl0 (x1 : List Bool) (x2 : List (S87)) (x8 : List Bool) (x9 : Int) : Option (List Bool × Int) := Op.lim (fun k => spec_OrderRun.l0 k x1 x2 x8 x9)
theorem spec_OrderRun.Ll0 (x1 : List Bool) (x2 : List (S87)) (x8 : List Bool) (x9 : Int) : Op.Lim (fun k => spec_OrderRun.l0 k x1 x2 x8 x9) (spec_OrderRun.vl0 x1 x2 x8 x9) := Op.Lim.of (fun k => (spec_OrderRun.mono_l k).2 x1 x2 x8 x9)
noncomputable def spec_OrderRun.v (a0_0 : Int) (l0_1 : List (S42)) (l1 : List Bool) (l2 : List (S87)) : Option (List Bool × Int) := Op.lim (fun k => spec_OrderRun.f k a0_0 l0_1 l1 l2)
theorem spec_OrderRun.L (a0_0 : Int) (l0_1 : List (S42)) (l1 : List Bool) (l2 : List (S87)) : Op.Lim (fun k => spec_OrderRun.f k a0_0 l0_1 l1 l2) (spec_OrderRun.v a0_0 l0_1 l1 l2) := Op.Lim.of (fun k => spec_OrderRun.mono a0_0 l0_1 l1 l2 k)
theorem spec_OrderRun.vj0_eq (x1 : List Bool) (x2 : List (S87)) (x18 : Bool) : spec_OrderRun.vj0 x1 x2 x18 = (if x18 = true then (some ((([] : List Bool)), 0)) else ((spec_l2Copy.f x1).bind fun t516 => (spec_OrderRun.vl0 x1 x2 t516 0))) := Op.Lim.unique (spec_OrderRun.Lj0 x1 x2 x18) (Op.Lim.succ (spec_OrderRun.Lj0 x1 x2 x18).up (by simp only [spec_OrderRun.j0]; repeat' first | exact Op.Lim.const _ | apply spec_OrderRun.Ll0 | refine Op.Lim.bind ?_ (fun _ => ?_) | refine Op.Lim.ite ?_ ?_))
theorem spec_OrderRun.vl0_eq (x1 : List Bool) (x2 : List (S87)) (x8 : List Bool) (x9 : Int) : spec_OrderRun.vl0 x1 x2 x8 x9 = (if x9 < (x2.length : Int) then (if 0 ≤ x9 then (if ((rd_T87 x2 x9).f0) ≥ (x1.length : Int) then (some (x8, x9)) else (if 0 ≤ ((rd_T87 x2 x9).f0) then (if ((rd_T87 x2 x9).f0) < (x8.length : Int) then (if ((rdOf false x8 ((rd_T87 x2 x9).f0)) == ((rd_T87 x2 x9).f1)) = true then (some (x8, x9)) else (spec_OrderRun.vl0 x1 x2 (x8.set (((rd_T87 x2 x9).f0) : Int).toNat ((rd_T87 x2 x9).f1)) (wrap64 (x9 + 1)))) else (none)) else (none))) else (none)) else (some (x8, (x2.length : Int)))) := Op.Lim.unique (spec_OrderRun.Ll0 x1 x2 x8 x9) (Op.Lim.succ (spec_OrderRun.Ll0 x1 x2 x8 x9).up (by simp only [spec_OrderRun.l0]; repeat' first | exact Op.Lim.const _ | apply spec_OrderRun.Ll0 | refine Op.Lim.bind ?_ (fun _ => ?_) | refine Op.Lim.ite ?_ ?_))
theorem spec_OrderRun.v_eq (a0_0 : Int) (l0_1 : List (S42)) (l1 : List Bool) (l2 : List (S87)) : spec_OrderRun.v a0_0 l0_1 l1 l2 = ((spec_StateValid.v a0_0 l0_1 l1).bind fun t511 => (if t511 = true then ((spec_OrderValid.v l2).bind fun t512 => (spec_OrderRun.vj0 l1 l2 (!t512))) else (spec_OrderRun.vj0 l1 l2 true))) := Op.Lim.unique (spec_OrderRun.L a0_0 l0_1 l1 l2) (by unfold spec_OrderRun.f; repeat' first | exact Op.Lim.const _ | apply spec_StateValid.L | apply spec_OrderValid.L | apply spec_OrderRun.Lj0 | refine Op.Lim.bind ?_ (fun _ => ?_) | refine Op.Lim.ite ?_ ?_)
end Go.Proofs.YtihmidnjiaomhaaDoor.G
