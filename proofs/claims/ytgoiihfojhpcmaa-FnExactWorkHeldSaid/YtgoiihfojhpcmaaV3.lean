/- The printed functions without rounds: what each answers when there are rounds enough, and its equation. No condition. -/
import Derived.Test.YtgoiihfojhpcmaaGx3
import Derived.Test.YtgoiihfojhpcmaaLim
import Derived.Test.YtgoiihfojhpcmaaV2
namespace Go.Proofs.Ytgoiihfojhpcmaa.G
open Go.RowKit Go.Proofs.YtgoiihfojhpcmaaW.PrintWords Go.Proofs.YtgoiihfojhpcmaaW.PrintLast Go.Proofs.YtgoiihfojhpcmaaW.PrintMore
set_option linter.unusedVariables false
/-! ### spec_BayRun -/
noncomputable def spec_BayRun.vl0 (x1 : List Int) (x6 : Int) (x119000 : Bool) (x119001 : Bool) (x119002 : Bool) (x119003 : Bool) : Option (Bool × Bool × Bool × Bool × Int) := Op.lim (fun k => spec_BayRun.l0 k x1 x6 x119000 x119001 x119002 x119003)
theorem spec_BayRun.Ll0 (x1 : List Int) (x6 : Int) (x119000 : Bool) (x119001 : Bool) (x119002 : Bool) (x119003 : Bool) : Op.Lim (fun k => spec_BayRun.l0 k x1 x6 x119000 x119001 x119002 x119003) (spec_BayRun.vl0 x1 x6 x119000 x119001 x119002 x119003) := Op.Lim.of (fun k => (spec_BayRun.mono_l k) x1 x6 x119000 x119001 x119002 x119003)
noncomputable def spec_BayRun.v (a0_0 : Bool) (a0_1 : Bool) (a0_2 : Bool) (a0_3 : Bool) (l1 : List Int) : Option (Bool × Bool × Bool × Bool × Int) := Op.lim (fun k => spec_BayRun.f k a0_0 a0_1 a0_2 a0_3 l1)
theorem spec_BayRun.L (a0_0 : Bool) (a0_1 : Bool) (a0_2 : Bool) (a0_3 : Bool) (l1 : List Int) : Op.Lim (fun k => spec_BayRun.f k a0_0 a0_1 a0_2 a0_3 l1) (spec_BayRun.v a0_0 a0_1 a0_2 a0_3 l1) := Op.Lim.of (fun k => spec_BayRun.mono a0_0 a0_1 a0_2 a0_3 l1 k)
theorem spec_BayRun.vl0_eq (x1 : List Int) (x6 : Int) (x119000 : Bool) (x119001 : Bool) (x119002 : Bool) (x119003 : Bool) : spec_BayRun.vl0 x1 x6 x119000 x119001 x119002 x119003 = (if x6 < (x1.length : Int) then (if 0 ≤ x6 then ((spec_BayDo.f x119000 x119001 x119002 x119003 (rd x1 x6)).bind fun bt121 => (if bt121.2.2.2.2 = true then (spec_BayRun.vl0 x1 (wrap64 (x6 + 1)) bt121.1 bt121.2.1 bt121.2.2.1 bt121.2.2.2.1) else (some (x119000, x119001, x119002, x119003, x6)))) else (none)) else (some (x119000, x119001, x119002, x119003, (x1.length : Int)))) := Op.Lim.unique (spec_BayRun.Ll0 x1 x6 x119000 x119001 x119002 x119003) (Op.Lim.succ (spec_BayRun.Ll0 x1 x6 x119000 x119001 x119002 x119003).up (by simp only [spec_BayRun.l0]; repeat' first | exact Op.Lim.const _ | apply spec_BayRun.Ll0 | refine Op.Lim.bind ?_ (fun _ => ?_) | refine Op.Lim.ite ?_ ?_))
theorem spec_BayRun.v_eq (a0_0 : Bool) (a0_1 : Bool) (a0_2 : Bool) (a0_3 : Bool) (l1 : List Int) : spec_BayRun.v a0_0 a0_1 a0_2 a0_3 l1 = (spec_BayRun.vl0 l1 0 a0_0 a0_1 a0_2 a0_3) := Op.Lim.unique (spec_BayRun.L a0_0 a0_1 a0_2 a0_3 l1) (by unfold spec_BayRun.f; repeat' first | exact Op.Lim.const _ | apply spec_BayRun.Ll0 | refine Op.Lim.bind ?_ (fun _ => ?_) | refine Op.Lim.ite ?_ ?_)
end Go.Proofs.Ytgoiihfojhpcmaa.G
