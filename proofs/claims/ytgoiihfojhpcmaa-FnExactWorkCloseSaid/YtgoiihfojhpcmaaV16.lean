/- The printed functions without rounds: what each answers when there are rounds enough, and its equation. No condition. -/
import Derived.Test.YtgoiihfojhpcmaaGx16
import Derived.Test.YtgoiihfojhpcmaaLim
import Derived.Test.YtgoiihfojhpcmaaV11
import Derived.Test.YtgoiihfojhpcmaaV13
import Derived.Test.YtgoiihfojhpcmaaV14
import Derived.Test.YtgoiihfojhpcmaaV15
import Derived.Test.YtgoiihfojhpcmaaV2
import Derived.Test.YtgoiihfojhpcmaaV3
import Derived.Test.YtgoiihfojhpcmaaV4
import Derived.Test.YtgoiihfojhpcmaaV5
import Derived.Test.YtgoiihfojhpcmaaV6
import Derived.Test.YtgoiihfojhpcmaaV7
import Derived.Test.YtgoiihfojhpcmaaV8
import Derived.Test.YtgoiihfojhpcmaaV9
namespace Go.Proofs.Ytgoiihfojhpcmaa.G
open Go.RowKit Go.Proofs.YtgoiihfojhpcmaaW.PrintWords Go.Proofs.YtgoiihfojhpcmaaW.PrintLast Go.Proofs.YtgoiihfojhpcmaaW.PrintMore
set_option linter.unusedVariables false
/-! ### laws_FnExactWorkClose -/
noncomputable def laws_FnExactWorkClose.vj0 (x4 : List (S129)) (x6 : List (S129)) (x42 : Bool) (x430000 : List Bool) (x430001 : List Bool) (x430002 : List (S147)) : Option (Bool) := Op.lim (fun k => laws_FnExactWorkClose.j0 k x4 x6 x42 x430000 x430001 x430002)
theorem laws_FnExactWorkClose.Lj0 (x4 : List (S129)) (x6 : List (S129)) (x42 : Bool) (x430000 : List Bool) (x430001 : List Bool) (x430002 : List (S147)) : Op.Lim (fun k => laws_FnExactWorkClose.j0 k x4 x6 x42 x430000 x430001 x430002) (laws_FnExactWorkClose.vj0 x4 x6 x42 x430000 x430001 x430002) := Op.Lim.of (fun k => (laws_FnExactWorkClose.mono_l k) x4 x6 x42 x430000 x430001 x430002)
noncomputable def laws_FnExactWorkClose.v (l0_0 : List Bool) (l0_1 : List Bool) (l0_2 : List (S147)) : Option (Bool) := Op.lim (fun k => laws_FnExactWorkClose.f k l0_0 l0_1 l0_2)
theorem laws_FnExactWorkClose.L (l0_0 : List Bool) (l0_1 : List Bool) (l0_2 : List (S147)) : Op.Lim (fun k => laws_FnExactWorkClose.f k l0_0 l0_1 l0_2) (laws_FnExactWorkClose.v l0_0 l0_1 l0_2) := Op.Lim.of (fun k => laws_FnExactWorkClose.mono l0_0 l0_1 l0_2 k)
theorem laws_FnExactWorkClose.vj0_eq (x4 : List (S129)) (x6 : List (S129)) (x42 : Bool) (x430000 : List Bool) (x430001 : List Bool) (x430002 : List (S147)) : laws_FnExactWorkClose.vj0 x4 x6 x42 x430000 x430001 x430002 = (if x42 = true then (some false) else ((laws_markWorkDeedS.v x6 1).bind fun bt472 => ((laws_heldWorkDeedS.v bt472.2 1).bind fun t474 => (if t474 < 0 then (some false) else (if t474 = bt472.1 then ((laws_toWork.v x430000 x430001 x430002).bind fun bt475 => ((impl_WorkClose.v bt475.1 bt475.2.1 bt475.2.2).bind fun t484 => ((laws_eqWorkDeedS.v t484 x4).bind fun t487 => (if t487 = true then ((laws_heldWorkDeedS.v bt472.2 1).bind fun t488 => (if t488 < 0 then (some false) else (if t488 = bt472.1 then (some true) else (some false)))) else (some false))))) else (some false)))))) := Op.Lim.unique (laws_FnExactWorkClose.Lj0 x4 x6 x42 x430000 x430001 x430002) (Op.Lim.succ (laws_FnExactWorkClose.Lj0 x4 x6 x42 x430000 x430001 x430002).up (by simp only [laws_FnExactWorkClose.j0]; repeat' first | exact Op.Lim.const _ | apply laws_markWorkDeedS.L | apply laws_heldWorkDeedS.L | apply laws_toWork.L | apply impl_WorkClose.L | apply laws_eqWorkDeedS.L | refine Op.Lim.bind ?_ (fun _ => ?_) | refine Op.Lim.ite ?_ ?_))
theorem laws_FnExactWorkClose.v_eq (l0_0 : List Bool) (l0_1 : List Bool) (l0_2 : List (S147)) : laws_FnExactWorkClose.v l0_0 l0_1 l0_2 = ((laws_szWork.f l0_0 l0_1 l0_2 1048576).bind fun t430 => (if t430 < 0 then (some true) else ((laws_toWork.v l0_0 l0_1 l0_2).bind fun bt431 => ((spec_WorkClose.v bt431.1 bt431.2.1 bt431.2.2).bind fun t440 => ((laws_toWork.v l0_0 l0_1 l0_2).bind fun bt443 => ((impl_WorkClose.v bt443.1 bt443.2.1 bt443.2.2).bind fun t453 => ((laws_eqWorkDeedS.v t453 t440).bind fun t456 => (if t456 = true then ((laws_toWork.v l0_0 l0_1 l0_2).bind fun bt457 => ((laws_eqWork.v bt443.1 bt443.2.1 bt443.2.2 bt457.1 bt457.2.1 bt457.2.2).bind fun t466 => (if t466 = true then ((laws_markWork.v bt443.1 bt443.2.1 bt443.2.2 1).bind fun bt467 => (if bt467.1 < 0 then (laws_FnExactWorkClose.vj0 t440 t453 true l0_0 l0_1 l0_2) else ((laws_eqWorkDeedS.v t453 t440).bind fun t471 => (laws_FnExactWorkClose.vj0 t440 t453 (!t471) l0_0 l0_1 l0_2)))) else (some false)))) else (some false))))))))) := Op.Lim.unique (laws_FnExactWorkClose.L l0_0 l0_1 l0_2) (by unfold laws_FnExactWorkClose.f; repeat' first | exact Op.Lim.const _ | apply laws_toWork.L | apply spec_WorkClose.L | apply impl_WorkClose.L | apply laws_eqWorkDeedS.L | apply laws_eqWork.L | apply laws_markWork.L | apply laws_FnExactWorkClose.Lj0 | refine Op.Lim.bind ?_ (fun _ => ?_) | refine Op.Lim.ite ?_ ?_)
end Go.Proofs.Ytgoiihfojhpcmaa.G
