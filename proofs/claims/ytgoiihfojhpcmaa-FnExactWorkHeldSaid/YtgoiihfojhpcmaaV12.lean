/- The printed functions without rounds: what each answers when there are rounds enough, and its equation. No condition. -/
import Derived.Test.YtgoiihfojhpcmaaGx12
import Derived.Test.YtgoiihfojhpcmaaLim
import Derived.Test.YtgoiihfojhpcmaaV10
import Derived.Test.YtgoiihfojhpcmaaV11
import Derived.Test.YtgoiihfojhpcmaaV2
import Derived.Test.YtgoiihfojhpcmaaV3
import Derived.Test.YtgoiihfojhpcmaaV4
import Derived.Test.YtgoiihfojhpcmaaV5
import Derived.Test.YtgoiihfojhpcmaaV6
import Derived.Test.YtgoiihfojhpcmaaV7
import Derived.Test.YtgoiihfojhpcmaaV8
import Derived.Test.YtgoiihfojhpcmaaV9
namespace Go.Proofs.Ytgoiihfojhpcmaa.G
open Go.RowKit Go.Proofs.YtgoiihfojhpcmaaW.PrintWords Go.Proofs.YtgoiihfojhpcmaaW.PrintLast Go.Proofs.YtgoiihfojhpcmaaW.PrintMore
set_option linter.unusedVariables false
/-! ### laws_FnExactWorkHeld -/
noncomputable def laws_FnExactWorkHeld.vj0 (x1 : Int) (x6 : List Int) (x8 : List Int) (x46 : Bool) (x314000 : List Bool) (x314001 : List Bool) (x314002 : List (S147)) : Option (Bool) := Op.lim (fun k => laws_FnExactWorkHeld.j0 k x1 x6 x8 x46 x314000 x314001 x314002)
theorem laws_FnExactWorkHeld.Lj0 (x1 : Int) (x6 : List Int) (x8 : List Int) (x46 : Bool) (x314000 : List Bool) (x314001 : List Bool) (x314002 : List (S147)) : Op.Lim (fun k => laws_FnExactWorkHeld.j0 k x1 x6 x8 x46 x314000 x314001 x314002) (laws_FnExactWorkHeld.vj0 x1 x6 x8 x46 x314000 x314001 x314002) := Op.Lim.of (fun k => (laws_FnExactWorkHeld.mono_l k) x1 x6 x8 x46 x314000 x314001 x314002)
noncomputable def laws_FnExactWorkHeld.v (l0_0 : List Bool) (l0_1 : List Bool) (l0_2 : List (S147)) (a1 : Int) : Option (Bool) := Op.lim (fun k => laws_FnExactWorkHeld.f k l0_0 l0_1 l0_2 a1)
theorem laws_FnExactWorkHeld.L (l0_0 : List Bool) (l0_1 : List Bool) (l0_2 : List (S147)) (a1 : Int) : Op.Lim (fun k => laws_FnExactWorkHeld.f k l0_0 l0_1 l0_2 a1) (laws_FnExactWorkHeld.v l0_0 l0_1 l0_2 a1) := Op.Lim.of (fun k => laws_FnExactWorkHeld.mono l0_0 l0_1 l0_2 a1 k)
theorem laws_FnExactWorkHeld.vj0_eq (x1 : Int) (x6 : List Int) (x8 : List Int) (x46 : Bool) (x314000 : List Bool) (x314001 : List Bool) (x314002 : List (S147)) : laws_FnExactWorkHeld.vj0 x1 x6 x8 x46 x314000 x314001 x314002 = (if x46 = true then (some false) else ((laws_markIntS.v x8 1).bind fun bt356 => ((laws_heldIntS.v bt356.2 1).bind fun t358 => (if t358 < 0 then (some false) else (if t358 = bt356.1 then ((laws_toWork.v x314000 x314001 x314002).bind fun bt359 => ((impl_WorkHeld.v bt359.1 bt359.2.1 bt359.2.2 x1).bind fun t368 => ((laws_eqIntS.v t368 x6).bind fun t371 => (if t371 = true then ((laws_heldIntS.v bt356.2 1).bind fun t372 => (if t372 < 0 then (some false) else (if t372 = bt356.1 then (some true) else (some false)))) else (some false))))) else (some false)))))) := Op.Lim.unique (laws_FnExactWorkHeld.Lj0 x1 x6 x8 x46 x314000 x314001 x314002) (Op.Lim.succ (laws_FnExactWorkHeld.Lj0 x1 x6 x8 x46 x314000 x314001 x314002).up (by simp only [laws_FnExactWorkHeld.j0]; repeat' first | exact Op.Lim.const _ | apply laws_markIntS.L | apply laws_heldIntS.L | apply laws_toWork.L | apply impl_WorkHeld.L | apply laws_eqIntS.L | refine Op.Lim.bind ?_ (fun _ => ?_) | refine Op.Lim.ite ?_ ?_))
theorem laws_FnExactWorkHeld.v_eq (l0_0 : List Bool) (l0_1 : List Bool) (l0_2 : List (S147)) (a1 : Int) : laws_FnExactWorkHeld.v l0_0 l0_1 l0_2 a1 = ((laws_szWork.f l0_0 l0_1 l0_2 1048576).bind fun t314 => (if t314 < 0 then (some true) else ((laws_toWork.v l0_0 l0_1 l0_2).bind fun bt315 => ((spec_WorkHeld.v bt315.1 bt315.2.1 bt315.2.2 a1).bind fun t324 => ((laws_toWork.v l0_0 l0_1 l0_2).bind fun bt327 => ((impl_WorkHeld.v bt327.1 bt327.2.1 bt327.2.2 a1).bind fun t337 => ((laws_eqIntS.v t337 t324).bind fun t340 => (if t340 = true then ((laws_toWork.v l0_0 l0_1 l0_2).bind fun bt341 => ((laws_eqWork.v bt327.1 bt327.2.1 bt327.2.2 bt341.1 bt341.2.1 bt341.2.2).bind fun t350 => (if t350 = true then ((laws_markWork.v bt327.1 bt327.2.1 bt327.2.2 1).bind fun bt351 => (if bt351.1 < 0 then (laws_FnExactWorkHeld.vj0 a1 t324 t337 true l0_0 l0_1 l0_2) else ((laws_eqIntS.v t337 t324).bind fun t355 => (laws_FnExactWorkHeld.vj0 a1 t324 t337 (!t355) l0_0 l0_1 l0_2)))) else (some false)))) else (some false))))))))) := Op.Lim.unique (laws_FnExactWorkHeld.L l0_0 l0_1 l0_2 a1) (by unfold laws_FnExactWorkHeld.f; repeat' first | exact Op.Lim.const _ | apply laws_toWork.L | apply spec_WorkHeld.L | apply impl_WorkHeld.L | apply laws_eqIntS.L | apply laws_eqWork.L | apply laws_markWork.L | apply laws_FnExactWorkHeld.Lj0 | refine Op.Lim.bind ?_ (fun _ => ?_) | refine Op.Lim.ite ?_ ?_)
end Go.Proofs.Ytgoiihfojhpcmaa.G
