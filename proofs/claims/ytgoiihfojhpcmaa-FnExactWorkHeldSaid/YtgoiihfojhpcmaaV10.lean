/- The printed functions without rounds: what each answers when there are rounds enough, and its equation. No condition. -/
import Derived.Test.YtgoiihfojhpcmaaGx10
import Derived.Test.YtgoiihfojhpcmaaLim
import Derived.Test.YtgoiihfojhpcmaaV2
import Derived.Test.YtgoiihfojhpcmaaV3
import Derived.Test.YtgoiihfojhpcmaaV4
import Derived.Test.YtgoiihfojhpcmaaV5
import Derived.Test.YtgoiihfojhpcmaaV6
import Derived.Test.YtgoiihfojhpcmaaV7
import Derived.Test.YtgoiihfojhpcmaaV8
import Derived.Test.YtgoiihfojhpcmaaV9
namespace Go.Proofs.Ytgoiihfojhpcmaa.G
open Go.RowKit Go.Proofs.YtgoiihfojhpcmaaW.PrintWords Go.Proofs.YtgoiihfojhpcmaaW.PrintLast Go.Proofs.YtgoiihfojhpcmaaW.PrintMore
set_option linter.unusedVariables false
/-! ### laws_FnExactWorkValid -/
noncomputable def laws_FnExactWorkValid.v (l0_0 : List Bool) (l0_1 : List Bool) (l0_2 : List (S147)) : Option (Bool) := Op.lim (fun k => laws_FnExactWorkValid.f k l0_0 l0_1 l0_2)
theorem laws_FnExactWorkValid.L (l0_0 : List Bool) (l0_1 : List Bool) (l0_2 : List (S147)) : Op.Lim (fun k => laws_FnExactWorkValid.f k l0_0 l0_1 l0_2) (laws_FnExactWorkValid.v l0_0 l0_1 l0_2) := Op.Lim.of (fun k => laws_FnExactWorkValid.mono l0_0 l0_1 l0_2 k)
theorem laws_FnExactWorkValid.v_eq (l0_0 : List Bool) (l0_1 : List Bool) (l0_2 : List (S147)) : laws_FnExactWorkValid.v l0_0 l0_1 l0_2 = ((laws_szWork.f l0_0 l0_1 l0_2 1048576).bind fun t252 => (if t252 < 0 then (some true) else ((laws_toWork.v l0_0 l0_1 l0_2).bind fun bt253 => ((spec_WorkValid.v bt253.1 bt253.2.1 bt253.2.2).bind fun t262 => ((laws_toWork.v l0_0 l0_1 l0_2).bind fun bt263 => ((impl_WorkValid.v bt263.1 bt263.2.1 bt263.2.2).bind fun t273 => (if (t273 != t262) = true then (some false) else ((laws_toWork.v l0_0 l0_1 l0_2).bind fun bt274 => ((laws_eqWork.v bt263.1 bt263.2.1 bt263.2.2 bt274.1 bt274.2.1 bt274.2.2).bind fun t283 => (if t283 = true then (some true) else (some false))))))))))) := Op.Lim.unique (laws_FnExactWorkValid.L l0_0 l0_1 l0_2) (by unfold laws_FnExactWorkValid.f; repeat' first | exact Op.Lim.const _ | apply laws_toWork.L | apply spec_WorkValid.L | apply impl_WorkValid.L | apply laws_eqWork.L | refine Op.Lim.bind ?_ (fun _ => ?_) | refine Op.Lim.ite ?_ ?_)
/-! ### laws_markIntS -/
noncomputable def laws_markIntS.vl0 (x0 : List Int) (x1 : Int) (x5 : Int) : Option (Int × List Int) := Op.lim (fun k => laws_markIntS.l0 k x0 x1 x5)
theorem laws_markIntS.Ll0 (x0 : List Int) (x1 : Int) (x5 : Int) : Op.Lim (fun k => laws_markIntS.l0 k x0 x1 x5) (laws_markIntS.vl0 x0 x1 x5) := Op.Lim.of (fun k => (laws_markIntS.mono_l k) x0 x1 x5)
noncomputable def laws_markIntS.v (l0 : List Int) (a1 : Int) : Option (Int × List Int) := Op.lim (fun k => laws_markIntS.f k l0 a1)
theorem laws_markIntS.L (l0 : List Int) (a1 : Int) : Op.Lim (fun k => laws_markIntS.f k l0 a1) (laws_markIntS.v l0 a1) := Op.Lim.of (fun k => laws_markIntS.mono l0 a1 k)
theorem laws_markIntS.vl0_eq (x0 : List Int) (x1 : Int) (x5 : Int) : laws_markIntS.vl0 x0 x1 x5 = (if x5 < (x0.length : Int) then (if 0 ≤ x5 then (laws_markIntS.vl0 (x0.set (x5 : Int).toNat x1) (wrap64 (x1 + 1)) (wrap64 (x5 + 1))) else (none)) else (some (x1, x0))) := Op.Lim.unique (laws_markIntS.Ll0 x0 x1 x5) (Op.Lim.succ (laws_markIntS.Ll0 x0 x1 x5).up (by simp only [laws_markIntS.l0]; repeat' first | exact Op.Lim.const _ | apply laws_markIntS.Ll0 | refine Op.Lim.bind ?_ (fun _ => ?_) | refine Op.Lim.ite ?_ ?_))
theorem laws_markIntS.v_eq (l0 : List Int) (a1 : Int) : laws_markIntS.v l0 a1 = (laws_markIntS.vl0 l0 a1 0) := Op.Lim.unique (laws_markIntS.L l0 a1) (by unfold laws_markIntS.f; repeat' first | exact Op.Lim.const _ | apply laws_markIntS.Ll0 | refine Op.Lim.bind ?_ (fun _ => ?_) | refine Op.Lim.ite ?_ ?_)
/-! ### laws_heldIntS -/
noncomputable def laws_heldIntS.vl0 (x0 : List Int) (x1 : Int) (x5 : Int) : Option (Int) := Op.lim (fun k => laws_heldIntS.l0 k x0 x1 x5)
theorem laws_heldIntS.Ll0 (x0 : List Int) (x1 : Int) (x5 : Int) : Op.Lim (fun k => laws_heldIntS.l0 k x0 x1 x5) (laws_heldIntS.vl0 x0 x1 x5) := Op.Lim.of (fun k => (laws_heldIntS.mono_l k) x0 x1 x5)
noncomputable def laws_heldIntS.v (l0 : List Int) (a1 : Int) : Option (Int) := Op.lim (fun k => laws_heldIntS.f k l0 a1)
theorem laws_heldIntS.L (l0 : List Int) (a1 : Int) : Op.Lim (fun k => laws_heldIntS.f k l0 a1) (laws_heldIntS.v l0 a1) := Op.Lim.of (fun k => laws_heldIntS.mono l0 a1 k)
theorem laws_heldIntS.vl0_eq (x0 : List Int) (x1 : Int) (x5 : Int) : laws_heldIntS.vl0 x0 x1 x5 = (if x5 < (x0.length : Int) then (if 0 ≤ x5 then (if (rd x0 x5) = x1 then (laws_heldIntS.vl0 x0 (wrap64 (x1 + 1)) (wrap64 (x5 + 1))) else (some (-1))) else (none)) else (some x1)) := Op.Lim.unique (laws_heldIntS.Ll0 x0 x1 x5) (Op.Lim.succ (laws_heldIntS.Ll0 x0 x1 x5).up (by simp only [laws_heldIntS.l0]; repeat' first | exact Op.Lim.const _ | apply laws_heldIntS.Ll0 | refine Op.Lim.bind ?_ (fun _ => ?_) | refine Op.Lim.ite ?_ ?_))
theorem laws_heldIntS.v_eq (l0 : List Int) (a1 : Int) : laws_heldIntS.v l0 a1 = (laws_heldIntS.vl0 l0 a1 0) := Op.Lim.unique (laws_heldIntS.L l0 a1) (by unfold laws_heldIntS.f; repeat' first | exact Op.Lim.const _ | apply laws_heldIntS.Ll0 | refine Op.Lim.bind ?_ (fun _ => ?_) | refine Op.Lim.ite ?_ ?_)
end Go.Proofs.Ytgoiihfojhpcmaa.G
