/- The printed functions without rounds: what each answers when there are rounds enough, and its equation. No condition. -/
import Derived.Test.YtgoiihfojhpcmaaGx7
import Derived.Test.YtgoiihfojhpcmaaLim
import Derived.Test.YtgoiihfojhpcmaaV2
import Derived.Test.YtgoiihfojhpcmaaV3
import Derived.Test.YtgoiihfojhpcmaaV4
import Derived.Test.YtgoiihfojhpcmaaV5
import Derived.Test.YtgoiihfojhpcmaaV6
namespace Go.Proofs.Ytgoiihfojhpcmaa.G
open Go.RowKit Go.Proofs.YtgoiihfojhpcmaaW.PrintWords Go.Proofs.YtgoiihfojhpcmaaW.PrintLast Go.Proofs.YtgoiihfojhpcmaaW.PrintMore
set_option linter.unusedVariables false
/-! ### laws_toPermitS -/
noncomputable def laws_toPermitS.vl0 (x0 : List (S147)) (x3 : List (S112)) (x4 : Int) : Option ((List (S112))) := Op.lim (fun k => laws_toPermitS.l0 k x0 x3 x4)
theorem laws_toPermitS.Ll0 (x0 : List (S147)) (x3 : List (S112)) (x4 : Int) : Op.Lim (fun k => laws_toPermitS.l0 k x0 x3 x4) (laws_toPermitS.vl0 x0 x3 x4) := Op.Lim.of (fun k => (laws_toPermitS.mono_l k) x0 x3 x4)
noncomputable def laws_toPermitS.v (l0 : List (S147)) : Option ((List (S112))) := Op.lim (fun k => laws_toPermitS.f k l0)
theorem laws_toPermitS.L (l0 : List (S147)) : Op.Lim (fun k => laws_toPermitS.f k l0) (laws_toPermitS.v l0) := Op.Lim.of (fun k => laws_toPermitS.mono l0 k)
theorem laws_toPermitS.vl0_eq (x0 : List (S147)) (x3 : List (S112)) (x4 : Int) : laws_toPermitS.vl0 x0 x3 x4 = (if x4 < (x0.length : Int) then (if 0 ≤ x4 then ((laws_toPermit.f ((rd_T147 x0 x4).f0) ((rd_T147 x0 x4).f1)).bind fun bt209 => (if x4 < (x3.length : Int) then (laws_toPermitS.vl0 x0 (x3.set (x4 : Int).toNat (⟨bt209.1, bt209.2⟩ : S112)) (wrap64 (x4 + 1))) else (none))) else (none)) else (some x3)) := Op.Lim.unique (laws_toPermitS.Ll0 x0 x3 x4) (Op.Lim.succ (laws_toPermitS.Ll0 x0 x3 x4).up (by simp only [laws_toPermitS.l0]; repeat' first | exact Op.Lim.const _ | apply laws_toPermitS.Ll0 | refine Op.Lim.bind ?_ (fun _ => ?_) | refine Op.Lim.ite ?_ ?_))
theorem laws_toPermitS.v_eq (l0 : List (S147)) : laws_toPermitS.v l0 = (if 0 ≤ (l0.length : Int) then (if ((l0.length : Int) : Int).toNat ≤ 17592186044416 then (laws_toPermitS.vl0 l0 (List.replicate ((l0.length : Int) : Int).toNat z112) 0) else (none)) else (none)) := Op.Lim.unique (laws_toPermitS.L l0) (by unfold laws_toPermitS.f; repeat' first | exact Op.Lim.const _ | apply laws_toPermitS.Ll0 | refine Op.Lim.bind ?_ (fun _ => ?_) | refine Op.Lim.ite ?_ ?_)
/-! ### laws_toWork -/
noncomputable def laws_toWork.v (l0_0 : List Bool) (l0_1 : List Bool) (l0_2 : List (S147)) : Option (List Bool × List Bool × (List (S112))) := Op.lim (fun k => laws_toWork.f k l0_0 l0_1 l0_2)
theorem laws_toWork.L (l0_0 : List Bool) (l0_1 : List Bool) (l0_2 : List (S147)) : Op.Lim (fun k => laws_toWork.f k l0_0 l0_1 l0_2) (laws_toWork.v l0_0 l0_1 l0_2) := Op.Lim.of (fun k => laws_toWork.mono l0_0 l0_1 l0_2 k)
theorem laws_toWork.v_eq (l0_0 : List Bool) (l0_1 : List Bool) (l0_2 : List (S147)) : laws_toWork.v l0_0 l0_1 l0_2 = ((laws_toBoolS.v l0_0).bind fun t215 => ((laws_toBoolS.v l0_1).bind fun t218 => ((laws_toPermitS.v l0_2).bind fun t221 => (some (t215, t218, t221))))) := Op.Lim.unique (laws_toWork.L l0_0 l0_1 l0_2) (by unfold laws_toWork.f; repeat' first | exact Op.Lim.const _ | apply laws_toBoolS.L | apply laws_toPermitS.L | refine Op.Lim.bind ?_ (fun _ => ?_) | refine Op.Lim.ite ?_ ?_)
/-! ### impl_Permit_112 -/
noncomputable def impl_Permit_112.vl0 (x0 : List (S112)) (x7 : Int) (x8 : Int) (x225000 : Int) (x225001 : Int) : Option (Int) := Op.lim (fun k => impl_Permit_112.l0 k x0 x7 x8 x225000 x225001)
theorem impl_Permit_112.Ll0 (x0 : List (S112)) (x7 : Int) (x8 : Int) (x225000 : Int) (x225001 : Int) : Op.Lim (fun k => impl_Permit_112.l0 k x0 x7 x8 x225000 x225001) (impl_Permit_112.vl0 x0 x7 x8 x225000 x225001) := Op.Lim.of (fun k => (impl_Permit_112.mono_l k) x0 x7 x8 x225000 x225001)
noncomputable def impl_Permit_112.v (l0 : List (S112)) (a1_0 : Int) (a1_1 : Int) : Option (Int) := Op.lim (fun k => impl_Permit_112.f k l0 a1_0 a1_1)
theorem impl_Permit_112.L (l0 : List (S112)) (a1_0 : Int) (a1_1 : Int) : Op.Lim (fun k => impl_Permit_112.f k l0 a1_0 a1_1) (impl_Permit_112.v l0 a1_0 a1_1) := Op.Lim.of (fun k => impl_Permit_112.mono l0 a1_0 a1_1 k)
theorem impl_Permit_112.vl0_eq (x0 : List (S112)) (x7 : Int) (x8 : Int) (x225000 : Int) (x225001 : Int) : impl_Permit_112.vl0 x0 x7 x8 x225000 x225001 = (if x8 < x7 then (if 0 ≤ x8 then (if x8 < (x0.length : Int) then (if (x225000 == ((rd_T112 x0 x8).f0) && (x225001 == ((rd_T112 x0 x8).f1))) = true then (some x8) else (impl_Permit_112.vl0 x0 x7 (wrap64 (x8 + 1)) x225000 x225001)) else (none)) else (none)) else (some (-1))) := Op.Lim.unique (impl_Permit_112.Ll0 x0 x7 x8 x225000 x225001) (Op.Lim.succ (impl_Permit_112.Ll0 x0 x7 x8 x225000 x225001).up (by simp only [impl_Permit_112.l0]; repeat' first | exact Op.Lim.const _ | apply impl_Permit_112.Ll0 | refine Op.Lim.bind ?_ (fun _ => ?_) | refine Op.Lim.ite ?_ ?_))
theorem impl_Permit_112.v_eq (l0 : List (S112)) (a1_0 : Int) (a1_1 : Int) : impl_Permit_112.v l0 a1_0 a1_1 = (impl_Permit_112.vl0 l0 (l0.length : Int) 0 a1_0 a1_1) := Op.Lim.unique (impl_Permit_112.L l0 a1_0 a1_1) (by unfold impl_Permit_112.f; repeat' first | exact Op.Lim.const _ | apply impl_Permit_112.Ll0 | refine Op.Lim.bind ?_ (fun _ => ?_) | refine Op.Lim.ite ?_ ?_)
/-! ### impl_Permit_80 -/
noncomputable def impl_Permit_80.v (l0 : List (S112)) (a1_0 : Int) (a1_1 : Int) : Option (Bool) := Op.lim (fun k => impl_Permit_80.f k l0 a1_0 a1_1)
theorem impl_Permit_80.L (l0 : List (S112)) (a1_0 : Int) (a1_1 : Int) : Op.Lim (fun k => impl_Permit_80.f k l0 a1_0 a1_1) (impl_Permit_80.v l0 a1_0 a1_1) := Op.Lim.of (fun k => impl_Permit_80.mono l0 a1_0 a1_1 k)
theorem impl_Permit_80.v_eq (l0 : List (S112)) (a1_0 : Int) (a1_1 : Int) : impl_Permit_80.v l0 a1_0 a1_1 = ((impl_Permit_112.v l0 a1_0 a1_1).bind fun t227 => (some (decide (t227 ≥ 0)))) := Op.Lim.unique (impl_Permit_80.L l0 a1_0 a1_1) (by unfold impl_Permit_80.f; repeat' first | exact Op.Lim.const _ | apply impl_Permit_112.L | refine Op.Lim.bind ?_ (fun _ => ?_) | refine Op.Lim.ite ?_ ?_)
end Go.Proofs.Ytgoiihfojhpcmaa.G
