/- The printed functions without rounds: what each answers when there are rounds enough, and its equation. No condition. -/
import Derived.Test.YtgoiihfojhpcmaaRx1
import Derived.Test.YtgoiihfojhpcmaaLim
namespace Go.Proofs.Ytgoiihfojhpcmaa.R
open Go.RowKit Go.Proofs.YtgoiihfojhpcmaaW.PrintWords Go.Proofs.YtgoiihfojhpcmaaW.PrintLast Go.Proofs.YtgoiihfojhpcmaaW.PrintMore
set_option linter.unusedVariables false
/-! ### laws_toLineS -/
noncomputable def laws_toLineS.vl0 (x0 : List (S141)) (x3 : List (S139)) (x4 : Int) : Option ((List (S139))) := Op.lim (fun k => laws_toLineS.l0 k x0 x3 x4)
theorem laws_toLineS.Ll0 (x0 : List (S141)) (x3 : List (S139)) (x4 : Int) : Op.Lim (fun k => laws_toLineS.l0 k x0 x3 x4) (laws_toLineS.vl0 x0 x3 x4) := Op.Lim.of (fun k => (laws_toLineS.mono_l k) x0 x3 x4)
noncomputable def laws_toLineS.v (l0 : List (S141)) : Option ((List (S139))) := Op.lim (fun k => laws_toLineS.f k l0)
theorem laws_toLineS.L (l0 : List (S141)) : Op.Lim (fun k => laws_toLineS.f k l0) (laws_toLineS.v l0) := Op.Lim.of (fun k => laws_toLineS.mono l0 k)
theorem laws_toLineS.vl0_eq (x0 : List (S141)) (x3 : List (S139)) (x4 : Int) : laws_toLineS.vl0 x0 x3 x4 = (if x4 < (x0.length : Int) then (if 0 ≤ x4 then ((laws_toLine.f ((rd_T141 x0 x4).f0) ((rd_T141 x0 x4).f1) ((rd_T141 x0 x4).f2)).bind fun bt110 => (if x4 < (x3.length : Int) then (laws_toLineS.vl0 x0 (x3.set (x4 : Int).toNat (⟨bt110.1, bt110.2.1, bt110.2.2⟩ : S139)) (wrap64 (x4 + 1))) else (none))) else (none)) else (some x3)) := Op.Lim.unique (laws_toLineS.Ll0 x0 x3 x4) (Op.Lim.succ (laws_toLineS.Ll0 x0 x3 x4).up (by simp only [laws_toLineS.l0]; repeat' first | exact Op.Lim.const _ | apply laws_toLineS.Ll0 | refine Op.Lim.bind ?_ (fun _ => ?_) | refine Op.Lim.ite ?_ ?_))
theorem laws_toLineS.v_eq (l0 : List (S141)) : laws_toLineS.v l0 = (if 0 ≤ (l0.length : Int) then (if ((l0.length : Int) : Int).toNat ≤ 11728124029610 then (laws_toLineS.vl0 l0 (List.replicate ((l0.length : Int) : Int).toNat z139) 0) else (none)) else (none)) := Op.Lim.unique (laws_toLineS.L l0) (by unfold laws_toLineS.f; repeat' first | exact Op.Lim.const _ | apply laws_toLineS.Ll0 | refine Op.Lim.bind ?_ (fun _ => ?_) | refine Op.Lim.ite ?_ ?_)
/-! ### laws_toNet -/
noncomputable def laws_toNet.v (a0_0 : Int) (l0_1 : List (S141)) : Option (Int × (List (S139))) := Op.lim (fun k => laws_toNet.f k a0_0 l0_1)
theorem laws_toNet.L (a0_0 : Int) (l0_1 : List (S141)) : Op.Lim (fun k => laws_toNet.f k a0_0 l0_1) (laws_toNet.v a0_0 l0_1) := Op.Lim.of (fun k => laws_toNet.mono a0_0 l0_1 k)
theorem laws_toNet.v_eq (a0_0 : Int) (l0_1 : List (S141)) : laws_toNet.v a0_0 l0_1 = ((laws_toLineS.v l0_1).bind fun t117 => (some (a0_0, t117))) := Op.Lim.unique (laws_toNet.L a0_0 l0_1) (by unfold laws_toNet.f; repeat' first | exact Op.Lim.const _ | apply laws_toLineS.L | refine Op.Lim.bind ?_ (fun _ => ?_) | refine Op.Lim.ite ?_ ?_)
/-! ### laws_toBoolS -/
noncomputable def laws_toBoolS.vl0 (x0 : List Bool) (x3 : List Bool) (x4 : Int) : Option (List Bool) := Op.lim (fun k => laws_toBoolS.l0 k x0 x3 x4)
theorem laws_toBoolS.Ll0 (x0 : List Bool) (x3 : List Bool) (x4 : Int) : Op.Lim (fun k => laws_toBoolS.l0 k x0 x3 x4) (laws_toBoolS.vl0 x0 x3 x4) := Op.Lim.of (fun k => (laws_toBoolS.mono_l k) x0 x3 x4)
noncomputable def laws_toBoolS.v (l0 : List Bool) : Option (List Bool) := Op.lim (fun k => laws_toBoolS.f k l0)
theorem laws_toBoolS.L (l0 : List Bool) : Op.Lim (fun k => laws_toBoolS.f k l0) (laws_toBoolS.v l0) := Op.Lim.of (fun k => laws_toBoolS.mono l0 k)
theorem laws_toBoolS.vl0_eq (x0 : List Bool) (x3 : List Bool) (x4 : Int) : laws_toBoolS.vl0 x0 x3 x4 = (if x4 < (x0.length : Int) then (if 0 ≤ x4 then (if x4 < (x3.length : Int) then (laws_toBoolS.vl0 x0 (x3.set (x4 : Int).toNat (rdOf false x0 x4)) (wrap64 (x4 + 1))) else (none)) else (none)) else (some x3)) := Op.Lim.unique (laws_toBoolS.Ll0 x0 x3 x4) (Op.Lim.succ (laws_toBoolS.Ll0 x0 x3 x4).up (by simp only [laws_toBoolS.l0]; repeat' first | exact Op.Lim.const _ | apply laws_toBoolS.Ll0 | refine Op.Lim.bind ?_ (fun _ => ?_) | refine Op.Lim.ite ?_ ?_))
theorem laws_toBoolS.v_eq (l0 : List Bool) : laws_toBoolS.v l0 = (if 0 ≤ (l0.length : Int) then (if ((l0.length : Int) : Int).toNat ≤ 281474976710656 then (laws_toBoolS.vl0 l0 (List.replicate ((l0.length : Int) : Int).toNat false) 0) else (none)) else (none)) := Op.Lim.unique (laws_toBoolS.L l0) (by unfold laws_toBoolS.f; repeat' first | exact Op.Lim.const _ | apply laws_toBoolS.Ll0 | refine Op.Lim.bind ?_ (fun _ => ?_) | refine Op.Lim.ite ?_ ?_)
/-! ### laws_eqStepS -/
noncomputable def laws_eqStepS.vl0 (x0 : List (S98)) (x1 : List (S98)) (x5 : Int) : Option (Bool) := Op.lim (fun k => laws_eqStepS.l0 k x0 x1 x5)
theorem laws_eqStepS.Ll0 (x0 : List (S98)) (x1 : List (S98)) (x5 : Int) : Op.Lim (fun k => laws_eqStepS.l0 k x0 x1 x5) (laws_eqStepS.vl0 x0 x1 x5) := Op.Lim.of (fun k => (laws_eqStepS.mono_l k) x0 x1 x5)
noncomputable def laws_eqStepS.v (l0 : List (S98)) (l1 : List (S98)) : Option (Bool) := Op.lim (fun k => laws_eqStepS.f k l0 l1)
theorem laws_eqStepS.L (l0 : List (S98)) (l1 : List (S98)) : Op.Lim (fun k => laws_eqStepS.f k l0 l1) (laws_eqStepS.v l0 l1) := Op.Lim.of (fun k => laws_eqStepS.mono l0 l1 k)
theorem laws_eqStepS.vl0_eq (x0 : List (S98)) (x1 : List (S98)) (x5 : Int) : laws_eqStepS.vl0 x0 x1 x5 = (if x5 < (x0.length : Int) then (if 0 ≤ x5 then (if x5 < (x1.length : Int) then ((laws_eqStep.f ((rd_T98 x0 x5).f0) ((rd_T98 x0 x5).f1) ((rd_T98 x1 x5).f0) ((rd_T98 x1 x5).f1)).bind fun t129 => (if t129 = true then (laws_eqStepS.vl0 x0 x1 (wrap64 (x5 + 1))) else (some false))) else (none)) else (none)) else (some true)) := Op.Lim.unique (laws_eqStepS.Ll0 x0 x1 x5) (Op.Lim.succ (laws_eqStepS.Ll0 x0 x1 x5).up (by simp only [laws_eqStepS.l0]; repeat' first | exact Op.Lim.const _ | apply laws_eqStepS.Ll0 | refine Op.Lim.bind ?_ (fun _ => ?_) | refine Op.Lim.ite ?_ ?_))
theorem laws_eqStepS.v_eq (l0 : List (S98)) (l1 : List (S98)) : laws_eqStepS.v l0 l1 = (if (l0.length : Int) = (l1.length : Int) then (laws_eqStepS.vl0 l0 l1 0) else (some false)) := Op.Lim.unique (laws_eqStepS.L l0 l1) (by unfold laws_eqStepS.f; repeat' first | exact Op.Lim.const _ | apply laws_eqStepS.Ll0 | refine Op.Lim.bind ?_ (fun _ => ?_) | refine Op.Lim.ite ?_ ?_)
end Go.Proofs.Ytgoiihfojhpcmaa.R
