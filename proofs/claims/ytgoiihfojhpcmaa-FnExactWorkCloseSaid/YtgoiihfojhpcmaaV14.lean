/- The printed functions without rounds: what each answers when there are rounds enough, and its equation. No condition. -/
import Derived.Test.YtgoiihfojhpcmaaGx14
import Derived.Test.YtgoiihfojhpcmaaLim
import Derived.Test.YtgoiihfojhpcmaaV13
import Derived.Test.YtgoiihfojhpcmaaV2
import Derived.Test.YtgoiihfojhpcmaaV3
import Derived.Test.YtgoiihfojhpcmaaV4
import Derived.Test.YtgoiihfojhpcmaaV5
import Derived.Test.YtgoiihfojhpcmaaV6
import Derived.Test.YtgoiihfojhpcmaaV7
import Derived.Test.YtgoiihfojhpcmaaV8
namespace Go.Proofs.Ytgoiihfojhpcmaa.G
open Go.RowKit Go.Proofs.YtgoiihfojhpcmaaW.PrintWords Go.Proofs.YtgoiihfojhpcmaaW.PrintLast Go.Proofs.YtgoiihfojhpcmaaW.PrintMore
set_option linter.unusedVariables false
/-! ### impl_deedsFor -/
noncomputable def impl_deedsFor.vl0 (x0 : Int) (x2 : Bool) (x7 : List (S129)) (x10 : List Bool) (x11 : Int) (x12 : Int) : Option ((List (S129))) := Op.lim (fun k => impl_deedsFor.l0 k x0 x2 x7 x10 x11 x12)
theorem impl_deedsFor.Ll0 (x0 : Int) (x2 : Bool) (x7 : List (S129)) (x10 : List Bool) (x11 : Int) (x12 : Int) : Op.Lim (fun k => impl_deedsFor.l0 k x0 x2 x7 x10 x11 x12) (impl_deedsFor.vl0 x0 x2 x7 x10 x11 x12) := Op.Lim.of (fun k => (impl_deedsFor.mono_l k) x0 x2 x7 x10 x11 x12)
noncomputable def impl_deedsFor.v (a0 : Int) (l1 : List Bool) (a2 : Bool) : Option ((List (S129))) := Op.lim (fun k => impl_deedsFor.f k a0 l1 a2)
theorem impl_deedsFor.L (a0 : Int) (l1 : List Bool) (a2 : Bool) : Op.Lim (fun k => impl_deedsFor.f k a0 l1 a2) (impl_deedsFor.v a0 l1 a2) := Op.Lim.of (fun k => impl_deedsFor.mono a0 l1 a2 k)
theorem impl_deedsFor.vl0_eq (x0 : Int) (x2 : Bool) (x7 : List (S129)) (x10 : List Bool) (x11 : Int) (x12 : Int) : impl_deedsFor.vl0 x0 x2 x7 x10 x11 x12 = (if x12 < x11 then (if 0 ≤ x12 then (if x12 < (x10.length : Int) then (if ((rdOf false x10 x12) == x2) = true then (if x7.length < 5864062014805 then (impl_deedsFor.vl0 x0 x2 (x7 ++ [(⟨x0, x12, 0⟩ : S129)]) x10 x11 (wrap64 (x12 + 1))) else (none)) else (impl_deedsFor.vl0 x0 x2 x7 x10 x11 (wrap64 (x12 + 1)))) else (none)) else (none)) else (some x7)) := Op.Lim.unique (impl_deedsFor.Ll0 x0 x2 x7 x10 x11 x12) (Op.Lim.succ (impl_deedsFor.Ll0 x0 x2 x7 x10 x11 x12).up (by simp only [impl_deedsFor.l0]; repeat' first | exact Op.Lim.const _ | apply impl_deedsFor.Ll0 | refine Op.Lim.bind ?_ (fun _ => ?_) | refine Op.Lim.ite ?_ ?_))
theorem impl_deedsFor.v_eq (a0 : Int) (l1 : List Bool) (a2 : Bool) : impl_deedsFor.v a0 l1 a2 = (impl_deedsFor.vl0 a0 a2 ([] : List (S129)) l1 (l1.length : Int) 0) := Op.Lim.unique (impl_deedsFor.L a0 l1 a2) (by unfold impl_deedsFor.f; repeat' first | exact Op.Lim.const _ | apply impl_deedsFor.Ll0 | refine Op.Lim.bind ?_ (fun _ => ?_) | refine Op.Lim.ite ?_ ?_)
/-! ### impl_WorkClose -/
noncomputable def impl_WorkClose.v (l0_0 : List Bool) (l0_1 : List Bool) (l0_2 : List (S112)) : Option ((List (S129))) := Op.lim (fun k => impl_WorkClose.f k l0_0 l0_1 l0_2)
theorem impl_WorkClose.L (l0_0 : List Bool) (l0_1 : List Bool) (l0_2 : List (S112)) : Op.Lim (fun k => impl_WorkClose.f k l0_0 l0_1 l0_2) (impl_WorkClose.v l0_0 l0_1 l0_2) := Op.Lim.of (fun k => impl_WorkClose.mono l0_0 l0_1 l0_2 k)
theorem impl_WorkClose.v_eq (l0_0 : List Bool) (l0_1 : List Bool) (l0_2 : List (S112)) : impl_WorkClose.v l0_0 l0_1 l0_2 = ((impl_WorkValid.v l0_0 l0_1 l0_2).bind fun t402 => (if t402 = true then ((impl_Work_returns.v l0_0 l0_1 l0_2).bind fun t403 => ((impl_deedsFor.v 3 l0_1 true).bind fun t406 => (if t403.length + t406.length < 5864062014805 then ((some (t403 ++ t406 : List (S129))).bind fun y409 => ((impl_deedsFor.v 0 l0_0 false).bind fun t412 => (if y409.length + t412.length < 5864062014805 then (some (y409 ++ t412)) else (none)))) else (none)))) else (some ([] : List (S129))))) := Op.Lim.unique (impl_WorkClose.L l0_0 l0_1 l0_2) (by unfold impl_WorkClose.f; repeat' first | exact Op.Lim.const _ | apply impl_WorkValid.L | apply impl_Work_returns.L | apply impl_deedsFor.L | refine Op.Lim.bind ?_ (fun _ => ?_) | refine Op.Lim.ite ?_ ?_)
/-! ### laws_eqWorkDeedS -/
noncomputable def laws_eqWorkDeedS.vl0 (x0 : List (S129)) (x1 : List (S129)) (x5 : Int) : Option (Bool) := Op.lim (fun k => laws_eqWorkDeedS.l0 k x0 x1 x5)
theorem laws_eqWorkDeedS.Ll0 (x0 : List (S129)) (x1 : List (S129)) (x5 : Int) : Op.Lim (fun k => laws_eqWorkDeedS.l0 k x0 x1 x5) (laws_eqWorkDeedS.vl0 x0 x1 x5) := Op.Lim.of (fun k => (laws_eqWorkDeedS.mono_l k) x0 x1 x5)
noncomputable def laws_eqWorkDeedS.v (l0 : List (S129)) (l1 : List (S129)) : Option (Bool) := Op.lim (fun k => laws_eqWorkDeedS.f k l0 l1)
theorem laws_eqWorkDeedS.L (l0 : List (S129)) (l1 : List (S129)) : Op.Lim (fun k => laws_eqWorkDeedS.f k l0 l1) (laws_eqWorkDeedS.v l0 l1) := Op.Lim.of (fun k => laws_eqWorkDeedS.mono l0 l1 k)
theorem laws_eqWorkDeedS.vl0_eq (x0 : List (S129)) (x1 : List (S129)) (x5 : Int) : laws_eqWorkDeedS.vl0 x0 x1 x5 = (if x5 < (x0.length : Int) then (if 0 ≤ x5 then (if x5 < (x1.length : Int) then ((laws_eqWorkDeed.f ((rd_T129 x0 x5).f0) ((rd_T129 x0 x5).f1) ((rd_T129 x0 x5).f2) ((rd_T129 x1 x5).f0) ((rd_T129 x1 x5).f1) ((rd_T129 x1 x5).f2)).bind fun t422 => (if t422 = true then (laws_eqWorkDeedS.vl0 x0 x1 (wrap64 (x5 + 1))) else (some false))) else (none)) else (none)) else (some true)) := Op.Lim.unique (laws_eqWorkDeedS.Ll0 x0 x1 x5) (Op.Lim.succ (laws_eqWorkDeedS.Ll0 x0 x1 x5).up (by simp only [laws_eqWorkDeedS.l0]; repeat' first | exact Op.Lim.const _ | apply laws_eqWorkDeedS.Ll0 | refine Op.Lim.bind ?_ (fun _ => ?_) | refine Op.Lim.ite ?_ ?_))
theorem laws_eqWorkDeedS.v_eq (l0 : List (S129)) (l1 : List (S129)) : laws_eqWorkDeedS.v l0 l1 = (if (l0.length : Int) = (l1.length : Int) then (laws_eqWorkDeedS.vl0 l0 l1 0) else (some false)) := Op.Lim.unique (laws_eqWorkDeedS.L l0 l1) (by unfold laws_eqWorkDeedS.f; repeat' first | exact Op.Lim.const _ | apply laws_eqWorkDeedS.Ll0 | refine Op.Lim.bind ?_ (fun _ => ?_) | refine Op.Lim.ite ?_ ?_)
/-! ### laws_markWorkDeedS -/
noncomputable def laws_markWorkDeedS.vl0 (x0 : List (S129)) (x1 : Int) (x5 : Int) : Option (Int × (List (S129))) := Op.lim (fun k => laws_markWorkDeedS.l0 k x0 x1 x5)
theorem laws_markWorkDeedS.Ll0 (x0 : List (S129)) (x1 : Int) (x5 : Int) : Op.Lim (fun k => laws_markWorkDeedS.l0 k x0 x1 x5) (laws_markWorkDeedS.vl0 x0 x1 x5) := Op.Lim.of (fun k => (laws_markWorkDeedS.mono_l k) x0 x1 x5)
noncomputable def laws_markWorkDeedS.v (l0 : List (S129)) (a1 : Int) : Option (Int × (List (S129))) := Op.lim (fun k => laws_markWorkDeedS.f k l0 a1)
theorem laws_markWorkDeedS.L (l0 : List (S129)) (a1 : Int) : Op.Lim (fun k => laws_markWorkDeedS.f k l0 a1) (laws_markWorkDeedS.v l0 a1) := Op.Lim.of (fun k => laws_markWorkDeedS.mono l0 a1 k)
theorem laws_markWorkDeedS.vl0_eq (x0 : List (S129)) (x1 : Int) (x5 : Int) : laws_markWorkDeedS.vl0 x0 x1 x5 = (if x5 < (x0.length : Int) then (if 0 ≤ x5 then ((some (x0.set (x5 : Int).toNat (⟨x1, (rd_T129 x0 x5).f1, (rd_T129 x0 x5).f2⟩ : S129) : List (S129))).bind fun y423 => ((some (y423.set (x5 : Int).toNat (⟨(rd_T129 y423 x5).f0, wrap64 (x1 + 1), (rd_T129 y423 x5).f2⟩ : S129) : List (S129))).bind fun y424 => (laws_markWorkDeedS.vl0 (y424.set (x5 : Int).toNat (⟨(rd_T129 y424 x5).f0, (rd_T129 y424 x5).f1, wrap64 ((wrap64 (x1 + 1)) + 1)⟩ : S129)) (wrap64 ((wrap64 ((wrap64 (x1 + 1)) + 1)) + 1)) (wrap64 (x5 + 1))))) else (none)) else (some (x1, x0))) := Op.Lim.unique (laws_markWorkDeedS.Ll0 x0 x1 x5) (Op.Lim.succ (laws_markWorkDeedS.Ll0 x0 x1 x5).up (by simp only [laws_markWorkDeedS.l0]; repeat' first | exact Op.Lim.const _ | apply laws_markWorkDeedS.Ll0 | refine Op.Lim.bind ?_ (fun _ => ?_) | refine Op.Lim.ite ?_ ?_))
theorem laws_markWorkDeedS.v_eq (l0 : List (S129)) (a1 : Int) : laws_markWorkDeedS.v l0 a1 = (laws_markWorkDeedS.vl0 l0 a1 0) := Op.Lim.unique (laws_markWorkDeedS.L l0 a1) (by unfold laws_markWorkDeedS.f; repeat' first | exact Op.Lim.const _ | apply laws_markWorkDeedS.Ll0 | refine Op.Lim.bind ?_ (fun _ => ?_) | refine Op.Lim.ite ?_ ?_)
end Go.Proofs.Ytgoiihfojhpcmaa.G
