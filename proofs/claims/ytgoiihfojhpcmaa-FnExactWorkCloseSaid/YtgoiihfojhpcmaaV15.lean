/- The printed functions without rounds: what each answers when there are rounds enough, and its equation. No condition. -/
import Derived.Test.YtgoiihfojhpcmaaGx15
import Derived.Test.YtgoiihfojhpcmaaLim
namespace Go.Proofs.Ytgoiihfojhpcmaa.G
open Go.RowKit Go.Proofs.YtgoiihfojhpcmaaW.PrintWords Go.Proofs.YtgoiihfojhpcmaaW.PrintLast Go.Proofs.YtgoiihfojhpcmaaW.PrintMore
set_option linter.unusedVariables false
/-! ### laws_heldWorkDeedS -/
noncomputable def laws_heldWorkDeedS.vl0 (x0 : List (S129)) (x1 : Int) (x5 : Int) : Option (Int) := Op.lim (fun k => laws_heldWorkDeedS.l0 k x0 x1 x5)
theorem laws_heldWorkDeedS.Ll0 (x0 : List (S129)) (x1 : Int) (x5 : Int) : Op.Lim (fun k => laws_heldWorkDeedS.l0 k x0 x1 x5) (laws_heldWorkDeedS.vl0 x0 x1 x5) := Op.Lim.of (fun k => (laws_heldWorkDeedS.mono_l k) x0 x1 x5)
noncomputable def laws_heldWorkDeedS.v (l0 : List (S129)) (a1 : Int) : Option (Int) := Op.lim (fun k => laws_heldWorkDeedS.f k l0 a1)
theorem laws_heldWorkDeedS.L (l0 : List (S129)) (a1 : Int) : Op.Lim (fun k => laws_heldWorkDeedS.f k l0 a1) (laws_heldWorkDeedS.v l0 a1) := Op.Lim.of (fun k => laws_heldWorkDeedS.mono l0 a1 k)
theorem laws_heldWorkDeedS.vl0_eq (x0 : List (S129)) (x1 : Int) (x5 : Int) : laws_heldWorkDeedS.vl0 x0 x1 x5 = (if x5 < (x0.length : Int) then (if 0 ≤ x5 then (if ((rd_T129 x0 x5).f0) = x1 then (if ((rd_T129 x0 x5).f1) = (wrap64 (x1 + 1)) then (if ((rd_T129 x0 x5).f2) = (wrap64 ((wrap64 (x1 + 1)) + 1)) then (laws_heldWorkDeedS.vl0 x0 (wrap64 ((wrap64 ((wrap64 (x1 + 1)) + 1)) + 1)) (wrap64 (x5 + 1))) else (some (-1))) else (some (-1))) else (some (-1))) else (none)) else (some x1)) := Op.Lim.unique (laws_heldWorkDeedS.Ll0 x0 x1 x5) (Op.Lim.succ (laws_heldWorkDeedS.Ll0 x0 x1 x5).up (by simp only [laws_heldWorkDeedS.l0]; repeat' first | exact Op.Lim.const _ | apply laws_heldWorkDeedS.Ll0 | refine Op.Lim.bind ?_ (fun _ => ?_) | refine Op.Lim.ite ?_ ?_))
theorem laws_heldWorkDeedS.v_eq (l0 : List (S129)) (a1 : Int) : laws_heldWorkDeedS.v l0 a1 = (laws_heldWorkDeedS.vl0 l0 a1 0) := Op.Lim.unique (laws_heldWorkDeedS.L l0 a1) (by unfold laws_heldWorkDeedS.f; repeat' first | exact Op.Lim.const _ | apply laws_heldWorkDeedS.Ll0 | refine Op.Lim.bind ?_ (fun _ => ?_) | refine Op.Lim.ite ?_ ?_)
end Go.Proofs.Ytgoiihfojhpcmaa.G
