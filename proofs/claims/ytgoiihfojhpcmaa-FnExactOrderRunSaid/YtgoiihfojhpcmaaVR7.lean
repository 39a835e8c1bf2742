/- The printed functions without rounds: what each answers when there are rounds enough, and its equation. No condition. -/
import Derived.Test.YtgoiihfojhpcmaaRx7
import Derived.Test.YtgoiihfojhpcmaaLim
namespace Go.Proofs.Ytgoiihfojhpcmaa.R
open Go.RowKit Go.Proofs.YtgoiihfojhpcmaaW.PrintWords Go.Proofs.YtgoiihfojhpcmaaW.PrintLast Go.Proofs.YtgoiihfojhpcmaaW.PrintMore
set_option linter.unusedVariables false
/-! ### laws_heldBoolS -/
noncomputable def laws_heldBoolS.vl0 (x0 : List Bool) (x1 : Int) (x5 : Int) : Option (Int) := Op.lim (fun k => laws_heldBoolS.l0 k x0 x1 x5)
theorem laws_heldBoolS.Ll0 (x0 : List Bool) (x1 : Int) (x5 : Int) : Op.Lim (fun k => laws_heldBoolS.l0 k x0 x1 x5) (laws_heldBoolS.vl0 x0 x1 x5) := Op.Lim.of (fun k => (laws_heldBoolS.mono_l k) x0 x1 x5)
noncomputable def laws_heldBoolS.v (l0 : List Bool) (a1 : Int) : Option (Int) := Op.lim (fun k => laws_heldBoolS.f k l0 a1)
theorem laws_heldBoolS.L (l0 : List Bool) (a1 : Int) : Op.Lim (fun k => laws_heldBoolS.f k l0 a1) (laws_heldBoolS.v l0 a1) := Op.Lim.of (fun k => laws_heldBoolS.mono l0 a1 k)
theorem laws_heldBoolS.vl0_eq (x0 : List Bool) (x1 : Int) (x5 : Int) : laws_heldBoolS.vl0 x0 x1 x5 = (if x5 < (x0.length : Int) then (if 0 ≤ x5 then (if ((rdOf false x0 x5) != ((Int.tmod x1 3) == 0)) = true then (some (-1)) else (laws_heldBoolS.vl0 x0 (wrap64 (x1 + 1)) (wrap64 (x5 + 1)))) else (none)) else (some x1)) := Op.Lim.unique (laws_heldBoolS.Ll0 x0 x1 x5) (Op.Lim.succ (laws_heldBoolS.Ll0 x0 x1 x5).up (by simp only [laws_heldBoolS.l0]; repeat' first | exact Op.Lim.const _ | apply laws_heldBoolS.Ll0 | refine Op.Lim.bind ?_ (fun _ => ?_) | refine Op.Lim.ite ?_ ?_))
theorem laws_heldBoolS.v_eq (l0 : List Bool) (a1 : Int) : laws_heldBoolS.v l0 a1 = (laws_heldBoolS.vl0 l0 a1 0) := Op.Lim.unique (laws_heldBoolS.L l0 a1) (by unfold laws_heldBoolS.f; repeat' first | exact Op.Lim.const _ | apply laws_heldBoolS.Ll0 | refine Op.Lim.bind ?_ (fun _ => ?_) | refine Op.Lim.ite ?_ ?_)
end Go.Proofs.Ytgoiihfojhpcmaa.R
