/- The printed functions without rounds: what each answers when there are rounds enough, and its equation. No condition. -/
import Derived.Test.YtgoiihfojhpcmaaGx2
import Derived.Test.YtgoiihfojhpcmaaLim
namespace Go.Proofs.Ytgoiihfojhpcmaa.G
open Go.RowKit Go.Proofs.YtgoiihfojhpcmaaW.PrintWords Go.Proofs.YtgoiihfojhpcmaaW.PrintLast Go.Proofs.YtgoiihfojhpcmaaW.PrintMore
set_option linter.unusedVariables false
/-! ### laws_toIntS -/
noncomputable def laws_toIntS.vl0 (x0 : List Int) (x3 : List Int) (x4 : Int) : Option (List Int) := Op.lim (fun k => laws_toIntS.l0 k x0 x3 x4)
theorem laws_toIntS.Ll0 (x0 : List Int) (x3 : List Int) (x4 : Int) : Op.Lim (fun k => laws_toIntS.l0 k x0 x3 x4) (laws_toIntS.vl0 x0 x3 x4) := Op.Lim.of (fun k => (laws_toIntS.mono_l k) x0 x3 x4)
noncomputable def laws_toIntS.v (l0 : List Int) : Option (List Int) := Op.lim (fun k => laws_toIntS.f k l0)
theorem laws_toIntS.L (l0 : List Int) : Op.Lim (fun k => laws_toIntS.f k l0) (laws_toIntS.v l0) := Op.Lim.of (fun k => laws_toIntS.mono l0 k)
theorem laws_toIntS.vl0_eq (x0 : List Int) (x3 : List Int) (x4 : Int) : laws_toIntS.vl0 x0 x3 x4 = (if x4 < (x0.length : Int) then (if 0 ≤ x4 then (if x4 < (x3.length : Int) then (laws_toIntS.vl0 x0 (x3.set (x4 : Int).toNat (rd x0 x4)) (wrap64 (x4 + 1))) else (none)) else (none)) else (some x3)) := Op.Lim.unique (laws_toIntS.Ll0 x0 x3 x4) (Op.Lim.succ (laws_toIntS.Ll0 x0 x3 x4).up (by simp only [laws_toIntS.l0]; repeat' first | exact Op.Lim.const _ | apply laws_toIntS.Ll0 | refine Op.Lim.bind ?_ (fun _ => ?_) | refine Op.Lim.ite ?_ ?_))
theorem laws_toIntS.v_eq (l0 : List Int) : laws_toIntS.v l0 = (if 0 ≤ (l0.length : Int) then (if ((l0.length : Int) : Int).toNat ≤ 35184372088832 then (laws_toIntS.vl0 l0 (List.replicate ((l0.length : Int) : Int).toNat 0) 0) else (none)) else (none)) := Op.Lim.unique (laws_toIntS.L l0) (by unfold laws_toIntS.f; repeat' first | exact Op.Lim.const _ | apply laws_toIntS.Ll0 | refine Op.Lim.bind ?_ (fun _ => ?_) | refine Op.Lim.ite ?_ ?_)
/-! ### laws_eqIntS -/
noncomputable def laws_eqIntS.vl0 (x0 : List Int) (x1 : List Int) (x5 : Int) : Option (Bool) := Op.lim (fun k => laws_eqIntS.l0 k x0 x1 x5)
theorem laws_eqIntS.Ll0 (x0 : List Int) (x1 : List Int) (x5 : Int) : Op.Lim (fun k => laws_eqIntS.l0 k x0 x1 x5) (laws_eqIntS.vl0 x0 x1 x5) := Op.Lim.of (fun k => (laws_eqIntS.mono_l k) x0 x1 x5)
noncomputable def laws_eqIntS.v (l0 : List Int) (l1 : List Int) : Option (Bool) := Op.lim (fun k => laws_eqIntS.f k l0 l1)
theorem laws_eqIntS.L (l0 : List Int) (l1 : List Int) : Op.Lim (fun k => laws_eqIntS.f k l0 l1) (laws_eqIntS.v l0 l1) := Op.Lim.of (fun k => laws_eqIntS.mono l0 l1 k)
theorem laws_eqIntS.vl0_eq (x0 : List Int) (x1 : List Int) (x5 : Int) : laws_eqIntS.vl0 x0 x1 x5 = (if x5 < (x0.length : Int) then (if 0 ≤ x5 then (if x5 < (x1.length : Int) then (if (rd x0 x5) = (rd x1 x5) then (laws_eqIntS.vl0 x0 x1 (wrap64 (x5 + 1))) else (some false)) else (none)) else (none)) else (some true)) := Op.Lim.unique (laws_eqIntS.Ll0 x0 x1 x5) (Op.Lim.succ (laws_eqIntS.Ll0 x0 x1 x5).up (by simp only [laws_eqIntS.l0]; repeat' first | exact Op.Lim.const _ | apply laws_eqIntS.Ll0 | refine Op.Lim.bind ?_ (fun _ => ?_) | refine Op.Lim.ite ?_ ?_))
theorem laws_eqIntS.v_eq (l0 : List Int) (l1 : List Int) : laws_eqIntS.v l0 l1 = (if (l0.length : Int) = (l1.length : Int) then (laws_eqIntS.vl0 l0 l1 0) else (some false)) := Op.Lim.unique (laws_eqIntS.L l0 l1) (by unfold laws_eqIntS.f; repeat' first | exact Op.Lim.const _ | apply laws_eqIntS.Ll0 | refine Op.Lim.bind ?_ (fun _ => ?_) | refine Op.Lim.ite ?_ ?_)
end Go.Proofs.Ytgoiihfojhpcmaa.G
