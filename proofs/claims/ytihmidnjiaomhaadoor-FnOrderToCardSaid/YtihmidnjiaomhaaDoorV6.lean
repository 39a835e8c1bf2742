/- The printed functions without rounds: what each answers when there are rounds enough, and its equation. No condition. -/
import Derived.Test.YtihmidnjiaomhaaDoorGx6
import Derived.Test.YtihmidnjiaomhaaDoorLim
namespace Go.Proofs.YtihmidnjiaomhaaDoor.G
open Go.RowKit Go.Proofs.YtihmidnjiaomhaaDoorW.PrintWords Go.Proofs.YtihmidnjiaomhaaDoorW.PrintLast Go.Proofs.YtihmidnjiaomhaaDoorW.PrintMore
set_option linter.unusedVariables false
/-! ### impl_Changes -/
noncomputable def impl_Changes.vl0 (x0 : List Bool) (x1 : List Bool) (x5 : List Int) (x13 : Int) (x14 : Int) : Option (List Int) := Op.lim (fun k => impl_Changes.l0 k x0 x1 x5 x13 x14)
theorem impl_Changes.Ll0 (x0 : List Bool) (x1 : List Bool) (x5 : List Int) (x13 : Int) (x14 : Int) : Op.Lim (fun k => impl_Changes.l0 k x0 x1 x5 x13 x14) (impl_Changes.vl0 x0 x1 x5 x13 x14) := Op.Lim.of (fun k => (impl_Changes.mono_l k) x0 x1 x5 x13 x14)
noncomputable def impl_Changes.v (l0 : List Bool) (l1 : List Bool) : Option (List Int) := Op.lim (fun k => impl_Changes.f k l0 l1)
theorem impl_Changes.L (l0 : List Bool) (l1 : List Bool) : Op.Lim (fun k => impl_Changes.f k l0 l1) (impl_Changes.v l0 l1) := Op.Lim.of (fun k => impl_Changes.mono l0 l1 k)
theorem impl_Changes.vl0_eq (x0 : List Bool) (x1 : List Bool) (x5 : List Int) (x13 : Int) (x14 : Int) : impl_Changes.vl0 x0 x1 x5 x13 x14 = (if x14 < x13 then (if 0 ≤ x14 then (if x14 < (x0.length : Int) then (if x14 < (x1.length : Int) then (if ((rdOf false x0 x14) != (rdOf false x1 x14)) = true then (if x5.length < 17592186044416 then (impl_Changes.vl0 x0 x1 (x5 ++ [x14]) x13 (wrap64 (x14 + 1))) else (none)) else (impl_Changes.vl0 x0 x1 x5 x13 (wrap64 (x14 + 1)))) else (none)) else (none)) else (none)) else (some x5)) := Op.Lim.unique (impl_Changes.Ll0 x0 x1 x5 x13 x14) (Op.Lim.succ (impl_Changes.Ll0 x0 x1 x5 x13 x14).up (by simp only [impl_Changes.l0]; repeat' first | exact Op.Lim.const _ | apply impl_Changes.Ll0 | refine Op.Lim.bind ?_ (fun _ => ?_) | refine Op.Lim.ite ?_ ?_))
theorem impl_Changes.v_eq (l0 : List Bool) (l1 : List Bool) : impl_Changes.v l0 l1 = (if (l0.length : Int) = (l1.length : Int) then (impl_Changes.vl0 l0 l1 ([] : List Int) (l0.length : Int) 0) else (some ([] : List Int))) := Op.Lim.unique (impl_Changes.L l0 l1) (by unfold impl_Changes.f; repeat' first | exact Op.Lim.const _ | apply impl_Changes.Ll0 | refine Op.Lim.bind ?_ (fun _ => ?_) | refine Op.Lim.ite ?_ ?_)
end Go.Proofs.YtihmidnjiaomhaaDoor.G
