/- The pure statement of FnExactBaySafe: what the printed functions compute answers true. -/
import Derived.Test.YtfdmoiaeclkdcaaPFnExactBaySafex1
namespace Go.Proofs.Ytfdmoiaeclkdcaa.Pure
open Go.RowKit Go.Proofs.Ytfdmoiaeclkdcaa.PFnExactBaySafe Go.Proofs.YtfdmoiaeclkdcaaW.PrintWords Go.Proofs.YtfdmoiaeclkdcaaW.PrintLast

theorem FnExactBaySafe : ∀ (x0_0 : Bool) (x0_1 : Bool) (x0_2 : Bool) (x0_3 : Bool), laws_FnExactBaySafe.f x0_0 x0_1 x0_2 x0_3 = some true := by
  intro a b c d
  cases a <;> cases b <;> cases c <;> cases d <;> rfl

end Go.Proofs.Ytfdmoiaeclkdcaa.Pure
