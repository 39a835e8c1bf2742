/- The pure statement of FnExactBayMay: what the printed functions compute answers true. -/
import Derived.Test.YtfdmoiaeclkdcaaGbx1
import Derived.Test.YtfdmoiaeclkdcaaNum
namespace Go.Proofs.Ytfdmoiaeclkdcaa.Pure
open Go.RowKit Go.Proofs.Ytfdmoiaeclkdcaa.Gb Go.Proofs.YtfdmoiaeclkdcaaW.PrintWords Go.Proofs.YtfdmoiaeclkdcaaW.PrintLast Go.Proofs.Ytfdmoiaeclkdcaa.Op

set_option linter.unusedSimpArgs false
set_option linter.unusedVariables false

theorem FnExactBayMay : ∀ (x0_0 : Bool) (x0_1 : Bool) (x0_2 : Bool) (x0_3 : Bool) (x1 : Int), (Lit.int .i64 x1).wf = true → laws_FnExactBayMay.f x0_0 x0_1 x0_2 x0_3 x1 = some true := by
  intro a b c d x _
  simp only [laws_FnExactBayMay.f, laws_toBay.f, Option.bind_some, spec_BayMay.f, impl_BayMay.f]
  by_cases h : 0 ≤ x ∧ x ≤ 7
  · rw [if_pos h, if_pos h]
    have e : ∀ n, spec_BayMay.may a b c d n = impl_BayMay.may a b c d n := fun n => rfl
    simp [e]
  · rw [if_neg h, if_neg h]
    simp

end Go.Proofs.Ytfdmoiaeclkdcaa.Pure
