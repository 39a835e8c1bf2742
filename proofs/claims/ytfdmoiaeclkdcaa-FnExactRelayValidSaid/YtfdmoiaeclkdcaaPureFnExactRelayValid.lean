/- The pure statement of FnExactRelayValid: what the printed functions compute answers true. -/
import Derived.Test.YtfdmoiaeclkdcaaPFnExactRelayValidx1
namespace Go.Proofs.Ytfdmoiaeclkdcaa.Pure
open Go.RowKit Go.Proofs.Ytfdmoiaeclkdcaa.PFnExactRelayValid Go.Proofs.YtfdmoiaeclkdcaaW.PrintWords Go.Proofs.YtfdmoiaeclkdcaaW.PrintLast

theorem FnExactRelayValid : ∀ (x0_0 : Int) (x0_1 : Int), (Lit.int .i64 x0_0).wf = true → (Lit.int .i64 x0_1).wf = true → laws_FnExactRelayValid.f x0_0 x0_1 = some true := by
  intro a b _ _
  simp only [laws_FnExactRelayValid.f, spec_RelayValid.f, impl_RelayValid.f, laws_toRelay.f, spec_l1In.f, Option.bind_some]
  by_cases h1 : a ≥ 1 <;> by_cases h2 : a ≤ 400 <;> by_cases h3 : b ≥ 1 <;> by_cases h4 : b ≤ 60 <;> simp [h1, h2, h3, h4]

end Go.Proofs.Ytfdmoiaeclkdcaa.Pure
