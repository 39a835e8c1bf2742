/- The pure statement of FnExactRelayTime: what the printed functions compute answers true. -/
import Derived.Test.YtfdmoiaeclkdcaaPFnExactRelayTimex1
import Derived.Test.YtfdmoiaeclkdcaaNum
namespace Go.Proofs.Ytfdmoiaeclkdcaa.Pure
open Go.RowKit Go.Proofs.Ytfdmoiaeclkdcaa.PFnExactRelayTime Go.Proofs.YtfdmoiaeclkdcaaW.PrintWords Go.Proofs.YtfdmoiaeclkdcaaW.PrintLast Go.Proofs.Ytfdmoiaeclkdcaa.Op

theorem FnExactRelayTime : ∀ (x0_0 : Int) (x0_1 : Int) (x1 : Int), (Lit.int .i64 x0_0).wf = true → (Lit.int .i64 x0_1).wf = true → (Lit.int .i64 x1).wf = true → laws_FnExactRelayTime.f x0_0 x0_1 x1 = some true := by
  intro a b c ha hb hc
  have hc := wf_i64 hc
  simp only [laws_FnExactRelayTime.f, spec_RelayTime.f, impl_RelayTime.f, spec_RelayValid.f, impl_RelayValid.f, impl_Relay_time.f, impl_currentValid.f, laws_toRelay.f, spec_l1In.f, Option.bind_some]
  by_cases h1 : a ≥ 1 <;> by_cases h2 : a ≤ 400 <;> by_cases h3 : b ≥ 1 <;> by_cases h4 : b ≤ 60 <;> simp [h1, h2, h3, h4]
  rw [w64 (n := a + 1) (by omega)]
  by_cases h5 : a + 1 ≤ c
  · by_cases h6 : c ≤ 400
    · rw [w64 (n := c - a) (by omega), w64 (n := 100 * b) (by omega), w64 (n := 100 * b + c) (by omega), w64 (n := 100 * b + c - a) (by omega), w64 (n := 100 * b + (c - a)) (by omega)]
      have e : 100 * b + c - a - 1 = 100 * b + (c - a) - 1 := by omega
      rw [e]
      have h7 : ¬ (c - a = 0) := by omega
      have h8 : ¬ (c ≤ a) := by omega
      have h9 : 0 ≤ c := by omega
      simp [h5, h6, h7, h8, h9]
    · simp [h5, h6]
  · have h8 : c ≤ a := by omega
    simp [h5, h8]
    split <;> simp

end Go.Proofs.Ytfdmoiaeclkdcaa.Pure
