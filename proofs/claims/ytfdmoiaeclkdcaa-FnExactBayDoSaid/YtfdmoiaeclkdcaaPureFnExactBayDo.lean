/- The pure statement of FnExactBayDo: what the printed functions compute answers true. -/
import Derived.Test.YtfdmoiaeclkdcaaGbx2
import Derived.Test.YtfdmoiaeclkdcaaNum
namespace Go.Proofs.Ytfdmoiaeclkdcaa.Pure
open Go.RowKit Go.Proofs.Ytfdmoiaeclkdcaa.Gb Go.Proofs.YtfdmoiaeclkdcaaW.PrintWords Go.Proofs.YtfdmoiaeclkdcaaW.PrintLast Go.Proofs.Ytfdmoiaeclkdcaa.Op

set_option linter.unusedSimpArgs false
set_option linter.unusedVariables false
theorem of_eq {α : Type} (x y : Option α) (h : x = y) (k : x.isSome = true) : ∃ r, x = some r ∧ y = some r := by
  obtain ⟨r, hr⟩ := Option.isSome_iff_exists.1 k
  exact ⟨r, hr, by rw [← h]; exact hr⟩
theorem same (a b c d : Bool) (x : Int) : ∃ r, spec_BayDo.f a b c d x = some r ∧ impl_BayDo.f a b c d x = some r := by
  by_cases h : 0 ≤ x ∧ x ≤ 7
  · have h8 : x = 0 ∨ x = 1 ∨ x = 2 ∨ x = 3 ∨ x = 4 ∨ x = 5 ∨ x = 6 ∨ x = 7 := by omega
    rcases h8 with rfl | rfl | rfl | rfl | rfl | rfl | rfl | rfl <;> cases a <;> cases b <;> cases c <;> cases d <;> exact of_eq _ _ (by decide +kernel) (by decide +kernel)
  · refine ⟨(a, b, c, d, false), ?_, ?_⟩
    · simp [spec_BayDo.f, spec_BayMay.f, h]
    · simp [impl_BayDo.f, impl_BayMay.f, h]

theorem FnExactBayDo : ∀ (x0_0 : Bool) (x0_1 : Bool) (x0_2 : Bool) (x0_3 : Bool) (x1 : Int), (Lit.int .i64 x1).wf = true → laws_FnExactBayDo.f x0_0 x0_1 x0_2 x0_3 x1 = some true := by
  intro a b c d x _
  obtain ⟨⟨r1, r2, r3, r4, r5⟩, h1, h2⟩ := same a b c d x
  simp only [laws_FnExactBayDo.f, laws_toBay.f, Option.bind_some, h1, h2, laws_eqBay.f]
  simp

end Go.Proofs.Ytfdmoiaeclkdcaa.Pure
