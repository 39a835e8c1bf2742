/- The pure statement of FnExactBayRun: what the printed functions compute answers true. -/
import Derived.Test.YtgoiihfojhpcmaaGx5
import Derived.Test.YtgoiihfojhpcmaaV5
import Derived.Test.YtgoiihfojhpcmaaCFnExactBayRun
import Derived.Test.YtgoiihfojhpcmaaBayVal
namespace Go.Proofs.Ytgoiihfojhpcmaa.Pure
open Go.RowKit Go.Proofs.Ytgoiihfojhpcmaa.G Go.Proofs.YtgoiihfojhpcmaaW.PrintWords Go.Proofs.YtgoiihfojhpcmaaW.PrintLast Go.Proofs.Ytgoiihfojhpcmaa.Op

set_option linter.unusedSimpArgs false
set_option linter.unusedVariables false

theorem FnExactBayRun : ∀ (x0_0 : Bool) (x0_1 : Bool) (x0_2 : Bool) (x0_3 : Bool) (x1 : List Int), x1.length ≤ maxLen → (∀ y ∈ x1, (Lit.int .i64 y).wf = true) → ∃ k, laws_FnExactBayRun.f k x0_0 x0_1 x0_2 x0_3 x1 = some true := by
  intro a b c d l hl _
  refine (laws_FnExactBayRun.L a b c d l).rounds ?_
  rw [laws_FnExactBayRun.v_eq]
  by_cases h : (l.length : Int) > 1048576
  · rw [if_pos h]
  have h1 := spec_run (a, b, c, d) l (by omega)
  have h2 := impl_run (a, b, c, d) l (by omega)
  simp only at h1 h2
  rw [if_neg h]
  simp only [laws_toBay.f, Option.bind_some, laws_toIntS.val l (by omega), h1, h2, laws_eqBay.f, laws_FnExactBayRun.vj0_eq, laws_eqIntS.val l (by omega)]
  simp

end Go.Proofs.Ytgoiihfojhpcmaa.Pure
