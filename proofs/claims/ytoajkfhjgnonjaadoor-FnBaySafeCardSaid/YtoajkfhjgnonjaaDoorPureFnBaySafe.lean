/- The pure statement of FnBaySafe: what the printed functions compute answers true. -/
import Derived.Test.YtoajkfhjgnonjaaDoorGx3
import Derived.Test.YtoajkfhjgnonjaaDoorV20
import Derived.Test.YtoajkfhjgnonjaaDoorDraw
import Derived.Test.YtoajkfhjgnonjaaDoorAlive
import Derived.Test.YtoajkfhjgnonjaaDoorDrawBay
namespace Go.Proofs.YtoajkfhjgnonjaaDoor.Pure
open Go.RowKit Go.Proofs.YtoajkfhjgnonjaaDoor.G Go.Proofs.YtoajkfhjgnonjaaDoorW.PrintWords Go.Proofs.YtoajkfhjgnonjaaDoorW.PrintLast Go.Proofs.YtoajkfhjgnonjaaDoor.Op

set_option linter.unusedSimpArgs false
set_option linter.unusedVariables false

theorem FnBaySafe : ∀ (x0 : List Int), x0.length ≤ maxLen → (∀ y ∈ x0, (Lit.int .u8 y).wf = true) → ∃ k, laws_FnBaySafe.f k x0 = some true := by
  intro x _ hx
  refine (laws_FnBaySafe.L x).rounds ?_
  rw [laws_FnBaySafe.v_eq]
  by_cases c : (x.length : Int) > 1048576
  · rw [if_pos c]
  rw [if_neg c, spec_DrawBaySafe.v_eq]
  obtain ⟨b, hb, r⟩ := open_of x hx
  obtain ⟨x, y, z, u, h⟩ := bay b 0 r (by omega) (by omega)
  rw [hb]
  simp only [Option.bind_some, h, alive]

end Go.Proofs.YtoajkfhjgnonjaaDoor.Pure
