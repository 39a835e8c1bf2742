/- The pure statement of FnBayMay: what the printed functions compute answers true. -/
import Derived.Test.YtoajkfhjgnonjaaDoorGx9
import Derived.Test.YtoajkfhjgnonjaaDoorV21
import Derived.Test.YtoajkfhjgnonjaaDoorDraw
import Derived.Test.YtoajkfhjgnonjaaDoorAlive
import Derived.Test.YtoajkfhjgnonjaaDoorDrawBay
namespace Go.Proofs.YtoajkfhjgnonjaaDoor.Pure
open Go.RowKit Go.Proofs.YtoajkfhjgnonjaaDoor.G Go.Proofs.YtoajkfhjgnonjaaDoorW.PrintWords Go.Proofs.YtoajkfhjgnonjaaDoorW.PrintLast Go.Proofs.YtoajkfhjgnonjaaDoor.Op

set_option linter.unusedSimpArgs false
set_option linter.unusedVariables false

theorem FnBayMay : ∀ (x0 : List Int), x0.length ≤ maxLen → (∀ y ∈ x0, (Lit.int .u8 y).wf = true) → ∃ k, laws_FnBayMay.f k x0 = some true := by
  intro x _ hx
  refine (laws_FnBayMay.L x).rounds ?_
  rw [laws_FnBayMay.v_eq]
  by_cases c : (x.length : Int) > 1048576
  · rw [if_pos c]
  rw [if_neg c, spec_DrawBayMay.v_eq]
  obtain ⟨b, hb, r⟩ := open_of x hx
  obtain ⟨x, y, z, u, h⟩ := bay b 0 r (by omega) (by omega)
  obtain ⟨d, hd, hd1, hd2⟩ := pick b (0 + 1) 10 r (by omega) (by omega) (by omega)
  rw [hb]
  simp only [Option.bind_some, h, hd, alive, ite_self]

end Go.Proofs.YtoajkfhjgnonjaaDoor.Pure
