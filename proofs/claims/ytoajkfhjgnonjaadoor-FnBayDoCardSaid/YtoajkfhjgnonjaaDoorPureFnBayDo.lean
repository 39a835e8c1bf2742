/- The pure statement of FnBayDo: what the printed functions compute answers true. -/
import Derived.Test.YtoajkfhjgnonjaaDoorGx10
import Derived.Test.YtoajkfhjgnonjaaDoorV22
import Derived.Test.YtoajkfhjgnonjaaDoorDraw
import Derived.Test.YtoajkfhjgnonjaaDoorAlive
import Derived.Test.YtoajkfhjgnonjaaDoorDrawBay
namespace Go.Proofs.YtoajkfhjgnonjaaDoor.Pure
open Go.RowKit Go.Proofs.YtoajkfhjgnonjaaDoor.G Go.Proofs.YtoajkfhjgnonjaaDoorW.PrintWords Go.Proofs.YtoajkfhjgnonjaaDoorW.PrintLast Go.Proofs.YtoajkfhjgnonjaaDoor.Op

set_option linter.unusedSimpArgs false
set_option linter.unusedVariables false

theorem FnBayDo : ∀ (x0 : List Int), x0.length ≤ maxLen → (∀ y ∈ x0, (Lit.int .u8 y).wf = true) → ∃ k, laws_FnBayDo.f k x0 = some true := by
  intro x _ hx
  refine (laws_FnBayDo.L x).rounds ?_
  rw [laws_FnBayDo.v_eq]
  by_cases c : (x.length : Int) > 1048576
  · rw [if_pos c]
  rw [if_neg c, spec_DrawBayDo.v_eq, spec_DrawBayMay.v_eq]
  obtain ⟨b, hb, r⟩ := open_of x hx
  obtain ⟨x, y, z, u, h⟩ := bay b 0 r (by omega) (by omega)
  obtain ⟨d, hd, hd1, hd2⟩ := pick b (0 + 1) 10 r (by omega) (by omega) (by omega)
  have hd3 := hd2 (by omega)
  rw [hb]
  simp only [Option.bind_some, h, hd, laws_FnBayDo.vj0_eq, alive]
  have h8 : d = 0 ∨ d = 1 ∨ d = 2 ∨ d = 3 ∨ d = 4 ∨ d = 5 ∨ d = 6 ∨ d = 7 ∨ d = 8 ∨ d = 9 := by omega
  clear hd hd1 hd2 hd3 h
  rcases h8 with rfl | rfl | rfl | rfl | rfl | rfl | rfl | rfl | rfl | rfl <;> (revert x y z u; decide +kernel)

end Go.Proofs.YtoajkfhjgnonjaaDoor.Pure
