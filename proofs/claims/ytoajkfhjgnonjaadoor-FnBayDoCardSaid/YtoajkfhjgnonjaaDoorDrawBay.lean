/- The draw of a bay answers. -/
import Derived.Test.YtoajkfhjgnonjaaDoorV2
import Derived.Test.YtoajkfhjgnonjaaDoorDraw
namespace Go.Proofs.YtoajkfhjgnonjaaDoor.Pure
open Go.RowKit Go.Proofs.YtoajkfhjgnonjaaDoor.G Go.Proofs.YtoajkfhjgnonjaaDoorW.PrintWords Go.Proofs.YtoajkfhjgnonjaaDoorW.PrintLast Go.Proofs.YtoajkfhjgnonjaaDoor.Op
theorem bay (b : List Int) (p : Int) (r : Rd b) (hp : 0 ≤ p) (hp2 : p < 1099511627776) : ∃ x y z u, spec_l20Bay.v b p = some (x, y, z, u, p + 1) := by
  obtain ⟨n, hn, _⟩ := pick b p 16 r hp hp2 (by omega)
  rw [spec_l20Bay.v_eq, hn]
  exact ⟨_, _, _, _, rfl⟩
end Go.Proofs.YtoajkfhjgnonjaaDoor.Pure
