/- What the laws ask of a network of one line and of the text of no network: both answer as they should. -/
import Derived.Test.YtoajkfhjgnonjaaDoorV1
import Derived.Test.YtoajkfhjgnonjaaDoorNum
namespace Go.Proofs.YtoajkfhjgnonjaaDoor.Pure
open Go.RowKit Go.Proofs.YtoajkfhjgnonjaaDoor.G Go.Proofs.YtoajkfhjgnonjaaDoorW.PrintWords Go.Proofs.YtoajkfhjgnonjaaDoorW.PrintLast Go.Proofs.YtoajkfhjgnonjaaDoor.Op
set_option linter.unusedSimpArgs false
theorem no_net : impl_NetValid.v 0 [] = some false := by
  rw [impl_NetValid.v_eq, if_pos (by omega), impl_NetValid.vj0_eq, if_pos rfl]
theorem one_net : impl_NetValid.v 2 [(⟨0, 1, 1⟩ : S40)] = some true := by
  have w1 : wrap64 (0 + 1) = 1 := w64 (by omega)
  rw [impl_NetValid.v_eq, if_neg (by omega), if_neg (by omega), impl_NetValid.vj0_eq, if_neg (by simp), impl_NetValid.vl0_eq]
  simp only [List.length_singleton]
  rw [if_pos (by omega), if_pos (by omega), if_pos (by omega), w1, impl_NetValid.vl0_eq]
  simp [rd_T40, impl_Net_hasBus.f]
theorem alive : laws_alive.v = some true := by
  rw [laws_alive.v_eq, impl_OtherEnd.v_eq, one_net]
  simp [impl_Net_hasLine.f, rd_T40, impl_Line_other.f, impl_NetText.v_eq, no_net]
end Go.Proofs.YtoajkfhjgnonjaaDoor.Pure
