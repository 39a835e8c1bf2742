/- What OrderValid answers, in the program and in the reference. -/
import Derived.Test.YtoajkfhjgnonjaaDoorV3
import Derived.Test.YtoajkfhjgnonjaaDoorNum
namespace Go.Proofs.YtoajkfhjgnonjaaDoor.Pure
open Go.RowKit Go.Proofs.YtoajkfhjgnonjaaDoor.G Go.Proofs.YtoajkfhjgnonjaaDoorW.PrintWords Go.Proofs.YtoajkfhjgnonjaaDoorW.PrintLast Go.Proofs.YtoajkfhjgnonjaaDoor.Op
set_option linter.unusedVariables false
set_option linter.unusedSimpArgs false
theorem rd_Step_nat (xs : List S70) (i : Nat) (h : i < xs.length) : rd_T70 xs (i : Int) = xs[i] := by
  simp [rd_T70, List.getD_eq_getElem?_getD, List.getElem?_eq_getElem h]
def okStep (s : S70) : Bool := decide (0 ≤ s.f0) && decide (s.f0 ≤ 9)
theorem specOrder_loop (l : List S70) (hl : l.length ≤ 1048576) (d : Nat) : ∀ i : Nat, i + d = l.length → spec_OrderValid.vl0 l (i : Int) = some ((l.drop i).all okStep && decide (l.length ≤ 12)) := by
  induction d with
  | zero =>
    intro i hi
    rw [spec_OrderValid.vl0_eq, if_neg (by omega), List.drop_of_length_le (by omega)]
    simp
    omega
  | succ d ih =>
    intro i hi
    have e : ((i : Int) + 1) = ((i + 1 : Nat) : Int) := by omega
    rw [spec_OrderValid.vl0_eq, if_pos (by omega), if_pos (by omega), rd_Step_nat l i (by omega), List.drop_eq_getElem_cons (show i < l.length by omega), w64 (by omega), e, ih (i + 1) (by omega)]
    simp only [spec_l1In.f, List.all_cons, okStep]
    by_cases h1 : 0 ≤ l[i].f0 <;> by_cases h2 : l[i].f0 ≤ 9 <;> simp [h1, h2]
theorem implOrder_loop (l : List S70) (hl : l.length ≤ 1048576) (d : Nat) : ∀ i : Nat, i + d = l.length → impl_OrderValid.vl0 l (l.length : Int) (i : Int) = some ((l.drop i).all okStep) := by
  induction d with
  | zero =>
    intro i hi
    rw [impl_OrderValid.vl0_eq, if_neg (by omega), List.drop_of_length_le (by omega)]
    simp
  | succ d ih =>
    intro i hi
    have e : ((i : Int) + 1) = ((i + 1 : Nat) : Int) := by omega
    rw [impl_OrderValid.vl0_eq, if_pos (by omega), if_pos (by omega), if_pos (by omega), rd_Step_nat l i (by omega), List.drop_eq_getElem_cons (show i < l.length by omega), w64 (by omega), e, ih (i + 1) (by omega)]
    simp only [List.all_cons, okStep]
    by_cases h1 : l[i].f0 < 0
    · have h2 : ¬ (0 ≤ l[i].f0) := by omega
      simp [h1, h2]
    · by_cases h2 : l[i].f0 ≥ 10
      · have h3 : ¬ (l[i].f0 ≤ 9) := by omega
        simp [h1, h2, h3]
      · have h3 : l[i].f0 ≤ 9 := by omega
        have h4 : 0 ≤ l[i].f0 := by omega
        simp [h1, h2, h3, h4]
theorem specOrder_val (l : List S70) (hl : l.length ≤ 1048576) : spec_OrderValid.v l = some (l.all okStep && decide (l.length ≤ 12)) := by
  rw [spec_OrderValid.v_eq]
  exact specOrder_loop l hl l.length 0 (by omega)
theorem implOrder_val (l : List S70) (hl : l.length ≤ 1048576) : impl_OrderValid.v l = some (l.all okStep && decide (l.length ≤ 12)) := by
  rw [impl_OrderValid.v_eq]
  by_cases h : (l.length : Int) > 12
  · rw [if_pos h]
    have h2 : ¬ (l.length ≤ 12) := by omega
    simp [h2]
  · rw [if_neg h]
    have h2 : l.length ≤ 12 := by omega
    have := implOrder_loop l hl l.length 0 (by omega)
    simp only [List.drop_zero] at this
    simpa [h2] using this

end Go.Proofs.YtoajkfhjgnonjaaDoor.Pure
