/- What BarsValid answers, in the program and in the reference. -/
import Derived.Test.YtoajkfhjgnonjaaDoorV6
import Derived.Test.YtoajkfhjgnonjaaDoorNum
namespace Go.Proofs.YtoajkfhjgnonjaaDoor.Pure
open Go.RowKit Go.Proofs.YtoajkfhjgnonjaaDoor.G Go.Proofs.YtoajkfhjgnonjaaDoorW.PrintWords Go.Proofs.YtoajkfhjgnonjaaDoorW.PrintLast Go.Proofs.YtoajkfhjgnonjaaDoor.Op
set_option linter.unusedVariables false
set_option linter.unusedSimpArgs false
def okBar (c : Bool) (s : Int) : Bool := decide (1 ≤ s) && decide (s ≤ 3) && (decide (s ≠ 3) || c)
theorem specBars_loop (l : List Int) (c : Bool) (hl : l.length ≤ 1048576) (d : Nat) : ∀ i : Nat, i + d = l.length → spec_BarsValid.vl0 (i : Int) l c = some ((l.drop i).all (okBar c) && decide (1 ≤ l.length) && decide (l.length ≤ 6)) := by
  induction d with
  | zero =>
    intro i hi
    rw [spec_BarsValid.vl0_eq, if_neg (by omega), List.drop_of_length_le (by omega)]
    simp only [spec_l1In.f]
    by_cases h1 : (l.length : Int) ≥ 1
    · have h2 : 1 ≤ l.length := by omega
      rw [if_pos h1]
      simp [h2]
      omega
    · have h2 : ¬ 1 ≤ l.length := by omega
      rw [if_neg h1]
      simp [h2]
  | succ d ih =>
    intro i hi
    have e : ((i : Int) + 1) = ((i + 1 : Nat) : Int) := by omega
    rw [spec_BarsValid.vl0_eq, if_pos (by omega), if_pos (by omega), rd_nat l i (by omega), List.drop_eq_getElem_cons (show i < l.length by omega), w64 (by omega), e, ih (i + 1) (by omega)]
    simp only [spec_l1In.f, List.all_cons, okBar]
    by_cases h1 : 1 ≤ l[i] <;> by_cases h2 : l[i] ≤ 3 <;> by_cases h3 : l[i] = 3 <;> cases c <;> simp [h1, h2, h3]
theorem implBars_loop (l : List Int) (c : Bool) (hl : l.length ≤ 1048576) (d : Nat) : ∀ i : Nat, i + d = l.length → impl_BarsValid.vl0 l (l.length : Int) (i : Int) l c = some ((l.drop i).all (okBar c)) := by
  induction d with
  | zero =>
    intro i hi
    rw [impl_BarsValid.vl0_eq, if_neg (by omega), List.drop_of_length_le (by omega)]
    simp
  | succ d ih =>
    intro i hi
    have e : ((i : Int) + 1) = ((i + 1 : Nat) : Int) := by omega
    rw [impl_BarsValid.vl0_eq, if_pos (by omega), if_pos (by omega), if_pos (by omega), rd_nat l i (by omega), List.drop_eq_getElem_cons (show i < l.length by omega), w64 (by omega), e, ih (i + 1) (by omega)]
    simp only [List.all_cons, okBar]
    by_cases h1 : l[i] < 1
    · have h2 : ¬ (1 ≤ l[i]) := by omega
      simp [h1, h2]
    · by_cases h2 : l[i] > 3
      · have h3 : ¬ (l[i] ≤ 3) := by omega
        simp [h1, h2, h3]
      · have h3 : l[i] ≤ 3 := by omega
        have h4 : 1 ≤ l[i] := by omega
        by_cases h5 : l[i] = 3 <;> cases c <;> simp [h1, h2, h3, h4, h5]
theorem specBars_val (l : List Int) (c : Bool) (hl : l.length ≤ 1048576) : spec_BarsValid.v l c = some (l.all (okBar c) && decide (1 ≤ l.length) && decide (l.length ≤ 6)) := by
  rw [spec_BarsValid.v_eq]
  exact specBars_loop l c hl l.length 0 (by omega)
theorem implBars_val (l : List Int) (c : Bool) (hl : l.length ≤ 1048576) : impl_BarsValid.v l c = some (l.all (okBar c) && decide (1 ≤ l.length) && decide (l.length ≤ 6)) := by
  rw [impl_BarsValid.v_eq]
  by_cases h : (l.length : Int) < 1
  · have h2 : ¬ (1 ≤ l.length) := by omega
    rw [if_pos h, impl_BarsValid.vj0_eq]
    simp [h2]
  · rw [if_neg h, impl_BarsValid.vj0_eq]
    have h2 : 1 ≤ l.length := by omega
    by_cases h3 : (l.length : Int) > 6
    · have h4 : ¬ (l.length ≤ 6) := by omega
      simp [h3, h4]
    · have h4 : l.length ≤ 6 := by omega
      have := implBars_loop l c hl l.length 0 (by omega)
      simp only [List.drop_zero] at this
      simp only [h3, decide_false, Bool.false_eq_true, if_false, h4, h2, decide_true, Bool.and_true]
      exact this

end Go.Proofs.YtoajkfhjgnonjaaDoor.Pure
