/- What NetValid and StateValid answer, in the program and in the reference. -/
import Derived.Test.YtgoiihfojhpcmaaRx3
import Derived.Test.YtgoiihfojhpcmaaRx5
import Derived.Test.YtgoiihfojhpcmaaVR3
import Derived.Test.YtgoiihfojhpcmaaVR5
import Derived.Test.YtgoiihfojhpcmaaNum
namespace Go.Proofs.Ytgoiihfojhpcmaa.Pure
open Go.RowKit Go.Proofs.Ytgoiihfojhpcmaa.R Go.Proofs.YtgoiihfojhpcmaaW.PrintWords Go.Proofs.YtgoiihfojhpcmaaW.PrintLast Go.Proofs.Ytgoiihfojhpcmaa.Op
set_option linter.unusedVariables false
set_option linter.unusedSimpArgs false
theorem rd_Line_nat (xs : List S139) (i : Nat) (h : i < xs.length) : rd_T139 xs (i : Int) = xs[i] := by
  simp [rd_T139, List.getD_eq_getElem?_getD, List.getElem?_eq_getElem h]
/-- A line between two buses that there are. -/
def okLine (n : Int) (x : S139) : Bool := decide (0 ≤ x.f0) && (decide (x.f0 < n) && (decide (0 ≤ x.f1) && (decide (x.f1 < n) && (decide (x.f0 ≠ x.f1) && (decide (1 ≤ x.f2) && decide (x.f2 ≤ 999))))))
def netOk (n : Int) (l : List S139) : Bool := decide (1 ≤ n) && (decide (n ≤ 8) && (decide (l.length ≤ 10) && l.all (okLine n)))
def stateOk (n : Int) (l : List S139) (on : List Bool) : Bool := netOk n l && decide (on.length = l.length)
theorem impl_bus (n : Int) (l : List S139) (b : Int) : impl_Net_hasBus.f n l b = some (decide (0 ≤ b ∧ b < n)) := by
  unfold impl_Net_hasBus.f
  by_cases c : b ≥ 0
  · have c2 : 0 ≤ b := c
    rw [if_pos c]
    simp [c2]
  · have c2 : ¬ 0 ≤ b := c
    rw [if_neg c]
    simp [c2]
theorem spec_in (a b c : Int) : spec_l1In.f a b c = some (decide (b ≤ a ∧ a ≤ c)) := by
  unfold spec_l1In.f
  by_cases h : a ≥ b
  · have h2 : b ≤ a := h
    rw [if_pos h]
    simp [h2]
  · have h2 : ¬ b ≤ a := h
    rw [if_neg h]
    simp [h2]
theorem impl_lns (n : Int) (l : List S139) (hl : l.length ≤ 1048576) (d : Nat) : ∀ i : Nat, i + d = l.length → impl_NetValid.vl0 l (l.length : Int) (i : Int) n l = some ((l.drop i).all (okLine n)) := by
  induction d with
  | zero =>
    intro i hi
    rw [impl_NetValid.vl0_eq, if_neg (by omega), List.drop_of_length_le (by omega)]
    simp
  | succ d ih =>
    intro i hi
    rw [impl_NetValid.vl0_eq, if_pos (by omega), if_pos (by omega), if_pos (by omega), rd_Line_nat l i (by omega), List.drop_eq_getElem_cons (show i < l.length by omega), w64 (by omega), show ((i : Int) + 1) = ((i + 1 : Nat) : Int) by omega, ih (i + 1) (by omega), impl_bus, Option.bind_some]
    simp only [List.all_cons, okLine]
    by_cases c1 : 0 ≤ l[i].f0 ∧ l[i].f0 < n
    case neg =>
      rw [if_neg (by simpa using c1)]
      by_cases d1 : 0 ≤ l[i].f0
      · have d2 : ¬ l[i].f0 < n := fun h => c1 ⟨d1, h⟩
        simp [d1, d2]
      · simp [d1]
    rw [if_pos (by simpa using c1), impl_bus, Option.bind_some]
    by_cases c2 : 0 ≤ l[i].f1 ∧ l[i].f1 < n
    case neg =>
      rw [if_neg (by simpa using c2)]
      by_cases d1 : 0 ≤ l[i].f1
      · have d2 : ¬ l[i].f1 < n := fun h => c2 ⟨d1, h⟩
        simp [c1.1, c1.2, d1, d2]
      · simp [c1.1, c1.2, d1]
    rw [if_pos (by simpa using c2)]
    by_cases c3 : l[i].f0 = l[i].f1
    · rw [if_pos c3]
      simp [c3]
    rw [if_neg c3]
    by_cases c4 : l[i].f2 < 1
    · have d1 : ¬ 1 ≤ l[i].f2 := by omega
      rw [if_pos c4]
      simp [d1]
    have d4 : 1 ≤ l[i].f2 := by omega
    rw [if_neg c4]
    by_cases c5 : l[i].f2 > 999
    · have d1 : ¬ l[i].f2 ≤ 999 := by omega
      rw [if_pos c5]
      simp [d1]
    have d5 : l[i].f2 ≤ 999 := by omega
    rw [if_neg c5]
    simp [c1.1, c1.2, c2.1, c2.2, c3, d4, d5]
theorem spec_lns (n : Int) (hn : 1 ≤ n ∧ n ≤ 8) (l : List S139) (hl : l.length ≤ 1048576) (d : Nat) : ∀ i : Nat, i + d = l.length → spec_NetValid.vl0 (i : Int) n l = some ((l.drop i).all (okLine n)) := by
  induction d with
  | zero =>
    intro i hi
    rw [spec_NetValid.vl0_eq, if_neg (by omega), List.drop_of_length_le (by omega)]
    simp
  | succ d ih =>
    intro i hi
    rw [spec_NetValid.vl0_eq, if_pos (by omega), if_pos (by omega), rd_Line_nat l i (by omega), List.drop_eq_getElem_cons (show i < l.length by omega), w64 (n := (i : Int) + 1) (by omega), w64 (n := n - 1) (by omega), show ((i : Int) + 1) = ((i + 1 : Nat) : Int) by omega, ih (i + 1) (by omega), spec_in, Option.bind_some]
    simp only [List.all_cons, okLine]
    by_cases c1 : 0 ≤ l[i].f0 ∧ l[i].f0 ≤ n - 1
    case neg =>
      rw [if_neg (by simpa using c1)]
      by_cases d1 : 0 ≤ l[i].f0
      · have d2 : ¬ l[i].f0 < n := fun h => c1 ⟨d1, by omega⟩
        simp [d1, d2]
      · simp [d1]
    have e1 : l[i].f0 < n := by omega
    rw [if_pos (by simpa using c1), spec_in, Option.bind_some]
    by_cases c2 : 0 ≤ l[i].f1 ∧ l[i].f1 ≤ n - 1
    case neg =>
      rw [if_neg (by simpa using c2)]
      by_cases d1 : 0 ≤ l[i].f1
      · have d2 : ¬ l[i].f1 < n := fun h => c2 ⟨d1, by omega⟩
        simp [c1.1, e1, d1, d2]
      · simp [c1.1, e1, d1]
    have e2 : l[i].f1 < n := by omega
    rw [if_pos (by simpa using c2)]
    by_cases c3 : l[i].f0 = l[i].f1
    · rw [if_pos c3]
      simp [c3]
    rw [if_neg c3, spec_in, Option.bind_some]
    by_cases c4 : 1 ≤ l[i].f2 ∧ l[i].f2 ≤ 999
    case neg =>
      rw [if_neg (by simpa using c4)]
      by_cases d1 : 1 ≤ l[i].f2
      · have d2 : ¬ l[i].f2 ≤ 999 := fun h => c4 ⟨d1, h⟩
        simp [d1, d2]
      · simp [d1]
    rw [if_pos (by simpa using c4)]
    simp [c1.1, e1, c2.1, e2, c3, c4.1, c4.2]
theorem implNet (n : Int) (l : List S139) (hl : l.length ≤ 1048576) : impl_NetValid.v n l = some (netOk n l) := by
  rw [impl_NetValid.v_eq]
  unfold netOk
  by_cases c1 : n < 1
  · have d1 : ¬ 1 ≤ n := by omega
    rw [if_pos c1, impl_NetValid.vj0_eq]
    simp [d1]
  have d1 : 1 ≤ n := by omega
  by_cases c2 : n > 8
  · have d2 : ¬ n ≤ 8 := by omega
    rw [if_neg c1, if_pos c2, impl_NetValid.vj0_eq]
    simp [d2]
  have d2 : n ≤ 8 := by omega
  rw [if_neg c1, if_neg c2, impl_NetValid.vj0_eq]
  by_cases c3 : (l.length : Int) > 10
  · have d3 : ¬ l.length ≤ 10 := by omega
    simp [c3, d3]
  have d3 : l.length ≤ 10 := by omega
  have := impl_lns n l hl l.length 0 (by omega)
  simp only [List.drop_zero] at this
  rw [show ((0 : Nat) : Int) = 0 from rfl] at this
  simp only [c3, decide_false, Bool.false_eq_true, if_false, d1, d2, d3, decide_true, Bool.true_and]
  exact this
theorem specNet (n : Int) (l : List S139) (hl : l.length ≤ 1048576) : spec_NetValid.v n l = some (netOk n l) := by
  rw [spec_NetValid.v_eq, spec_in, Option.bind_some]
  unfold netOk
  by_cases c1 : 1 ≤ n ∧ n ≤ 8
  case neg =>
    rw [if_neg (by simpa using c1), spec_NetValid.vj0_eq]
    by_cases d1 : 1 ≤ n
    · have d2 : ¬ n ≤ 8 := fun h => c1 ⟨d1, h⟩
      simp [d2]
    · simp [d1]
  rw [if_pos (by simpa using c1), spec_NetValid.vj0_eq]
  by_cases c3 : (l.length : Int) > 10
  · have d3 : ¬ l.length ≤ 10 := by omega
    simp [c3, d3]
  have d3 : l.length ≤ 10 := by omega
  have := spec_lns n c1 l hl l.length 0 (by omega)
  simp only [List.drop_zero] at this
  rw [show ((0 : Nat) : Int) = 0 from rfl] at this
  simp only [c3, decide_false, Bool.false_eq_true, if_false, c1.1, c1.2, d3, decide_true, Bool.true_and]
  exact this
theorem implState (n : Int) (l : List S139) (on : List Bool) (hl : l.length ≤ 1048576) : impl_StateValid.v n l on = some (stateOk n l on) := by
  rw [impl_StateValid.v_eq, implNet n l hl, Option.bind_some]
  unfold stateOk
  by_cases c : netOk n l = true
  · rw [if_pos c, c]
    by_cases e : on.length = l.length
    · simp [e]
    · have e2 : ¬ ((on.length : Int) = (l.length : Int)) := by omega
      simp [e, e2]
  · rw [if_neg c, Bool.eq_false_iff.mpr c]
    rfl
theorem specState (n : Int) (l : List S139) (on : List Bool) (hl : l.length ≤ 1048576) : spec_StateValid.v n l on = some (stateOk n l on) := by
  rw [spec_StateValid.v_eq, specNet n l hl, Option.bind_some]
  unfold stateOk
  by_cases c : netOk n l = true
  · rw [if_pos c, c]
    by_cases e : on.length = l.length
    · simp [e]
    · have e2 : ¬ ((on.length : Int) = (l.length : Int)) := by omega
      simp [e, e2]
  · rw [if_neg c, Bool.eq_false_iff.mpr c]
    rfl
end Go.Proofs.Ytgoiihfojhpcmaa.Pure
