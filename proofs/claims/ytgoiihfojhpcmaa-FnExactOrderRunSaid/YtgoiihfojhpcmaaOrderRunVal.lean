/- What a list of steps does to a state: the program's and the reference's answers are one. -/
import Derived.Test.YtgoiihfojhpcmaaRx3
import Derived.Test.YtgoiihfojhpcmaaRx5
import Derived.Test.YtgoiihfojhpcmaaVR4
import Derived.Test.YtgoiihfojhpcmaaVR6
import Derived.Test.YtgoiihfojhpcmaaNetVal
import Derived.Test.YtgoiihfojhpcmaaOrderVal
namespace Go.Proofs.Ytgoiihfojhpcmaa.Pure
open Go.RowKit Go.Proofs.Ytgoiihfojhpcmaa.R Go.Proofs.YtgoiihfojhpcmaaW.PrintWords Go.Proofs.YtgoiihfojhpcmaaW.PrintLast Go.Proofs.Ytgoiihfojhpcmaa.Op
set_option linter.unusedVariables false
set_option linter.unusedSimpArgs false
/-- A step can be done: there is the line, and it is not yet so. -/
def canDo (x : List Bool) (s : S98) : Bool := decide (s.f0 < x.length) && (rdOf false x s.f0 != s.f1)
def runO : List Bool → List S98 → List Bool × Nat
  | x, [] => (x, 0)
  | x, s :: l => if canDo x s = true then ((runO (x.set s.f0.toNat s.f1) l).1, (runO (x.set s.f0.toNat s.f1) l).2 + 1) else (x, 0)
theorem runO_len (l : List S98) : ∀ x, (runO x l).1.length = x.length := by
  induction l with
  | nil => intro x; rfl
  | cons s l ih =>
    intro x
    simp only [runO]
    split
    · rw [ih, List.length_set]
    · rfl
theorem has_line (n : Int) (l : List S139) (k : Int) : impl_Net_hasLine.f n l k = some (decide (0 ≤ k ∧ k < l.length)) := by
  unfold impl_Net_hasLine.f
  by_cases c : k ≥ 0
  · have c2 : 0 ≤ k := c
    rw [if_pos c]
    simp [c2]
  · have c2 : ¬ 0 ≤ k := c
    rw [if_neg c]
    simp [c2]
theorem spec_orun (on : List Bool) (l : List S98) (hl : l.length ≤ 1048576) (hv : l.all okStep = true) (d : Nat) : ∀ (i : Nat) (x : List Bool), i + d = l.length → x.length = on.length → spec_OrderRun.vl0 on l x (i : Int) = some ((runO x (l.drop i)).1, ((i + (runO x (l.drop i)).2 : Nat) : Int)) := by
  induction d with
  | zero =>
    intro i x hi hx
    rw [spec_OrderRun.vl0_eq, if_neg (by omega), List.drop_of_length_le (by omega)]
    simp [runO]
    omega
  | succ d ih =>
    intro i x hi hx
    have ok : okStep l[i] = true := List.all_eq_true.1 hv _ (List.getElem_mem _)
    simp only [okStep, Bool.and_eq_true, decide_eq_true_eq] at ok
    rw [spec_OrderRun.vl0_eq, if_pos (by omega), if_pos (by omega), rd_Step_nat l i (by omega), List.drop_eq_getElem_cons (show i < l.length by omega), w64 (by omega), show ((i : Int) + 1) = ((i + 1 : Nat) : Int) by omega, ih (i + 1) _ (by omega) (by rw [List.length_set]; exact hx)]
    simp only [runO]
    by_cases c : l[i].f0 ≥ (on.length : Int)
    · have q : canDo x l[i] = false := by
        have : ¬ l[i].f0 < (x.length : Int) := by omega
        simp [canDo, this]
      rw [if_pos c, q]
      simp
    · have q1 : l[i].f0 < (x.length : Int) := by omega
      rw [if_neg c, if_pos ok.1, if_pos q1]
      by_cases c2 : (rdOf false x l[i].f0 == l[i].f1) = true
      · have q : canDo x l[i] = false := by simp [canDo, bne, c2]
        rw [if_pos c2, q]
        simp
      · have q : canDo x l[i] = true := by simp [canDo, bne, q1, Bool.eq_false_iff.mpr c2]
        rw [if_neg c2, if_pos q]
        simp
        omega
theorem impl_orun (n : Int) (ls : List S139) (l : List S98) (hl : l.length ≤ 1048576) (hv : l.all okStep = true) (d : Nat) : ∀ (i : Nat) (x : List Bool), i + d = l.length → x.length = ls.length → impl_OrderRun.vl0 l x l (l.length : Int) (i : Int) n ls = some ((runO x (l.drop i)).1, ((i + (runO x (l.drop i)).2 : Nat) : Int)) := by
  induction d with
  | zero =>
    intro i x hi hx
    rw [impl_OrderRun.vl0_eq, if_neg (by omega), List.drop_of_length_le (by omega)]
    simp [runO]
    omega
  | succ d ih =>
    intro i x hi hx
    have ok : okStep l[i] = true := List.all_eq_true.1 hv _ (List.getElem_mem _)
    simp only [okStep, Bool.and_eq_true, decide_eq_true_eq] at ok
    rw [impl_OrderRun.vl0_eq, if_pos (by omega), if_pos (by omega), if_pos (by omega), rd_Step_nat l i (by omega), List.drop_eq_getElem_cons (show i < l.length by omega), has_line, Option.bind_some, w64 (by omega), show ((i : Int) + 1) = ((i + 1 : Nat) : Int) by omega, ih (i + 1) _ (by omega) (by rw [List.length_set]; exact hx)]
    simp only [runO]
    by_cases c : 0 ≤ l[i].f0 ∧ l[i].f0 < (ls.length : Int)
    · have q1 : l[i].f0 < (x.length : Int) := by omega
      rw [if_pos (by simpa using c), if_pos ok.1, if_pos q1]
      by_cases c2 : (rdOf false x l[i].f0 == l[i].f1) = true
      · have q : canDo x l[i] = false := by simp [canDo, bne, c2]
        rw [if_pos c2, q]
        simp
      · have q : canDo x l[i] = true := by simp [canDo, bne, q1, Bool.eq_false_iff.mpr c2]
        rw [if_neg c2, if_pos q]
        simp
        omega
    · have q : canDo x l[i] = false := by
        have : ¬ l[i].f0 < (x.length : Int) := by omega
        simp [canDo, this]
      rw [if_neg (by simpa using c), q]
      simp
/-- What OrderRun answers. -/
def orderRun (n : Int) (ls : List S139) (on : List Bool) (l : List S98) : List Bool × Nat := if (stateOk n ls on && (l.all okStep && decide (l.length ≤ 12))) = true then runO on l else ([], 0)
theorem implOrderRun (n : Int) (ls : List S139) (on : List Bool) (l : List S98) (h1 : ls.length ≤ 1048576) (h2 : on.length ≤ 1048576) (h3 : l.length ≤ 1048576) : impl_OrderRun.v n ls on l = some ((orderRun n ls on l).1, ((orderRun n ls on l).2 : Int)) := by
  rw [impl_OrderRun.v_eq, implState n ls on h1, Option.bind_some]
  unfold orderRun
  by_cases c : stateOk n ls on = true
  case neg =>
    rw [if_neg c, impl_OrderRun.vj0_eq, if_pos rfl, Bool.eq_false_iff.mpr c]
    simp
  rw [if_pos c, implOrder_val l h3, Option.bind_some, impl_OrderRun.vj0_eq, c, Bool.true_and]
  by_cases e : (l.all okStep && decide (l.length ≤ 12)) = true
  case neg =>
    rw [Bool.eq_false_iff.mpr e]
    simp
  rw [e]
  have hv : l.all okStep = true := by
    simp only [Bool.and_eq_true] at e
    exact e.1
  have hx : on.length = ls.length := by
    simp only [stateOk, Bool.and_eq_true, decide_eq_true_eq] at c
    exact c.2
  have := impl_orun n ls l h3 hv l.length 0 on (by omega) hx
  rw [if_neg (by simp)]
  simp only [slices_Clone_bool_bool.f, if_true]
  rw [if_pos (by omega), Option.bind_some]
  simpa using this
theorem specOrderRun (n : Int) (ls : List S139) (on : List Bool) (l : List S98) (h1 : ls.length ≤ 1048576) (h2 : on.length ≤ 1048576) (h3 : l.length ≤ 1048576) : spec_OrderRun.v n ls on l = some ((orderRun n ls on l).1, ((orderRun n ls on l).2 : Int)) := by
  rw [spec_OrderRun.v_eq, specState n ls on h1, Option.bind_some]
  unfold orderRun
  by_cases c : stateOk n ls on = true
  case neg =>
    rw [if_neg c, spec_OrderRun.vj0_eq, if_pos rfl, Bool.eq_false_iff.mpr c]
    simp
  rw [if_pos c, specOrder_val l h3, Option.bind_some, spec_OrderRun.vj0_eq, c, Bool.true_and]
  by_cases e : (l.all okStep && decide (l.length ≤ 12)) = true
  case neg =>
    rw [Bool.eq_false_iff.mpr e]
    simp
  rw [e]
  have hv : l.all okStep = true := by
    simp only [Bool.and_eq_true] at e
    exact e.1
  have := spec_orun on l h3 hv l.length 0 on (by omega) rfl
  rw [if_neg (by simp)]
  simp only [spec_l2Copy.f, if_true, Option.bind_some, List.nil_append, List.length_nil]
  rw [if_pos (by omega), Option.bind_some]
  simpa using this
end Go.Proofs.Ytgoiihfojhpcmaa.Pure
