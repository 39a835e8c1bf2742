/- What WorkValid answers, in the program and in the reference. -/
import Derived.Test.YtgoiihfojhpcmaaV5
import Derived.Test.YtgoiihfojhpcmaaV6
import Derived.Test.YtgoiihfojhpcmaaV7
import Derived.Test.YtgoiihfojhpcmaaV8
import Derived.Test.YtgoiihfojhpcmaaNum
namespace Go.Proofs.Ytgoiihfojhpcmaa.Pure
open Go.RowKit Go.Proofs.Ytgoiihfojhpcmaa.G Go.Proofs.YtgoiihfojhpcmaaW.PrintWords Go.Proofs.YtgoiihfojhpcmaaW.PrintLast Go.Proofs.Ytgoiihfojhpcmaa.Op
set_option linter.unusedVariables false
set_option linter.unusedSimpArgs false
theorem rd_Permit_nat (xs : List S112) (i : Nat) (h : i < xs.length) : rd_T112 xs (i : Int) = xs[i] := by
  simp [rd_T112, List.getD_eq_getElem?_getD, List.getElem?_eq_getElem h]
/-- Two permits are equal. -/
def eqP (w a : Int) (q : S112) : Bool := decide (q.f0 = w) && decide (q.f1 = a)
def okPermit (n : Nat) (earth : List Bool) (p : S112) : Bool := decide (0 ≤ p.f0) && (decide (p.f0 ≤ 9) && (decide (0 ≤ p.f1) && (decide (p.f1 < n) && rdOf false earth p.f1)))
def permitsOk (n : Nat) (earth : List Bool) : List S112 → List S112 → Bool
  | _, [] => true
  | seen, p :: l => okPermit n earth p && (!(seen.any (eqP p.f0 p.f1)) && permitsOk n earth (seen ++ [p]) l)
def linesOk : List Bool → List Bool → Bool
  | o :: on, e :: earth => !(o && e) && linesOk on earth
  | _, _ => true
def workOk (on earth : List Bool) (ps : List S112) : Bool := decide (1 ≤ on.length) && (decide (on.length ≤ 10) && (decide (earth.length = on.length) && (decide (ps.length ≤ 6) && (linesOk on earth && permitsOk on.length earth [] ps))))
theorem impl_find (l : List S112) (w a : Int) (hl : l.length ≤ 1048576) (d : Nat) : ∀ i : Nat, i + d = l.length → ∃ r, impl_Permit_112.vl0 l (l.length : Int) (i : Int) w a = some r ∧ decide (r ≥ 0) = (l.drop i).any (eqP w a) := by
  induction d with
  | zero =>
    intro i hi
    rw [impl_Permit_112.vl0_eq, if_neg (by omega), List.drop_of_length_le (by omega)]
    exact ⟨-1, rfl, by simp⟩
  | succ d ih =>
    intro i hi
    rw [impl_Permit_112.vl0_eq, if_pos (by omega), if_pos (by omega), if_pos (by omega), rd_Permit_nat l i (by omega), List.drop_eq_getElem_cons (show i < l.length by omega), w64 (by omega), show ((i : Int) + 1) = ((i + 1 : Nat) : Int) by omega]
    obtain ⟨r, h1, h2⟩ := ih (i + 1) (by omega)
    by_cases c : (w == l[i].f0 && (a == l[i].f1)) = true
    · rw [if_pos c]
      refine ⟨_, rfl, ?_⟩
      simp only [Bool.and_eq_true, beq_iff_eq] at c
      have q : eqP w a l[i] = true := by simp [eqP, c.1, c.2]
      rw [List.any_cons, q, Bool.true_or]
      exact decide_eq_true (by omega)
    · rw [if_neg c, h1]
      refine ⟨_, rfl, ?_⟩
      have c2 : eqP w a l[i] = false := by
        cases q : eqP w a l[i] with
        | false => rfl
        | true =>
          simp only [eqP, Bool.and_eq_true, decide_eq_true_eq] at q
          exact absurd (by simp [q.1, q.2]) c
      rw [h2, List.any_cons, c2, Bool.false_or]
theorem impl_has (l : List S112) (w a : Int) (hl : l.length ≤ 1048576) : impl_Permit_80.v l w a = some (l.any (eqP w a)) := by
  obtain ⟨r, h1, h2⟩ := impl_find l w a hl l.length 0 (by omega)
  rw [impl_Permit_80.v_eq, impl_Permit_112.v_eq]
  rw [show ((0 : Nat) : Int) = 0 from rfl] at h1
  rw [h1, Option.bind_some, h2, List.drop_zero]
theorem spec_find (l : List S112) (k : Nat) (hk : k < l.length) (hl : l.length ≤ 1048576) (d : Nat) : ∀ i : Nat, i + d = k → ∃ r, spec_l12Find.vl0 l (i : Int) l[k].f0 l[k].f1 = some r ∧ decide (r < (k : Int)) = ((l.take k).drop i).any (eqP l[k].f0 l[k].f1) := by
  induction d with
  | zero =>
    intro i hi
    obtain rfl : i = k := by omega
    rw [spec_l12Find.vl0_eq, if_pos (by omega), if_pos (by omega), rd_Permit_nat l i hk, if_pos (by simp)]
    refine ⟨_, rfl, ?_⟩
    rw [List.drop_of_length_le (by simp; omega)]
    simp
  | succ d ih =>
    intro i hi
    rw [spec_l12Find.vl0_eq, if_pos (by omega), if_pos (by omega), rd_Permit_nat l i (by omega), List.drop_eq_getElem_cons (show i < (l.take k).length by simp; omega), w64 (by omega), show ((i : Int) + 1) = ((i + 1 : Nat) : Int) by omega]
    obtain ⟨r, h1, h2⟩ := ih (i + 1) (by omega)
    by_cases c : (l[i].f0 == l[k].f0 && (l[i].f1 == l[k].f1)) = true
    · rw [if_pos c]
      refine ⟨_, rfl, ?_⟩
      simp only [Bool.and_eq_true, beq_iff_eq] at c
      have q : eqP l[k].f0 l[k].f1 l[i] = true := by simp [eqP, c.1, c.2]
      rw [List.any_cons, List.getElem_take, q, Bool.true_or]
      exact decide_eq_true (by omega)
    · rw [if_neg c, h1]
      refine ⟨_, rfl, ?_⟩
      have c2 : eqP l[k].f0 l[k].f1 l[i] = false := by
        cases q : eqP l[k].f0 l[k].f1 l[i] with
        | false => rfl
        | true =>
          simp only [eqP, Bool.and_eq_true, decide_eq_true_eq] at q
          exact absurd (by simp [q.1, q.2]) c
      rw [h2, List.any_cons, List.getElem_take, c2, Bool.false_or]
theorem spec_has (l : List S112) (k : Nat) (hk : k < l.length) (hl : l.length ≤ 1048576) : ∃ r, spec_l12Find.v l l[k].f0 l[k].f1 = some r ∧ decide (r < (k : Int)) = (l.take k).any (eqP l[k].f0 l[k].f1) := by
  rw [spec_l12Find.v_eq]
  have := spec_find l k hk hl k 0 (by omega)
  simpa using this
theorem impl_permits (on earth : List Bool) (l : List S112) (hl : l.length ≤ 1048576) (he : earth.length = on.length) (d : Nat) : ∀ i : Nat, i + d = l.length → impl_WorkValid.vl1 l (l.length : Int) (i : Int) on earth l = some (permitsOk on.length earth (l.take i) (l.drop i)) := by
  induction d with
  | zero =>
    intro i hi
    rw [impl_WorkValid.vl1_eq, if_neg (by omega), List.drop_of_length_le (by omega)]
    simp [permitsOk]
  | succ d ih =>
    intro i hi
    rw [impl_WorkValid.vl1_eq, if_pos (by omega), if_pos (by omega), if_pos (by omega), rd_Permit_nat l i (by omega), List.drop_eq_getElem_cons (show i < l.length by omega), w64 (by omega), show ((i : Int) + 1) = ((i + 1 : Nat) : Int) by omega, ih (i + 1) (by omega)]
    have e2 : l.take i ++ [l[i]] = l.take (i + 1) := by rw [List.take_succ_eq_append_getElem (by omega)]
    simp only [permitsOk, okPermit]
    rw [e2]
    by_cases c1 : l[i].f0 < 0
    · have : ¬ (0 ≤ l[i].f0) := by omega
      simp [c1, this]
    have d1 : 0 ≤ l[i].f0 := by omega
    by_cases c2 : l[i].f0 > 9
    · have : ¬ (l[i].f0 ≤ 9) := by omega
      simp [c1, c2, this]
    have d2 : l[i].f0 ≤ 9 := by omega
    by_cases c3 : l[i].f1 < 0
    · have : ¬ (0 ≤ l[i].f1) := by omega
      simp [c1, c2, c3, this]
    have d3 : 0 ≤ l[i].f1 := by omega
    by_cases c4 : l[i].f1 ≥ (on.length : Int)
    · have : ¬ (l[i].f1 < (on.length : Int)) := by omega
      simp [c1, c2, c3, c4, this]
    have d4 : l[i].f1 < (on.length : Int) := by omega
    have d5 : l[i].f1 < (earth.length : Int) := by omega
    rw [if_neg c1, if_neg c2, if_neg c3, if_neg c4, if_pos d3, if_pos d5, if_pos (show (i : Int) ≤ (l.length : Int) by omega), Int.toNat_natCast, impl_has _ _ _ (by simp; omega)]
    simp only [d1, d2, d3, d4, decide_true, Bool.true_and]
    rw [Option.bind_some]
    by_cases g : rdOf false earth l[i].f1 = true
    · rw [if_pos g, g]
      by_cases g2 : (l.take i).any (eqP l[i].f0 l[i].f1) = true
      · rw [if_pos g2, g2]
        rfl
      · rw [if_neg g2, Bool.eq_false_iff.mpr g2]
        rfl
    · rw [if_neg g, Bool.eq_false_iff.mpr g]
      rfl
theorem spec_permits (on earth : List Bool) (l : List S112) (hl : l.length ≤ 1048576) (ho : on.length ≤ 1048576) (he : earth.length = on.length) (d : Nat) : ∀ i : Nat, i + d = l.length → spec_WorkValid.vl1 (i : Int) on earth l = some (permitsOk on.length earth (l.take i) (l.drop i)) := by
  induction d with
  | zero =>
    intro i hi
    rw [spec_WorkValid.vl1_eq, if_neg (by omega), List.drop_of_length_le (by omega)]
    simp [permitsOk]
  | succ d ih =>
    intro i hi
    rw [spec_WorkValid.vl1_eq, if_pos (by omega), if_pos (by omega), rd_Permit_nat l i (by omega), List.drop_eq_getElem_cons (show i < l.length by omega), w64 (n := (i : Int) + 1) (by omega), w64 (n := (on.length : Int) - 1) (by omega), show ((i : Int) + 1) = ((i + 1 : Nat) : Int) by omega, ih (i + 1) (by omega)]
    have e2 : l.take i ++ [l[i]] = l.take (i + 1) := by rw [List.take_succ_eq_append_getElem (by omega)]
    simp only [permitsOk, okPermit, spec_l1In.f]
    rw [e2]
    by_cases d1 : 0 ≤ l[i].f0
    case neg => simp [d1]
    by_cases d2 : l[i].f0 ≤ 9
    case neg => simp [d1, d2]
    by_cases d3 : 0 ≤ l[i].f1
    case neg => simp [d1, d2, d3]
    by_cases d4 : l[i].f1 < (on.length : Int)
    case neg =>
      have : ¬ (l[i].f1 ≤ (on.length : Int) - 1) := by omega
      simp [d1, d2, d3, d4, this]
    have d6 : l[i].f1 ≤ (on.length : Int) - 1 := by omega
    have d5 : l[i].f1 < (earth.length : Int) := by omega
    obtain ⟨r, h1, h2⟩ := spec_has l i (by omega) hl
    rw [if_pos (show l[i].f0 ≥ 0 by omega), if_pos (show l[i].f1 ≥ 0 by omega)]
    simp only [d1, d2, d3, d4, d6, decide_true, Bool.true_and, Option.bind_some, if_true, h1]
    rw [if_pos d5, ← h2]
    by_cases g : rdOf false earth l[i].f1 = true
    · rw [if_pos g, g]
      by_cases c : r < (i : Int) <;> simp [c]
    · rw [if_neg g, Bool.eq_false_iff.mpr g]
      rfl
theorem impl_lines (on earth : List Bool) (l : List S112) (hl : l.length ≤ 1048576) (ho : on.length ≤ 1048576) (he : earth.length = on.length) (d : Nat) : ∀ i : Nat, i + d = on.length → impl_WorkValid.vl0 (on.length : Int) (i : Int) on earth l = some (linesOk (on.drop i) (earth.drop i) && permitsOk on.length earth [] l) := by
  induction d with
  | zero =>
    intro i hi
    have := impl_permits on earth l hl he l.length 0 (by omega)
    rw [impl_WorkValid.vl0_eq, if_neg (by omega), List.drop_of_length_le (show on.length ≤ i by omega)]
    simpa [linesOk] using this
  | succ d ih =>
    intro i hi
    rw [impl_WorkValid.vl0_eq, if_pos (by omega), if_pos (by omega), if_pos (by omega), if_pos (show (i : Int) < (earth.length : Int) by omega), rdOf_nat false on i (by omega), rdOf_nat false earth i (by omega), List.drop_eq_getElem_cons (show i < on.length by omega), List.drop_eq_getElem_cons (show i < earth.length by omega), w64 (by omega), show ((i : Int) + 1) = ((i + 1 : Nat) : Int) by omega, ih (i + 1) (by omega)]
    simp only [linesOk]
    cases on[i] <;> cases earth[i] <;> simp
theorem spec_lines (on earth : List Bool) (l : List S112) (hl : l.length ≤ 1048576) (ho : on.length ≤ 1048576) (he : earth.length = on.length) (d : Nat) : ∀ i : Nat, i + d = on.length → spec_WorkValid.vl0 (i : Int) on earth l = some (linesOk (on.drop i) (earth.drop i) && permitsOk on.length earth [] l) := by
  induction d with
  | zero =>
    intro i hi
    have := spec_permits on earth l hl ho he l.length 0 (by omega)
    rw [spec_WorkValid.vl0_eq, if_neg (by omega), List.drop_of_length_le (show on.length ≤ i by omega)]
    simpa [linesOk] using this
  | succ d ih =>
    intro i hi
    rw [spec_WorkValid.vl0_eq, if_pos (by omega), if_pos (by omega), if_pos (show (i : Int) < (earth.length : Int) by omega), rdOf_nat false on i (by omega), rdOf_nat false earth i (by omega), List.drop_eq_getElem_cons (show i < on.length by omega), List.drop_eq_getElem_cons (show i < earth.length by omega), w64 (by omega), show ((i : Int) + 1) = ((i + 1 : Nat) : Int) by omega, ih (i + 1) (by omega)]
    simp only [linesOk]
    cases on[i] <;> cases earth[i] <;> simp
theorem implWork (on earth : List Bool) (l : List S112) (hl : l.length ≤ 1048576) (ho : on.length ≤ 1048576) : impl_WorkValid.v on earth l = some (workOk on earth l) := by
  rw [impl_WorkValid.v_eq]
  unfold workOk
  by_cases c1 : (on.length : Int) < 1
  · have : ¬ (1 ≤ on.length) := by omega
    rw [if_pos c1, impl_WorkValid.vj0_eq]
    simp [this]
  have d1 : 1 ≤ on.length := by omega
  by_cases c2 : (on.length : Int) > 10
  · have : ¬ (on.length ≤ 10) := by omega
    rw [if_neg c1, if_pos c2, impl_WorkValid.vj0_eq]
    simp [this]
  have d2 : on.length ≤ 10 := by omega
  rw [if_neg c1, if_neg c2]
  by_cases c3 : (earth.length : Int) = (on.length : Int)
  case neg =>
    have : ¬ (earth.length = on.length) := by omega
    rw [if_neg c3, impl_WorkValid.vj0_eq]
    simp [this]
  have d3 : earth.length = on.length := by omega
  rw [if_pos c3, impl_WorkValid.vj0_eq]
  by_cases c4 : (l.length : Int) > 6
  · have : ¬ (l.length ≤ 6) := by omega
    simp [c4, this]
  have d4 : l.length ≤ 6 := by omega
  have := impl_lines on earth l hl ho d3 on.length 0 (by omega)
  simp only [List.drop_zero] at this
  rw [show ((0 : Nat) : Int) = 0 from rfl] at this
  simp only [c4, decide_false, Bool.false_eq_true, if_false, d1, d2, d3, d4, decide_true, Bool.true_and]
  exact this
theorem specWork (on earth : List Bool) (l : List S112) (hl : l.length ≤ 1048576) (ho : on.length ≤ 1048576) : spec_WorkValid.v on earth l = some (workOk on earth l) := by
  rw [spec_WorkValid.v_eq]
  unfold workOk spec_l1In.f
  by_cases c1 : (on.length : Int) ≥ 1
  case neg =>
    have : ¬ (1 ≤ on.length) := by omega
    rw [if_neg c1, Option.bind_some, if_neg (by simp), spec_WorkValid.vj0_eq]
    simp [this]
  have d1 : 1 ≤ on.length := by omega
  rw [if_pos c1, Option.bind_some]
  by_cases c2 : (on.length : Int) ≤ 10
  case neg =>
    have : ¬ (on.length ≤ 10) := by omega
    rw [if_neg (by simpa using c2), spec_WorkValid.vj0_eq]
    simp [this]
  have d2 : on.length ≤ 10 := by omega
  rw [if_pos (by simpa using c2)]
  by_cases c3 : (on.length : Int) = (earth.length : Int)
  case neg =>
    have : ¬ (earth.length = on.length) := by omega
    rw [if_neg c3, spec_WorkValid.vj0_eq]
    simp [this]
  have d3 : earth.length = on.length := by omega
  rw [if_pos c3, spec_WorkValid.vj0_eq]
  by_cases c4 : (l.length : Int) > 6
  · have : ¬ (l.length ≤ 6) := by omega
    simp [c4, this]
  have d4 : l.length ≤ 6 := by omega
  have := spec_lines on earth l hl ho d3 on.length 0 (by omega)
  simp only [List.drop_zero] at this
  rw [show ((0 : Nat) : Int) = 0 from rfl] at this
  simp only [c4, decide_false, Bool.false_eq_true, if_false, d1, d2, d3, d4, decide_true, Bool.true_and]
  exact this
end Go.Proofs.Ytgoiihfojhpcmaa.Pure
