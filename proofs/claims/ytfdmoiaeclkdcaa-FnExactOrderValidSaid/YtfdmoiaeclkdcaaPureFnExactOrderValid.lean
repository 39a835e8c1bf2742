/- The pure statement of FnExactOrderValid: what the printed functions compute answers true. -/
import Derived.Test.YtfdmoiaeclkdcaaPFnExactOrderValidx2
import Derived.Test.YtfdmoiaeclkdcaaCFnExactOrderValid
namespace Go.Proofs.Ytfdmoiaeclkdcaa.Pure
open Go.RowKit Go.Proofs.Ytfdmoiaeclkdcaa.PFnExactOrderValid Go.Proofs.YtfdmoiaeclkdcaaW.PrintWords Go.Proofs.YtfdmoiaeclkdcaaW.PrintLast Go.Proofs.Ytfdmoiaeclkdcaa.Op

def ok (s : S81) : Bool := decide (0 ≤ s.f0) && decide (s.f0 ≤ 9)
theorem spec_loop (l : List S81) (hl : l.length ≤ 1048576) (d : Nat) : ∀ i : Nat, i + d = l.length → spec_OrderValid.vl0 l (i : Int) = some ((l.drop i).all ok && decide (l.length ≤ 12)) := by
  induction d with
  | zero =>
    intro i hi
    rw [spec_OrderValid.vl0_eq, if_neg (by omega), List.drop_of_length_le (by omega)]
    simp
    omega
  | succ d ih =>
    intro i hi
    have e : ((i : Int) + 1) = ((i + 1 : Nat) : Int) := by omega
    rw [spec_OrderValid.vl0_eq, if_pos (by omega), if_pos (by omega), rd_T81_nat l i (by omega), List.drop_eq_getElem_cons (show i < l.length by omega), w64 (by omega), e, ih (i + 1) (by omega)]
    simp only [spec_l1In.f, List.all_cons, ok]
    by_cases h1 : 0 ≤ l[i].f0 <;> by_cases h2 : l[i].f0 ≤ 9 <;> simp [h1, h2]
theorem impl_loop (l : List S81) (hl : l.length ≤ 1048576) (d : Nat) : ∀ i : Nat, i + d = l.length → impl_OrderValid.vl0 l (l.length : Int) (i : Int) = some ((l.drop i).all ok) := by
  induction d with
  | zero =>
    intro i hi
    rw [impl_OrderValid.vl0_eq, if_neg (by omega), List.drop_of_length_le (by omega)]
    simp
  | succ d ih =>
    intro i hi
    have e : ((i : Int) + 1) = ((i + 1 : Nat) : Int) := by omega
    rw [impl_OrderValid.vl0_eq, if_pos (by omega), if_pos (by omega), if_pos (by omega), rd_T81_nat l i (by omega), List.drop_eq_getElem_cons (show i < l.length by omega), w64 (by omega), e, ih (i + 1) (by omega)]
    simp only [List.all_cons, ok]
    by_cases h1 : l[i].f0 < 0
    · have h2 : ¬ (0 ≤ l[i].f0) := by omega
      simp [h1, h2]
    · by_cases h2 : l[i].f0 ≥ 10
      · have h3 : ¬ (l[i].f0 ≤ 9) := by omega
        simp [h1, h2, h3]
      · have h3 : l[i].f0 ≤ 9 := by omega
        have h4 : 0 ≤ l[i].f0 := by omega
        simp [h1, h2, h3, h4]
theorem spec_val (l : List S81) (hl : l.length ≤ 1048576) : spec_OrderValid.v l = some (l.all ok && decide (l.length ≤ 12)) := by
  rw [spec_OrderValid.v_eq]
  exact spec_loop l hl l.length 0 (by omega)
theorem impl_val (l : List S81) (hl : l.length ≤ 1048576) : impl_OrderValid.v l = some (l.all ok && decide (l.length ≤ 12)) := by
  rw [impl_OrderValid.v_eq]
  by_cases h : (l.length : Int) > 12
  · rw [if_pos h]
    have h2 : ¬ (l.length ≤ 12) := by omega
    simp [h2]
  · rw [if_neg h]
    have h2 : l.length ≤ 12 := by omega
    have := impl_loop l hl l.length 0 (by omega)
    simp only [List.drop_zero] at this
    simpa [h2] using this

theorem FnExactOrderValid : ∀ (x0 : List S83), x0.length ≤ maxLen → (∀ y ∈ x0, (Lit.int .i64 y.f0).wf = true) → ∃ k, laws_FnExactOrderValid.f k x0 = some true := by
  intro x hx _
  refine (laws_FnExactOrderValid.L x).rounds ?_
  rw [laws_FnExactOrderValid.v_eq]
  simp only [laws_szStepS.f]
  have hm := max_len hx
  rw [w64 (by omega)]
  by_cases h : (1048576 - (x.length : Int)) < 0
  · simp [h]
  · rw [if_neg h]
    have hc : (x.map cStep).length ≤ 1048576 := by simp; omega
    simp only [Option.bind_some, h, if_false, laws_toStepS.val x (by omega), spec_val _ hc, impl_val _ hc, laws_eqStepS.val _ (show (x.map cStep).length ≤ 9223372036854775806 by omega)]
    simp

end Go.Proofs.Ytfdmoiaeclkdcaa.Pure
