/- The pure statement of FnExactBarsValid: what the printed functions compute answers true. -/
import Derived.Test.YtfdmoiaeclkdcaaPFnExactBarsValidx2
import Derived.Test.YtfdmoiaeclkdcaaCFnExactBarsValid
namespace Go.Proofs.Ytfdmoiaeclkdcaa.Pure
open Go.RowKit Go.Proofs.Ytfdmoiaeclkdcaa.PFnExactBarsValid Go.Proofs.YtfdmoiaeclkdcaaW.PrintWords Go.Proofs.YtfdmoiaeclkdcaaW.PrintLast Go.Proofs.Ytfdmoiaeclkdcaa.Op

def ok (c : Bool) (s : Int) : Bool := decide (1 ≤ s) && decide (s ≤ 3) && (decide (s ≠ 3) || c)
theorem spec_loop (l : List Int) (c : Bool) (hl : l.length ≤ 1048576) (d : Nat) : ∀ i : Nat, i + d = l.length → spec_BarsValid.vl0 (i : Int) l c = some ((l.drop i).all (ok c) && decide (1 ≤ l.length) && decide (l.length ≤ 6)) := by
  induction d with
  | zero =>
    intro i hi
    rw [spec_BarsValid.vl0_eq, if_neg (by omega), List.drop_of_length_le (by omega)]
    simp only [spec_l1In.f]
    by_cases h1 : (l.length : Int) ≥ 1
    · have h2 : 1 ≤ l.length := by omega
      rw [if_pos h1]
      simp [h2]
      omega
    · have h2 : ¬ 1 ≤ l.length := by omega
      rw [if_neg h1]
      simp [h2]
  | succ d ih =>
    intro i hi
    have e : ((i : Int) + 1) = ((i + 1 : Nat) : Int) := by omega
    rw [spec_BarsValid.vl0_eq, if_pos (by omega), if_pos (by omega), rd_nat l i (by omega), List.drop_eq_getElem_cons (show i < l.length by omega), w64 (by omega), e, ih (i + 1) (by omega)]
    simp only [spec_l1In.f, List.all_cons, ok]
    by_cases h1 : 1 ≤ l[i] <;> by_cases h2 : l[i] ≤ 3 <;> by_cases h3 : l[i] = 3 <;> cases c <;> simp [h1, h2, h3]
theorem impl_loop (l : List Int) (c : Bool) (hl : l.length ≤ 1048576) (d : Nat) : ∀ i : Nat, i + d = l.length → impl_BarsValid.vl0 l (l.length : Int) (i : Int) l c = some ((l.drop i).all (ok c)) := by
  induction d with
  | zero =>
    intro i hi
    rw [impl_BarsValid.vl0_eq, if_neg (by omega), List.drop_of_length_le (by omega)]
    simp
  | succ d ih =>
    intro i hi
    have e : ((i : Int) + 1) = ((i + 1 : Nat) : Int) := by omega
    rw [impl_BarsValid.vl0_eq, if_pos (by omega), if_pos (by omega), if_pos (by omega), rd_nat l i (by omega), List.drop_eq_getElem_cons (show i < l.length by omega), w64 (by omega), e, ih (i + 1) (by omega)]
    simp only [List.all_cons, ok]
    by_cases h1 : l[i] < 1
    · have h2 : ¬ (1 ≤ l[i]) := by omega
      simp [h1, h2]
    · by_cases h2 : l[i] > 3
      · have h3 : ¬ (l[i] ≤ 3) := by omega
        simp [h1, h2, h3]
      · have h3 : l[i] ≤ 3 := by omega
        have h4 : 1 ≤ l[i] := by omega
        by_cases h5 : l[i] = 3 <;> cases c <;> simp [h1, h2, h3, h4, h5]
theorem spec_val (l : List Int) (c : Bool) (hl : l.length ≤ 1048576) : spec_BarsValid.v l c = some (l.all (ok c) && decide (1 ≤ l.length) && decide (l.length ≤ 6)) := by
  rw [spec_BarsValid.v_eq]
  exact spec_loop l c hl l.length 0 (by omega)
theorem impl_val (l : List Int) (c : Bool) (hl : l.length ≤ 1048576) : impl_BarsValid.v l c = some (l.all (ok c) && decide (1 ≤ l.length) && decide (l.length ≤ 6)) := by
  rw [impl_BarsValid.v_eq]
  by_cases h : (l.length : Int) < 1
  · have h2 : ¬ (1 ≤ l.length) := by omega
    rw [if_pos h, impl_BarsValid.vj0_eq]
    simp [h2]
  · rw [if_neg h, impl_BarsValid.vj0_eq]
    have h2 : 1 ≤ l.length := by omega
    by_cases h3 : (l.length : Int) > 6
    · have h4 : ¬ (l.length ≤ 6) := by omega
      simp [h3, h4]
    · have h4 : l.length ≤ 6 := by omega
      have := impl_loop l c hl l.length 0 (by omega)
      simp only [List.drop_zero] at this
      simp only [h3, decide_false, Bool.false_eq_true, if_false, h4, h2, decide_true, Bool.and_true]
      exact this

theorem FnExactBarsValid : ∀ (x0_0 : List Int) (x0_1 : Bool), x0_0.length ≤ maxLen → (∀ y ∈ x0_0, (Lit.int .i64 y).wf = true) → ∃ k, laws_FnExactBarsValid.f k x0_0 x0_1 = some true := by
  intro x c hx _
  refine (laws_FnExactBarsValid.L x c).rounds ?_
  rw [laws_FnExactBarsValid.v_eq]
  simp only [laws_szBars.f, laws_szIntS.f]
  have hm := max_len hx
  rw [w64 (by omega)]
  by_cases h : (1048576 - (x.length : Int)) < 0
  · simp [h]
  · rw [if_neg h]
    have hl : x.length ≤ 1048576 := by omega
    have hb : laws_toBars.v x c = some (x, c) := by rw [laws_toBars.v_eq, laws_toIntS.val x (by omega)]; rfl
    have he : laws_eqBars.v x c x c = some true := by
      rw [laws_eqBars.v_eq, laws_eqIntS.val x (by omega)]
      simp
    simp only [Option.bind_some, h, if_false, hb, spec_val x c hl, impl_val x c hl, he]
    simp

end Go.Proofs.Ytfdmoiaeclkdcaa.Pure
