/- The pure statement of FnExactMoveDeeds: what the printed functions compute answers true. -/
import Derived.Test.YtfdmoiaeclkdcaaGmx4
import Derived.Test.YtfdmoiaeclkdcaaCGm
namespace Go.Proofs.Ytfdmoiaeclkdcaa.Pure
open Go.RowKit Go.Proofs.Ytfdmoiaeclkdcaa.Gm Go.Proofs.YtfdmoiaeclkdcaaW.PrintWords Go.Proofs.YtfdmoiaeclkdcaaW.PrintLast Go.Proofs.Ytfdmoiaeclkdcaa.Op

set_option linter.unusedSimpArgs false
set_option linter.unusedVariables false
def ok (c : Bool) (s : Int) : Bool := decide (1 ≤ s) && decide (s ≤ 3) && (decide (s ≠ 3) || c)
theorem spec_loop (l : List Int) (c : Bool) (hl : l.length ≤ 1048576) (d : Nat) : ∀ i : Nat, i + d = l.length → spec_BarsValid.vl0 (i : Int) l c = some ((l.drop i).all (ok c) && decide (1 ≤ l.length) && decide (l.length ≤ 6)) := by
  induction d with
  | zero =>
    intro i hi
    rw [spec_BarsValid.vl0_eq, if_neg (by omega), List.drop_of_length_le (by omega)]
    simp only [spec_l1In.f]
    by_cases h1 : (l.length : Int) ≥ 1
    · have h2 : 1 ≤ l.length := by omega
      rw [if_pos h1]
      simp [h2]
      omega
    · have h2 : ¬ 1 ≤ l.length := by omega
      rw [if_neg h1]
      simp [h2]
  | succ d ih =>
    intro i hi
    have e : ((i : Int) + 1) = ((i + 1 : Nat) : Int) := by omega
    rw [spec_BarsValid.vl0_eq, if_pos (by omega), if_pos (by omega), rd_nat l i (by omega), List.drop_eq_getElem_cons (show i < l.length by omega), w64 (by omega), e, ih (i + 1) (by omega)]
    simp only [spec_l1In.f, List.all_cons, ok]
    by_cases h1 : 1 ≤ l[i] <;> by_cases h2 : l[i] ≤ 3 <;> by_cases h3 : l[i] = 3 <;> cases c <;> simp [h1, h2, h3]
theorem impl_loop (l : List Int) (c : Bool) (hl : l.length ≤ 1048576) (d : Nat) : ∀ i : Nat, i + d = l.length → impl_BarsValid.vl0 l (l.length : Int) (i : Int) l c = some ((l.drop i).all (ok c)) := by
  induction d with
  | zero =>
    intro i hi
    rw [impl_BarsValid.vl0_eq, if_neg (by omega), List.drop_of_length_le (by omega)]
    simp
  | succ d ih =>
    intro i hi
    have e : ((i : Int) + 1) = ((i + 1 : Nat) : Int) := by omega
    rw [impl_BarsValid.vl0_eq, if_pos (by omega), if_pos (by omega), if_pos (by omega), rd_nat l i (by omega), List.drop_eq_getElem_cons (show i < l.length by omega), w64 (by omega), e, ih (i + 1) (by omega)]
    simp only [List.all_cons, ok]
    by_cases h1 : l[i] < 1
    · have h2 : ¬ (1 ≤ l[i]) := by omega
      simp [h1, h2]
    · by_cases h2 : l[i] > 3
      · have h3 : ¬ (l[i] ≤ 3) := by omega
        simp [h1, h2, h3]
      · have h3 : l[i] ≤ 3 := by omega
        have h4 : 1 ≤ l[i] := by omega
        by_cases h5 : l[i] = 3 <;> cases c <;> simp [h1, h2, h3, h4, h5]
theorem spec_val (l : List Int) (c : Bool) (hl : l.length ≤ 1048576) : spec_BarsValid.v l c = some (l.all (ok c) && decide (1 ≤ l.length) && decide (l.length ≤ 6)) := by
  rw [spec_BarsValid.v_eq]
  exact spec_loop l c hl l.length 0 (by omega)
theorem impl_val (l : List Int) (c : Bool) (hl : l.length ≤ 1048576) : impl_BarsValid.v l c = some (l.all (ok c) && decide (1 ≤ l.length) && decide (l.length ≤ 6)) := by
  rw [impl_BarsValid.v_eq]
  by_cases h : (l.length : Int) < 1
  · have h2 : ¬ (1 ≤ l.length) := by omega
    rw [if_pos h, impl_BarsValid.vj0_eq]
    simp [h2]
  · rw [if_neg h, impl_BarsValid.vj0_eq]
    have h2 : 1 ≤ l.length := by omega
    by_cases h3 : (l.length : Int) > 6
    · have h4 : ¬ (l.length ≤ 6) := by omega
      simp [h3, h4]
    · have h4 : l.length ≤ 6 := by omega
      have := impl_loop l c hl l.length 0 (by omega)
      simp only [List.drop_zero] at this
      simp only [h3, decide_false, Bool.false_eq_true, if_false, h4, h2, decide_true, Bool.and_true]
      exact this


theorem valid_side (l : List Int) (c : Bool) (h : l.all (ok c) = true) (i : Nat) (hi : i < l.length) : (l[i] = 1 ∨ l[i] = 2 ∨ l[i] = 3) ∧ (l[i] = 3 → c = true) := by
  have := List.all_eq_true.1 h l[i] (List.getElem_mem _)
  simp only [ok, Bool.and_eq_true, Bool.or_eq_true, decide_eq_true_eq] at this
  obtain ⟨⟨h1, h2⟩, h3⟩ := this
  refine ⟨by omega, fun h4 => ?_⟩
  rcases h3 with h3 | h3
  · exact absurd h4 h3
  · exact h3
theorem move (l : List Int) (c : Bool) (b bar : Int) (hb : 0 ≤ b) (hb2 : b < (l.length : Int)) (hl : l.length ≤ 6) (hbar : bar = 1 ∨ bar = 2) (hs : rd l b = 1 ∨ rd l b = 2 ∨ rd l b = 3) (hne : rd l b ≠ bar) :
    ∃ r, (∀ y : List Int, y.length ≤ 1 → spec_MoveDeeds.vj1 b bar y l c = some (y ++ r) ∧ impl_MoveDeeds.vj1 b bar y l c = some (y ++ r)) ∧ r.length ≤ 3 := by
  have q1 : Go.bits .and .i64 1 2 = 0 := by decide
  have q2 : Go.bits .and .i64 2 1 = 0 := by decide
  have q3 : Go.bits .and .i64 3 1 = 1 := by decide
  have q4 : Go.bits .and .i64 3 2 = 2 := by decide
  have z0 : wrap64 0 = 0 := w64 (by omega)
  have z1 : wrap64 1 = 1 := w64 (by omega)
  have z2 : wrap64 2 = 2 := w64 (by omega)
  have hb6 : b = 0 ∨ b = 1 ∨ b = 2 ∨ b = 3 ∨ b = 4 ∨ b = 5 := by omega
  rcases hs with hs | hs | hs <;> rcases hbar with rfl | rfl
  · exact absurd hs hne
  · refine ⟨[wrap64 (wrap64 (wrap64 (2 + wrap64 (4 * b)) + wrap64 (2 * wrap64 (2 - 1))) + 1), wrap64 (wrap64 (2 + wrap64 (4 * b)) + wrap64 (2 * wrap64 (2 - 2)))] ++ (if c then [] else [0]), fun y hy => ?_, by cases c <;> simp⟩
    rw [spec_MoveDeeds.vj1_eq, impl_MoveDeeds.vj1_eq, if_pos hb, if_pos hb2, if_pos hb, if_pos hb2, hs]
    simp only [impl_isolatorDeed.f, Option.bind_some, q1, List.length_append, List.length_cons, List.length_nil]
    cases c <;> simp [show y.length < 17592186044416 by omega, show y.length + 1 < 17592186044416 by omega, show y.length + 1 + 1 < 17592186044416 by omega, z0, z1, z2]
  · refine ⟨[wrap64 (wrap64 (wrap64 (2 + wrap64 (4 * b)) + wrap64 (2 * wrap64 (1 - 1))) + 1), wrap64 (wrap64 (2 + wrap64 (4 * b)) + wrap64 (2 * wrap64 (2 - 1)))] ++ (if c then [] else [0]), fun y hy => ?_, by cases c <;> simp⟩
    rw [spec_MoveDeeds.vj1_eq, impl_MoveDeeds.vj1_eq, if_pos hb, if_pos hb2, if_pos hb, if_pos hb2, hs]
    simp only [impl_isolatorDeed.f, Option.bind_some, q2, List.length_append, List.length_cons, List.length_nil]
    cases c <;> simp [show y.length < 17592186044416 by omega, show y.length + 1 < 17592186044416 by omega, show y.length + 1 + 1 < 17592186044416 by omega, z0, z1, z2]
  · exact absurd hs hne
  · refine ⟨[wrap64 (wrap64 (2 + wrap64 (4 * b)) + wrap64 (2 * wrap64 (2 - 1)))] ++ (if c then [] else [0]), fun y hy => ?_, by cases c <;> simp⟩
    rw [spec_MoveDeeds.vj1_eq, impl_MoveDeeds.vj1_eq, if_pos hb, if_pos hb2, if_pos hb, if_pos hb2, hs]
    simp only [impl_isolatorDeed.f, Option.bind_some, q3, List.length_append, List.length_cons, List.length_nil]
    cases c <;> simp [show y.length < 17592186044416 by omega, show y.length + 1 < 17592186044416 by omega, z0, z1, z2]
  · refine ⟨[wrap64 (wrap64 (2 + wrap64 (4 * b)) + wrap64 (2 * wrap64 (2 - 2)))] ++ (if c then [] else [0]), fun y hy => ?_, by cases c <;> simp⟩
    rw [spec_MoveDeeds.vj1_eq, impl_MoveDeeds.vj1_eq, if_pos hb, if_pos hb2, if_pos hb, if_pos hb2, hs]
    simp only [impl_isolatorDeed.f, Option.bind_some, q4, List.length_append, List.length_cons, List.length_nil]
    cases c <;> simp [show y.length < 17592186044416 by omega, show y.length + 1 < 17592186044416 by omega, z0, z1, z2]
theorem same (l : List Int) (c : Bool) (b bar : Int) (hl : l.length ≤ 1048576) : ∃ r, spec_MoveDeeds.v l c b bar = some r ∧ impl_MoveDeeds.v l c b bar = some r ∧ r.length ≤ 4 := by
  rw [spec_MoveDeeds.v_eq, impl_MoveDeeds.v_eq, Option.bind_some, spec_val l c hl, impl_val l c hl, Option.bind_some, Option.bind_some]
  have s0 : ∀ y, spec_MoveDeeds.vj0 b bar y true l c = some y := fun y => by rw [spec_MoveDeeds.vj0_eq, if_pos rfl]
  have i0 : impl_MoveDeeds.vj0 b bar true l c = some [] := by rw [impl_MoveDeeds.vj0_eq, if_pos rfl]
  by_cases hv : (l.all (ok c) && decide (1 ≤ l.length) && decide (l.length ≤ 6)) = true
  · rw [if_pos hv, if_pos hv]
    simp only [Bool.and_eq_true, decide_eq_true_eq] at hv
    obtain ⟨⟨ha, h1⟩, h6⟩ := hv
    simp only [spec_l1In.f, Option.bind_some]
    rw [w64 (by omega)]
    by_cases h0 : 0 ≤ b
    · by_cases h2 : b < (l.length : Int)
      · by_cases h3 : 1 ≤ bar
        · by_cases h4 : bar ≤ 2
          · have e1 : b ≤ (l.length : Int) - 1 := by omega
            have e2 : ¬ (b < 0) := by omega
            have e3 : ¬ (b ≥ (l.length : Int)) := by omega
            have e4 : ¬ (bar < 1) := by omega
            have e5 : ¬ (bar > 2) := by omega
            simp only [ge_iff_le, h0, h2, h3, h4, e1, e2, e4, e5, if_true, if_false, decide_true, Option.bind_some, Int.not_le.2 h2]
            obtain ⟨i, rfl⟩ := Int.eq_ofNat_of_zero_le h0
            have hi : i < l.length := by omega
            obtain ⟨hs, h3c⟩ := valid_side l c ha i hi
            rw [rd_nat l i hi]
            by_cases he : l[i] = bar
            · rw [show (l[i] == bar) = true by simpa using he, s0, i0]
              exact ⟨[], rfl, rfl, by simp⟩
            · rw [show (l[i] == bar) = false by simpa using he, spec_MoveDeeds.vj0_eq, impl_MoveDeeds.vj0_eq]
              obtain ⟨r, hr, hrl⟩ := move l c i bar h0 h2 h6 (by omega) (by rw [rd_nat l i hi]; exact hs) (by rw [rd_nat l i hi]; exact he)
              cases c
              · obtain ⟨a1, a2⟩ := hr [1] (by simp)
                exact ⟨[1] ++ r, by simpa using a1, by simpa using a2, by simp; omega⟩
              · obtain ⟨a1, a2⟩ := hr [] (by simp)
                exact ⟨r, by simpa using a1, by simpa using a2, by omega⟩
          · have e1 : b ≤ (l.length : Int) - 1 := by omega
            have e2 : ¬ (b < 0) := by omega
            have e4 : ¬ (bar < 1) := by omega
            have e5 : bar > 2 := by omega
            simp only [ge_iff_le, h0, h3, h4, e1, e2, e4, e5, if_true, if_false, decide_true, decide_false, Option.bind_some, Int.not_le.2 h2, s0, i0, Bool.false_eq_true]
            exact ⟨[], rfl, rfl, by simp⟩
        · have e1 : b ≤ (l.length : Int) - 1 := by omega
          have e2 : ¬ (b < 0) := by omega
          have e4 : bar < 1 := by omega
          simp only [ge_iff_le, h0, h3, e1, e2, e4, if_true, if_false, decide_true, Option.bind_some, Int.not_le.2 h2, s0, i0, Bool.false_eq_true]
          exact ⟨[], rfl, rfl, by simp⟩
      · have e1 : ¬ (b ≤ (l.length : Int) - 1) := by omega
        have e2 : ¬ (b < 0) := by omega
        have e3 : (l.length : Int) ≤ b := by omega
        simp only [ge_iff_le, h0, e1, e2, e3, if_true, if_false, decide_false, Option.bind_some, s0, i0, Bool.false_eq_true]
        exact ⟨[], rfl, rfl, by simp⟩
    · have e2 : b < 0 := by omega
      simp only [ge_iff_le, h0, e2, if_true, if_false, Option.bind_some, s0, i0, Bool.false_eq_true]
      exact ⟨[], rfl, rfl, by simp⟩
  · rw [if_neg hv, if_neg hv, s0, i0]
    exact ⟨[], rfl, rfl, by simp⟩

theorem FnExactMoveDeeds : ∀ (x0_0 : List Int) (x0_1 : Bool) (x1 : Int) (x2 : Int), x0_0.length ≤ maxLen → (∀ y ∈ x0_0, (Lit.int .i64 y).wf = true) → (Lit.int .i64 x1).wf = true → (Lit.int .i64 x2).wf = true → ∃ k, laws_FnExactMoveDeeds.f k x0_0 x0_1 x1 x2 = some true := by
  intro x c b bar hx _ _ _
  refine (laws_FnExactMoveDeeds.L x c b bar).rounds ?_
  rw [laws_FnExactMoveDeeds.v_eq]
  simp only [laws_szBars.f, laws_szIntS.f]
  have hm := max_len hx
  rw [w64 (by omega)]
  by_cases h : (1048576 - (x.length : Int)) < 0
  · simp [h]
  · rw [if_neg h]
    have hl : x.length ≤ 1048576 := by omega
    obtain ⟨r, r1, r2, r3⟩ := same x c b bar hl
    have hb : laws_toBars.v x c = some (x, c) := by rw [laws_toBars.v_eq, laws_toIntS.val x (by omega)]; rfl
    have he : laws_eqBars.v x c x c = some true := by
      rw [laws_eqBars.v_eq, laws_eqIntS.val x (by omega)]
      simp
    obtain ⟨y1, m1, _⟩ := laws_markIntS.val x 1 (by omega) (by omega) (by omega)
    have mb : laws_markBars.v x c 1 = some (1 + 1 * (x.length : Int), y1) := by rw [laws_markBars.v_eq, m1]; rfl
    obtain ⟨y3, m3, m4⟩ := laws_markIntS.val r 1 (by omega) (by omega) (by omega)
    simp only [Option.bind_some, h, if_false, hb, r1, r2, he, laws_eqIntS.val r (by omega), if_true, mb]
    rw [if_neg (by omega), laws_FnExactMoveDeeds.vj0_eq, if_neg (by decide)]
    simp only [m3, m4, Option.bind_some, hb, r2, laws_eqIntS.val r (by omega), if_true]
    rw [if_neg (by omega), if_neg (by omega)]

end Go.Proofs.Ytfdmoiaeclkdcaa.Pure
