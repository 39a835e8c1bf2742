/- The pure statement of FnExactFirstTrip: what the printed functions compute answers true. -/
import Derived.Test.YtfdmoiaeclkdcaaPFnExactFirstTripx2
import Derived.Test.YtfdmoiaeclkdcaaCFnExactFirstTrip
namespace Go.Proofs.Ytfdmoiaeclkdcaa.Pure
open Go.RowKit Go.Proofs.Ytfdmoiaeclkdcaa.PFnExactFirstTrip Go.Proofs.YtfdmoiaeclkdcaaW.PrintWords Go.Proofs.YtfdmoiaeclkdcaaW.PrintLast Go.Proofs.Ytfdmoiaeclkdcaa.Op

def Valid (a b : Int) : Prop := 1 ≤ a ∧ a ≤ 400 ∧ 1 ≤ b ∧ b ≤ 60
instance (a b : Int) : Decidable (Valid a b) := by unfold Valid; infer_instance
theorem specValid (a b : Int) : spec_RelayValid.f a b = some (decide (Valid a b)) := by
  simp only [spec_RelayValid.f, spec_l1In.f, Valid]
  by_cases h1 : 1 ≤ a <;> by_cases h2 : a ≤ 400 <;> by_cases h3 : 1 ≤ b <;> by_cases h4 : b ≤ 60 <;> simp [h1, h2, h3, h4]
theorem implValid (a b : Int) : impl_RelayValid.f a b = some (decide (Valid a b)) := by
  simp only [impl_RelayValid.f, Valid]
  by_cases h1 : 1 ≤ a <;> by_cases h2 : a ≤ 400 <;> by_cases h3 : 1 ≤ b <;> by_cases h4 : b ≤ 60 <;> simp [h1, h2, h3, h4]
theorem spec_off (a b c : Int) (hv : Valid a b) (h : c ≤ a ∨ 400 < c) : spec_RelayTime.f a b c = some (-1) := by
  simp only [spec_RelayTime.f, specValid, spec_l1In.f]
  obtain ⟨h1, h2, h3, h4⟩ := hv
  rw [w64 (n := a + 1) (by omega)]
  simp only [Option.bind_some, decide_eq_true_eq]
  rw [if_pos ⟨h1, h2, h3, h4⟩]
  by_cases h5 : c ≥ a + 1
  · have h6 : ¬ (c ≤ 400) := by omega
    simp [h5, h6]
  · simp [h5]
theorem both (a b c : Int) (hv : Valid a b) (hc : 0 ≤ c) (hc2 : c ≤ 400) : ∃ t, spec_RelayTime.f a b c = some t ∧ impl_Relay_time.f a b c = some t ∧ (t = -1 ∨ 0 ≤ t) := by
  by_cases h : c ≤ a
  · refine ⟨-1, spec_off a b c hv (Or.inl h), ?_, Or.inl rfl⟩
    simp only [impl_Relay_time.f]
    rw [if_pos h]
  · have hv2 := hv
    obtain ⟨h1, h2, h3, h4⟩ := hv
    refine ⟨wrap64 (Int.tdiv (100 * b + (c - a) - 1) (c - a)), ?_, ?_, Or.inr ?_⟩
    · simp only [spec_RelayTime.f, specValid, spec_l1In.f, Option.bind_some, decide_eq_true_eq]
      rw [if_pos hv2]
      rw [w64 (n := a + 1) (by omega), w64 (n := c - a) (by omega), w64 (n := 100 * b) (by omega), w64 (n := 100 * b + c) (by omega), w64 (n := 100 * b + c - a) (by omega), show 100 * b + c - a - 1 = 100 * b + (c - a) - 1 by omega, w64 (n := 100 * b + (c - a) - 1) (by omega)]
      have h5 : a + 1 ≤ c := by omega
      have h6 : ¬ (c - a = 0) := by omega
      simp [h5, h6, hc2]
    · simp only [impl_Relay_time.f]
      rw [if_neg (by omega), w64 (n := c - a) (by omega), if_neg (by omega), w64 (n := 100 * b) (by omega), w64 (n := 100 * b + (c - a)) (by omega), w64 (n := 100 * b + (c - a) - 1) (by omega)]
    · have h5 : Int.tdiv (100 * b + (c - a) - 1) (c - a) = (100 * b + (c - a) - 1) / (c - a) := Int.tdiv_eq_ediv_of_nonneg (by omega)
      have h6 : 0 ≤ (100 * b + (c - a) - 1) / (c - a) := Int.ediv_nonneg (by omega) (by omega)
      have h7 : (100 * b + (c - a) - 1) / (c - a) ≤ 100 * b + (c - a) - 1 := Int.ediv_le_self _ (by omega)
      rw [h5, w64 (by omega)]
      exact h6
theorem off_loop (l : List S31) (c : Int) (hl : l.length ≤ 10) (hc : c < 0 ∨ 400 < c) (d : Nat) : ∀ i : Nat, i + d = l.length → spec_FirstTrip.vl0 l c (-1) (i : Int) = some (-1) := by
  induction d with
  | zero =>
    intro i hi
    rw [spec_FirstTrip.vl0_eq, if_neg (by omega)]
  | succ d ih =>
    intro i hi
    have e : ((i : Int) + 1) = ((i + 1 : Nat) : Int) := by omega
    rw [spec_FirstTrip.vl0_eq, if_pos (by omega), if_pos (by omega), rd_T31_nat l i (by omega), specValid, Option.bind_some]
    by_cases hv : Valid l[i].f0 l[i].f1
    · rw [if_pos (by simpa using hv), spec_FirstTrip.vj1_eq, if_neg (by simp; omega), if_pos (by omega), if_pos (by omega), rd_T31_nat l i (by omega)]
      have hv2 := hv
      obtain ⟨h1, h2, h3, h4⟩ := hv
      rw [spec_off _ _ c hv2 (by omega), Option.bind_some, if_neg (by omega), w64 (by omega), e]
      exact ih (i + 1) (by omega)
    · rw [if_neg (by simpa using hv), spec_FirstTrip.vj1_eq, if_pos rfl]
theorem loop (l : List S31) (c : Int) (hl : l.length ≤ 10) (hc : 0 ≤ c) (hc2 : c ≤ 400) (d : Nat) : ∀ (i : Nat) (best least : Int), i + d = l.length →
    (best = -1 ∨ ∃ b : Nat, best = (b : Int) ∧ ∃ hb : b < l.length, Valid l[b].f0 l[b].f1 ∧ spec_RelayTime.f l[b].f0 l[b].f1 c = some least) →
    ∃ r, spec_FirstTrip.vl0 l c best (i : Int) = some r ∧ impl_FirstTrip.vl0 c best least l (l.length : Int) (i : Int) = some r := by
  induction d with
  | zero =>
    intro i best least hi _
    exact ⟨best, by rw [spec_FirstTrip.vl0_eq, if_neg (by omega)], by rw [impl_FirstTrip.vl0_eq, if_neg (by omega)]⟩
  | succ d ih =>
    intro i best least hi hb
    have e : ((i : Int) + 1) = ((i + 1 : Nat) : Int) := by omega
    have hil : i < l.length := by omega
    rw [spec_FirstTrip.vl0_eq, impl_FirstTrip.vl0_eq, if_pos (by omega), if_pos (by omega), if_pos (by omega), if_pos (by omega), if_pos (by omega), rd_T31_nat l i hil, specValid, implValid, Option.bind_some, Option.bind_some]
    by_cases hv : Valid l[i].f0 l[i].f1
    · obtain ⟨t, e1, e2, ht⟩ := both _ _ c hv hc hc2
      rw [if_pos (by simpa using hv), if_pos (by simpa using hv), spec_FirstTrip.vj1_eq, if_neg (by simp; omega), if_pos (by omega), if_pos (by omega), rd_T31_nat l i hil, e1, e2, Option.bind_some, Option.bind_some, w64 (by omega), e]
      by_cases h0 : t ≥ 0
      · rw [if_pos h0, if_pos h0]
        rcases hb with rfl | ⟨b, rfl, hbl, hbv, hbt⟩
        · rw [if_pos (by omega), if_pos (by omega)]
          exact ih (i + 1) i t (by omega) (Or.inr ⟨i, rfl, hil, hv, e1⟩)
        · have q1 : ¬ ((b : Int) < 0) := by omega
          have q2 : (0 : Int) ≤ (b : Int) := by omega
          have q3 : (b : Int) < (l.length : Int) := by omega
          rw [if_neg q1, if_neg q1, if_pos q2, if_pos q3, rd_T31_nat l b hbl, hbt, Option.bind_some]
          by_cases hle : t ≤ least
          · rw [if_pos hle, if_pos hle]
            exact ih (i + 1) i t (by omega) (Or.inr ⟨i, rfl, hil, hv, e1⟩)
          · rw [if_neg hle, if_neg hle]
            exact ih (i + 1) b least (by omega) (Or.inr ⟨b, rfl, hbl, hbv, hbt⟩)
      · rw [if_neg h0, if_neg h0]
        exact ih (i + 1) best least (by omega) hb
    · rw [if_neg (by simpa using hv), if_neg (by simpa using hv), spec_FirstTrip.vj1_eq, if_pos rfl]
      exact ⟨-1, rfl, rfl⟩
theorem same (l : List S31) (c : Int) (hl : l.length ≤ 1048576) : ∃ r, spec_FirstTrip.v l c = some r ∧ impl_FirstTrip.v l c = some r := by
  rw [spec_FirstTrip.v_eq, impl_FirstTrip.v_eq]
  by_cases h : (l.length : Int) > 10
  · rw [if_pos h, impl_FirstTrip.vj0_eq, if_pos rfl, spec_FirstTrip.vl0_eq, if_pos (by omega), if_pos (by omega), specValid, Option.bind_some]
    refine ⟨-1, ?_, rfl⟩
    split
    · rw [spec_FirstTrip.vj1_eq, if_pos (by simpa using h)]
    · rw [spec_FirstTrip.vj1_eq, if_pos rfl]
  · rw [if_neg h]
    simp only [impl_currentValid.f]
    by_cases hc : 0 ≤ c ∧ c ≤ 400
    · obtain ⟨hc, hc2⟩ := hc
      rw [if_pos hc, Option.bind_some, impl_FirstTrip.vj0_eq, if_neg (by simpa using hc2)]
      exact loop l c (by omega) hc hc2 l.length 0 (-1) 0 (by omega) (Or.inl rfl)
    · refine ⟨-1, off_loop l c (by omega) (by omega) l.length 0 (by omega), ?_⟩
      by_cases h1 : c ≥ 0
      · have h2 : ¬ (c ≤ 400) := by omega
        rw [if_pos h1, Option.bind_some, impl_FirstTrip.vj0_eq, if_pos (by simpa using h2)]
      · rw [if_neg h1, Option.bind_some, impl_FirstTrip.vj0_eq, if_pos (by decide)]

theorem FnExactFirstTrip : ∀ (x0 : List S29) (x1 : Int), x0.length ≤ maxLen → (∀ y ∈ x0, (Lit.int .i64 y.f0).wf = true ∧ (Lit.int .i64 y.f1).wf = true) → (Lit.int .i64 x1).wf = true → ∃ k, laws_FnExactFirstTrip.f k x0 x1 = some true := by
  intro x c hx _ _
  refine (laws_FnExactFirstTrip.L x c).rounds ?_
  rw [laws_FnExactFirstTrip.v_eq]
  simp only [laws_szRelayS.f]
  have hm := max_len hx
  rw [w64 (by omega)]
  by_cases h : (1048576 - (x.length : Int)) < 0
  · simp [h]
  · rw [if_neg h]
    have hc : (x.map cRelay).length ≤ 1048576 := by simp; omega
    obtain ⟨r, e1, e2⟩ := same (x.map cRelay) c hc
    simp only [Option.bind_some, h, if_false, laws_toRelayS.val x (by omega), e1, e2, laws_eqRelayS.val _ (show (x.map cRelay).length ≤ 9223372036854775806 by omega), if_true]

end Go.Proofs.Ytfdmoiaeclkdcaa.Pure
