/- The pure statement of FnExactCurrentFor: what the printed functions compute answers true. -/
import Derived.Test.YtfdmoiaeclkdcaaPFnExactCurrentForx1
import Derived.Test.YtfdmoiaeclkdcaaVFnExactCurrentFor0
import Derived.Test.YtfdmoiaeclkdcaaNum
namespace Go.Proofs.Ytfdmoiaeclkdcaa.Pure
open Go.RowKit Go.Proofs.Ytfdmoiaeclkdcaa.PFnExactCurrentFor Go.Proofs.YtfdmoiaeclkdcaaW.PrintWords Go.Proofs.YtfdmoiaeclkdcaaW.PrintLast Go.Proofs.Ytfdmoiaeclkdcaa.Op

def Valid (a b : Int) : Prop := 1 ≤ a ∧ a ≤ 400 ∧ 1 ≤ b ∧ b ≤ 60
theorem spec_not (a b c : Int) (h : ¬ Valid a b) : spec_RelayTime.f a b c = some (-1) := by
  simp only [spec_RelayTime.f, spec_RelayValid.f, spec_l1In.f]
  by_cases h1 : 1 ≤ a <;> by_cases h2 : a ≤ 400 <;> by_cases h3 : 1 ≤ b <;> by_cases h4 : b ≤ 60 <;> simp [h1, h2, h3, h4]
  exact absurd ⟨h1, h2, h3, h4⟩ h
theorem spec_low (a b c : Int) (hv : Valid a b) (h : c ≤ a) : spec_RelayTime.f a b c = some (-1) := by
  obtain ⟨h1, h2, h3, h4⟩ := hv
  simp only [spec_RelayTime.f, spec_RelayValid.f, spec_l1In.f]
  simp [h1, h2, h3, h4]
  rw [w64 (n := a + 1) (by omega)]
  have h5 : ¬ (a + 1 ≤ c) := by omega
  simp [h5]
theorem both_high (a b c : Int) (hv : Valid a b) (h : a < c) (hc : c ≤ 400) : ∃ t, 0 ≤ t ∧ spec_RelayTime.f a b c = some t ∧ impl_Relay_time.f a b c = some t := by
  obtain ⟨h1, h2, h3, h4⟩ := hv
  refine ⟨wrap64 (Int.tdiv (100 * b + (c - a) - 1) (c - a)), ?_, ?_, ?_⟩
  · have h5 : Int.tdiv (100 * b + (c - a) - 1) (c - a) = (100 * b + (c - a) - 1) / (c - a) := Int.tdiv_eq_ediv_of_nonneg (by omega)
    have h6 : 0 ≤ (100 * b + (c - a) - 1) / (c - a) := Int.ediv_nonneg (by omega) (by omega)
    have h7 : (100 * b + (c - a) - 1) / (c - a) ≤ 100 * b + (c - a) - 1 := Int.ediv_le_self _ (by omega)
    rw [h5, w64 (by omega)]
    exact h6
  · simp only [spec_RelayTime.f, spec_RelayValid.f, spec_l1In.f]
    simp [h1, h2, h3, h4]
    rw [w64 (n := a + 1) (by omega), w64 (n := c - a) (by omega), w64 (n := 100 * b) (by omega), w64 (n := 100 * b + c) (by omega), w64 (n := 100 * b + c - a) (by omega), show 100 * b + c - a - 1 = 100 * b + (c - a) - 1 by omega, w64 (n := 100 * b + (c - a) - 1) (by omega)]
    have h5 : a + 1 ≤ c := by omega
    have h6 : ¬ (c - a = 0) := by omega
    simp [h5, h6, hc]
  · simp only [impl_Relay_time.f]
    rw [if_neg (by omega), w64 (n := c - a) (by omega), if_neg (by omega), w64 (n := 100 * b) (by omega), w64 (n := 100 * b + (c - a)) (by omega), w64 (n := 100 * b + (c - a) - 1) (by omega)]
theorem spec_none (a b x : Int) (h : ¬ Valid a b) (d : Nat) : ∀ c : Int, 0 ≤ c → c + d = 401 → spec_CurrentFor.vl0 x c a b = some (-1) := by
  induction d with
  | zero =>
    intro c h0 hc
    rw [spec_CurrentFor.vl0_eq, if_neg (by omega)]
  | succ d ih =>
    intro c h0 hc
    rw [spec_CurrentFor.vl0_eq, if_pos (by omega), spec_not a b c h, Option.bind_some, if_neg (by omega), w64 (by omega)]
    exact ih (c + 1) (by omega) (by omega)
theorem spec_skip (a b x : Int) (h : Valid a b) (d : Nat) : ∀ c : Int, 0 ≤ c → c + d = a + 1 → spec_CurrentFor.vl0 x c a b = spec_CurrentFor.vl0 x (a + 1) a b := by
  have hv := h
  obtain ⟨h1, h2, h3, h4⟩ := hv
  induction d with
  | zero =>
    intro c h0 hc
    rw [show c = a + 1 by omega]
  | succ d ih =>
    intro c h0 hc
    rw [spec_CurrentFor.vl0_eq, if_pos (by omega), spec_low a b c h (by omega), Option.bind_some, if_neg (by omega), w64 (by omega)]
    exact ih (c + 1) (by omega) (by omega)
theorem same (a b x : Int) (h : Valid a b) (d : Nat) : ∀ c : Int, a < c → c + d = 401 → ∃ r, spec_CurrentFor.vl0 x c a b = some r ∧ impl_CurrentFor.vl0 x c a b = some r := by
  have hv := h
  obtain ⟨h1, h2, h3, h4⟩ := hv
  induction d with
  | zero =>
    intro c h0 hc
    refine ⟨-1, ?_, ?_⟩
    · rw [spec_CurrentFor.vl0_eq, if_neg (by omega)]
    · rw [impl_CurrentFor.vl0_eq, if_neg (by omega)]
  | succ d ih =>
    intro c h0 hc
    obtain ⟨t, ht, e1, e2⟩ := both_high a b c h h0 (by omega)
    obtain ⟨r, i1, i2⟩ := ih (c + 1) (by omega) (by omega)
    rw [spec_CurrentFor.vl0_eq, impl_CurrentFor.vl0_eq, if_pos (by omega), if_pos (by omega), e1, e2, Option.bind_some, Option.bind_some, if_pos ht, w64 (by omega), i1, i2]
    by_cases hx : t ≤ x
    · exact ⟨c, by rw [if_pos hx], by rw [if_pos hx]⟩
    · exact ⟨r, by rw [if_neg hx], by rw [if_neg hx]⟩

theorem FnExactCurrentFor : ∀ (x0_0 : Int) (x0_1 : Int) (x1 : Int), (Lit.int .i64 x0_0).wf = true → (Lit.int .i64 x0_1).wf = true → (Lit.int .i64 x1).wf = true → ∃ k, laws_FnExactCurrentFor.f k x0_0 x0_1 x1 = some true := by
  intro a b x ha hb hx
  refine (laws_FnExactCurrentFor.L a b x).rounds ?_
  rw [laws_FnExactCurrentFor.v_eq]
  simp only [laws_toRelay.f, Option.bind_some]
  rw [spec_CurrentFor.v_eq, impl_CurrentFor.v_eq]
  simp only [impl_RelayValid.f]
  by_cases h : Valid a b
  · have hv := h
    obtain ⟨h1, h2, h3, h4⟩ := hv
    obtain ⟨r, e1, e2⟩ := same a b x h (400 - a).toNat (a + 1) (by omega) (by omega)
    rw [spec_skip a b x h (a + 1).toNat 0 (by omega) (by omega), e1, w64 (by omega), e2]
    simp [h1, h2, h3, h4]
  · rw [spec_none a b x h 401 0 (by omega) (by omega)]
    by_cases h1 : 1 ≤ a <;> by_cases h2 : a ≤ 400 <;> by_cases h3 : 1 ≤ b <;> by_cases h4 : b ≤ 60 <;> simp [h1, h2, h3, h4]
    exact absurd ⟨h1, h2, h3, h4⟩ h

end Go.Proofs.Ytfdmoiaeclkdcaa.Pure
