/- The pure statement of FnRelayValid: what the printed functions compute answers true. -/
import Derived.Test.YtoajkfhjgnonjaaDoorGx4
import Derived.Test.YtoajkfhjgnonjaaDoorV3
import Derived.Test.YtoajkfhjgnonjaaDoorDraw
import Derived.Test.YtoajkfhjgnonjaaDoorAlive
namespace Go.Proofs.YtoajkfhjgnonjaaDoor.Pure
open Go.RowKit Go.Proofs.YtoajkfhjgnonjaaDoor.G Go.Proofs.YtoajkfhjgnonjaaDoorW.PrintWords Go.Proofs.YtoajkfhjgnonjaaDoorW.PrintLast Go.Proofs.YtoajkfhjgnonjaaDoor.Op

set_option linter.unusedSimpArgs false
set_option linter.unusedVariables false
theorem relay (b : List Int) (p n : Int) (r : Rd b) (hp : 0 ≤ p) (hp2 : p < 1000000) (hn : 0 ≤ n ∧ n ≤ 1000) : ∃ x y q, spec_l20Relay.v b p n = some (x, y, q) := by
  rw [spec_l20Relay.v_eq]
  obtain ⟨x1, h1, _⟩ := pick b p 120 r hp (by omega) (by omega)
  obtain ⟨x2, h2, _⟩ := pick b (p + 1) 60 r (by omega) (by omega) (by omega)
  obtain ⟨t, q, h3, q1, q2⟩ := odd b (p + 1 + 1) n r (by omega) (by omega) (by omega)
  simp only [h1, h2, h3, Option.bind_some]
  cases t with
  | false => exact ⟨_, _, _, rfl⟩
  | true =>
    rw [if_pos rfl]
    obtain ⟨x4, h4, _⟩ := pick b q 2 r (by omega) (by omega) (by omega)
    obtain ⟨x5, h5, g5, g6⟩ := pick b (q + 1) 2 r (by omega) (by omega) (by omega)
    have g7 := g6 (by omega)
    simp only [h4, h5, Option.bind_some, List.length_cons, List.length_nil]
    by_cases c : x4 = 0
    · rw [if_pos c, if_pos g5, if_pos (by simpa using g7)]
      exact ⟨_, _, _, rfl⟩
    · rw [if_neg c, if_pos g5, if_pos (by simpa using g7)]
      exact ⟨_, _, _, rfl⟩

theorem FnRelayValid : ∀ (x0 : List Int), x0.length ≤ maxLen → (∀ y ∈ x0, (Lit.int .u8 y).wf = true) → ∃ k, laws_FnRelayValid.f k x0 = some true := by
  intro x _ hx
  refine (laws_FnRelayValid.L x).rounds ?_
  rw [laws_FnRelayValid.v_eq]
  by_cases c : (x.length : Int) > 1048576
  · rw [if_pos c]
  rw [if_neg c, spec_DrawRelayValid.v_eq]
  obtain ⟨b, hb, r⟩ := open_of x hx
  obtain ⟨x, y, q, h⟩ := relay b 0 2 r (by omega) (by omega) (by omega)
  rw [hb]
  simp only [Option.bind_some, h, alive]
  have e1 : impl_RelayValid.f x y = some (decide (1 ≤ x ∧ x ≤ 400 ∧ 1 ≤ y ∧ y ≤ 60)) := by
    unfold impl_RelayValid.f
    by_cases h1 : 1 ≤ x <;> by_cases h2 : x ≤ 400 <;> by_cases h3 : 1 ≤ y <;> by_cases h4 : y ≤ 60 <;> simp [ge_iff_le, h1, h2, h3, h4]
  have e2 : spec_RelayValid.f x y = some (decide (1 ≤ x ∧ x ≤ 400 ∧ 1 ≤ y ∧ y ≤ 60)) := by
    unfold spec_RelayValid.f spec_l1In.f
    by_cases h1 : 1 ≤ x <;> by_cases h2 : x ≤ 400 <;> by_cases h3 : 1 ≤ y <;> by_cases h4 : y ≤ 60 <;> simp [ge_iff_le, h1, h2, h3, h4]
  have e3 : impl_RelayValid.f 0 y = some false := by simp [impl_RelayValid.f]
  rw [e1, e2, e3]
  simp only [Option.bind_some, bne_self_eq_false, Bool.false_eq_true, if_false]
  by_cases a : 1 ≤ x ∧ x ≤ 400 ∧ 1 ≤ y ∧ y ≤ 60
  · rw [decide_eq_true a, if_pos rfl]
    have e4 : impl_RelayValid.f x 1 = some true := by
      unfold impl_RelayValid.f
      rw [if_pos (by omega), if_pos (by omega)]
      simp
    rw [e4]
    simp
  · rw [decide_eq_false a]
    simp

end Go.Proofs.YtoajkfhjgnonjaaDoor.Pure
