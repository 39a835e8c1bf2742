/- The pure statement of FnOrderValid: what the printed functions compute answers true. -/
import Derived.Test.YtoajkfhjgnonjaaDoorGx5
import Derived.Test.YtoajkfhjgnonjaaDoorV4
import Derived.Test.YtoajkfhjgnonjaaDoorDraw
import Derived.Test.YtoajkfhjgnonjaaDoorAlive
import Derived.Test.YtoajkfhjgnonjaaDoorOrderVal
namespace Go.Proofs.YtoajkfhjgnonjaaDoor.Pure
open Go.RowKit Go.Proofs.YtoajkfhjgnonjaaDoor.G Go.Proofs.YtoajkfhjgnonjaaDoorW.PrintWords Go.Proofs.YtoajkfhjgnonjaaDoorW.PrintLast Go.Proofs.YtoajkfhjgnonjaaDoor.Op

set_option linter.unusedSimpArgs false
set_option linter.unusedVariables false
theorem order_loop (b : List Int) (n : Int) (r : Rd b) (hn : 0 ≤ n ∧ n ≤ 1000) (m : Nat) : ∀ (l : List S70) (p : Int), m ≤ 10 → l.length + m ≤ 20 → 0 ≤ p → p + 2 * m ≤ 1000000 → ∃ l2 q, spec_l20Order.vl0 n l (m : Int) b p = some (l2, q) ∧ l2.length ≤ 40 := by
  induction m with
  | zero =>
    intro l p _ hl hp hp2
    rw [spec_l20Order.vl0_eq, if_neg (by omega)]
    obtain ⟨t, q, h3, q1, q2⟩ := odd b p n r hp (by omega) (by omega)
    rw [h3]
    simp only [Option.bind_some]
    cases t with
    | false => exact ⟨_, _, rfl, by omega⟩
    | true =>
      rw [if_pos rfl]
      obtain ⟨x4, h4, _⟩ := pick b q 2 r (by omega) (by omega) (by omega)
      obtain ⟨x5, h5, g5, g6⟩ := pick b (q + 1) 2 r (by omega) (by omega) (by omega)
      have g7 := g6 (by omega)
      simp only [h4, h5, Option.bind_some, List.length_cons, List.length_nil]
      by_cases c : x4 = 0
      · rw [if_pos c, if_pos (by omega)]
        exact ⟨_, _, rfl, by simp⟩
      · rw [if_neg c, if_pos g5, if_pos (by simpa using g7), if_pos (by omega)]
        exact ⟨_, _, rfl, by simp; omega⟩
  | succ m ih =>
    intro l p hm hl hp hp2
    rw [spec_l20Order.vl0_eq, if_pos (by omega)]
    obtain ⟨x1, h1, _⟩ := pick b p 10 r hp (by omega) (by omega)
    obtain ⟨x2, h2, _⟩ := pick b (p + 1) 2 r (by omega) (by omega) (by omega)
    rw [h1]
    simp only [Option.bind_some, h2]
    rw [if_pos (by omega), w64 (by omega), show ((m + 1 : Nat) : Int) - 1 = (m : Int) by omega]
    exact ih _ _ (by omega) (by simp; omega) (by omega) (by omega)
theorem order (b : List Int) (r : Rd b) : ∃ l q, spec_l20Order.v b 0 2 = some (l, q) ∧ l.length ≤ 40 := by
  rw [spec_l20Order.v_eq]
  obtain ⟨x, h, h1, h2⟩ := pick b 0 6 r (by omega) (by omega) (by omega)
  have h3 := h2 (by omega)
  rw [h]
  simp only [Option.bind_some]
  obtain ⟨m, rfl⟩ := Int.eq_ofNat_of_zero_le h1
  exact order_loop b 2 r (by omega) m [] _ (by omega) (by simp; omega) (by omega) (by omega)

theorem FnOrderValid : ∀ (x0 : List Int), x0.length ≤ maxLen → (∀ y ∈ x0, (Lit.int .u8 y).wf = true) → ∃ k, laws_FnOrderValid.f k x0 = some true := by
  intro x _ hx
  refine (laws_FnOrderValid.L x).rounds ?_
  rw [laws_FnOrderValid.v_eq]
  by_cases c : (x.length : Int) > 1048576
  · rw [if_pos c]
  rw [if_neg c, spec_DrawOrderValid.v_eq]
  obtain ⟨b, hb, r⟩ := open_of x hx
  obtain ⟨l, q, h, hl⟩ := order b r
  rw [hb]
  have e0 : impl_OrderValid.v (([] : List S70) ++ l ++ [(⟨10, false⟩ : S70)]) = some false := by
    rw [implOrder_val _ (by simp; omega)]
    simp [okStep]
  have e1 : impl_OrderValid.v ([] : List S70) = some true := by
    rw [implOrder_val _ (by simp)]
    simp
  simp only [Option.bind_some, h, implOrder_val l (by omega), specOrder_val l (by omega), bne_self_eq_false, Bool.false_eq_true, if_false, List.length_nil]
  rw [if_pos (by omega), if_pos (by simp; omega)]
  simp only [e0, e1, alive, Option.bind_some, Bool.false_eq_true, if_false, if_true]
  by_cases k : (l.all okStep && decide (l.length ≤ 12)) = true
  · rw [if_pos k]
    by_cases k2 : (l.length : Int) = 0
    · rw [if_pos k2]
    · rw [if_neg k2, if_pos (by omega), implOrder_val _ (by simp; omega)]
      simp only [Bool.and_eq_true, decide_eq_true_eq] at k
      have k3 : ((l.drop 1).all okStep && decide ((l.drop 1).length ≤ 12)) = true := by
        simp only [Bool.and_eq_true, decide_eq_true_eq]
        refine ⟨List.all_eq_true.2 fun y hy => List.all_eq_true.1 k.1 y (List.mem_of_mem_drop hy), by simp; omega⟩
      rw [k3]
      simp
  · rw [if_neg k]

end Go.Proofs.YtoajkfhjgnonjaaDoor.Pure
