/- The pure statement of FnBarsValid: what the printed functions compute answers true. -/
import Derived.Test.YtoajkfhjgnonjaaDoorGx7
import Derived.Test.YtoajkfhjgnonjaaDoorV6
import Derived.Test.YtoajkfhjgnonjaaDoorDraw
import Derived.Test.YtoajkfhjgnonjaaDoorAlive
import Derived.Test.YtoajkfhjgnonjaaDoorBarsVal
namespace Go.Proofs.YtoajkfhjgnonjaaDoor.Pure
open Go.RowKit Go.Proofs.YtoajkfhjgnonjaaDoor.G Go.Proofs.YtoajkfhjgnonjaaDoorW.PrintWords Go.Proofs.YtoajkfhjgnonjaaDoorW.PrintLast Go.Proofs.YtoajkfhjgnonjaaDoor.Op

set_option linter.unusedSimpArgs false
set_option linter.unusedVariables false
theorem bars_loop (b : List Int) (n : Int) (r : Rd b) (hn : 0 ≤ n ∧ n ≤ 1000) (cp : Bool) (m : Nat) : ∀ (l : List Int) (p : Int), m ≤ 10 → l.length + m ≤ 20 → 1 ≤ l.length + m → 0 ≤ p → p + 2 * m ≤ 1000000 → ∃ l2 c q, spec_l20Bars.vl0 n (m : Int) b p l cp = some (l2, c, q) ∧ l2.length ≤ 40 := by
  induction m with
  | zero =>
    intro l p _ hl hl1 hp hp2
    rw [spec_l20Bars.vl0_eq, if_neg (by omega)]
    obtain ⟨t, q, h3, q1, q2⟩ := odd b p n r hp (by omega) (by omega)
    rw [h3]
    simp only [Option.bind_some]
    cases t with
    | false => exact ⟨_, _, _, rfl, by omega⟩
    | true =>
      rw [if_pos rfl]
      obtain ⟨x4, h4, _⟩ := pick b q 3 r (by omega) (by omega) (by omega)
      obtain ⟨x5, h5, g5, g6⟩ := pick b (q + 1) 3 r (by omega) (by omega) (by omega)
      have g7 := g6 (by omega)
      simp only [h4, h5, Option.bind_some, List.length_cons, List.length_nil]
      by_cases c : x4 = 0
      · rw [if_pos c, if_pos g5, if_pos (by simpa using g7), if_pos (by omega)]
        exact ⟨_, _, _, rfl, by simp; omega⟩
      · rw [if_neg c]
        by_cases c2 : x4 = 1
        · rw [if_pos c2, if_pos (by omega)]
          exact ⟨_, _, _, rfl, by simp; omega⟩
        · rw [if_neg c2, if_pos (by omega)]
          exact ⟨_, _, _, rfl, by simp⟩
  | succ m ih =>
    intro l p hm hl hl1 hp hp2
    rw [spec_l20Bars.vl0_eq, if_pos (by omega)]
    obtain ⟨x1, h1, _⟩ := pick b p 2 r hp (by omega) (by omega)
    obtain ⟨x2, h2, _⟩ := pick b (p + 1) 4 r (by omega) (by omega) (by omega)
    rw [h1]
    simp only [Option.bind_some, h2]
    rw [if_pos (show l.length < 17592186044416 by omega), if_pos (show l.length < 17592186044416 by omega), if_pos (show l.length < 17592186044416 by omega), w64 (n := ((m + 1 : Nat) : Int) - 1) (by omega), show ((m + 1 : Nat) : Int) - 1 = (m : Int) by omega]
    split
    · split
      · exact ih _ _ (by omega) (by simp; omega) (by simp; omega) (by omega) (by omega)
      · exact ih _ _ (by omega) (by simp; omega) (by simp; omega) (by omega) (by omega)
    · exact ih _ _ (by omega) (by simp; omega) (by simp; omega) (by omega) (by omega)
theorem bars (b : List Int) (r : Rd b) : ∃ l c q, spec_l20Bars.v b 0 2 = some (l, c, q) ∧ l.length ≤ 40 := by
  rw [spec_l20Bars.v_eq]
  obtain ⟨x, h, h1, h2⟩ := pick b 0 2 r (by omega) (by omega) (by omega)
  obtain ⟨y, h3, h4, h5⟩ := pick b (0 + 1) 6 r (by omega) (by omega) (by omega)
  have h6 := h5 (by omega)
  rw [h]
  simp only [Option.bind_some, h3]
  rw [w64 (by omega)]
  obtain ⟨m, rfl⟩ := Int.eq_ofNat_of_zero_le h4
  rw [show (1 + (m : Int)) = ((m + 1 : Nat) : Int) by omega]
  exact bars_loop b 2 r (by omega) _ (m + 1) [] _ (by omega) (by simp; omega) (by simp) (by omega) (by omega)

theorem FnBarsValid : ∀ (x0 : List Int), x0.length ≤ maxLen → (∀ y ∈ x0, (Lit.int .u8 y).wf = true) → ∃ k, laws_FnBarsValid.f k x0 = some true := by
  intro x _ hx
  refine (laws_FnBarsValid.L x).rounds ?_
  rw [laws_FnBarsValid.v_eq]
  by_cases c : (x.length : Int) > 1048576
  · rw [if_pos c]
  rw [if_neg c, spec_DrawBarsValid.v_eq]
  obtain ⟨b, hb, r⟩ := open_of x hx
  obtain ⟨l, cp, q, h, hl⟩ := bars b r
  rw [hb]
  simp only [Option.bind_some, h, implBars_val l _ (show l.length ≤ 1048576 by omega), specBars_val l _ (show l.length ≤ 1048576 by omega), bne_self_eq_false, Bool.false_eq_true, if_false, List.length_nil, alive]
  by_cases k : (l.all (okBar cp) && decide (1 ≤ l.length) && decide (l.length ≤ 6)) = true
  · rw [if_pos k, if_pos (by omega), if_pos (by simp; omega), implBars_val _ _ (by simp; omega)]
    simp only [Bool.and_eq_true, decide_eq_true_eq] at k
    have k3 : (l.all (okBar true) && decide (1 ≤ l.length) && decide (l.length ≤ 6)) = true := by
      simp only [Bool.and_eq_true, decide_eq_true_eq]
      refine ⟨⟨List.all_eq_true.2 fun y hy => ?_, k.1.2⟩, k.2⟩
      have := List.all_eq_true.1 k.1.1 y hy
      simp [okBar] at this ⊢
      omega
    rw [k3]
    simp [okBar]
  · rw [if_neg k]

end Go.Proofs.YtoajkfhjgnonjaaDoor.Pure
