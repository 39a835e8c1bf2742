/- The pure statement of FnExactWorkValid: what the printed functions compute answers true. -/
import Derived.Test.YtgoiihfojhpcmaaGx10
import Derived.Test.YtgoiihfojhpcmaaV10
import Derived.Test.YtgoiihfojhpcmaaCFnExactWorkValid
import Derived.Test.YtgoiihfojhpcmaaWorkVal
namespace Go.Proofs.Ytgoiihfojhpcmaa.Pure
open Go.RowKit Go.Proofs.Ytgoiihfojhpcmaa.G Go.Proofs.YtgoiihfojhpcmaaW.PrintWords Go.Proofs.YtgoiihfojhpcmaaW.PrintLast Go.Proofs.Ytgoiihfojhpcmaa.Op

set_option linter.unusedSimpArgs false
set_option linter.unusedVariables false
/-- Within the bound of sizes all is small. -/
theorem sizes (a b : List Bool) (l : List S147) (ha : a.length ≤ maxLen) (hb : b.length ≤ maxLen) (hl : l.length ≤ maxLen) :
    ∃ t, laws_szWork.f a b l 1048576 = some t ∧ (t < 0 ∨ (a.length ≤ 1048576 ∧ b.length ≤ 1048576 ∧ l.length ≤ 1048576)) := by
  have h1 := max_len ha
  have h2 := max_len hb
  have h3 := max_len hl
  simp only [laws_szWork.f, laws_szBoolS.f, laws_szPermitS.f]
  rw [w64 (n := 1048576 - (a.length : Int)) (by omega)]
  by_cases c1 : 1048576 - (a.length : Int) < 0
  · exact ⟨-1, by simp [c1], Or.inl (by omega)⟩
  rw [if_neg c1, Option.bind_some, if_neg c1, w64 (n := 1048576 - (a.length : Int) - (b.length : Int)) (by omega)]
  by_cases c2 : 1048576 - (a.length : Int) - (b.length : Int) < 0
  · exact ⟨-1, by simp [c2], Or.inl (by omega)⟩
  rw [if_neg c2, Option.bind_some, if_neg c2, w64 (n := 1048576 - (a.length : Int) - (b.length : Int) - (l.length : Int)) (by omega)]
  by_cases c3 : 1048576 - (a.length : Int) - (b.length : Int) - (l.length : Int) < 0
  · exact ⟨-1, by simp [c3], Or.inl (by omega)⟩
  exact ⟨_, by simp [c3]; rfl, Or.inr ⟨by omega, by omega, by omega⟩⟩
theorem to_work (a b : List Bool) (l : List S147) (ha : a.length ≤ 1048576) (hb : b.length ≤ 1048576) (hl : l.length ≤ 1048576) : laws_toWork.v a b l = some (a, b, l.map cPermit) := by
  rw [laws_toWork.v_eq, laws_toBoolS.val a (by omega), laws_toBoolS.val b (by omega), laws_toPermitS.val l (by omega)]
  rfl
theorem eq_work (a b : List Bool) (l : List S112) (ha : a.length ≤ 1048576) (hb : b.length ≤ 1048576) (hl : l.length ≤ 1048576) : laws_eqWork.v a b l a b l = some true := by
  rw [laws_eqWork.v_eq, laws_eqBoolS.val a (by omega), laws_eqBoolS.val b (by omega), laws_eqPermitS.val l (by omega)]
  simp

theorem FnExactWorkValid : ∀ (x0_0 : List Bool) (x0_1 : List Bool) (x0_2 : List S147), x0_0.length ≤ maxLen → x0_1.length ≤ maxLen → x0_2.length ≤ maxLen → (∀ y ∈ x0_2, (Lit.int .i64 y.f0).wf = true ∧ (Lit.int .i64 y.f1).wf = true) → ∃ k, laws_FnExactWorkValid.f k x0_0 x0_1 x0_2 = some true := by
  intro a b l ha hb hl _
  refine (laws_FnExactWorkValid.L a b l).rounds ?_
  rw [laws_FnExactWorkValid.v_eq]
  obtain ⟨t, h, h2⟩ := sizes a b l ha hb hl
  rw [h, Option.bind_some]
  by_cases c : t < 0
  · rw [if_pos c]
  obtain ⟨a1, b1, l1⟩ := h2.resolve_left c
  have l2 : (l.map cPermit).length ≤ 1048576 := by simpa using l1
  rw [if_neg c, to_work a b l a1 b1 l1]
  simp only [Option.bind_some, specWork a b _ l2 a1, implWork a b _ l2 a1, eq_work a b _ a1 b1 l2, bne_self_eq_false, Bool.false_eq_true, if_false, if_true]

end Go.Proofs.Ytgoiihfojhpcmaa.Pure
