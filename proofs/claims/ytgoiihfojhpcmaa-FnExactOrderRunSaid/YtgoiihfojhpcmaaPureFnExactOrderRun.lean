/- The pure statement of FnExactOrderRun: what the printed functions compute answers true. -/
import Derived.Test.YtgoiihfojhpcmaaRx8
import Derived.Test.YtgoiihfojhpcmaaVR8
import Derived.Test.YtgoiihfojhpcmaaCFnExactOrderRun
import Derived.Test.YtgoiihfojhpcmaaNetVal
import Derived.Test.YtgoiihfojhpcmaaOrderVal
import Derived.Test.YtgoiihfojhpcmaaOrderRunVal
namespace Go.Proofs.Ytgoiihfojhpcmaa.Pure
open Go.RowKit Go.Proofs.Ytgoiihfojhpcmaa.R Go.Proofs.YtgoiihfojhpcmaaW.PrintWords Go.Proofs.YtgoiihfojhpcmaaW.PrintLast Go.Proofs.Ytgoiihfojhpcmaa.Op

set_option linter.unusedSimpArgs false
set_option linter.unusedVariables false
theorem to_net (n : Int) (l : List S141) (hl : l.length ≤ 1048576) : laws_toNet.v n l = some (n, l.map cLine) := by
  rw [laws_toNet.v_eq, laws_toLineS.val l (by omega)]
  rfl
theorem eq_net (n : Int) (l : List S139) (hl : l.length ≤ 1048576) : laws_eqNet.v n l n l = some true := by
  rw [laws_eqNet.v_eq, if_pos rfl, laws_eqLineS.val l (by omega)]
  simp
/-- Within the bound of sizes all is small. -/
theorem sizes (n : Int) (l : List S141) (s : List S105) (hl : l.length ≤ maxLen) (hs : s.length ≤ maxLen) :
    ∃ t, laws_szNet.f n l 1048576 = some t ∧ (t < 0 ∨ (l.length ≤ 1048576 ∧ ∃ u, laws_szStepS.f s t = some u ∧ (u < 0 ∨ s.length ≤ 1048576))) := by
  have h1 := max_len hl
  have h2 := max_len hs
  simp only [laws_szNet.f, laws_szLineS.f, laws_szStepS.f]
  rw [w64 (n := 1048576 - (l.length : Int)) (by omega)]
  by_cases c1 : 1048576 - (l.length : Int) < 0
  · exact ⟨-1, by simp [c1], Or.inl (by omega)⟩
  rw [if_neg c1, Option.bind_some, if_neg c1]
  refine ⟨_, rfl, Or.inr ⟨by omega, ?_⟩⟩
  rw [w64 (n := 1048576 - (l.length : Int) - (s.length : Int)) (by omega)]
  by_cases c2 : 1048576 - (l.length : Int) - (s.length : Int) < 0
  · exact ⟨-1, by rw [if_pos c2], Or.inl (by omega)⟩
  rw [if_neg c2]
  exact ⟨_, rfl, Or.inr (by omega)⟩

theorem FnExactOrderRun : ∀ (x0_0 : Int) (x0_1 : List S141) (x1 : List Bool) (x2 : List S105), (Lit.int .i64 x0_0).wf = true → x0_1.length ≤ maxLen → (∀ y ∈ x0_1, (Lit.int .i64 y.f0).wf = true ∧ (Lit.int .i64 y.f1).wf = true ∧ (Lit.int .i64 y.f2).wf = true) → x1.length ≤ maxLen → x2.length ≤ maxLen → (∀ y ∈ x2, (Lit.int .i64 y.f0).wf = true) → ∃ k, laws_FnExactOrderRun.f k x0_0 x0_1 x1 x2 = some true := by
  intro n l on s _ hl _ ho hs _
  refine (laws_FnExactOrderRun.L n l on s).rounds ?_
  rw [laws_FnExactOrderRun.v_eq]
  by_cases c0 : (on.length : Int) > 1048576
  · rw [if_pos c0]
  have ho2 : on.length ≤ 1048576 := by omega
  obtain ⟨t, h, h2⟩ := sizes n l s hl hs
  rw [if_neg c0, h, Option.bind_some]
  by_cases c : t < 0
  · rw [if_pos c]
  obtain ⟨l1, u, hu, h3⟩ := h2.resolve_left c
  rw [if_neg c, hu, Option.bind_some]
  by_cases c2 : u < 0
  · rw [if_pos c2]
  have s1 := h3.resolve_left c2
  have l2 : (l.map cLine).length ≤ 1048576 := by simpa using l1
  have s2 : (s.map cStep).length ≤ 1048576 := by simpa using s1
  have r1 : (orderRun n (l.map cLine) on (s.map cStep)).1.length ≤ 1048576 := by
    unfold orderRun
    split
    · rw [runO_len]; exact ho2
    · simp
  obtain ⟨ym1, m1⟩ := laws_markLineS.val (l.map cLine) 1 (by omega) (by omega) (by omega)
  obtain ⟨ym2, m2, _⟩ := laws_markBoolS.val on (1 + 3 * ((l.map cLine).length : Int)) (by omega) (by omega) (by omega)
  obtain ⟨ym3, m3⟩ := laws_markStepS.val (s.map cStep) (1 + 3 * ((l.map cLine).length : Int) + 1 * (on.length : Int)) (by omega) (by omega) (by omega)
  obtain ⟨ym4, m4, m5⟩ := laws_markBoolS.val (orderRun n (l.map cLine) on (s.map cStep)).1 1 (by omega) (by omega) (by omega)
  have hm1 : ¬ (1 + 3 * ((l.map cLine).length : Int) + 1 * (on.length : Int) + 2 * ((s.map cStep).length : Int) < 0) := by omega
  have hm2 : ¬ (1 + 1 * ((orderRun n (l.map cLine) on (s.map cStep)).1.length : Int) < 0) := by omega
  rw [if_neg c2]
  simp only [Option.bind_some, to_net n l l1, laws_toBoolS.val on (by omega), laws_toStepS.val s (by omega), specOrderRun n (l.map cLine) on (s.map cStep) l2 ho2 s2, implOrderRun n (l.map cLine) on (s.map cStep) l2 ho2 s2, laws_eqBoolS.val (orderRun n (l.map cLine) on (s.map cStep)).1 (by omega), if_true, bne_self_eq_false, laws_FnExactOrderRun.vj0_eq, Bool.false_eq_true, if_false, eq_net n (l.map cLine) l2, laws_eqBoolS.val on (by omega), laws_eqStepS.val (s.map cStep) (by omega), laws_markNet.v_eq, m1, m2, m3, hm1, laws_FnExactOrderRun.vj1_eq, m4, m5, hm2, laws_FnExactOrderRun.vj2_eq]

end Go.Proofs.Ytgoiihfojhpcmaa.Pure
