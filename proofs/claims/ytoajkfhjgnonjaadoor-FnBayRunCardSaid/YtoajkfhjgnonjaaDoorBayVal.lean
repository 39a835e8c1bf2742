/- What a list of deeds does in a bay: the program's and the reference's answers are one. -/
import Derived.Test.YtoajkfhjgnonjaaDoorGx7
import Derived.Test.YtoajkfhjgnonjaaDoorV10
import Derived.Test.YtoajkfhjgnonjaaDoorV9
import Derived.Test.YtoajkfhjgnonjaaDoorNum
namespace Go.Proofs.YtoajkfhjgnonjaaDoor.Pure
open Go.RowKit Go.Proofs.YtoajkfhjgnonjaaDoor.G Go.Proofs.YtoajkfhjgnonjaaDoorW.PrintWords Go.Proofs.YtoajkfhjgnonjaaDoorW.PrintLast Go.Proofs.YtoajkfhjgnonjaaDoor.Op
set_option linter.unusedVariables false
set_option linter.unusedSimpArgs false
/-- A bay: breaker, bus side, line side, earth. -/
abbrev By := Bool × Bool × Bool × Bool
theorem of_eqB {α : Type} (x y : Option α) (h : x = y) (k : x.isSome = true) : ∃ r, x = some r ∧ y = some r := by
  obtain ⟨r, hr⟩ := Option.isSome_iff_exists.1 k
  exact ⟨r, hr, by rw [← h]; exact hr⟩
theorem sameDo (a b c d : Bool) (x : Int) : ∃ r, spec_BayDo.f a b c d x = some r ∧ impl_BayDo.f a b c d x = some r := by
  by_cases h : 0 ≤ x ∧ x ≤ 7
  · have h8 : x = 0 ∨ x = 1 ∨ x = 2 ∨ x = 3 ∨ x = 4 ∨ x = 5 ∨ x = 6 ∨ x = 7 := by omega
    rcases h8 with rfl | rfl | rfl | rfl | rfl | rfl | rfl | rfl <;> cases a <;> cases b <;> cases c <;> cases d <;> exact of_eqB _ _ (by decide +kernel) (by decide +kernel)
  · refine ⟨(a, b, c, d, false), ?_, ?_⟩
    · simp [spec_BayDo.f, spec_BayMay.f, h]
    · simp [impl_BayDo.f, impl_BayMay.f, h]
/-- The bay behind a deed, and whether it was done. -/
def doB (s : By) (x : Int) : By × Bool := match spec_BayDo.f s.1 s.2.1 s.2.2.1 s.2.2.2 x with
  | some r => ((r.1, r.2.1, r.2.2.1, r.2.2.2.1), r.2.2.2.2)
  | none => (s, false)
theorem spec_do (s : By) (x : Int) : spec_BayDo.f s.1 s.2.1 s.2.2.1 s.2.2.2 x = some ((doB s x).1.1, (doB s x).1.2.1, (doB s x).1.2.2.1, (doB s x).1.2.2.2, (doB s x).2) := by
  obtain ⟨r, h1, h2⟩ := sameDo s.1 s.2.1 s.2.2.1 s.2.2.2 x
  unfold doB
  rw [h1]
theorem impl_do (s : By) (x : Int) : impl_BayDo.f s.1 s.2.1 s.2.2.1 s.2.2.2 x = some ((doB s x).1.1, (doB s x).1.2.1, (doB s x).1.2.2.1, (doB s x).1.2.2.2, (doB s x).2) := by
  obtain ⟨r, h1, h2⟩ := sameDo s.1 s.2.1 s.2.2.1 s.2.2.2 x
  unfold doB
  rw [h1, h2]
/-- The bay behind the deeds that were done, and how many these were. -/
def runB : By → List Int → By × Nat
  | s, [] => (s, 0)
  | s, x :: l => if (doB s x).2 = true then ((runB (doB s x).1 l).1, (runB (doB s x).1 l).2 + 1) else (s, 0)
theorem spec_runs (l : List Int) (hl : l.length ≤ 9223372036854775806) (d : Nat) : ∀ (i : Nat) (s : By), i + d = l.length → spec_BayRun.vl0 l (i : Int) s.1 s.2.1 s.2.2.1 s.2.2.2 = some ((runB s (l.drop i)).1.1, (runB s (l.drop i)).1.2.1, (runB s (l.drop i)).1.2.2.1, (runB s (l.drop i)).1.2.2.2, ((i + (runB s (l.drop i)).2 : Nat) : Int)) := by
  induction d with
  | zero =>
    intro i s hi
    rw [spec_BayRun.vl0_eq, if_neg (by omega), List.drop_of_length_le (by omega)]
    simp [runB]
    omega
  | succ d ih =>
    intro i s hi
    rw [spec_BayRun.vl0_eq, if_pos (by omega), if_pos (by omega), rd_nat l i (by omega), spec_do, List.drop_eq_getElem_cons (show i < l.length by omega), w64 (by omega), show ((i : Int) + 1) = ((i + 1 : Nat) : Int) by omega]
    simp only [Option.bind_some, runB]
    by_cases c : (doB s l[i]).2 = true
    · rw [if_pos c, if_pos c, ih (i + 1) (doB s l[i]).1 (by omega)]
      simp
      omega
    · rw [if_neg c, if_neg c]
      simp
theorem impl_runs (l : List Int) (hl : l.length ≤ 9223372036854775806) (d : Nat) : ∀ (i : Nat) (s : By), i + d = l.length → impl_BayRun.vl0 l l (l.length : Int) (i : Int) s.1 s.2.1 s.2.2.1 s.2.2.2 = some ((runB s (l.drop i)).1.1, (runB s (l.drop i)).1.2.1, (runB s (l.drop i)).1.2.2.1, (runB s (l.drop i)).1.2.2.2, ((i + (runB s (l.drop i)).2 : Nat) : Int)) := by
  induction d with
  | zero =>
    intro i s hi
    rw [impl_BayRun.vl0_eq, if_neg (by omega), List.drop_of_length_le (by omega)]
    simp [runB]
    omega
  | succ d ih =>
    intro i s hi
    rw [impl_BayRun.vl0_eq, if_pos (by omega), if_pos (by omega), if_pos (by omega), rd_nat l i (by omega), impl_do, List.drop_eq_getElem_cons (show i < l.length by omega), w64 (by omega), show ((i : Int) + 1) = ((i + 1 : Nat) : Int) by omega]
    simp only [Option.bind_some, runB]
    by_cases c : (doB s l[i]).2 = true
    · rw [if_pos c, if_pos c, ih (i + 1) (doB s l[i]).1 (by omega)]
      simp
      omega
    · rw [if_neg c, if_neg c]
      simp
theorem spec_run (s : By) (l : List Int) (hl : l.length ≤ 9223372036854775806) : spec_BayRun.v s.1 s.2.1 s.2.2.1 s.2.2.2 l = some ((runB s l).1.1, (runB s l).1.2.1, (runB s l).1.2.2.1, (runB s l).1.2.2.2, ((runB s l).2 : Int)) := by
  rw [spec_BayRun.v_eq]
  have := spec_runs l hl l.length 0 s (by omega)
  simpa using this
theorem impl_run (s : By) (l : List Int) (hl : l.length ≤ 9223372036854775806) : impl_BayRun.v s.1 s.2.1 s.2.2.1 s.2.2.2 l = some ((runB s l).1.1, (runB s l).1.2.1, (runB s l).1.2.2.1, (runB s l).1.2.2.2, ((runB s l).2 : Int)) := by
  rw [impl_BayRun.v_eq]
  have := impl_runs l hl l.length 0 s (by omega)
  simpa using this
end Go.Proofs.YtoajkfhjgnonjaaDoor.Pure
