/- What the exact laws' helpers answer: copies, sizes, comparisons, marks. No condition beyond the bounds in each line. -/
import Derived.Test.YtgoiihfojhpcmaaVR1
import Derived.Test.YtgoiihfojhpcmaaVR2
import Derived.Test.YtgoiihfojhpcmaaVR3
import Derived.Test.YtgoiihfojhpcmaaVR4
import Derived.Test.YtgoiihfojhpcmaaVR5
import Derived.Test.YtgoiihfojhpcmaaVR6
import Derived.Test.YtgoiihfojhpcmaaVR7
import Derived.Test.YtgoiihfojhpcmaaVR8
import Derived.Test.YtgoiihfojhpcmaaNum
namespace Go.Proofs.Ytgoiihfojhpcmaa.R
open Go.RowKit Go.Proofs.YtgoiihfojhpcmaaW.PrintWords Go.Proofs.YtgoiihfojhpcmaaW.PrintLast Go.Proofs.Ytgoiihfojhpcmaa.Op
set_option linter.unusedVariables false
set_option linter.unusedSimpArgs false
theorem rd_T141_nat (xs : List S141) (i : Nat) (h : i < xs.length) : rd_T141 xs (i : Int) = xs[i] := by
  simp [rd_T141, List.getD_eq_getElem?_getD, List.getElem?_eq_getElem h]
theorem rd_T139_nat (xs : List S139) (i : Nat) (h : i < xs.length) : rd_T139 xs (i : Int) = xs[i] := by
  simp [rd_T139, List.getD_eq_getElem?_getD, List.getElem?_eq_getElem h]
def cLine (s : S141) : S139 := ⟨s.f0, s.f1, s.f2⟩
theorem laws_toLineS.loop (x0 : List S141) (hb : x0.length ≤ 11728124029610) (d : Nat) : ∀ (y : List S139) (i : Nat), i + d = x0.length → y.length = x0.length → y.take i = (x0.map cLine).take i → laws_toLineS.vl0 x0 y (i : Int) = some (x0.map cLine) := by
  induction d with
  | zero =>
    intro y i hi hl ht
    rw [laws_toLineS.vl0_eq, if_neg (by omega)]
    rw [List.take_of_length_le (by omega), List.take_of_length_le (by first | omega | (rw [List.length_map]; omega))] at ht
    rw [ht]
  | succ d ih =>
    intro y i hi hl ht
    rw [laws_toLineS.vl0_eq, if_pos (by omega), if_pos (by omega)]
    simp only [laws_toLine.f, Option.bind_some]
    rw [if_pos (by omega), w64 (by omega)]
    have e : ((i : Int) + 1) = ((i + 1 : Nat) : Int) := by omega
    rw [e, rd_T141_nat x0 i (by omega), Int.toNat_natCast]
    have hm : (x0.map cLine)[i]'(by rw [List.length_map]; omega) = cLine (x0[i]'(by omega)) := by simp
    have hs := fill_step (x0.map cLine) y i (by rw [List.length_map]; omega) (by rw [List.length_map]; exact hl) ht
    rw [hm] at hs
    exact ih _ (i + 1) (by omega) (by simp [hl]) hs
theorem laws_toLineS.val (x0 : List S141) (hb : x0.length ≤ 11728124029610) : laws_toLineS.v x0 = some (x0.map cLine) := by
  rw [laws_toLineS.v_eq, if_pos (by omega), if_pos (by omega)]
  exact laws_toLineS.loop x0 hb x0.length _ 0 (by omega) (by simp) (by simp)
theorem laws_toBoolS.loop (x0 : List Bool) (hb : x0.length ≤ 281474976710656) (d : Nat) : ∀ (y : List Bool) (i : Nat), i + d = x0.length → y.length = x0.length → y.take i = x0.take i → laws_toBoolS.vl0 x0 y (i : Int) = some x0 := by
  induction d with
  | zero =>
    intro y i hi hl ht
    rw [laws_toBoolS.vl0_eq, if_neg (by omega)]
    rw [List.take_of_length_le (by omega), List.take_of_length_le (by first | omega | (rw [List.length_map]; omega))] at ht
    rw [ht]
  | succ d ih =>
    intro y i hi hl ht
    rw [laws_toBoolS.vl0_eq, if_pos (by omega), if_pos (by omega), if_pos (by omega), w64 (by omega)]
    have e : ((i : Int) + 1) = ((i + 1 : Nat) : Int) := by omega
    rw [e, rdOf_nat false x0 i (by omega), Int.toNat_natCast]
    exact ih _ (i + 1) (by omega) (by simp [hl]) (fill_step x0 y i (by omega) hl ht)
theorem laws_toBoolS.val (x0 : List Bool) (hb : x0.length ≤ 281474976710656) : laws_toBoolS.v x0 = some x0 := by
  rw [laws_toBoolS.v_eq, if_pos (by omega), if_pos (by omega)]
  exact laws_toBoolS.loop x0 hb x0.length _ 0 (by omega) (by simp) (by simp)
theorem rd_T105_nat (xs : List S105) (i : Nat) (h : i < xs.length) : rd_T105 xs (i : Int) = xs[i] := by
  simp [rd_T105, List.getD_eq_getElem?_getD, List.getElem?_eq_getElem h]
theorem rd_T98_nat (xs : List S98) (i : Nat) (h : i < xs.length) : rd_T98 xs (i : Int) = xs[i] := by
  simp [rd_T98, List.getD_eq_getElem?_getD, List.getElem?_eq_getElem h]
def cStep (s : S105) : S98 := ⟨s.f0, s.f1⟩
theorem laws_toStepS.loop (x0 : List S105) (hb : x0.length ≤ 17592186044416) (d : Nat) : ∀ (y : List S98) (i : Nat), i + d = x0.length → y.length = x0.length → y.take i = (x0.map cStep).take i → laws_toStepS.vl0 x0 y (i : Int) = some (x0.map cStep) := by
  induction d with
  | zero =>
    intro y i hi hl ht
    rw [laws_toStepS.vl0_eq, if_neg (by omega)]
    rw [List.take_of_length_le (by omega), List.take_of_length_le (by first | omega | (rw [List.length_map]; omega))] at ht
    rw [ht]
  | succ d ih =>
    intro y i hi hl ht
    rw [laws_toStepS.vl0_eq, if_pos (by omega), if_pos (by omega)]
    simp only [laws_toStep.f, Option.bind_some]
    rw [if_pos (by omega), w64 (by omega)]
    have e : ((i : Int) + 1) = ((i + 1 : Nat) : Int) := by omega
    rw [e, rd_T105_nat x0 i (by omega), Int.toNat_natCast]
    have hm : (x0.map cStep)[i]'(by rw [List.length_map]; omega) = cStep (x0[i]'(by omega)) := by simp
    have hs := fill_step (x0.map cStep) y i (by rw [List.length_map]; omega) (by rw [List.length_map]; exact hl) ht
    rw [hm] at hs
    exact ih _ (i + 1) (by omega) (by simp [hl]) hs
theorem laws_toStepS.val (x0 : List S105) (hb : x0.length ≤ 17592186044416) : laws_toStepS.v x0 = some (x0.map cStep) := by
  rw [laws_toStepS.v_eq, if_pos (by omega), if_pos (by omega)]
  exact laws_toStepS.loop x0 hb x0.length _ 0 (by omega) (by simp) (by simp)
theorem laws_eqStepS.loop (x0 : List S98) (hb : x0.length ≤ 9223372036854775806) (d : Nat) : ∀ (i : Nat), i + d = x0.length → laws_eqStepS.vl0 x0 x0 (i : Int) = some true := by
  induction d with
  | zero =>
    intro i hi
    rw [laws_eqStepS.vl0_eq, if_neg (by omega)]
  | succ d ih =>
    intro i hi
    rw [laws_eqStepS.vl0_eq, if_pos (by omega), if_pos (by omega), if_pos (by omega)]
    simp only [laws_eqStep.f, bne_self_eq_false, Bool.false_eq_true, if_true, if_false, Option.bind_some]
    rw [w64 (by omega)]
    exact ih (i + 1) (by omega)
theorem laws_eqStepS.val (x0 : List S98) (hb : x0.length ≤ 9223372036854775806) : laws_eqStepS.v x0 x0 = some true := by
  rw [laws_eqStepS.v_eq, if_pos rfl]
  exact laws_eqStepS.loop x0 hb x0.length 0 (by omega)
theorem laws_eqLineS.loop (x0 : List S139) (hb : x0.length ≤ 9223372036854775806) (d : Nat) : ∀ (i : Nat), i + d = x0.length → laws_eqLineS.vl0 x0 x0 (i : Int) = some true := by
  induction d with
  | zero =>
    intro i hi
    rw [laws_eqLineS.vl0_eq, if_neg (by omega)]
  | succ d ih =>
    intro i hi
    rw [laws_eqLineS.vl0_eq, if_pos (by omega), if_pos (by omega), if_pos (by omega)]
    simp only [laws_eqLine.f, bne_self_eq_false, Bool.false_eq_true, if_true, if_false, Option.bind_some]
    rw [w64 (by omega)]
    exact ih (i + 1) (by omega)
theorem laws_eqLineS.val (x0 : List S139) (hb : x0.length ≤ 9223372036854775806) : laws_eqLineS.v x0 x0 = some true := by
  rw [laws_eqLineS.v_eq, if_pos rfl]
  exact laws_eqLineS.loop x0 hb x0.length 0 (by omega)
theorem laws_eqBoolS.loop (x0 : List Bool) (hb : x0.length ≤ 9223372036854775806) (d : Nat) : ∀ (i : Nat), i + d = x0.length → laws_eqBoolS.vl0 x0 x0 (i : Int) = some true := by
  induction d with
  | zero =>
    intro i hi
    rw [laws_eqBoolS.vl0_eq, if_neg (by omega)]
  | succ d ih =>
    intro i hi
    rw [laws_eqBoolS.vl0_eq, if_pos (by omega), if_pos (by omega), if_pos (by omega)]
    simp only [bne_self_eq_false, Bool.false_eq_true, if_false]
    rw [w64 (by omega)]
    exact ih (i + 1) (by omega)
theorem laws_eqBoolS.val (x0 : List Bool) (hb : x0.length ≤ 9223372036854775806) : laws_eqBoolS.v x0 x0 = some true := by
  rw [laws_eqBoolS.v_eq, if_pos rfl]
  exact laws_eqBoolS.loop x0 hb x0.length 0 (by omega)
theorem laws_markLineS.loop (d : Nat) : ∀ (x : List S139) (i : Nat) (m : Int), i + d = x.length → x.length ≤ 1000000000000 → 0 ≤ m → m + 3 * d ≤ 4000000000000000000 → ∃ y, laws_markLineS.vl0 x m (i : Int) = some (m + 3 * d, y) ∧ y.length = x.length ∧ y.take i = x.take i := by
  induction d with
  | zero =>
    intro x i m hi hx hm hb
    refine ⟨x, ?_, rfl, rfl⟩
    · rw [laws_markLineS.vl0_eq, if_neg (by omega)]
      simp
  | succ d ih =>
    intro x i m hi hx hm hb
    obtain ⟨y, h1, h2, h3⟩ := ih (x.set i (⟨m, (m + 1), (m + 2)⟩ : S139)) (i + 1) (m + 3) (by rw [List.length_set]; omega) (by rw [List.length_set]; omega) (by omega) (by omega)
    rw [List.length_set] at h2
    have e : ((i : Int) + 1) = ((i + 1 : Nat) : Int) := by omega
    have e2 : m + 3 + 3 * (d : Int) = m + 3 * ((d + 1 : Nat) : Int) := by omega
    rw [e2] at h1
    refine ⟨y, ?_, h2, ?_⟩
    · rw [laws_markLineS.vl0_eq, if_pos (by omega), if_pos (by omega)]
      simp only [Option.bind_some, Int.toNat_natCast]
      rw [rd_T139_nat x i (by omega)]
      repeat rw [rd_T139_nat _ i (by rw [List.length_set]; omega)]
      simp only [List.getElem_set_self, List.set_set]
      repeat rw [rd_T139_nat _ i (by rw [List.length_set]; omega)]
      try simp only [List.getElem_set_self, List.set_set]
      rw [w64 (n := m + 1) (by omega), show m + 1 + 1 = m + 2 from by omega, w64 (n := m + 2) (by omega), show m + 2 + 1 = m + 3 from by omega, w64 (n := m + 3) (by omega), w64 (by omega), e]
      exact h1
    · have h5 := congrArg (List.take i) h3
      rw [List.take_take, List.take_take, Nat.min_eq_left (by omega), List.take_set_of_le (Nat.le_refl _)] at h5
      exact h5
theorem laws_markLineS.val (x : List S139) (m : Int) (hx : x.length ≤ 1000000000000) (hm : 0 ≤ m) (hb : m ≤ 1000000000000) : ∃ y, laws_markLineS.v x m = some (m + 3 * x.length, y) := by
  obtain ⟨y, h1, _, _⟩ := laws_markLineS.loop x.length x 0 m (by omega) hx hm (by omega)
  exact ⟨y, by rw [laws_markLineS.v_eq]; exact h1⟩
theorem laws_markBoolS.loop (d : Nat) : ∀ (x : List Bool) (i : Nat) (m : Int), i + d = x.length → x.length ≤ 1000000000000 → 0 ≤ m → m + 1 * d ≤ 4000000000000000000 → ∃ y, laws_markBoolS.vl0 x m (i : Int) = some (m + 1 * d, y) ∧ y.length = x.length ∧ y.take i = x.take i ∧ laws_heldBoolS.vl0 y m (i : Int) = some (m + 1 * d) := by
  induction d with
  | zero =>
    intro x i m hi hx hm hb
    refine ⟨x, ?_, rfl, rfl, ?_⟩
    · rw [laws_markBoolS.vl0_eq, if_neg (by omega)]
      simp
    · rw [laws_heldBoolS.vl0_eq, if_neg (by omega)]
      simp
  | succ d ih =>
    intro x i m hi hx hm hb
    obtain ⟨y, h1, h2, h3, h4⟩ := ih (x.set i ((Int.tmod m 3) == 0)) (i + 1) (m + 1) (by rw [List.length_set]; omega) (by rw [List.length_set]; omega) (by omega) (by omega)
    rw [List.length_set] at h2
    have e : ((i : Int) + 1) = ((i + 1 : Nat) : Int) := by omega
    have e2 : m + 1 + 1 * (d : Int) = m + 1 * ((d + 1 : Nat) : Int) := by omega
    rw [e2] at h1 h4
    refine ⟨y, ?_, h2, ?_, ?_⟩
    · rw [laws_markBoolS.vl0_eq, if_pos (by omega), if_pos (by omega), w64 (n := m + 1) (by omega), w64 (by omega), e, Int.toNat_natCast]
      exact h1
    · have h5 := congrArg (List.take i) h3
      rw [List.take_take, List.take_take, Nat.min_eq_left (by omega), List.take_set_of_le (Nat.le_refl _)] at h5
      exact h5
    · have hy : y[i]'(by omega) = ((Int.tmod m 3) == 0) := by
        have h6 : (y.take (i + 1))[i]? = ((x.set i ((Int.tmod m 3) == 0)).take (i + 1))[i]? := by rw [h3]
        rw [List.getElem?_take_of_lt (by omega), List.getElem?_take_of_lt (by omega), List.getElem?_set_self (by omega), List.getElem?_eq_getElem (by omega)] at h6
        exact Option.some.inj h6
      rw [laws_heldBoolS.vl0_eq, if_pos (by omega), if_pos (by omega), rdOf_nat false y i (by omega), hy]
      simp only [bne_self_eq_false, Bool.false_eq_true, if_false]
      rw [w64 (n := m + 1) (by omega), w64 (by omega), e]
      exact h4
theorem laws_markBoolS.val (x : List Bool) (m : Int) (hx : x.length ≤ 1000000000000) (hm : 0 ≤ m) (hb : m ≤ 1000000000000) : ∃ y, laws_markBoolS.v x m = some (m + 1 * x.length, y) ∧ laws_heldBoolS.v y m = some (m + 1 * x.length) := by
  obtain ⟨y, h1, _, _, h4⟩ := laws_markBoolS.loop x.length x 0 m (by omega) hx hm (by omega)
  exact ⟨y, by rw [laws_markBoolS.v_eq]; exact h1, by rw [laws_heldBoolS.v_eq]; exact h4⟩
theorem laws_markStepS.loop (d : Nat) : ∀ (x : List S98) (i : Nat) (m : Int), i + d = x.length → x.length ≤ 1000000000000 → 0 ≤ m → m + 2 * d ≤ 4000000000000000000 → ∃ y, laws_markStepS.vl0 x m (i : Int) = some (m + 2 * d, y) ∧ y.length = x.length ∧ y.take i = x.take i := by
  induction d with
  | zero =>
    intro x i m hi hx hm hb
    refine ⟨x, ?_, rfl, rfl⟩
    · rw [laws_markStepS.vl0_eq, if_neg (by omega)]
      simp
  | succ d ih =>
    intro x i m hi hx hm hb
    obtain ⟨y, h1, h2, h3⟩ := ih (x.set i (⟨m, ((Int.tmod (m + 1) 3) == 0)⟩ : S98)) (i + 1) (m + 2) (by rw [List.length_set]; omega) (by rw [List.length_set]; omega) (by omega) (by omega)
    rw [List.length_set] at h2
    have e : ((i : Int) + 1) = ((i + 1 : Nat) : Int) := by omega
    have e2 : m + 2 + 2 * (d : Int) = m + 2 * ((d + 1 : Nat) : Int) := by omega
    rw [e2] at h1
    refine ⟨y, ?_, h2, ?_⟩
    · rw [laws_markStepS.vl0_eq, if_pos (by omega), if_pos (by omega)]
      simp only [Option.bind_some, Int.toNat_natCast]
      rw [rd_T98_nat x i (by omega)]
      repeat rw [rd_T98_nat _ i (by rw [List.length_set]; omega)]
      simp only [List.getElem_set_self, List.set_set]
      repeat rw [rd_T98_nat _ i (by rw [List.length_set]; omega)]
      try simp only [List.getElem_set_self, List.set_set]
      rw [w64 (n := m + 1) (by omega), show m + 1 + 1 = m + 2 from by omega, w64 (n := m + 2) (by omega), w64 (by omega), e]
      exact h1
    · have h5 := congrArg (List.take i) h3
      rw [List.take_take, List.take_take, Nat.min_eq_left (by omega), List.take_set_of_le (Nat.le_refl _)] at h5
      exact h5
theorem laws_markStepS.val (x : List S98) (m : Int) (hx : x.length ≤ 1000000000000) (hm : 0 ≤ m) (hb : m ≤ 1000000000000) : ∃ y, laws_markStepS.v x m = some (m + 2 * x.length, y) := by
  obtain ⟨y, h1, _, _⟩ := laws_markStepS.loop x.length x 0 m (by omega) hx hm (by omega)
  exact ⟨y, by rw [laws_markStepS.v_eq]; exact h1⟩
end Go.Proofs.Ytgoiihfojhpcmaa.R
