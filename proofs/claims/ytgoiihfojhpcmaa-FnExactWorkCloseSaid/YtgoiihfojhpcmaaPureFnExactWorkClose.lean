/- The pure statement of FnExactWorkClose: what the printed functions compute answers true. -/
import Derived.Test.YtgoiihfojhpcmaaGx16
import Derived.Test.YtgoiihfojhpcmaaV16
import Derived.Test.YtgoiihfojhpcmaaWorkVal
import Derived.Test.YtgoiihfojhpcmaaV11
import Derived.Test.YtgoiihfojhpcmaaV13
import Derived.Test.YtgoiihfojhpcmaaV14
import Derived.Test.YtgoiihfojhpcmaaV15
import Derived.Test.YtgoiihfojhpcmaaV2
import Derived.Test.YtgoiihfojhpcmaaV3
import Derived.Test.YtgoiihfojhpcmaaV4
import Derived.Test.YtgoiihfojhpcmaaV5
import Derived.Test.YtgoiihfojhpcmaaV6
import Derived.Test.YtgoiihfojhpcmaaV7
import Derived.Test.YtgoiihfojhpcmaaV8
import Derived.Test.YtgoiihfojhpcmaaV9
import Derived.Test.YtgoiihfojhpcmaaNum
namespace Go.Proofs.Ytgoiihfojhpcmaa.G
open Go.RowKit Go.Proofs.YtgoiihfojhpcmaaW.PrintWords Go.Proofs.YtgoiihfojhpcmaaW.PrintLast Go.Proofs.Ytgoiihfojhpcmaa.Op
set_option linter.unusedVariables false
set_option linter.unusedSimpArgs false
theorem laws_toIntS.loop (x0 : List Int) (hb : x0.length ≤ 35184372088832) (d : Nat) : ∀ (y : List Int) (i : Nat), i + d = x0.length → y.length = x0.length → y.take i = x0.take i → laws_toIntS.vl0 x0 y (i : Int) = some x0 := by
  induction d with
  | zero =>
    intro y i hi hl ht
    rw [laws_toIntS.vl0_eq, if_neg (by omega)]
    rw [List.take_of_length_le (by omega), List.take_of_length_le (by first | omega | (rw [List.length_map]; omega))] at ht
    rw [ht]
  | succ d ih =>
    intro y i hi hl ht
    rw [laws_toIntS.vl0_eq, if_pos (by omega), if_pos (by omega), if_pos (by omega), w64 (by omega)]
    have e : ((i : Int) + 1) = ((i + 1 : Nat) : Int) := by omega
    rw [e, rd_nat x0 i (by omega), Int.toNat_natCast]
    exact ih _ (i + 1) (by omega) (by simp [hl]) (fill_step x0 y i (by omega) hl ht)
theorem laws_toIntS.val (x0 : List Int) (hb : x0.length ≤ 35184372088832) : laws_toIntS.v x0 = some x0 := by
  rw [laws_toIntS.v_eq, if_pos (by omega), if_pos (by omega)]
  exact laws_toIntS.loop x0 hb x0.length _ 0 (by omega) (by simp) (by simp)
theorem laws_toBoolS.loop (x0 : List Bool) (hb : x0.length ≤ 281474976710656) (d : Nat) : ∀ (y : List Bool) (i : Nat), i + d = x0.length → y.length = x0.length → y.take i = x0.take i → laws_toBoolS.vl0 x0 y (i : Int) = some x0 := by
  induction d with
  | zero =>
    intro y i hi hl ht
    rw [laws_toBoolS.vl0_eq, if_neg (by omega)]
    rw [List.take_of_length_le (by omega), List.take_of_length_le (by first | omega | (rw [List.length_map]; omega))] at ht
    rw [ht]
  | succ d ih =>
    intro y i hi hl ht
    rw [laws_toBoolS.vl0_eq, if_pos (by omega), if_pos (by omega), if_pos (by omega), w64 (by omega)]
    have e : ((i : Int) + 1) = ((i + 1 : Nat) : Int) := by omega
    rw [e, rdOf_nat false x0 i (by omega), Int.toNat_natCast]
    exact ih _ (i + 1) (by omega) (by simp [hl]) (fill_step x0 y i (by omega) hl ht)
theorem laws_toBoolS.val (x0 : List Bool) (hb : x0.length ≤ 281474976710656) : laws_toBoolS.v x0 = some x0 := by
  rw [laws_toBoolS.v_eq, if_pos (by omega), if_pos (by omega)]
  exact laws_toBoolS.loop x0 hb x0.length _ 0 (by omega) (by simp) (by simp)
theorem rd_T147_nat (xs : List S147) (i : Nat) (h : i < xs.length) : rd_T147 xs (i : Int) = xs[i] := by
  simp [rd_T147, List.getD_eq_getElem?_getD, List.getElem?_eq_getElem h]
theorem rd_T112_nat (xs : List S112) (i : Nat) (h : i < xs.length) : rd_T112 xs (i : Int) = xs[i] := by
  simp [rd_T112, List.getD_eq_getElem?_getD, List.getElem?_eq_getElem h]
def cPermit (s : S147) : S112 := ⟨s.f0, s.f1⟩
theorem laws_toPermitS.loop (x0 : List S147) (hb : x0.length ≤ 17592186044416) (d : Nat) : ∀ (y : List S112) (i : Nat), i + d = x0.length → y.length = x0.length → y.take i = (x0.map cPermit).take i → laws_toPermitS.vl0 x0 y (i : Int) = some (x0.map cPermit) := by
  induction d with
  | zero =>
    intro y i hi hl ht
    rw [laws_toPermitS.vl0_eq, if_neg (by omega)]
    rw [List.take_of_length_le (by omega), List.take_of_length_le (by first | omega | (rw [List.length_map]; omega))] at ht
    rw [ht]
  | succ d ih =>
    intro y i hi hl ht
    rw [laws_toPermitS.vl0_eq, if_pos (by omega), if_pos (by omega)]
    simp only [laws_toPermit.f, Option.bind_some]
    rw [if_pos (by omega), w64 (by omega)]
    have e : ((i : Int) + 1) = ((i + 1 : Nat) : Int) := by omega
    rw [e, rd_T147_nat x0 i (by omega), Int.toNat_natCast]
    have hm : (x0.map cPermit)[i]'(by rw [List.length_map]; omega) = cPermit (x0[i]'(by omega)) := by simp
    have hs := fill_step (x0.map cPermit) y i (by rw [List.length_map]; omega) (by rw [List.length_map]; exact hl) ht
    rw [hm] at hs
    exact ih _ (i + 1) (by omega) (by simp [hl]) hs
theorem laws_toPermitS.val (x0 : List S147) (hb : x0.length ≤ 17592186044416) : laws_toPermitS.v x0 = some (x0.map cPermit) := by
  rw [laws_toPermitS.v_eq, if_pos (by omega), if_pos (by omega)]
  exact laws_toPermitS.loop x0 hb x0.length _ 0 (by omega) (by simp) (by simp)
theorem rd_T129_nat (xs : List S129) (i : Nat) (h : i < xs.length) : rd_T129 xs (i : Int) = xs[i] := by
  simp [rd_T129, List.getD_eq_getElem?_getD, List.getElem?_eq_getElem h]
theorem laws_eqWorkDeedS.loop (x0 : List S129) (hb : x0.length ≤ 9223372036854775806) (d : Nat) : ∀ (i : Nat), i + d = x0.length → laws_eqWorkDeedS.vl0 x0 x0 (i : Int) = some true := by
  induction d with
  | zero =>
    intro i hi
    rw [laws_eqWorkDeedS.vl0_eq, if_neg (by omega)]
  | succ d ih =>
    intro i hi
    rw [laws_eqWorkDeedS.vl0_eq, if_pos (by omega), if_pos (by omega), if_pos (by omega)]
    simp only [laws_eqWorkDeed.f, bne_self_eq_false, Bool.false_eq_true, if_true, if_false, Option.bind_some]
    rw [w64 (by omega)]
    exact ih (i + 1) (by omega)
theorem laws_eqWorkDeedS.val (x0 : List S129) (hb : x0.length ≤ 9223372036854775806) : laws_eqWorkDeedS.v x0 x0 = some true := by
  rw [laws_eqWorkDeedS.v_eq, if_pos rfl]
  exact laws_eqWorkDeedS.loop x0 hb x0.length 0 (by omega)
theorem laws_eqIntS.loop (x0 : List Int) (hb : x0.length ≤ 9223372036854775806) (d : Nat) : ∀ (i : Nat), i + d = x0.length → laws_eqIntS.vl0 x0 x0 (i : Int) = some true := by
  induction d with
  | zero =>
    intro i hi
    rw [laws_eqIntS.vl0_eq, if_neg (by omega)]
  | succ d ih =>
    intro i hi
    rw [laws_eqIntS.vl0_eq, if_pos (by omega), if_pos (by omega), if_pos (by omega)]
    rw [if_pos rfl, w64 (by omega)]
    exact ih (i + 1) (by omega)
theorem laws_eqIntS.val (x0 : List Int) (hb : x0.length ≤ 9223372036854775806) : laws_eqIntS.v x0 x0 = some true := by
  rw [laws_eqIntS.v_eq, if_pos rfl]
  exact laws_eqIntS.loop x0 hb x0.length 0 (by omega)
theorem laws_eqBoolS.loop (x0 : List Bool) (hb : x0.length ≤ 9223372036854775806) (d : Nat) : ∀ (i : Nat), i + d = x0.length → laws_eqBoolS.vl0 x0 x0 (i : Int) = some true := by
  induction d with
  | zero =>
    intro i hi
    rw [laws_eqBoolS.vl0_eq, if_neg (by omega)]
  | succ d ih =>
    intro i hi
    rw [laws_eqBoolS.vl0_eq, if_pos (by omega), if_pos (by omega), if_pos (by omega)]
    simp only [bne_self_eq_false, Bool.false_eq_true, if_false]
    rw [w64 (by omega)]
    exact ih (i + 1) (by omega)
theorem laws_eqBoolS.val (x0 : List Bool) (hb : x0.length ≤ 9223372036854775806) : laws_eqBoolS.v x0 x0 = some true := by
  rw [laws_eqBoolS.v_eq, if_pos rfl]
  exact laws_eqBoolS.loop x0 hb x0.length 0 (by omega)
theorem laws_eqPermitS.loop (x0 : List S112) (hb : x0.length ≤ 9223372036854775806) (d : Nat) : ∀ (i : Nat), i + d = x0.length → laws_eqPermitS.vl0 x0 x0 (i : Int) = some true := by
  induction d with
  | zero =>
    intro i hi
    rw [laws_eqPermitS.vl0_eq, if_neg (by omega)]
  | succ d ih =>
    intro i hi
    rw [laws_eqPermitS.vl0_eq, if_pos (by omega), if_pos (by omega), if_pos (by omega)]
    simp only [laws_eqPermit.f, bne_self_eq_false, Bool.false_eq_true, if_true, if_false, Option.bind_some]
    rw [w64 (by omega)]
    exact ih (i + 1) (by omega)
theorem laws_eqPermitS.val (x0 : List S112) (hb : x0.length ≤ 9223372036854775806) : laws_eqPermitS.v x0 x0 = some true := by
  rw [laws_eqPermitS.v_eq, if_pos rfl]
  exact laws_eqPermitS.loop x0 hb x0.length 0 (by omega)
theorem laws_markBoolS.loop (d : Nat) : ∀ (x : List Bool) (i : Nat) (m : Int), i + d = x.length → x.length ≤ 1000000000000 → 0 ≤ m → m + 1 * d ≤ 4000000000000000000 → ∃ y, laws_markBoolS.vl0 x m (i : Int) = some (m + 1 * d, y) ∧ y.length = x.length ∧ y.take i = x.take i := by
  induction d with
  | zero =>
    intro x i m hi hx hm hb
    refine ⟨x, ?_, rfl, rfl⟩
    · rw [laws_markBoolS.vl0_eq, if_neg (by omega)]
      simp
  | succ d ih =>
    intro x i m hi hx hm hb
    obtain ⟨y, h1, h2, h3⟩ := ih (x.set i ((Int.tmod m 3) == 0)) (i + 1) (m + 1) (by rw [List.length_set]; omega) (by rw [List.length_set]; omega) (by omega) (by omega)
    rw [List.length_set] at h2
    have e : ((i : Int) + 1) = ((i + 1 : Nat) : Int) := by omega
    have e2 : m + 1 + 1 * (d : Int) = m + 1 * ((d + 1 : Nat) : Int) := by omega
    rw [e2] at h1
    refine ⟨y, ?_, h2, ?_⟩
    · rw [laws_markBoolS.vl0_eq, if_pos (by omega), if_pos (by omega), w64 (n := m + 1) (by omega), w64 (by omega), e, Int.toNat_natCast]
      exact h1
    · have h5 := congrArg (List.take i) h3
      rw [List.take_take, List.take_take, Nat.min_eq_left (by omega), List.take_set_of_le (Nat.le_refl _)] at h5
      exact h5
theorem laws_markBoolS.val (x : List Bool) (m : Int) (hx : x.length ≤ 1000000000000) (hm : 0 ≤ m) (hb : m ≤ 1000000000000) : ∃ y, laws_markBoolS.v x m = some (m + 1 * x.length, y) := by
  obtain ⟨y, h1, _, _⟩ := laws_markBoolS.loop x.length x 0 m (by omega) hx hm (by omega)
  exact ⟨y, by rw [laws_markBoolS.v_eq]; exact h1⟩
theorem laws_markPermitS.loop (d : Nat) : ∀ (x : List S112) (i : Nat) (m : Int), i + d = x.length → x.length ≤ 1000000000000 → 0 ≤ m → m + 2 * d ≤ 4000000000000000000 → ∃ y, laws_markPermitS.vl0 x m (i : Int) = some (m + 2 * d, y) ∧ y.length = x.length ∧ y.take i = x.take i := by
  induction d with
  | zero =>
    intro x i m hi hx hm hb
    refine ⟨x, ?_, rfl, rfl⟩
    · rw [laws_markPermitS.vl0_eq, if_neg (by omega)]
      simp
  | succ d ih =>
    intro x i m hi hx hm hb
    obtain ⟨y, h1, h2, h3⟩ := ih (x.set i (⟨m, (m + 1)⟩ : S112)) (i + 1) (m + 2) (by rw [List.length_set]; omega) (by rw [List.length_set]; omega) (by omega) (by omega)
    rw [List.length_set] at h2
    have e : ((i : Int) + 1) = ((i + 1 : Nat) : Int) := by omega
    have e2 : m + 2 + 2 * (d : Int) = m + 2 * ((d + 1 : Nat) : Int) := by omega
    rw [e2] at h1
    refine ⟨y, ?_, h2, ?_⟩
    · rw [laws_markPermitS.vl0_eq, if_pos (by omega), if_pos (by omega)]
      simp only [Option.bind_some, Int.toNat_natCast]
      rw [rd_T112_nat x i (by omega)]
      repeat rw [rd_T112_nat _ i (by rw [List.length_set]; omega)]
      simp only [List.getElem_set_self, List.set_set]
      repeat rw [rd_T112_nat _ i (by rw [List.length_set]; omega)]
      try simp only [List.getElem_set_self, List.set_set]
      rw [w64 (n := m + 1) (by omega), show m + 1 + 1 = m + 2 from by omega, w64 (n := m + 2) (by omega), w64 (by omega), e]
      exact h1
    · have h5 := congrArg (List.take i) h3
      rw [List.take_take, List.take_take, Nat.min_eq_left (by omega), List.take_set_of_le (Nat.le_refl _)] at h5
      exact h5
theorem laws_markPermitS.val (x : List S112) (m : Int) (hx : x.length ≤ 1000000000000) (hm : 0 ≤ m) (hb : m ≤ 1000000000000) : ∃ y, laws_markPermitS.v x m = some (m + 2 * x.length, y) := by
  obtain ⟨y, h1, _, _⟩ := laws_markPermitS.loop x.length x 0 m (by omega) hx hm (by omega)
  exact ⟨y, by rw [laws_markPermitS.v_eq]; exact h1⟩
theorem laws_markWorkDeedS.loop (d : Nat) : ∀ (x : List S129) (i : Nat) (m : Int), i + d = x.length → x.length ≤ 1000000000000 → 0 ≤ m → m + 3 * d ≤ 4000000000000000000 → ∃ y, laws_markWorkDeedS.vl0 x m (i : Int) = some (m + 3 * d, y) ∧ y.length = x.length ∧ y.take i = x.take i ∧ laws_heldWorkDeedS.vl0 y m (i : Int) = some (m + 3 * d) := by
  induction d with
  | zero =>
    intro x i m hi hx hm hb
    refine ⟨x, ?_, rfl, rfl, ?_⟩
    · rw [laws_markWorkDeedS.vl0_eq, if_neg (by omega)]
      simp
    · rw [laws_heldWorkDeedS.vl0_eq, if_neg (by omega)]
      simp
  | succ d ih =>
    intro x i m hi hx hm hb
    obtain ⟨y, h1, h2, h3, h4⟩ := ih (x.set i (⟨m, (m + 1), (m + 2)⟩ : S129)) (i + 1) (m + 3) (by rw [List.length_set]; omega) (by rw [List.length_set]; omega) (by omega) (by omega)
    rw [List.length_set] at h2
    have e : ((i : Int) + 1) = ((i + 1 : Nat) : Int) := by omega
    have e2 : m + 3 + 3 * (d : Int) = m + 3 * ((d + 1 : Nat) : Int) := by omega
    rw [e2] at h1 h4
    refine ⟨y, ?_, h2, ?_, ?_⟩
    · rw [laws_markWorkDeedS.vl0_eq, if_pos (by omega), if_pos (by omega)]
      simp only [Option.bind_some, Int.toNat_natCast]
      rw [rd_T129_nat x i (by omega)]
      repeat rw [rd_T129_nat _ i (by rw [List.length_set]; omega)]
      simp only [List.getElem_set_self, List.set_set]
      repeat rw [rd_T129_nat _ i (by rw [List.length_set]; omega)]
      try simp only [List.getElem_set_self, List.set_set]
      rw [w64 (n := m + 1) (by omega), show m + 1 + 1 = m + 2 from by omega, w64 (n := m + 2) (by omega), show m + 2 + 1 = m + 3 from by omega, w64 (n := m + 3) (by omega), w64 (by omega), e]
      exact h1
    · have h5 := congrArg (List.take i) h3
      rw [List.take_take, List.take_take, Nat.min_eq_left (by omega), List.take_set_of_le (Nat.le_refl _)] at h5
      exact h5
    · have hy : y[i]'(by omega) = (⟨m, (m + 1), (m + 2)⟩ : S129) := by
        have h6 : (y.take (i + 1))[i]? = ((x.set i (⟨m, (m + 1), (m + 2)⟩ : S129)).take (i + 1))[i]? := by rw [h3]
        rw [List.getElem?_take_of_lt (by omega), List.getElem?_take_of_lt (by omega), List.getElem?_set_self (by omega), List.getElem?_eq_getElem (by omega)] at h6
        exact Option.some.inj h6
      rw [laws_heldWorkDeedS.vl0_eq, if_pos (by omega), if_pos (by omega), rd_T129_nat y i (by omega), hy]
      rw [w64 (n := m + 1) (by omega), show m + 1 + 1 = m + 2 from by omega, w64 (n := m + 2) (by omega), show m + 2 + 1 = m + 3 from by omega, w64 (n := m + 3) (by omega)]
      simp only [if_true, bne_self_eq_false, Bool.false_eq_true, if_false]
      rw [w64 (n := (i : Int) + 1) (by omega), e]
      exact h4
theorem laws_markWorkDeedS.val (x : List S129) (m : Int) (hx : x.length ≤ 1000000000000) (hm : 0 ≤ m) (hb : m ≤ 1000000000000) : ∃ y, laws_markWorkDeedS.v x m = some (m + 3 * x.length, y) ∧ laws_heldWorkDeedS.v y m = some (m + 3 * x.length) := by
  obtain ⟨y, h1, _, _, h4⟩ := laws_markWorkDeedS.loop x.length x 0 m (by omega) hx hm (by omega)
  exact ⟨y, by rw [laws_markWorkDeedS.v_eq]; exact h1, by rw [laws_heldWorkDeedS.v_eq]; exact h4⟩
end Go.Proofs.Ytgoiihfojhpcmaa.G
namespace Go.Proofs.Ytgoiihfojhpcmaa.Pure
open Go.RowKit Go.Proofs.Ytgoiihfojhpcmaa.G Go.Proofs.YtgoiihfojhpcmaaW.PrintWords Go.Proofs.YtgoiihfojhpcmaaW.PrintLast Go.Proofs.Ytgoiihfojhpcmaa.Op

set_option linter.unusedSimpArgs false
set_option linter.unusedVariables false
/-- Within the bound of sizes all is small. -/
theorem sizes (a b : List Bool) (l : List S147) (ha : a.length ≤ maxLen) (hb : b.length ≤ maxLen) (hl : l.length ≤ maxLen) :
    ∃ t, laws_szWork.f a b l 1048576 = some t ∧ (t < 0 ∨ (a.length ≤ 1048576 ∧ b.length ≤ 1048576 ∧ l.length ≤ 1048576)) := by
  have h1 := max_len ha
  have h2 := max_len hb
  have h3 := max_len hl
  simp only [laws_szWork.f, laws_szBoolS.f, laws_szPermitS.f]
  rw [w64 (n := 1048576 - (a.length : Int)) (by omega)]
  by_cases c1 : 1048576 - (a.length : Int) < 0
  · exact ⟨-1, by simp [c1], Or.inl (by omega)⟩
  rw [if_neg c1, Option.bind_some, if_neg c1, w64 (n := 1048576 - (a.length : Int) - (b.length : Int)) (by omega)]
  by_cases c2 : 1048576 - (a.length : Int) - (b.length : Int) < 0
  · exact ⟨-1, by simp [c2], Or.inl (by omega)⟩
  rw [if_neg c2, Option.bind_some, if_neg c2, w64 (n := 1048576 - (a.length : Int) - (b.length : Int) - (l.length : Int)) (by omega)]
  by_cases c3 : 1048576 - (a.length : Int) - (b.length : Int) - (l.length : Int) < 0
  · exact ⟨-1, by simp [c3], Or.inl (by omega)⟩
  exact ⟨_, by simp [c3]; rfl, Or.inr ⟨by omega, by omega, by omega⟩⟩
theorem to_work (a b : List Bool) (l : List S147) (ha : a.length ≤ 1048576) (hb : b.length ≤ 1048576) (hl : l.length ≤ 1048576) : laws_toWork.v a b l = some (a, b, l.map cPermit) := by
  rw [laws_toWork.v_eq, laws_toBoolS.val a (by omega), laws_toBoolS.val b (by omega), laws_toPermitS.val l (by omega)]
  rfl
theorem eq_work (a b : List Bool) (l : List S112) (ha : a.length ≤ 1048576) (hb : b.length ≤ 1048576) (hl : l.length ≤ 1048576) : laws_eqWork.v a b l a b l = some true := by
  rw [laws_eqWork.v_eq, laws_eqBoolS.val a (by omega), laws_eqBoolS.val b (by omega), laws_eqPermitS.val l (by omega)]
  simp
theorem markWork (a b : List Bool) (l : List S112) (ha : a.length ≤ 1048576) (hb : b.length ≤ 1048576) (hl : l.length ≤ 1048576) : ∃ m x y z, laws_markWork.v a b l 1 = some (m, x, y, z) ∧ 0 ≤ m := by
  rw [laws_markWork.v_eq]
  obtain ⟨y1, h1⟩ := laws_markBoolS.val a 1 (by omega) (by omega) (by omega)
  obtain ⟨y2, h2⟩ := laws_markBoolS.val b (1 + 1 * a.length) (by omega) (by omega) (by omega)
  obtain ⟨y3, h3⟩ := laws_markPermitS.val l (1 + 1 * a.length + 1 * b.length) (by omega) (by omega) (by omega)
  simp only [h1, h2, h3, Option.bind_some]
  exact ⟨_, _, _, _, rfl, by omega⟩
def deedsOf (kind : Int) (w : Bool) : Nat → List Bool → List S129
  | _, [] => []
  | i, o :: l => if o = w then ⟨kind, (i : Int), 0⟩ :: deedsOf kind w (i + 1) l else deedsOf kind w (i + 1) l
theorem deedsOf_len (kind : Int) (w : Bool) (l : List Bool) : ∀ i, (deedsOf kind w i l).length ≤ l.length := by
  induction l with
  | nil => intro i; simp [deedsOf]
  | cons o l ih =>
    intro i
    have := ih (i + 1)
    simp only [deedsOf]
    split <;> simp <;> omega
def returnsOf (l : List S112) : List S129 := l.map (fun p => ⟨5, p.f1, p.f0⟩)
theorem impl_deeds (kind : Int) (w : Bool) (l : List Bool) (hl : l.length ≤ 1048576) (d : Nat) : ∀ (i : Nat) (x : List S129), i + d = l.length → x.length ≤ i → impl_deedsFor.vl0 kind w x l (l.length : Int) (i : Int) = some (x ++ deedsOf kind w i (l.drop i)) := by
  induction d with
  | zero =>
    intro i x hi hx
    rw [impl_deedsFor.vl0_eq, if_neg (by omega), List.drop_of_length_le (by omega)]
    simp [deedsOf]
  | succ d ih =>
    intro i x hi hx
    rw [impl_deedsFor.vl0_eq, if_pos (by omega), if_pos (by omega), if_pos (by omega), rdOf_nat false l i (by omega), List.drop_eq_getElem_cons (show i < l.length by omega), w64 (by omega), show ((i : Int) + 1) = ((i + 1 : Nat) : Int) by omega, if_pos (show x.length < 5864062014805 by omega), ih (i + 1) x (by omega) (by omega), ih (i + 1) _ (by omega) (by simp; omega)]
    simp only [deedsOf]
    by_cases c : l[i] = w
    · rw [if_pos (by simpa using c), if_pos c]
      simp
    · rw [if_neg (by simpa using c), if_neg c]
theorem impl_returns (l : List S112) (hl : l.length ≤ 1048576) (d : Nat) : ∀ (i : Nat) (x : List S129), i + d = l.length → x.length ≤ i → impl_Work_returns.vl0 x l (l.length : Int) (i : Int) = some (x ++ returnsOf (l.drop i)) := by
  induction d with
  | zero =>
    intro i x hi hx
    rw [impl_Work_returns.vl0_eq, if_neg (by omega), List.drop_of_length_le (by omega)]
    simp [returnsOf]
  | succ d ih =>
    intro i x hi hx
    rw [impl_Work_returns.vl0_eq, if_pos (by omega), if_pos (by omega), if_pos (by omega), rd_Permit_nat l i (by omega), List.drop_eq_getElem_cons (show i < l.length by omega), w64 (by omega), show ((i : Int) + 1) = ((i + 1 : Nat) : Int) by omega, if_pos (show x.length < 5864062014805 by omega), ih (i + 1) _ (by omega) (by simp; omega)]
    simp only [returnsOf, List.map_cons, List.append_assoc, List.singleton_append, List.cons_append, List.nil_append]
theorem spec_ons (a b : List Bool) (l : List S112) (ha : a.length ≤ 1048576) (d : Nat) : ∀ (i : Nat) (x : List S129), i + d = a.length → x.length ≤ 2097152 + i → spec_WorkClose.vl2 x (i : Int) a b l = some (x ++ deedsOf 0 false i (a.drop i)) := by
  induction d with
  | zero =>
    intro i x hi hx
    rw [spec_WorkClose.vl2_eq, if_neg (by omega), List.drop_of_length_le (by omega)]
    simp [deedsOf]
  | succ d ih =>
    intro i x hi hx
    rw [spec_WorkClose.vl2_eq, if_pos (by omega), if_pos (by omega), rdOf_nat false a i (by omega), List.drop_eq_getElem_cons (show i < a.length by omega), w64 (by omega), show ((i : Int) + 1) = ((i + 1 : Nat) : Int) by omega, if_pos (show x.length < 5864062014805 by omega), ih (i + 1) x (by omega) (by omega), ih (i + 1) _ (by omega) (by simp; omega)]
    simp only [deedsOf]
    by_cases c : a[i] = true
    · rw [if_pos c, if_neg (by rw [c]; decide)]
    · rw [if_neg c, if_pos (by simpa using c)]
      simp
theorem spec_clears (a b : List Bool) (l : List S112) (ha : a.length ≤ 1048576) (hab : b.length = a.length) (d : Nat) : ∀ (i : Nat) (x : List S129), i + d = a.length → x.length ≤ 1048576 + i → spec_WorkClose.vl1 x (i : Int) a b l = some (x ++ deedsOf 3 true i (b.drop i) ++ deedsOf 0 false 0 a) := by
  induction d with
  | zero =>
    intro i x hi hx
    have := spec_ons a b l ha a.length 0 x (by omega) (by omega)
    rw [spec_WorkClose.vl1_eq, if_neg (by omega), List.drop_of_length_le (show b.length ≤ i by omega)]
    simpa [deedsOf] using this
  | succ d ih =>
    intro i x hi hx
    rw [spec_WorkClose.vl1_eq, if_pos (by omega), if_pos (by omega), if_pos (show (i : Int) < (b.length : Int) by omega), rdOf_nat false b i (by omega), List.drop_eq_getElem_cons (show i < b.length by omega), w64 (by omega), show ((i : Int) + 1) = ((i + 1 : Nat) : Int) by omega, if_pos (show x.length < 5864062014805 by omega), ih (i + 1) x (by omega) (by omega), ih (i + 1) _ (by omega) (by simp; omega)]
    simp only [deedsOf]
    by_cases c : b[i] = true
    · rw [if_pos c, if_pos c]
      simp
    · rw [if_neg c, if_neg c]
theorem spec_rets (a b : List Bool) (l : List S112) (hl : l.length ≤ 1048576) (ha : a.length ≤ 1048576) (hab : b.length = a.length) (d : Nat) : ∀ (i : Nat) (x : List S129), i + d = l.length → x.length ≤ i → spec_WorkClose.vl0 x (i : Int) a b l = some (x ++ returnsOf (l.drop i) ++ deedsOf 3 true 0 b ++ deedsOf 0 false 0 a) := by
  induction d with
  | zero =>
    intro i x hi hx
    have := spec_clears a b l ha hab a.length 0 x (by omega) (by omega)
    rw [spec_WorkClose.vl0_eq, if_neg (by omega), List.drop_of_length_le (show l.length ≤ i by omega)]
    simpa [returnsOf] using this
  | succ d ih =>
    intro i x hi hx
    rw [spec_WorkClose.vl0_eq, if_pos (by omega), if_pos (by omega), rd_Permit_nat l i (by omega), List.drop_eq_getElem_cons (show i < l.length by omega), w64 (by omega), show ((i : Int) + 1) = ((i + 1 : Nat) : Int) by omega, if_pos (show x.length < 5864062014805 by omega), ih (i + 1) _ (by omega) (by simp; omega)]
    simp only [returnsOf, List.map_cons, List.append_assoc, List.singleton_append, List.cons_append, List.nil_append]
def closeVal (a b : List Bool) (l : List S112) : List S129 := if workOk a b l = true then returnsOf l ++ deedsOf 3 true 0 b ++ deedsOf 0 false 0 a else []
theorem implClose (a b : List Bool) (l : List S112) (hl : l.length ≤ 1048576) (ha : a.length ≤ 1048576) (hb : b.length ≤ 1048576) : impl_WorkClose.v a b l = some (closeVal a b l) := by
  rw [impl_WorkClose.v_eq, implWork a b l hl ha, Option.bind_some]
  unfold closeVal
  by_cases c : workOk a b l = true
  · rw [if_pos c, if_pos c, impl_Work_returns.v_eq, impl_deedsFor.v_eq, impl_deedsFor.v_eq]
    have h1 := impl_returns l hl l.length 0 [] (by omega) (by simp)
    have h2 := impl_deeds 3 true b hb b.length 0 [] (by omega) (by simp)
    have h3 := impl_deeds 0 false a ha a.length 0 [] (by omega) (by simp)
    simp only [List.nil_append, List.drop_zero] at h1 h2 h3
    rw [show ((0 : Nat) : Int) = 0 from rfl] at h1 h2 h3
    have q2 := deedsOf_len 3 true b 0
    have q3 := deedsOf_len 0 false a 0
    have q1 : (returnsOf l).length = l.length := by simp [returnsOf]
    rw [h1, h2, h3]
    simp only [Option.bind_some]
    rw [if_pos (by omega), if_pos (by rw [List.length_append]; omega)]
  · rw [if_neg c, if_neg c]
theorem specClose (a b : List Bool) (l : List S112) (hl : l.length ≤ 1048576) (ha : a.length ≤ 1048576) : spec_WorkClose.v a b l = some (closeVal a b l) := by
  rw [spec_WorkClose.v_eq, Option.bind_some, specWork a b l hl ha, Option.bind_some]
  unfold closeVal
  by_cases c : workOk a b l = true
  · rw [if_pos c, if_pos c]
    have hab : b.length = a.length := by
      simp only [workOk, Bool.and_eq_true, decide_eq_true_eq] at c
      exact c.2.2.1
    have h1 := spec_rets a b l hl ha hab l.length 0 [] (by omega) (by simp)
    simpa using h1
  · rw [if_neg c, if_neg c]
theorem close_len (a b : List Bool) (l : List S112) (hl : l.length ≤ 1048576) (ha : a.length ≤ 1048576) (hb : b.length ≤ 1048576) : (closeVal a b l).length ≤ 3145728 := by
  unfold closeVal
  split
  · have q2 := deedsOf_len 3 true b 0
    have q3 := deedsOf_len 0 false a 0
    have q1 : (returnsOf l).length = l.length := by simp [returnsOf]
    rw [List.length_append, List.length_append]
    omega
  · simp

theorem FnExactWorkClose : ∀ (x0_0 : List Bool) (x0_1 : List Bool) (x0_2 : List S147), x0_0.length ≤ maxLen → x0_1.length ≤ maxLen → x0_2.length ≤ maxLen → (∀ y ∈ x0_2, (Lit.int .i64 y.f0).wf = true ∧ (Lit.int .i64 y.f1).wf = true) → ∃ k, laws_FnExactWorkClose.f k x0_0 x0_1 x0_2 = some true := by
  intro a b l ha hb hl _
  refine (laws_FnExactWorkClose.L a b l).rounds ?_
  rw [laws_FnExactWorkClose.v_eq]
  obtain ⟨t, h, h2⟩ := sizes a b l ha hb hl
  rw [h, Option.bind_some]
  by_cases c : t < 0
  · rw [if_pos c]
  obtain ⟨a1, b1, l1⟩ := h2.resolve_left c
  have l2 : (l.map cPermit).length ≤ 1048576 := by simpa using l1
  have l3 := close_len a b (l.map cPermit) l2 a1 b1
  obtain ⟨m, x, y, z, hm, hm0⟩ := markWork a b (l.map cPermit) a1 b1 l2
  obtain ⟨y2, h5, h6⟩ := laws_markWorkDeedS.val (closeVal a b (l.map cPermit)) 1 (by omega) (by omega) (by omega)
  have hm1 : ¬ m < 0 := by omega
  have hm2 : ¬ (1 + 3 * ((closeVal a b (l.map cPermit)).length : Int) < 0) := by omega
  rw [if_neg c, to_work a b l a1 b1 l1]
  simp only [Option.bind_some, specClose a b _ l2 a1, implClose a b _ l2 a1 b1, eq_work a b _ a1 b1 l2, laws_eqWorkDeedS.val _ (show (closeVal a b (l.map cPermit)).length ≤ 9223372036854775806 by omega), hm, hm1, if_true, if_false, laws_FnExactWorkClose.vj0_eq, Bool.not_true, Bool.false_eq_true, h5, h6, hm2, to_work a b l a1 b1 l1]

end Go.Proofs.Ytgoiihfojhpcmaa.Pure
