/- What the exact laws' helpers answer: copies, sizes, comparisons, marks. No condition beyond the bounds in each line. -/
import Derived.Test.YtgoiihfojhpcmaaV10
import Derived.Test.YtgoiihfojhpcmaaV2
import Derived.Test.YtgoiihfojhpcmaaV3
import Derived.Test.YtgoiihfojhpcmaaV4
import Derived.Test.YtgoiihfojhpcmaaV5
import Derived.Test.YtgoiihfojhpcmaaV6
import Derived.Test.YtgoiihfojhpcmaaV7
import Derived.Test.YtgoiihfojhpcmaaV8
import Derived.Test.YtgoiihfojhpcmaaV9
import Derived.Test.YtgoiihfojhpcmaaNum
namespace Go.Proofs.Ytgoiihfojhpcmaa.G
open Go.RowKit Go.Proofs.YtgoiihfojhpcmaaW.PrintWords Go.Proofs.YtgoiihfojhpcmaaW.PrintLast Go.Proofs.Ytgoiihfojhpcmaa.Op
set_option linter.unusedVariables false
set_option linter.unusedSimpArgs false
theorem laws_toIntS.loop (x0 : List Int) (hb : x0.length ≤ 35184372088832) (d : Nat) : ∀ (y : List Int) (i : Nat), i + d = x0.length → y.length = x0.length → y.take i = x0.take i → laws_toIntS.vl0 x0 y (i : Int) = some x0 := by
  induction d with
  | zero =>
    intro y i hi hl ht
    rw [laws_toIntS.vl0_eq, if_neg (by omega)]
    rw [List.take_of_length_le (by omega), List.take_of_length_le (by first | omega | (rw [List.length_map]; omega))] at ht
    rw [ht]
  | succ d ih =>
    intro y i hi hl ht
    rw [laws_toIntS.vl0_eq, if_pos (by omega), if_pos (by omega), if_pos (by omega), w64 (by omega)]
    have e : ((i : Int) + 1) = ((i + 1 : Nat) : Int) := by omega
    rw [e, rd_nat x0 i (by omega), Int.toNat_natCast]
    exact ih _ (i + 1) (by omega) (by simp [hl]) (fill_step x0 y i (by omega) hl ht)
theorem laws_toIntS.val (x0 : List Int) (hb : x0.length ≤ 35184372088832) : laws_toIntS.v x0 = some x0 := by
  rw [laws_toIntS.v_eq, if_pos (by omega), if_pos (by omega)]
  exact laws_toIntS.loop x0 hb x0.length _ 0 (by omega) (by simp) (by simp)
theorem laws_toBoolS.loop (x0 : List Bool) (hb : x0.length ≤ 281474976710656) (d : Nat) : ∀ (y : List Bool) (i : Nat), i + d = x0.length → y.length = x0.length → y.take i = x0.take i → laws_toBoolS.vl0 x0 y (i : Int) = some x0 := by
  induction d with
  | zero =>
    intro y i hi hl ht
    rw [laws_toBoolS.vl0_eq, if_neg (by omega)]
    rw [List.take_of_length_le (by omega), List.take_of_length_le (by first | omega | (rw [List.length_map]; omega))] at ht
    rw [ht]
  | succ d ih =>
    intro y i hi hl ht
    rw [laws_toBoolS.vl0_eq, if_pos (by omega), if_pos (by omega), if_pos (by omega), w64 (by omega)]
    have e : ((i : Int) + 1) = ((i + 1 : Nat) : Int) := by omega
    rw [e, rdOf_nat false x0 i (by omega), Int.toNat_natCast]
    exact ih _ (i + 1) (by omega) (by simp [hl]) (fill_step x0 y i (by omega) hl ht)
theorem laws_toBoolS.val (x0 : List Bool) (hb : x0.length ≤ 281474976710656) : laws_toBoolS.v x0 = some x0 := by
  rw [laws_toBoolS.v_eq, if_pos (by omega), if_pos (by omega)]
  exact laws_toBoolS.loop x0 hb x0.length _ 0 (by omega) (by simp) (by simp)
theorem rd_T147_nat (xs : List S147) (i : Nat) (h : i < xs.length) : rd_T147 xs (i : Int) = xs[i] := by
  simp [rd_T147, List.getD_eq_getElem?_getD, List.getElem?_eq_getElem h]
theorem rd_T112_nat (xs : List S112) (i : Nat) (h : i < xs.length) : rd_T112 xs (i : Int) = xs[i] := by
  simp [rd_T112, List.getD_eq_getElem?_getD, List.getElem?_eq_getElem h]
def cPermit (s : S147) : S112 := ⟨s.f0, s.f1⟩
theorem laws_toPermitS.loop (x0 : List S147) (hb : x0.length ≤ 17592186044416) (d : Nat) : ∀ (y : List S112) (i : Nat), i + d = x0.length → y.length = x0.length → y.take i = (x0.map cPermit).take i → laws_toPermitS.vl0 x0 y (i : Int) = some (x0.map cPermit) := by
  induction d with
  | zero =>
    intro y i hi hl ht
    rw [laws_toPermitS.vl0_eq, if_neg (by omega)]
    rw [List.take_of_length_le (by omega), List.take_of_length_le (by first | omega | (rw [List.length_map]; omega))] at ht
    rw [ht]
  | succ d ih =>
    intro y i hi hl ht
    rw [laws_toPermitS.vl0_eq, if_pos (by omega), if_pos (by omega)]
    simp only [laws_toPermit.f, Option.bind_some]
    rw [if_pos (by omega), w64 (by omega)]
    have e : ((i : Int) + 1) = ((i + 1 : Nat) : Int) := by omega
    rw [e, rd_T147_nat x0 i (by omega), Int.toNat_natCast]
    have hm : (x0.map cPermit)[i]'(by rw [List.length_map]; omega) = cPermit (x0[i]'(by omega)) := by simp
    have hs := fill_step (x0.map cPermit) y i (by rw [List.length_map]; omega) (by rw [List.length_map]; exact hl) ht
    rw [hm] at hs
    exact ih _ (i + 1) (by omega) (by simp [hl]) hs
theorem laws_toPermitS.val (x0 : List S147) (hb : x0.length ≤ 17592186044416) : laws_toPermitS.v x0 = some (x0.map cPermit) := by
  rw [laws_toPermitS.v_eq, if_pos (by omega), if_pos (by omega)]
  exact laws_toPermitS.loop x0 hb x0.length _ 0 (by omega) (by simp) (by simp)
theorem laws_eqIntS.loop (x0 : List Int) (hb : x0.length ≤ 9223372036854775806) (d : Nat) : ∀ (i : Nat), i + d = x0.length → laws_eqIntS.vl0 x0 x0 (i : Int) = some true := by
  induction d with
  | zero =>
    intro i hi
    rw [laws_eqIntS.vl0_eq, if_neg (by omega)]
  | succ d ih =>
    intro i hi
    rw [laws_eqIntS.vl0_eq, if_pos (by omega), if_pos (by omega), if_pos (by omega)]
    rw [if_pos rfl, w64 (by omega)]
    exact ih (i + 1) (by omega)
theorem laws_eqIntS.val (x0 : List Int) (hb : x0.length ≤ 9223372036854775806) : laws_eqIntS.v x0 x0 = some true := by
  rw [laws_eqIntS.v_eq, if_pos rfl]
  exact laws_eqIntS.loop x0 hb x0.length 0 (by omega)
theorem laws_eqBoolS.loop (x0 : List Bool) (hb : x0.length ≤ 9223372036854775806) (d : Nat) : ∀ (i : Nat), i + d = x0.length → laws_eqBoolS.vl0 x0 x0 (i : Int) = some true := by
  induction d with
  | zero =>
    intro i hi
    rw [laws_eqBoolS.vl0_eq, if_neg (by omega)]
  | succ d ih =>
    intro i hi
    rw [laws_eqBoolS.vl0_eq, if_pos (by omega), if_pos (by omega), if_pos (by omega)]
    simp only [bne_self_eq_false, Bool.false_eq_true, if_false]
    rw [w64 (by omega)]
    exact ih (i + 1) (by omega)
theorem laws_eqBoolS.val (x0 : List Bool) (hb : x0.length ≤ 9223372036854775806) : laws_eqBoolS.v x0 x0 = some true := by
  rw [laws_eqBoolS.v_eq, if_pos rfl]
  exact laws_eqBoolS.loop x0 hb x0.length 0 (by omega)
theorem laws_eqPermitS.loop (x0 : List S112) (hb : x0.length ≤ 9223372036854775806) (d : Nat) : ∀ (i : Nat), i + d = x0.length → laws_eqPermitS.vl0 x0 x0 (i : Int) = some true := by
  induction d with
  | zero =>
    intro i hi
    rw [laws_eqPermitS.vl0_eq, if_neg (by omega)]
  | succ d ih =>
    intro i hi
    rw [laws_eqPermitS.vl0_eq, if_pos (by omega), if_pos (by omega), if_pos (by omega)]
    simp only [laws_eqPermit.f, bne_self_eq_false, Bool.false_eq_true, if_true, if_false, Option.bind_some]
    rw [w64 (by omega)]
    exact ih (i + 1) (by omega)
theorem laws_eqPermitS.val (x0 : List S112) (hb : x0.length ≤ 9223372036854775806) : laws_eqPermitS.v x0 x0 = some true := by
  rw [laws_eqPermitS.v_eq, if_pos rfl]
  exact laws_eqPermitS.loop x0 hb x0.length 0 (by omega)
theorem laws_markIntS.loop (d : Nat) : ∀ (x : List Int) (i : Nat) (m : Int), i + d = x.length → x.length ≤ 1000000000000 → 0 ≤ m → m + 1 * d ≤ 4000000000000000000 → ∃ y, laws_markIntS.vl0 x m (i : Int) = some (m + 1 * d, y) ∧ y.length = x.length ∧ y.take i = x.take i ∧ laws_heldIntS.vl0 y m (i : Int) = some (m + 1 * d) := by
  induction d with
  | zero =>
    intro x i m hi hx hm hb
    refine ⟨x, ?_, rfl, rfl, ?_⟩
    · rw [laws_markIntS.vl0_eq, if_neg (by omega)]
      simp
    · rw [laws_heldIntS.vl0_eq, if_neg (by omega)]
      simp
  | succ d ih =>
    intro x i m hi hx hm hb
    obtain ⟨y, h1, h2, h3, h4⟩ := ih (x.set i m) (i + 1) (m + 1) (by rw [List.length_set]; omega) (by rw [List.length_set]; omega) (by omega) (by omega)
    rw [List.length_set] at h2
    have e : ((i : Int) + 1) = ((i + 1 : Nat) : Int) := by omega
    have e2 : m + 1 + 1 * (d : Int) = m + 1 * ((d + 1 : Nat) : Int) := by omega
    rw [e2] at h1 h4
    refine ⟨y, ?_, h2, ?_, ?_⟩
    · rw [laws_markIntS.vl0_eq, if_pos (by omega), if_pos (by omega), w64 (n := m + 1) (by omega), w64 (by omega), e, Int.toNat_natCast]
      exact h1
    · have h5 := congrArg (List.take i) h3
      rw [List.take_take, List.take_take, Nat.min_eq_left (by omega), List.take_set_of_le (Nat.le_refl _)] at h5
      exact h5
    · have hy : y[i]'(by omega) = m := by
        have h6 : (y.take (i + 1))[i]? = ((x.set i m).take (i + 1))[i]? := by rw [h3]
        rw [List.getElem?_take_of_lt (by omega), List.getElem?_take_of_lt (by omega), List.getElem?_set_self (by omega), List.getElem?_eq_getElem (by omega)] at h6
        exact Option.some.inj h6
      rw [laws_heldIntS.vl0_eq, if_pos (by omega), if_pos (by omega), rd_nat y i (by omega), hy]
      rw [if_pos rfl, w64 (n := m + 1) (by omega), w64 (by omega), e]
      exact h4
theorem laws_markIntS.val (x : List Int) (m : Int) (hx : x.length ≤ 1000000000000) (hm : 0 ≤ m) (hb : m ≤ 1000000000000) : ∃ y, laws_markIntS.v x m = some (m + 1 * x.length, y) ∧ laws_heldIntS.v y m = some (m + 1 * x.length) := by
  obtain ⟨y, h1, _, _, h4⟩ := laws_markIntS.loop x.length x 0 m (by omega) hx hm (by omega)
  exact ⟨y, by rw [laws_markIntS.v_eq]; exact h1, by rw [laws_heldIntS.v_eq]; exact h4⟩
end Go.Proofs.Ytgoiihfojhpcmaa.G
