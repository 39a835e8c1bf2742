/- The pure statement of FnExactWorkHeld: what the printed functions compute answers true. -/
import Derived.Test.YtgoiihfojhpcmaaGx12
import Derived.Test.YtgoiihfojhpcmaaV12
import Derived.Test.YtgoiihfojhpcmaaWorkVal
import Derived.Test.YtgoiihfojhpcmaaV10
import Derived.Test.YtgoiihfojhpcmaaV11
import Derived.Test.YtgoiihfojhpcmaaV2
import Derived.Test.YtgoiihfojhpcmaaV3
import Derived.Test.YtgoiihfojhpcmaaV4
import Derived.Test.YtgoiihfojhpcmaaV5
import Derived.Test.YtgoiihfojhpcmaaV6
import Derived.Test.YtgoiihfojhpcmaaV7
import Derived.Test.YtgoiihfojhpcmaaV8
import Derived.Test.YtgoiihfojhpcmaaV9
import Derived.Test.YtgoiihfojhpcmaaNum
namespace Go.Proofs.Ytgoiihfojhpcmaa.G
open Go.RowKit Go.Proofs.YtgoiihfojhpcmaaW.PrintWords Go.Proofs.YtgoiihfojhpcmaaW.PrintLast Go.Proofs.Ytgoiihfojhpcmaa.Op
set_option linter.unusedVariables false
set_option linter.unusedSimpArgs false
theorem laws_toIntS.loop (x0 : List Int) (hb : x0.length ≤ 35184372088832) (d : Nat) : ∀ (y : List Int) (i : Nat), i + d = x0.length → y.length = x0.length → y.take i = x0.take i → laws_toIntS.vl0 x0 y (i : Int) = some x0 := by
  induction d with
  | zero =>
    intro y i hi hl ht
    rw [laws_toIntS.vl0_eq, if_neg (by omega)]
    rw [List.take_of_length_le (by omega), List.take_of_length_le (by first | omega | (rw [List.length_map]; omega))] at ht
    rw [ht]
  | succ d ih =>
    intro y i hi hl ht
    rw [laws_toIntS.vl0_eq, if_pos (by omega), if_pos (by omega), if_pos (by omega), w64 (by omega)]
    have e : ((i : Int) + 1) = ((i + 1 : Nat) : Int) := by omega
    rw [e, rd_nat x0 i (by omega), Int.toNat_natCast]
    exact ih _ (i + 1) (by omega) (by simp [hl]) (fill_step x0 y i (by omega) hl ht)
theorem laws_toIntS.val (x0 : List Int) (hb : x0.length ≤ 35184372088832) : laws_toIntS.v x0 = some x0 := by
  rw [laws_toIntS.v_eq, if_pos (by omega), if_pos (by omega)]
  exact laws_toIntS.loop x0 hb x0.length _ 0 (by omega) (by simp) (by simp)
theorem laws_toBoolS.loop (x0 : List Bool) (hb : x0.length ≤ 281474976710656) (d : Nat) : ∀ (y : List Bool) (i : Nat), i + d = x0.length → y.length = x0.length → y.take i = x0.take i → laws_toBoolS.vl0 x0 y (i : Int) = some x0 := by
  induction d with
  | zero =>
    intro y i hi hl ht
    rw [laws_toBoolS.vl0_eq, if_neg (by omega)]
    rw [List.take_of_length_le (by omega), List.take_of_length_le (by first | omega | (rw [List.length_map]; omega))] at ht
    rw [ht]
  | succ d ih =>
    intro y i hi hl ht
    rw [laws_toBoolS.vl0_eq, if_pos (by omega), if_pos (by omega), if_pos (by omega), w64 (by omega)]
    have e : ((i : Int) + 1) = ((i + 1 : Nat) : Int) := by omega
    rw [e, rdOf_nat false x0 i (by omega), Int.toNat_natCast]
    exact ih _ (i + 1) (by omega) (by simp [hl]) (fill_step x0 y i (by omega) hl ht)
theorem laws_toBoolS.val (x0 : List Bool) (hb : x0.length ≤ 281474976710656) : laws_toBoolS.v x0 = some x0 := by
  rw [laws_toBoolS.v_eq, if_pos (by omega), if_pos (by omega)]
  exact laws_toBoolS.loop x0 hb x0.length _ 0 (by omega) (by simp) (by simp)
theorem rd_T147_nat (xs : List S147) (i : Nat) (h : i < xs.length) : rd_T147 xs (i : Int) = xs[i] := by
  simp [rd_T147, List.getD_eq_getElem?_getD, List.getElem?_eq_getElem h]
theorem rd_T112_nat (xs : List S112) (i : Nat) (h : i < xs.length) : rd_T112 xs (i : Int) = xs[i] := by
  simp [rd_T112, List.getD_eq_getElem?_getD, List.getElem?_eq_getElem h]
def cPermit (s : S147) : S112 := ⟨s.f0, s.f1⟩
theorem laws_toPermitS.loop (x0 : List S147) (hb : x0.length ≤ 17592186044416) (d : Nat) : ∀ (y : List S112) (i : Nat), i + d = x0.length → y.length = x0.length → y.take i = (x0.map cPermit).take i → laws_toPermitS.vl0 x0 y (i : Int) = some (x0.map cPermit) := by
  induction d with
  | zero =>
    intro y i hi hl ht
    rw [laws_toPermitS.vl0_eq, if_neg (by omega)]
    rw [List.take_of_length_le (by omega), List.take_of_length_le (by first | omega | (rw [List.length_map]; omega))] at ht
    rw [ht]
  | succ d ih =>
    intro y i hi hl ht
    rw [laws_toPermitS.vl0_eq, if_pos (by omega), if_pos (by omega)]
    simp only [laws_toPermit.f, Option.bind_some]
    rw [if_pos (by omega), w64 (by omega)]
    have e : ((i : Int) + 1) = ((i + 1 : Nat) : Int) := by omega
    rw [e, rd_T147_nat x0 i (by omega), Int.toNat_natCast]
    have hm : (x0.map cPermit)[i]'(by rw [List.length_map]; omega) = cPermit (x0[i]'(by omega)) := by simp
    have hs := fill_step (x0.map cPermit) y i (by rw [List.length_map]; omega) (by rw [List.length_map]; exact hl) ht
    rw [hm] at hs
    exact ih _ (i + 1) (by omega) (by simp [hl]) hs
theorem laws_toPermitS.val (x0 : List S147) (hb : x0.length ≤ 17592186044416) : laws_toPermitS.v x0 = some (x0.map cPermit) := by
  rw [laws_toPermitS.v_eq, if_pos (by omega), if_pos (by omega)]
  exact laws_toPermitS.loop x0 hb x0.length _ 0 (by omega) (by simp) (by simp)
theorem laws_eqIntS.loop (x0 : List Int) (hb : x0.length ≤ 9223372036854775806) (d : Nat) : ∀ (i : Nat), i + d = x0.length → laws_eqIntS.vl0 x0 x0 (i : Int) = some true := by
  induction d with
  | zero =>
    intro i hi
    rw [laws_eqIntS.vl0_eq, if_neg (by omega)]
  | succ d ih =>
    intro i hi
    rw [laws_eqIntS.vl0_eq, if_pos (by omega), if_pos (by omega), if_pos (by omega)]
    rw [if_pos rfl, w64 (by omega)]
    exact ih (i + 1) (by omega)
theorem laws_eqIntS.val (x0 : List Int) (hb : x0.length ≤ 9223372036854775806) : laws_eqIntS.v x0 x0 = some true := by
  rw [laws_eqIntS.v_eq, if_pos rfl]
  exact laws_eqIntS.loop x0 hb x0.length 0 (by omega)
theorem laws_eqBoolS.loop (x0 : List Bool) (hb : x0.length ≤ 9223372036854775806) (d : Nat) : ∀ (i : Nat), i + d = x0.length → laws_eqBoolS.vl0 x0 x0 (i : Int) = some true := by
  induction d with
  | zero =>
    intro i hi
    rw [laws_eqBoolS.vl0_eq, if_neg (by omega)]
  | succ d ih =>
    intro i hi
    rw [laws_eqBoolS.vl0_eq, if_pos (by omega), if_pos (by omega), if_pos (by omega)]
    simp only [bne_self_eq_false, Bool.false_eq_true, if_false]
    rw [w64 (by omega)]
    exact ih (i + 1) (by omega)
theorem laws_eqBoolS.val (x0 : List Bool) (hb : x0.length ≤ 9223372036854775806) : laws_eqBoolS.v x0 x0 = some true := by
  rw [laws_eqBoolS.v_eq, if_pos rfl]
  exact laws_eqBoolS.loop x0 hb x0.length 0 (by omega)
theorem laws_eqPermitS.loop (x0 : List S112) (hb : x0.length ≤ 9223372036854775806) (d : Nat) : ∀ (i : Nat), i + d = x0.length → laws_eqPermitS.vl0 x0 x0 (i : Int) = some true := by
  induction d with
  | zero =>
    intro i hi
    rw [laws_eqPermitS.vl0_eq, if_neg (by omega)]
  | succ d ih =>
    intro i hi
    rw [laws_eqPermitS.vl0_eq, if_pos (by omega), if_pos (by omega), if_pos (by omega)]
    simp only [laws_eqPermit.f, bne_self_eq_false, Bool.false_eq_true, if_true, if_false, Option.bind_some]
    rw [w64 (by omega)]
    exact ih (i + 1) (by omega)
theorem laws_eqPermitS.val (x0 : List S112) (hb : x0.length ≤ 9223372036854775806) : laws_eqPermitS.v x0 x0 = some true := by
  rw [laws_eqPermitS.v_eq, if_pos rfl]
  exact laws_eqPermitS.loop x0 hb x0.length 0 (by omega)
theorem laws_markIntS.loop (d : Nat) : ∀ (x : List Int) (i : Nat) (m : Int), i + d = x.length → x.length ≤ 1000000000000 → 0 ≤ m → m + 1 * d ≤ 4000000000000000000 → ∃ y, laws_markIntS.vl0 x m (i : Int) = some (m + 1 * d, y) ∧ y.length = x.length ∧ y.take i = x.take i ∧ laws_heldIntS.vl0 y m (i : Int) = some (m + 1 * d) := by
  induction d with
  | zero =>
    intro x i m hi hx hm hb
    refine ⟨x, ?_, rfl, rfl, ?_⟩
    · rw [laws_markIntS.vl0_eq, if_neg (by omega)]
      simp
    · rw [laws_heldIntS.vl0_eq, if_neg (by omega)]
      simp
  | succ d ih =>
    intro x i m hi hx hm hb
    obtain ⟨y, h1, h2, h3, h4⟩ := ih (x.set i m) (i + 1) (m + 1) (by rw [List.length_set]; omega) (by rw [List.length_set]; omega) (by omega) (by omega)
    rw [List.length_set] at h2
    have e : ((i : Int) + 1) = ((i + 1 : Nat) : Int) := by omega
    have e2 : m + 1 + 1 * (d : Int) = m + 1 * ((d + 1 : Nat) : Int) := by omega
    rw [e2] at h1 h4
    refine ⟨y, ?_, h2, ?_, ?_⟩
    · rw [laws_markIntS.vl0_eq, if_pos (by omega), if_pos (by omega), w64 (n := m + 1) (by omega), w64 (by omega), e, Int.toNat_natCast]
      exact h1
    · have h5 := congrArg (List.take i) h3
      rw [List.take_take, List.take_take, Nat.min_eq_left (by omega), List.take_set_of_le (Nat.le_refl _)] at h5
      exact h5
    · have hy : y[i]'(by omega) = m := by
        have h6 : (y.take (i + 1))[i]? = ((x.set i m).take (i + 1))[i]? := by rw [h3]
        rw [List.getElem?_take_of_lt (by omega), List.getElem?_take_of_lt (by omega), List.getElem?_set_self (by omega), List.getElem?_eq_getElem (by omega)] at h6
        exact Option.some.inj h6
      rw [laws_heldIntS.vl0_eq, if_pos (by omega), if_pos (by omega), rd_nat y i (by omega), hy]
      rw [if_pos rfl, w64 (n := m + 1) (by omega), w64 (by omega), e]
      exact h4
theorem laws_markIntS.val (x : List Int) (m : Int) (hx : x.length ≤ 1000000000000) (hm : 0 ≤ m) (hb : m ≤ 1000000000000) : ∃ y, laws_markIntS.v x m = some (m + 1 * x.length, y) ∧ laws_heldIntS.v y m = some (m + 1 * x.length) := by
  obtain ⟨y, h1, _, _, h4⟩ := laws_markIntS.loop x.length x 0 m (by omega) hx hm (by omega)
  exact ⟨y, by rw [laws_markIntS.v_eq]; exact h1, by rw [laws_heldIntS.v_eq]; exact h4⟩
theorem laws_markBoolS.loop (d : Nat) : ∀ (x : List Bool) (i : Nat) (m : Int), i + d = x.length → x.length ≤ 1000000000000 → 0 ≤ m → m + 1 * d ≤ 4000000000000000000 → ∃ y, laws_markBoolS.vl0 x m (i : Int) = some (m + 1 * d, y) ∧ y.length = x.length ∧ y.take i = x.take i := by
  induction d with
  | zero =>
    intro x i m hi hx hm hb
    refine ⟨x, ?_, rfl, rfl⟩
    · rw [laws_markBoolS.vl0_eq, if_neg (by omega)]
      simp
  | succ d ih =>
    intro x i m hi hx hm hb
    obtain ⟨y, h1, h2, h3⟩ := ih (x.set i ((Int.tmod m 3) == 0)) (i + 1) (m + 1) (by rw [List.length_set]; omega) (by rw [List.length_set]; omega) (by omega) (by omega)
    rw [List.length_set] at h2
    have e : ((i : Int) + 1) = ((i + 1 : Nat) : Int) := by omega
    have e2 : m + 1 + 1 * (d : Int) = m + 1 * ((d + 1 : Nat) : Int) := by omega
    rw [e2] at h1
    refine ⟨y, ?_, h2, ?_⟩
    · rw [laws_markBoolS.vl0_eq, if_pos (by omega), if_pos (by omega), w64 (n := m + 1) (by omega), w64 (by omega), e, Int.toNat_natCast]
      exact h1
    · have h5 := congrArg (List.take i) h3
      rw [List.take_take, List.take_take, Nat.min_eq_left (by omega), List.take_set_of_le (Nat.le_refl _)] at h5
      exact h5
theorem laws_markBoolS.val (x : List Bool) (m : Int) (hx : x.length ≤ 1000000000000) (hm : 0 ≤ m) (hb : m ≤ 1000000000000) : ∃ y, laws_markBoolS.v x m = some (m + 1 * x.length, y) := by
  obtain ⟨y, h1, _, _⟩ := laws_markBoolS.loop x.length x 0 m (by omega) hx hm (by omega)
  exact ⟨y, by rw [laws_markBoolS.v_eq]; exact h1⟩
theorem laws_markPermitS.loop (d : Nat) : ∀ (x : List S112) (i : Nat) (m : Int), i + d = x.length → x.length ≤ 1000000000000 → 0 ≤ m → m + 2 * d ≤ 4000000000000000000 → ∃ y, laws_markPermitS.vl0 x m (i : Int) = some (m + 2 * d, y) ∧ y.length = x.length ∧ y.take i = x.take i := by
  induction d with
  | zero =>
    intro x i m hi hx hm hb
    refine ⟨x, ?_, rfl, rfl⟩
    · rw [laws_markPermitS.vl0_eq, if_neg (by omega)]
      simp
  | succ d ih =>
    intro x i m hi hx hm hb
    obtain ⟨y, h1, h2, h3⟩ := ih (x.set i (⟨m, (m + 1)⟩ : S112)) (i + 1) (m + 2) (by rw [List.length_set]; omega) (by rw [List.length_set]; omega) (by omega) (by omega)
    rw [List.length_set] at h2
    have e : ((i : Int) + 1) = ((i + 1 : Nat) : Int) := by omega
    have e2 : m + 2 + 2 * (d : Int) = m + 2 * ((d + 1 : Nat) : Int) := by omega
    rw [e2] at h1
    refine ⟨y, ?_, h2, ?_⟩
    · rw [laws_markPermitS.vl0_eq, if_pos (by omega), if_pos (by omega)]
      simp only [Option.bind_some, Int.toNat_natCast]
      rw [rd_T112_nat x i (by omega)]
      repeat rw [rd_T112_nat _ i (by rw [List.length_set]; omega)]
      simp only [List.getElem_set_self, List.set_set]
      rw [w64 (n := m + 1) (by omega), show m + 1 + 1 = m + 2 from by omega, w64 (n := m + 2) (by omega), w64 (by omega), e]
      exact h1
    · have h5 := congrArg (List.take i) h3
      rw [List.take_take, List.take_take, Nat.min_eq_left (by omega), List.take_set_of_le (Nat.le_refl _)] at h5
      exact h5
theorem laws_markPermitS.val (x : List S112) (m : Int) (hx : x.length ≤ 1000000000000) (hm : 0 ≤ m) (hb : m ≤ 1000000000000) : ∃ y, laws_markPermitS.v x m = some (m + 2 * x.length, y) := by
  obtain ⟨y, h1, _, _⟩ := laws_markPermitS.loop x.length x 0 m (by omega) hx hm (by omega)
  exact ⟨y, by rw [laws_markPermitS.v_eq]; exact h1⟩
end Go.Proofs.Ytgoiihfojhpcmaa.G
namespace Go.Proofs.Ytgoiihfojhpcmaa.Pure
open Go.RowKit Go.Proofs.Ytgoiihfojhpcmaa.G Go.Proofs.YtgoiihfojhpcmaaW.PrintWords Go.Proofs.YtgoiihfojhpcmaaW.PrintLast Go.Proofs.Ytgoiihfojhpcmaa.Op

set_option linter.unusedSimpArgs false
set_option linter.unusedVariables false
/-- Within the bound of sizes all is small. -/
theorem sizes (a b : List Bool) (l : List S147) (ha : a.length ≤ maxLen) (hb : b.length ≤ maxLen) (hl : l.length ≤ maxLen) :
    ∃ t, laws_szWork.f a b l 1048576 = some t ∧ (t < 0 ∨ (a.length ≤ 1048576 ∧ b.length ≤ 1048576 ∧ l.length ≤ 1048576)) := by
  have h1 := max_len ha
  have h2 := max_len hb
  have h3 := max_len hl
  simp only [laws_szWork.f, laws_szBoolS.f, laws_szPermitS.f]
  rw [w64 (n := 1048576 - (a.length : Int)) (by omega)]
  by_cases c1 : 1048576 - (a.length : Int) < 0
  · exact ⟨-1, by simp [c1], Or.inl (by omega)⟩
  rw [if_neg c1, Option.bind_some, if_neg c1, w64 (n := 1048576 - (a.length : Int) - (b.length : Int)) (by omega)]
  by_cases c2 : 1048576 - (a.length : Int) - (b.length : Int) < 0
  · exact ⟨-1, by simp [c2], Or.inl (by omega)⟩
  rw [if_neg c2, Option.bind_some, if_neg c2, w64 (n := 1048576 - (a.length : Int) - (b.length : Int) - (l.length : Int)) (by omega)]
  by_cases c3 : 1048576 - (a.length : Int) - (b.length : Int) - (l.length : Int) < 0
  · exact ⟨-1, by simp [c3], Or.inl (by omega)⟩
  exact ⟨_, by simp [c3]; rfl, Or.inr ⟨by omega, by omega, by omega⟩⟩
theorem to_work (a b : List Bool) (l : List S147) (ha : a.length ≤ 1048576) (hb : b.length ≤ 1048576) (hl : l.length ≤ 1048576) : laws_toWork.v a b l = some (a, b, l.map cPermit) := by
  rw [laws_toWork.v_eq, laws_toBoolS.val a (by omega), laws_toBoolS.val b (by omega), laws_toPermitS.val l (by omega)]
  rfl
theorem eq_work (a b : List Bool) (l : List S112) (ha : a.length ≤ 1048576) (hb : b.length ≤ 1048576) (hl : l.length ≤ 1048576) : laws_eqWork.v a b l a b l = some true := by
  rw [laws_eqWork.v_eq, laws_eqBoolS.val a (by omega), laws_eqBoolS.val b (by omega), laws_eqPermitS.val l (by omega)]
  simp
theorem markWork (a b : List Bool) (l : List S112) (ha : a.length ≤ 1048576) (hb : b.length ≤ 1048576) (hl : l.length ≤ 1048576) : ∃ m x y z, laws_markWork.v a b l 1 = some (m, x, y, z) ∧ 0 ≤ m := by
  rw [laws_markWork.v_eq]
  obtain ⟨y1, h1⟩ := laws_markBoolS.val a 1 (by omega) (by omega) (by omega)
  obtain ⟨y2, h2⟩ := laws_markBoolS.val b (1 + 1 * a.length) (by omega) (by omega) (by omega)
  obtain ⟨y3, h3⟩ := laws_markPermitS.val l (1 + 1 * a.length + 1 * b.length) (by omega) (by omega) (by omega)
  simp only [h1, h2, h3, Option.bind_some]
  exact ⟨_, _, _, _, rfl, by omega⟩
def heldOf (line : Int) (l : List S112) : List Int := (l.filter (fun p => decide (p.f1 = line))).map (·.f0)
theorem impl_held (line : Int) (l : List S112) (hl : l.length ≤ 1048576) (d : Nat) : ∀ (i : Nat) (x : List Int), i + d = l.length → x.length ≤ i → impl_WorkHeld.vl0 line x l (l.length : Int) (i : Int) = some (x ++ heldOf line (l.drop i)) := by
  induction d with
  | zero =>
    intro i x hi hx
    rw [impl_WorkHeld.vl0_eq, if_neg (by omega), List.drop_of_length_le (by omega)]
    simp [heldOf]
  | succ d ih =>
    intro i x hi hx
    rw [impl_WorkHeld.vl0_eq, if_pos (by omega), if_pos (by omega), if_pos (by omega), rd_Permit_nat l i (by omega), List.drop_eq_getElem_cons (show i < l.length by omega), w64 (by omega), show ((i : Int) + 1) = ((i + 1 : Nat) : Int) by omega, if_pos (show x.length < 17592186044416 by omega), ih (i + 1) x (by omega) (by omega), ih (i + 1) _ (by omega) (by simp; omega)]
    by_cases c : l[i].f1 = line
    · rw [if_pos c]
      simp only [heldOf, List.filter_cons, c, decide_true, if_true, List.map_cons, List.append_assoc, List.singleton_append]
    · rw [if_neg c]
      simp only [heldOf, List.filter_cons, c, decide_false, Bool.false_eq_true, if_false]
theorem spec_held (line : Int) (a b : List Bool) (l : List S112) (hl : l.length ≤ 1048576) (ha : a.length ≤ 1048576) (hv : workOk a b l = true) (d : Nat) : ∀ (i : Nat) (x : List Int), i + d = l.length → x.length ≤ i → spec_WorkHeld.vl0 line x (i : Int) a b l = some (x ++ heldOf line (l.drop i)) := by
  induction d with
  | zero =>
    intro i x hi hx
    rw [spec_WorkHeld.vl0_eq, if_neg (by omega), List.drop_of_length_le (by omega), spec_WorkHeld.vj1_eq]
    simp [heldOf]
  | succ d ih =>
    intro i x hi hx
    rw [spec_WorkHeld.vl0_eq, if_pos (by omega), specWork a b l hl ha, Option.bind_some, hv, spec_WorkHeld.vj1_eq, if_pos rfl, if_pos (by omega), if_pos (by omega), rd_Permit_nat l i (by omega), List.drop_eq_getElem_cons (show i < l.length by omega), w64 (by omega), show ((i : Int) + 1) = ((i + 1 : Nat) : Int) by omega, if_pos (show x.length < 17592186044416 by omega), ih (i + 1) x (by omega) (by omega), ih (i + 1) _ (by omega) (by simp; omega)]
    by_cases c : l[i].f1 = line
    · rw [if_pos c]
      simp only [heldOf, List.filter_cons, c, decide_true, if_true, List.map_cons, List.append_assoc, List.singleton_append]
    · rw [if_neg c]
      simp only [heldOf, List.filter_cons, c, decide_false, Bool.false_eq_true, if_false]
def heldVal (line : Int) (a b : List Bool) (l : List S112) : List Int := if workOk a b l = true then heldOf line l else []
theorem implHeld (line : Int) (a b : List Bool) (l : List S112) (hl : l.length ≤ 1048576) (ha : a.length ≤ 1048576) : impl_WorkHeld.v a b l line = some (heldVal line a b l) := by
  rw [impl_WorkHeld.v_eq, implWork a b l hl ha, Option.bind_some]
  unfold heldVal
  by_cases c : workOk a b l = true
  · rw [if_pos c, if_pos c]
    have := impl_held line l hl l.length 0 [] (by omega) (by simp)
    simpa using this
  · rw [if_neg c, if_neg c]
theorem specHeld (line : Int) (a b : List Bool) (l : List S112) (hl : l.length ≤ 1048576) (ha : a.length ≤ 1048576) : spec_WorkHeld.v a b l line = some (heldVal line a b l) := by
  rw [spec_WorkHeld.v_eq]
  unfold heldVal
  by_cases c : workOk a b l = true
  · rw [if_pos c]
    have := spec_held line a b l hl ha c l.length 0 [] (by omega) (by simp)
    simpa using this
  · rw [if_neg c, spec_WorkHeld.vl0_eq]
    by_cases c2 : (0 : Int) < (l.length : Int)
    · rw [if_pos c2, specWork a b l hl ha, Option.bind_some, Bool.eq_false_iff.mpr c, spec_WorkHeld.vj1_eq]
      simp
    · rw [if_neg c2, spec_WorkHeld.vj1_eq]
      simp
theorem held_len (line : Int) (a b : List Bool) (l : List S112) (hl : l.length ≤ 1048576) : (heldVal line a b l).length ≤ 1048576 := by
  unfold heldVal heldOf
  split
  · have := List.length_filter_le (fun p : S112 => decide (p.f1 = line)) l
    simp
    omega
  · simp

theorem FnExactWorkHeld : ∀ (x0_0 : List Bool) (x0_1 : List Bool) (x0_2 : List S147) (x1 : Int), x0_0.length ≤ maxLen → x0_1.length ≤ maxLen → x0_2.length ≤ maxLen → (∀ y ∈ x0_2, (Lit.int .i64 y.f0).wf = true ∧ (Lit.int .i64 y.f1).wf = true) → (Lit.int .i64 x1).wf = true → ∃ k, laws_FnExactWorkHeld.f k x0_0 x0_1 x0_2 x1 = some true := by
  intro a b l line ha hb hl _ _
  refine (laws_FnExactWorkHeld.L a b l line).rounds ?_
  rw [laws_FnExactWorkHeld.v_eq]
  obtain ⟨t, h, h2⟩ := sizes a b l ha hb hl
  rw [h, Option.bind_some]
  by_cases c : t < 0
  · rw [if_pos c]
  obtain ⟨a1, b1, l1⟩ := h2.resolve_left c
  have l2 : (l.map cPermit).length ≤ 1048576 := by simpa using l1
  have l3 := held_len line a b (l.map cPermit) l2
  obtain ⟨m, x, y, z, hm, hm0⟩ := markWork a b (l.map cPermit) a1 b1 l2
  obtain ⟨y2, h5, h6⟩ := laws_markIntS.val (heldVal line a b (l.map cPermit)) 1 (by omega) (by omega) (by omega)
  have hm1 : ¬ m < 0 := by omega
  have hm2 : ¬ (1 + 1 * ((heldVal line a b (l.map cPermit)).length : Int) < 0) := by omega
  rw [if_neg c, to_work a b l a1 b1 l1]
  simp only [Option.bind_some, specHeld line a b _ l2 a1, implHeld line a b _ l2 a1, eq_work a b _ a1 b1 l2, laws_eqIntS.val _ (show (heldVal line a b (l.map cPermit)).length ≤ 9223372036854775806 by omega), hm, hm1, if_true, if_false, laws_FnExactWorkHeld.vj0_eq, Bool.not_true, Bool.false_eq_true, h5, h6, hm2, to_work a b l a1 b1 l1]

end Go.Proofs.Ytgoiihfojhpcmaa.Pure
