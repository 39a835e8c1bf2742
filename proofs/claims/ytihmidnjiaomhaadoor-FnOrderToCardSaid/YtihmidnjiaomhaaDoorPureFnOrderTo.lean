/- The pure statement of FnOrderTo: what the printed functions compute answers true. -/
import Derived.Test.YtihmidnjiaomhaaDoorGx18
import Derived.Test.YtihmidnjiaomhaaDoorV18
import Derived.Test.YtihmidnjiaomhaaDoorGx13
import Derived.Test.YtihmidnjiaomhaaDoorV13
import Derived.Test.YtihmidnjiaomhaaDoorNum
import Derived.Test.YtihmidnjiaomhaaDoorV3
import Derived.Test.YtihmidnjiaomhaaDoorV4
import Derived.Test.YtihmidnjiaomhaaDoorGx3
import Derived.Test.YtihmidnjiaomhaaDoorGx7
import Derived.Test.YtihmidnjiaomhaaDoorV11
import Derived.Test.YtihmidnjiaomhaaDoorV10
import Derived.Test.YtihmidnjiaomhaaDoorV12
import Derived.Test.YtihmidnjiaomhaaDoorV5
import Derived.Test.YtihmidnjiaomhaaDoorV14
import Derived.Test.YtihmidnjiaomhaaDoorV15
namespace Go.Proofs.YtihmidnjiaomhaaDoor.Pure
open Go.RowKit Go.Proofs.YtihmidnjiaomhaaDoor.G Go.Proofs.YtihmidnjiaomhaaDoorW.PrintWords Go.Proofs.YtihmidnjiaomhaaDoorW.PrintLast Go.Proofs.YtihmidnjiaomhaaDoor.Op
set_option linter.unusedVariables false
set_option linter.unusedSimpArgs false

/-- What a reader holds: at most 2000 letters. -/
structure Rd (b : List Int) : Prop where
  len : b.length ≤ 2000
  byte : ∀ y ∈ b, 0 ≤ y ∧ y ≤ 255
theorem wf_u8 {n : Int} (h : (Lit.int .u8 n).wf = true) : 0 ≤ n ∧ n ≤ 255 := by
  have e0 : IntKind.u8.min = 0 := by decide
  have e1 : IntKind.u8.max = 255 := by decide
  simp only [Lit.wf, Bool.and_eq_true, decide_eq_true_eq] at h
  rw [e0, e1] at h
  exact h
theorem open_of (x : List Int) (h : ∀ y ∈ x, (Lit.int .u8 y).wf = true) : ∃ b, spec_l20Open.f x = some (b, 0) ∧ Rd b := by
  unfold spec_l20Open.f
  by_cases c : (x.length : Int) > 2000
  · rw [if_pos c, if_pos (by omega)]
    exact ⟨_, rfl, by simp; omega, fun y hy => wf_u8 (h y (List.mem_of_mem_take hy))⟩
  · rw [if_neg c]
    exact ⟨_, rfl, by omega, fun y hy => wf_u8 (h y hy)⟩
theorem rd_byte {b : List Int} (r : Rd b) (i : Int) (h : 0 ≤ i) (h2 : i < b.length) : 0 ≤ rd b i ∧ rd b i ≤ 255 := by
  obtain ⟨n, rfl⟩ := Int.eq_ofNat_of_zero_le h
  rw [rd_nat b n (by omega)]
  exact r.byte _ (List.getElem_mem _)
theorem xor_nonneg (a b : Int) (ha : 0 ≤ a) (ha2 : a < 9223372036854775808) (hb : 0 ≤ b) (hb2 : b < 9223372036854775808) : 0 ≤ Go.bits .xor .i64 a b := by
  obtain ⟨m, rfl⟩ := Int.eq_ofNat_of_zero_le ha
  obtain ⟨n, rfl⟩ := Int.eq_ofNat_of_zero_le hb
  have e : ((BitVec.ofInt 64 (m : Int)) ^^^ (BitVec.ofInt 64 (n : Int))).toNat < 2 ^ 63 := by
    rw [BitVec.toNat_xor]
    apply Nat.xor_lt_two_pow <;> (simp [BitVec.toNat_ofInt]; omega)
  have e2 : Go.bits .xor .i64 (m : Int) (n : Int) = IntKind.i64.wrap (((BitVec.ofInt 64 (m : Int)) ^^^ (BitVec.ofInt 64 (n : Int))).toNat : Int) := rfl
  rw [e2]
  generalize ((BitVec.ofInt 64 (m : Int)) ^^^ (BitVec.ofInt 64 (n : Int))).toNat = q at e
  rw [Go.IntWalk.i64_in _ (by omega)]
  omega
theorem pick (b : List Int) (p n : Int) (r : Rd b) (hp : 0 ≤ p) (hp2 : p < 1099511627776) (hn : -9223372036854775808 ≤ n ∧ n ≤ 9223372036854775807) :
    ∃ x, spec_l20Rd_pick.v b p n = some (x, p + 1) ∧ 0 ≤ x ∧ (1 ≤ n → x < n) := by
  have hl := r.len
  rw [spec_l20Rd_pick.v_eq, w64 (n := p + 1) (by omega)]
  by_cases c : n < 1
  · rw [if_pos c, spec_l20Rd_pick.vj0_eq, if_pos rfl]
    exact ⟨0, rfl, by omega, by omega⟩
  · rw [if_neg c, spec_l20Rd_pick.vj0_eq]
    by_cases c2 : (b.length : Int) = 0
    · rw [if_pos (by simpa using c2)]
      exact ⟨0, rfl, by omega, by omega⟩
    · rw [if_neg (by simpa using c2), w64 (n := p + 1 - 1) (by omega), show p + 1 - 1 = p by omega]
      have hlen : 0 < (b.length : Int) := by omega
      by_cases c3 : p < (b.length : Int)
      · obtain ⟨q1, q2⟩ := rd_byte r p hp c3
        rw [if_pos c3, if_pos hp, if_neg (by omega), w64 (n := rd b p) (by omega)]
        refine ⟨_, rfl, ?_, ?_⟩
        · exact Int.tmod_nonneg _ q1
        · intro _
          exact Int.tmod_lt_of_pos _ (by omega)
      · rw [if_neg c3, if_neg c2]
        have a1 : 0 ≤ Int.tmod p (b.length : Int) := Int.tmod_nonneg _ hp
        have a2 : Int.tmod p (b.length : Int) < (b.length : Int) := Int.tmod_lt_of_pos _ hlen
        rw [if_pos a1, if_pos a2, w64 (n := p * 7) (by omega), w64 (n := p * 7 + 3) (by omega)]
        have a3 : 0 ≤ Int.tmod (p * 7 + 3) (b.length : Int) := Int.tmod_nonneg _ (by omega)
        have a4 : Int.tmod (p * 7 + 3) (b.length : Int) < (b.length : Int) := Int.tmod_lt_of_pos _ hlen
        rw [if_pos a3, if_pos a4, if_neg (by omega)]
        obtain ⟨q1, q2⟩ := rd_byte r _ a1 a2
        obtain ⟨q3, q4⟩ := rd_byte r _ a3 a4
        have a5 : 0 ≤ Int.tdiv p (b.length : Int) := Int.tdiv_nonneg hp (by omega)
        have a6 : Int.tdiv p (b.length : Int) ≤ p := Int.tdiv_le_self _ hp
        generalize rd b (Int.tmod p (b.length : Int)) = u at *
        generalize rd b (Int.tmod (p * 7 + 3) (b.length : Int)) = v at *
        generalize Int.tdiv p (b.length : Int) = d at *
        rw [w64 (n := u) (by omega), w64 (n := v) (by omega), w64 (n := u * 131) (by omega), w64 (n := v * 1117) (by omega), w64 (n := u * 131 + v * 1117) (by omega), w64 (n := p * 29) (by omega), w64 (n := u * 131 + v * 1117 + p * 29) (by omega), w64 (n := d) (by omega), w64 (n := d * 53) (by omega), w64 (n := u * 131 + v * 1117 + p * 29 + d * 53) (by omega)]
        have b1 : 0 ≤ u * 131 + v * 1117 + p * 29 + d * 53 := by omega
        have b2 : u * 131 + v * 1117 + p * 29 + d * 53 < 9223372036854775808 := by omega
        generalize u * 131 + v * 1117 + p * 29 + d * 53 = s at *
        have b3 : 0 ≤ Int.tdiv s 64 := Int.tdiv_nonneg b1 (by omega)
        have b4 : Int.tdiv s 64 ≤ s := Int.tdiv_le_self _ b1
        rw [w64 (n := Int.tdiv s 64) (by omega)]
        have b5 := xor_nonneg s (Int.tdiv s 64) b1 b2 b3 (by omega)
        exact ⟨_, rfl, Int.tmod_nonneg _ b5, fun _ => Int.tmod_lt_of_pos _ (by omega)⟩
theorem odd (b : List Int) (p n : Int) (r : Rd b) (hp : 0 ≤ p) (hp2 : p < 1099511627776) (hn : -9223372036854775808 ≤ n ∧ n ≤ 9223372036854775807) :
    ∃ t q, spec_l20Rd_odd.v b p n = some (t, q) ∧ p ≤ q ∧ q ≤ p + 1 := by
  rw [spec_l20Rd_odd.v_eq]
  by_cases c : n > 0
  · obtain ⟨x, hx, _⟩ := pick b p n r hp hp2 hn
    rw [if_pos c, hx]
    exact ⟨_, _, rfl, by omega, by omega⟩
  · rw [if_neg c]
    exact ⟨_, _, rfl, by omega, by omega⟩
end Go.Proofs.YtihmidnjiaomhaaDoor.Pure

namespace Go.Proofs.YtihmidnjiaomhaaDoor.Pure
open Go.RowKit Go.Proofs.YtihmidnjiaomhaaDoor.G Go.Proofs.YtihmidnjiaomhaaDoorW.PrintWords Go.Proofs.YtihmidnjiaomhaaDoorW.PrintLast Go.Proofs.YtihmidnjiaomhaaDoor.Op
set_option linter.unusedSimpArgs false
theorem no_net : impl_NetValid.v 0 [] = some false := by
  rw [impl_NetValid.v_eq, if_pos (by omega), impl_NetValid.vj0_eq, if_pos rfl]
theorem one_net : impl_NetValid.v 2 [(⟨0, 1, 1⟩ : S42)] = some true := by
  have w1 : wrap64 (0 + 1) = 1 := w64 (by omega)
  rw [impl_NetValid.v_eq, if_neg (by omega), if_neg (by omega), impl_NetValid.vj0_eq, if_neg (by simp), impl_NetValid.vl0_eq]
  simp only [List.length_singleton]
  rw [if_pos (by omega), if_pos (by omega), if_pos (by omega), w1, impl_NetValid.vl0_eq]
  simp [rd_T42, impl_Net_hasBus.f]
theorem alive : laws_alive.v = some true := by
  rw [laws_alive.v_eq, impl_OtherEnd.v_eq, one_net]
  simp [impl_Net_hasLine.f, rd_T42, impl_Line_other.f, impl_NetText.v_eq, no_net]
end Go.Proofs.YtihmidnjiaomhaaDoor.Pure

namespace Go.Proofs.YtihmidnjiaomhaaDoor.Pure
open Go.RowKit Go.Proofs.YtihmidnjiaomhaaDoor.G Go.Proofs.YtihmidnjiaomhaaDoorW.PrintWords Go.Proofs.YtihmidnjiaomhaaDoorW.PrintLast Go.Proofs.YtihmidnjiaomhaaDoor.Op
set_option linter.unusedVariables false
set_option linter.unusedSimpArgs false
theorem rd_Line_nat (xs : List S42) (i : Nat) (h : i < xs.length) : rd_T42 xs (i : Int) = xs[i] := by
  simp [rd_T42, List.getD_eq_getElem?_getD, List.getElem?_eq_getElem h]
/-- A line between two buses that there are. -/
def okLine (n : Int) (x : S42) : Bool := decide (0 ≤ x.f0) && (decide (x.f0 < n) && (decide (0 ≤ x.f1) && (decide (x.f1 < n) && (decide (x.f0 ≠ x.f1) && (decide (1 ≤ x.f2) && decide (x.f2 ≤ 999))))))
def netOk (n : Int) (l : List S42) : Bool := decide (1 ≤ n) && (decide (n ≤ 8) && (decide (l.length ≤ 10) && l.all (okLine n)))
def stateOk (n : Int) (l : List S42) (on : List Bool) : Bool := netOk n l && decide (on.length = l.length)
theorem impl_bus (n : Int) (l : List S42) (b : Int) : impl_Net_hasBus.f n l b = some (decide (0 ≤ b ∧ b < n)) := by
  unfold impl_Net_hasBus.f
  by_cases c : b ≥ 0
  · have c2 : 0 ≤ b := c
    rw [if_pos c]
    simp [c2]
  · have c2 : ¬ 0 ≤ b := c
    rw [if_neg c]
    simp [c2]
theorem spec_in (a b c : Int) : spec_l1In.f a b c = some (decide (b ≤ a ∧ a ≤ c)) := by
  unfold spec_l1In.f
  by_cases h : a ≥ b
  · have h2 : b ≤ a := h
    rw [if_pos h]
    simp [h2]
  · have h2 : ¬ b ≤ a := h
    rw [if_neg h]
    simp [h2]
theorem impl_lns (n : Int) (l : List S42) (hl : l.length ≤ 1048576) (d : Nat) : ∀ i : Nat, i + d = l.length → impl_NetValid.vl0 l (l.length : Int) (i : Int) n l = some ((l.drop i).all (okLine n)) := by
  induction d with
  | zero =>
    intro i hi
    rw [impl_NetValid.vl0_eq, if_neg (by omega), List.drop_of_length_le (by omega)]
    simp
  | succ d ih =>
    intro i hi
    rw [impl_NetValid.vl0_eq, if_pos (by omega), if_pos (by omega), if_pos (by omega), rd_Line_nat l i (by omega), List.drop_eq_getElem_cons (show i < l.length by omega), w64 (by omega), show ((i : Int) + 1) = ((i + 1 : Nat) : Int) by omega, ih (i + 1) (by omega), impl_bus, Option.bind_some]
    simp only [List.all_cons, okLine]
    by_cases c1 : 0 ≤ l[i].f0 ∧ l[i].f0 < n
    case neg =>
      rw [if_neg (by simpa using c1)]
      by_cases d1 : 0 ≤ l[i].f0
      · have d2 : ¬ l[i].f0 < n := fun h => c1 ⟨d1, h⟩
        simp [d1, d2]
      · simp [d1]
    rw [if_pos (by simpa using c1), impl_bus, Option.bind_some]
    by_cases c2 : 0 ≤ l[i].f1 ∧ l[i].f1 < n
    case neg =>
      rw [if_neg (by simpa using c2)]
      by_cases d1 : 0 ≤ l[i].f1
      · have d2 : ¬ l[i].f1 < n := fun h => c2 ⟨d1, h⟩
        simp [c1.1, c1.2, d1, d2]
      · simp [c1.1, c1.2, d1]
    rw [if_pos (by simpa using c2)]
    by_cases c3 : l[i].f0 = l[i].f1
    · rw [if_pos c3]
      simp [c3]
    rw [if_neg c3]
    by_cases c4 : l[i].f2 < 1
    · have d1 : ¬ 1 ≤ l[i].f2 := by omega
      rw [if_pos c4]
      simp [d1]
    have d4 : 1 ≤ l[i].f2 := by omega
    rw [if_neg c4]
    by_cases c5 : l[i].f2 > 999
    · have d1 : ¬ l[i].f2 ≤ 999 := by omega
      rw [if_pos c5]
      simp [d1]
    have d5 : l[i].f2 ≤ 999 := by omega
    rw [if_neg c5]
    simp [c1.1, c1.2, c2.1, c2.2, c3, d4, d5]
theorem spec_lns (n : Int) (hn : 1 ≤ n ∧ n ≤ 8) (l : List S42) (hl : l.length ≤ 1048576) (d : Nat) : ∀ i : Nat, i + d = l.length → spec_NetValid.vl0 (i : Int) n l = some ((l.drop i).all (okLine n)) := by
  induction d with
  | zero =>
    intro i hi
    rw [spec_NetValid.vl0_eq, if_neg (by omega), List.drop_of_length_le (by omega)]
    simp
  | succ d ih =>
    intro i hi
    rw [spec_NetValid.vl0_eq, if_pos (by omega), if_pos (by omega), rd_Line_nat l i (by omega), List.drop_eq_getElem_cons (show i < l.length by omega), w64 (n := (i : Int) + 1) (by omega), w64 (n := n - 1) (by omega), show ((i : Int) + 1) = ((i + 1 : Nat) : Int) by omega, ih (i + 1) (by omega), spec_in, Option.bind_some]
    simp only [List.all_cons, okLine]
    by_cases c1 : 0 ≤ l[i].f0 ∧ l[i].f0 ≤ n - 1
    case neg =>
      rw [if_neg (by simpa using c1)]
      by_cases d1 : 0 ≤ l[i].f0
      · have d2 : ¬ l[i].f0 < n := fun h => c1 ⟨d1, by omega⟩
        simp [d1, d2]
      · simp [d1]
    have e1 : l[i].f0 < n := by omega
    rw [if_pos (by simpa using c1), spec_in, Option.bind_some]
    by_cases c2 : 0 ≤ l[i].f1 ∧ l[i].f1 ≤ n - 1
    case neg =>
      rw [if_neg (by simpa using c2)]
      by_cases d1 : 0 ≤ l[i].f1
      · have d2 : ¬ l[i].f1 < n := fun h => c2 ⟨d1, by omega⟩
        simp [c1.1, e1, d1, d2]
      · simp [c1.1, e1, d1]
    have e2 : l[i].f1 < n := by omega
    rw [if_pos (by simpa using c2)]
    by_cases c3 : l[i].f0 = l[i].f1
    · rw [if_pos c3]
      simp [c3]
    rw [if_neg c3, spec_in, Option.bind_some]
    by_cases c4 : 1 ≤ l[i].f2 ∧ l[i].f2 ≤ 999
    case neg =>
      rw [if_neg (by simpa using c4)]
      by_cases d1 : 1 ≤ l[i].f2
      · have d2 : ¬ l[i].f2 ≤ 999 := fun h => c4 ⟨d1, h⟩
        simp [d1, d2]
      · simp [d1]
    rw [if_pos (by simpa using c4)]
    simp [c1.1, e1, c2.1, e2, c3, c4.1, c4.2]
theorem implNet (n : Int) (l : List S42) : impl_NetValid.v n l = some (netOk n l) := by
  rw [impl_NetValid.v_eq]
  unfold netOk
  by_cases c1 : n < 1
  · have d1 : ¬ 1 ≤ n := by omega
    rw [if_pos c1, impl_NetValid.vj0_eq]
    simp [d1]
  have d1 : 1 ≤ n := by omega
  by_cases c2 : n > 8
  · have d2 : ¬ n ≤ 8 := by omega
    rw [if_neg c1, if_pos c2, impl_NetValid.vj0_eq]
    simp [d2]
  have d2 : n ≤ 8 := by omega
  rw [if_neg c1, if_neg c2, impl_NetValid.vj0_eq]
  by_cases c3 : (l.length : Int) > 10
  · have d3 : ¬ l.length ≤ 10 := by omega
    simp [c3, d3]
  have d3 : l.length ≤ 10 := by omega
  have := impl_lns n l (by omega) l.length 0 (by omega)
  simp only [List.drop_zero] at this
  rw [show ((0 : Nat) : Int) = 0 from rfl] at this
  simp only [c3, decide_false, Bool.false_eq_true, if_false, d1, d2, d3, decide_true, Bool.true_and]
  exact this
theorem specNet (n : Int) (l : List S42) : spec_NetValid.v n l = some (netOk n l) := by
  rw [spec_NetValid.v_eq, spec_in, Option.bind_some]
  unfold netOk
  by_cases c1 : 1 ≤ n ∧ n ≤ 8
  case neg =>
    rw [if_neg (by simpa using c1), spec_NetValid.vj0_eq]
    by_cases d1 : 1 ≤ n
    · have d2 : ¬ n ≤ 8 := fun h => c1 ⟨d1, h⟩
      simp [d2]
    · simp [d1]
  rw [if_pos (by simpa using c1), spec_NetValid.vj0_eq]
  by_cases c3 : (l.length : Int) > 10
  · have d3 : ¬ l.length ≤ 10 := by omega
    simp [c3, d3]
  have d3 : l.length ≤ 10 := by omega
  have := spec_lns n c1 l (by omega) l.length 0 (by omega)
  simp only [List.drop_zero] at this
  rw [show ((0 : Nat) : Int) = 0 from rfl] at this
  simp only [c3, decide_false, Bool.false_eq_true, if_false, c1.1, c1.2, d3, decide_true, Bool.true_and]
  exact this
theorem implState (n : Int) (l : List S42) (on : List Bool) : impl_StateValid.v n l on = some (stateOk n l on) := by
  rw [impl_StateValid.v_eq, implNet n l, Option.bind_some]
  unfold stateOk
  by_cases c : netOk n l = true
  · rw [if_pos c, c]
    by_cases e : on.length = l.length
    · simp [e]
    · have e2 : ¬ ((on.length : Int) = (l.length : Int)) := by omega
      simp [e, e2]
  · rw [if_neg c, Bool.eq_false_iff.mpr c]
    rfl
theorem specState (n : Int) (l : List S42) (on : List Bool) : spec_StateValid.v n l on = some (stateOk n l on) := by
  rw [spec_StateValid.v_eq, specNet n l, Option.bind_some]
  unfold stateOk
  by_cases c : netOk n l = true
  · rw [if_pos c, c]
    by_cases e : on.length = l.length
    · simp [e]
    · have e2 : ¬ ((on.length : Int) = (l.length : Int)) := by omega
      simp [e, e2]
  · rw [if_neg c, Bool.eq_false_iff.mpr c]
    rfl
end Go.Proofs.YtihmidnjiaomhaaDoor.Pure

namespace Go.Proofs.YtihmidnjiaomhaaDoor.Pure
open Go.RowKit Go.Proofs.YtihmidnjiaomhaaDoor.G Go.Proofs.YtihmidnjiaomhaaDoorW.PrintWords Go.Proofs.YtihmidnjiaomhaaDoorW.PrintLast Go.Proofs.YtihmidnjiaomhaaDoor.Op
set_option linter.unusedVariables false
set_option linter.unusedSimpArgs false
theorem rd_Step_nat (xs : List S87) (i : Nat) (h : i < xs.length) : rd_T87 xs (i : Int) = xs[i] := by
  simp [rd_T87, List.getD_eq_getElem?_getD, List.getElem?_eq_getElem h]
def okStep (s : S87) : Bool := decide (0 ≤ s.f0) && decide (s.f0 ≤ 9)
theorem specOrder_loop (l : List S87) (hl : l.length ≤ 1048576) (d : Nat) : ∀ i : Nat, i + d = l.length → spec_OrderValid.vl0 l (i : Int) = some ((l.drop i).all okStep && decide (l.length ≤ 12)) := by
  induction d with
  | zero =>
    intro i hi
    rw [spec_OrderValid.vl0_eq, if_neg (by omega), List.drop_of_length_le (by omega)]
    simp
    omega
  | succ d ih =>
    intro i hi
    have e : ((i : Int) + 1) = ((i + 1 : Nat) : Int) := by omega
    rw [spec_OrderValid.vl0_eq, if_pos (by omega), if_pos (by omega), rd_Step_nat l i (by omega), List.drop_eq_getElem_cons (show i < l.length by omega), w64 (by omega), e, ih (i + 1) (by omega)]
    simp only [spec_l1In.f, List.all_cons, okStep]
    by_cases h1 : 0 ≤ l[i].f0 <;> by_cases h2 : l[i].f0 ≤ 9 <;> simp [h1, h2]
theorem implOrder_loop (l : List S87) (hl : l.length ≤ 1048576) (d : Nat) : ∀ i : Nat, i + d = l.length → impl_OrderValid.vl0 l (l.length : Int) (i : Int) = some ((l.drop i).all okStep) := by
  induction d with
  | zero =>
    intro i hi
    rw [impl_OrderValid.vl0_eq, if_neg (by omega), List.drop_of_length_le (by omega)]
    simp
  | succ d ih =>
    intro i hi
    have e : ((i : Int) + 1) = ((i + 1 : Nat) : Int) := by omega
    rw [impl_OrderValid.vl0_eq, if_pos (by omega), if_pos (by omega), if_pos (by omega), rd_Step_nat l i (by omega), List.drop_eq_getElem_cons (show i < l.length by omega), w64 (by omega), e, ih (i + 1) (by omega)]
    simp only [List.all_cons, okStep]
    by_cases h1 : l[i].f0 < 0
    · have h2 : ¬ (0 ≤ l[i].f0) := by omega
      simp [h1, h2]
    · by_cases h2 : l[i].f0 ≥ 10
      · have h3 : ¬ (l[i].f0 ≤ 9) := by omega
        simp [h1, h2, h3]
      · have h3 : l[i].f0 ≤ 9 := by omega
        have h4 : 0 ≤ l[i].f0 := by omega
        simp [h1, h2, h3, h4]
theorem specOrder_val (l : List S87) (hl : l.length ≤ 1048576) : spec_OrderValid.v l = some (l.all okStep && decide (l.length ≤ 12)) := by
  rw [spec_OrderValid.v_eq]
  exact specOrder_loop l hl l.length 0 (by omega)
theorem implOrder_val (l : List S87) (hl : l.length ≤ 1048576) : impl_OrderValid.v l = some (l.all okStep && decide (l.length ≤ 12)) := by
  rw [impl_OrderValid.v_eq]
  by_cases h : (l.length : Int) > 12
  · rw [if_pos h]
    have h2 : ¬ (l.length ≤ 12) := by omega
    simp [h2]
  · rw [if_neg h]
    have h2 : l.length ≤ 12 := by omega
    have := implOrder_loop l hl l.length 0 (by omega)
    simp only [List.drop_zero] at this
    simpa [h2] using this

end Go.Proofs.YtihmidnjiaomhaaDoor.Pure

namespace Go.Proofs.YtihmidnjiaomhaaDoor.Pure
open Go.RowKit Go.Proofs.YtihmidnjiaomhaaDoor.G Go.Proofs.YtihmidnjiaomhaaDoorW.PrintWords Go.Proofs.YtihmidnjiaomhaaDoorW.PrintLast Go.Proofs.YtihmidnjiaomhaaDoor.Op
set_option linter.unusedVariables false
set_option linter.unusedSimpArgs false
/-- A step can be done: there is the line, and it is not yet so. -/
def canDo (x : List Bool) (s : S87) : Bool := decide (s.f0 < x.length) && (rdOf false x s.f0 != s.f1)
def runO : List Bool → List S87 → List Bool × Nat
  | x, [] => (x, 0)
  | x, s :: l => if canDo x s = true then ((runO (x.set s.f0.toNat s.f1) l).1, (runO (x.set s.f0.toNat s.f1) l).2 + 1) else (x, 0)
theorem runO_len (l : List S87) : ∀ x, (runO x l).1.length = x.length := by
  induction l with
  | nil => intro x; rfl
  | cons s l ih =>
    intro x
    simp only [runO]
    split
    · rw [ih, List.length_set]
    · rfl
theorem has_line (n : Int) (l : List S42) (k : Int) : impl_Net_hasLine.f n l k = some (decide (0 ≤ k ∧ k < l.length)) := by
  unfold impl_Net_hasLine.f
  by_cases c : k ≥ 0
  · have c2 : 0 ≤ k := c
    rw [if_pos c]
    simp [c2]
  · have c2 : ¬ 0 ≤ k := c
    rw [if_neg c]
    simp [c2]
theorem spec_orun (on : List Bool) (l : List S87) (hl : l.length ≤ 1048576) (hv : l.all okStep = true) (d : Nat) : ∀ (i : Nat) (x : List Bool), i + d = l.length → x.length = on.length → spec_OrderRun.vl0 on l x (i : Int) = some ((runO x (l.drop i)).1, ((i + (runO x (l.drop i)).2 : Nat) : Int)) := by
  induction d with
  | zero =>
    intro i x hi hx
    rw [spec_OrderRun.vl0_eq, if_neg (by omega), List.drop_of_length_le (by omega)]
    simp [runO]
    omega
  | succ d ih =>
    intro i x hi hx
    have ok : okStep l[i] = true := List.all_eq_true.1 hv _ (List.getElem_mem _)
    simp only [okStep, Bool.and_eq_true, decide_eq_true_eq] at ok
    rw [spec_OrderRun.vl0_eq, if_pos (by omega), if_pos (by omega), rd_Step_nat l i (by omega), List.drop_eq_getElem_cons (show i < l.length by omega), w64 (by omega), show ((i : Int) + 1) = ((i + 1 : Nat) : Int) by omega, ih (i + 1) _ (by omega) (by rw [List.length_set]; exact hx)]
    simp only [runO]
    by_cases c : l[i].f0 ≥ (on.length : Int)
    · have q : canDo x l[i] = false := by
        have : ¬ l[i].f0 < (x.length : Int) := by omega
        simp [canDo, this]
      rw [if_pos c, q]
      simp
    · have q1 : l[i].f0 < (x.length : Int) := by omega
      rw [if_neg c, if_pos ok.1, if_pos q1]
      by_cases c2 : (rdOf false x l[i].f0 == l[i].f1) = true
      · have q : canDo x l[i] = false := by simp [canDo, bne, c2]
        rw [if_pos c2, q]
        simp
      · have q : canDo x l[i] = true := by simp [canDo, bne, q1, Bool.eq_false_iff.mpr c2]
        rw [if_neg c2, if_pos q]
        simp
        omega
theorem impl_orun (n : Int) (ls : List S42) (l : List S87) (hl : l.length ≤ 1048576) (hv : l.all okStep = true) (d : Nat) : ∀ (i : Nat) (x : List Bool), i + d = l.length → x.length = ls.length → impl_OrderRun.vl0 l x l (l.length : Int) (i : Int) n ls = some ((runO x (l.drop i)).1, ((i + (runO x (l.drop i)).2 : Nat) : Int)) := by
  induction d with
  | zero =>
    intro i x hi hx
    rw [impl_OrderRun.vl0_eq, if_neg (by omega), List.drop_of_length_le (by omega)]
    simp [runO]
    omega
  | succ d ih =>
    intro i x hi hx
    have ok : okStep l[i] = true := List.all_eq_true.1 hv _ (List.getElem_mem _)
    simp only [okStep, Bool.and_eq_true, decide_eq_true_eq] at ok
    rw [impl_OrderRun.vl0_eq, if_pos (by omega), if_pos (by omega), if_pos (by omega), rd_Step_nat l i (by omega), List.drop_eq_getElem_cons (show i < l.length by omega), has_line, Option.bind_some, w64 (by omega), show ((i : Int) + 1) = ((i + 1 : Nat) : Int) by omega, ih (i + 1) _ (by omega) (by rw [List.length_set]; exact hx)]
    simp only [runO]
    by_cases c : 0 ≤ l[i].f0 ∧ l[i].f0 < (ls.length : Int)
    · have q1 : l[i].f0 < (x.length : Int) := by omega
      rw [if_pos (by simpa using c), if_pos ok.1, if_pos q1]
      by_cases c2 : (rdOf false x l[i].f0 == l[i].f1) = true
      · have q : canDo x l[i] = false := by simp [canDo, bne, c2]
        rw [if_pos c2, q]
        simp
      · have q : canDo x l[i] = true := by simp [canDo, bne, q1, Bool.eq_false_iff.mpr c2]
        rw [if_neg c2, if_pos q]
        simp
        omega
    · have q : canDo x l[i] = false := by
        have : ¬ l[i].f0 < (x.length : Int) := by omega
        simp [canDo, this]
      rw [if_neg (by simpa using c), q]
      simp
/-- What OrderRun answers. -/
def orderRun (n : Int) (ls : List S42) (on : List Bool) (l : List S87) : List Bool × Nat := if (stateOk n ls on && (l.all okStep && decide (l.length ≤ 12))) = true then runO on l else ([], 0)
theorem implOrderRun (n : Int) (ls : List S42) (on : List Bool) (l : List S87) (h1 : ls.length ≤ 1048576) (h2 : on.length ≤ 1048576) (h3 : l.length ≤ 1048576) : impl_OrderRun.v n ls on l = some ((orderRun n ls on l).1, ((orderRun n ls on l).2 : Int)) := by
  rw [impl_OrderRun.v_eq, implState n ls on, Option.bind_some]
  unfold orderRun
  by_cases c : stateOk n ls on = true
  case neg =>
    rw [if_neg c, impl_OrderRun.vj0_eq, if_pos rfl, Bool.eq_false_iff.mpr c]
    simp
  rw [if_pos c, implOrder_val l h3, Option.bind_some, impl_OrderRun.vj0_eq, c, Bool.true_and]
  by_cases e : (l.all okStep && decide (l.length ≤ 12)) = true
  case neg =>
    rw [Bool.eq_false_iff.mpr e]
    simp
  rw [e]
  have hv : l.all okStep = true := by
    simp only [Bool.and_eq_true] at e
    exact e.1
  have hx : on.length = ls.length := by
    simp only [stateOk, Bool.and_eq_true, decide_eq_true_eq] at c
    exact c.2
  have := impl_orun n ls l h3 hv l.length 0 on (by omega) hx
  rw [if_neg (by simp)]
  simp only [slices_Clone_bool_bool.f, if_true]
  rw [if_pos (by omega), Option.bind_some]
  simpa using this
theorem specOrderRun (n : Int) (ls : List S42) (on : List Bool) (l : List S87) (h1 : ls.length ≤ 1048576) (h2 : on.length ≤ 1048576) (h3 : l.length ≤ 1048576) : spec_OrderRun.v n ls on l = some ((orderRun n ls on l).1, ((orderRun n ls on l).2 : Int)) := by
  rw [spec_OrderRun.v_eq, specState n ls on, Option.bind_some]
  unfold orderRun
  by_cases c : stateOk n ls on = true
  case neg =>
    rw [if_neg c, spec_OrderRun.vj0_eq, if_pos rfl, Bool.eq_false_iff.mpr c]
    simp
  rw [if_pos c, specOrder_val l h3, Option.bind_some, spec_OrderRun.vj0_eq, c, Bool.true_and]
  by_cases e : (l.all okStep && decide (l.length ≤ 12)) = true
  case neg =>
    rw [Bool.eq_false_iff.mpr e]
    simp
  rw [e]
  have hv : l.all okStep = true := by
    simp only [Bool.and_eq_true] at e
    exact e.1
  have := spec_orun on l h3 hv l.length 0 on (by omega) rfl
  rw [if_neg (by simp)]
  simp only [spec_l2Copy.f, if_true, Option.bind_some, List.nil_append, List.length_nil]
  rw [if_pos (by omega), Option.bind_some]
  simpa using this
end Go.Proofs.YtihmidnjiaomhaaDoor.Pure

namespace Go.Proofs.YtihmidnjiaomhaaDoor.Pure
open Go.RowKit Go.Proofs.YtihmidnjiaomhaaDoor.G Go.Proofs.YtihmidnjiaomhaaDoorW.PrintWords Go.Proofs.YtihmidnjiaomhaaDoorW.PrintLast Go.Proofs.YtihmidnjiaomhaaDoor.Op
set_option linter.unusedVariables false
set_option linter.unusedSimpArgs false
/-- The numbers i .. n-1. -/
def R (i n : Nat) : List Int := (List.range' i (n - i)).map (fun k : Nat => (k : Int))
theorem R_end {i n : Nat} (h : n ≤ i) : R i n = [] := by
  unfold R
  rw [show n - i = 0 by omega]
  rfl
theorem R_cons {i n : Nat} (h : i < n) : R i n = (i : Int) :: R (i + 1) n := by
  unfold R
  rw [show n - i = (n - (i + 1)) + 1 by omega, List.range'_succ]
  rfl
def pa (a : List Bool) (k : Int) : Bool := rdOf false a k
theorem mem_R {i n : Nat} {k : Int} (h : k ∈ R i n) : 0 ≤ k ∧ k < n := by
  unfold R at h
  rw [List.mem_map] at h
  obtain ⟨j, hj, rfl⟩ := h
  rw [List.mem_range'] at hj
  obtain ⟨q, hq, rfl⟩ := hj
  omega
theorem len_filter_R (p : Int → Bool) (i n : Nat) : ((R i n).filter p).length ≤ n := by
  have := List.length_filter_le p (R i n)
  unfold R at *
  simp at *
  omega
theorem changes_loop (a b : List Bool) (h : a.length = b.length) (hl : a.length ≤ 1048576) (d : Nat) : ∀ (i : Nat) (acc : List Int), i + d = a.length → acc.length ≤ i →
    spec_Changes.vl0 a b acc (i : Int) = some (acc ++ (R i a.length).filter (fun k => pa a k != pa b k)) := by
  induction d with
  | zero =>
    intro i acc hi ha
    rw [spec_Changes.vl0_eq, if_neg (by omega), spec_Changes.vj1_eq, if_neg (by decide), R_end (by omega)]
    simp
  | succ d ih =>
    intro i acc hi ha
    have e : ((i : Int) + 1) = ((i + 1 : Nat) : Int) := by omega
    have hb : ((a.length : Int) == (b.length : Int)) = true := by rw [h]; simp
    rw [spec_Changes.vl0_eq, if_pos (by omega), spec_Changes.vj1_eq, if_pos hb, if_pos (by omega), if_pos (by omega), if_pos (by omega), w64 (by omega), e, R_cons (show i < a.length by omega)]
    by_cases hd : (rdOf false a (i : Int) != rdOf false b (i : Int)) = true
    · have hd2 : (pa a (i : Int) != pa b (i : Int)) = true := hd
      rw [if_pos hd, if_pos (by omega), ih (i + 1) (acc ++ [(i : Int)]) (by omega) (by simp; omega)]
      simp [List.filter_cons, hd2]
    · have hd2 : (pa a (i : Int) != pa b (i : Int)) = false := Bool.eq_false_iff.2 hd
      rw [if_neg hd, ih (i + 1) acc (by omega) (by omega)]
      simp [List.filter_cons, hd2]
theorem changes_val (a b : List Bool) (h : a.length = b.length) (hl : a.length ≤ 1048576) : spec_Changes.v a b = some ((R 0 a.length).filter (fun k => pa a k != pa b k)) := by
  rw [spec_Changes.v_eq]
  exact changes_loop a b h hl a.length 0 [] (by omega) (by simp)
theorem changes_ne (a b : List Bool) (h : a.length ≠ b.length) : spec_Changes.v a b = some [] := by
  rw [spec_Changes.v_eq, spec_Changes.vl0_eq]
  have hb : ((a.length : Int) == (b.length : Int)) = false := by simp; omega
  split
  · rw [spec_Changes.vj1_eq, hb]; rfl
  · rw [spec_Changes.vj1_eq]; rfl
def off (k : Int) : S87 := ⟨k, false⟩
def on (k : Int) : S87 := ⟨k, true⟩
theorem spec_on (b : List Bool) (L : List Int) (hL : ∀ k ∈ L, 0 ≤ k ∧ k < (b.length : Int)) (hl : L.length ≤ 1048576) (d : Nat) : ∀ (j : Nat) (acc : List S87), j + d = L.length → acc.length ≤ 1048576 + j →
    spec_OrderTo.vl1 b acc L (j : Int) = some (acc ++ ((L.drop j).filter (pa b)).map on) := by
  induction d with
  | zero =>
    intro j acc hj ha
    rw [spec_OrderTo.vl1_eq, if_neg (by omega), List.drop_of_length_le (by omega)]
    simp
  | succ d ih =>
    intro j acc hj ha
    have e : ((j : Int) + 1) = ((j + 1 : Nat) : Int) := by omega
    have hk := hL L[j] (List.getElem_mem _)
    rw [spec_OrderTo.vl1_eq, if_pos (by omega), if_pos (by omega), rd_nat L j (by omega), if_pos hk.1, if_pos hk.2, w64 (by omega), e, List.drop_eq_getElem_cons (show j < L.length by omega), List.filter_cons]
    by_cases hd : rdOf false b L[j] = true
    · have hd2 : pa b L[j] = true := hd
      rw [if_pos hd, if_pos (by omega), ih (j + 1) (acc ++ [(⟨L[j], true⟩ : S87)]) (by omega) (by simp; omega), if_pos hd2]
      simp [on]
    · have hd2 : ¬ (pa b L[j] = true) := hd
      rw [if_neg hd, ih (j + 1) acc (by omega) (by omega), if_neg hd2]
theorem spec_off (a b : List Bool) (L : List Int) (hL : ∀ k ∈ L, 0 ≤ k ∧ k < (a.length : Int)) (hl : L.length ≤ 1048576) (d : Nat) : ∀ (j : Nat) (acc : List S87), j + d = L.length → acc.length ≤ j →
    spec_OrderTo.vl0 a b acc L (j : Int) = spec_OrderTo.vl1 b (acc ++ ((L.drop j).filter (pa a)).map off) L 0 := by
  induction d with
  | zero =>
    intro j acc hj ha
    rw [spec_OrderTo.vl0_eq, if_neg (by omega), List.drop_of_length_le (by omega)]
    simp
  | succ d ih =>
    intro j acc hj ha
    have e : ((j : Int) + 1) = ((j + 1 : Nat) : Int) := by omega
    have hk := hL L[j] (List.getElem_mem _)
    rw [spec_OrderTo.vl0_eq, if_pos (by omega), if_pos (by omega), rd_nat L j (by omega), if_pos hk.1, if_pos hk.2, w64 (by omega), e, List.drop_eq_getElem_cons (show j < L.length by omega), List.filter_cons]
    by_cases hd : rdOf false a L[j] = true
    · have hd2 : pa a L[j] = true := hd
      rw [if_pos hd, if_pos (by omega), ih (j + 1) (acc ++ [(⟨L[j], false⟩ : S87)]) (by omega) (by simp; omega), if_pos hd2]
      simp [off]
    · have hd2 : ¬ (pa a L[j] = true) := hd
      rw [if_neg hd, ih (j + 1) acc (by omega) (by omega), if_neg hd2]
/-- The order that leads from a to b. -/
def ord (a b : List Bool) : List S87 := if a.length = b.length ∧ a.length ≤ 10 then ((R 0 a.length).filter (fun k => pa a k && !pa b k)).map off ++ ((R 0 a.length).filter (fun k => pa b k && !pa a k)).map on else []
theorem spec_val (a b : List Bool) (ha : a.length ≤ 1048576) : spec_OrderTo.v a b = some (ord a b) := by
  rw [spec_OrderTo.v_eq, Option.bind_some]
  by_cases h : a.length = b.length
  · rw [changes_val a b h ha, Option.bind_some]
    by_cases h10 : (a.length : Int) > 10
    · rw [if_pos h10]
      unfold ord
      rw [if_neg (by omega)]
    · rw [if_neg h10]
      have hm : ∀ k ∈ (R 0 a.length).filter (fun k => pa a k != pa b k), 0 ≤ k ∧ k < (a.length : Int) := fun k hk => mem_R (List.mem_filter.1 hk).1
      have hn := len_filter_R (fun k => pa a k != pa b k) 0 a.length
      have e1 := spec_off a b _ hm (by omega) _ 0 [] (Nat.zero_add _) (Nat.le_refl _)
      rw [show ((0 : Nat) : Int) = 0 from rfl] at e1
      rw [e1]
      have hf := List.length_filter_le (pa a) ((R 0 a.length).filter (fun k => pa a k != pa b k))
      have e2 := spec_on b _ (by rw [← h]; exact hm) (by omega) _ 0 ([] ++ (((List.drop 0 ((R 0 a.length).filter (fun k => pa a k != pa b k))).filter (pa a)).map off)) (Nat.zero_add _) (by simp only [List.nil_append, List.drop_zero, List.length_map]; omega)
      rw [show ((0 : Nat) : Int) = 0 from rfl] at e2
      rw [e2]
      unfold ord
      rw [if_pos ⟨h, by omega⟩]
      simp only [List.drop_zero, List.nil_append, List.filter_filter]
      congr 4 <;> (funext k; cases pa a k <;> cases pa b k <;> rfl)
  · have ho : ord a b = [] := by
      unfold ord
      rw [if_neg (fun q => h q.1)]
    rw [changes_ne a b h, Option.bind_some, ho]
    split
    · rfl
    · rw [spec_OrderTo.vl0_eq, if_neg (by simp), spec_OrderTo.vl1_eq, if_neg (by simp)]
theorem impl_loop (a b : List Bool) (h : a.length = b.length) (hl : a.length ≤ 10) (d : Nat) : ∀ (i : Nat) (x y : List S87), i + d = a.length → x.length ≤ i → y.length ≤ i →
    impl_OrderTo.vl0 a b x y (a.length : Int) (i : Int) = some ((x ++ ((R i a.length).filter (fun k => pa a k && !pa b k)).map off) ++ (y ++ ((R i a.length).filter (fun k => pa b k && !pa a k)).map on)) := by
  induction d with
  | zero =>
    intro i x y hi hx hy
    rw [impl_OrderTo.vl0_eq, if_neg (by omega), if_pos (by omega), R_end (by omega)]
    simp
  | succ d ih =>
    intro i x y hi hx hy
    have e : ((i : Int) + 1) = ((i + 1 : Nat) : Int) := by omega
    have r0 : (0 : Int) ≤ (i : Int) := by omega
    have ra : (i : Int) < (a.length : Int) := by omega
    have rb : (i : Int) < (b.length : Int) := by omega
    have i1 := ih (i + 1) (x ++ [off i]) y (by omega) (by simp; omega) (by omega)
    have i2 := ih (i + 1) x (y ++ [on i]) (by omega) (by omega) (by simp; omega)
    have i3 := ih (i + 1) x y (by omega) (by omega) (by omega)
    rw [impl_OrderTo.vl0_eq, if_pos ra, if_pos r0, if_pos ra, if_pos rb, impl_OrderTo.vj2_eq, impl_OrderTo.vj2_eq, w64 (by omega), e, R_cons (show i < a.length by omega), List.filter_cons, List.filter_cons]
    simp only [off, on, pa] at *
    rcases Bool.eq_false_or_eq_true (rdOf false a (i : Int)) with h1 | h1 <;> rcases Bool.eq_false_or_eq_true (rdOf false b (i : Int)) with h2 | h2 <;> simp only [h1, h2, Bool.not_true, Bool.not_false, Bool.and_true, Bool.and_false, Bool.true_and, Bool.false_and, Bool.false_eq_true, if_true, if_false, r0, ra, rb]
    · exact i3
    · rw [if_pos (by omega), i1]
      simp [off]
    · rw [if_pos (by omega), i2]
      simp [on]
    · exact i3
theorem impl_val (a b : List Bool) : impl_OrderTo.v a b = some (ord a b) := by
  rw [impl_OrderTo.v_eq]
  by_cases h : a.length = b.length
  · rw [if_pos (by omega), impl_OrderTo.vj0_eq]
    by_cases h10 : (a.length : Int) > 10
    · rw [if_pos (by simpa using h10)]
      unfold ord
      rw [if_neg (by omega)]
    · rw [if_neg (by simpa using h10)]
      have := impl_loop a b h (by omega) a.length 0 [] [] (by omega) (by simp) (by simp)
      unfold ord
      rw [if_pos ⟨h, by omega⟩]
      simpa using this
  · rw [if_neg (by omega), impl_OrderTo.vj0_eq, if_pos rfl]
    unfold ord
    rw [if_neg (by omega)]
theorem ord_len (a b : List Bool) : (ord a b).length ≤ 20 := by
  unfold ord
  split
  · have h1 := len_filter_R (fun k => pa a k && !pa b k) 0 a.length
    have h2 := len_filter_R (fun k => pa b k && !pa a k) 0 a.length
    simp only [List.length_append, List.length_map]
    omega
  · simp

end Go.Proofs.YtihmidnjiaomhaaDoor.Pure

namespace Go.Proofs.YtihmidnjiaomhaaDoor.Pure
open Go.RowKit Go.Proofs.YtihmidnjiaomhaaDoor.G Go.Proofs.YtihmidnjiaomhaaDoorW.PrintWords Go.Proofs.YtihmidnjiaomhaaDoorW.PrintLast Go.Proofs.YtihmidnjiaomhaaDoor.Op
set_option linter.unusedVariables false
set_option linter.unusedSimpArgs false
theorem net_exit (b : List Int) (r : Rd b) (n x6 : Int) (hn : 0 ≤ n ∧ n ≤ 1000000) (p B : Int) (L : List S42) (hp : 0 ≤ p) (hp2 : p ≤ 2000000) (hL : L.length ≤ 10) (hB : -1 ≤ B ∧ B ≤ 9) :
    ∃ B' L' q, spec_l20Net.vj2 n x6 false b p B L = some (B', L', q) ∧ L'.length ≤ 11 ∧ p ≤ q ∧ q ≤ p + 10 ∧ -1 ≤ B' ∧ B' ≤ 9 := by
  rw [spec_l20Net.vj2_eq, if_neg (by simp)]
  obtain ⟨t, q, h1, q1, q2⟩ := odd b p n r hp (by omega) (by omega)
  rw [h1, Option.bind_some]
  cases t with
  | false =>
    rw [if_neg (by simp)]
    exact ⟨_, _, _, rfl, by omega, q1, by omega, by omega, by omega⟩
  | true =>
    obtain ⟨x, h2, x0, x1⟩ := pick b q 5 r (by omega) (by omega) (by omega)
    rw [if_pos rfl]
    simp only [h2, Option.bind_some]
    by_cases c0 : x = 0
    · obtain ⟨y, h3, y0, y1⟩ := pick b (q + 1) 3 r (by omega) (by omega) (by omega)
      have y2 := y1 (by omega)
      have y3 : y = 0 ∨ y = 1 ∨ y = 2 := by omega
      rw [if_pos c0]
      simp only [h3, Option.bind_some]
      rcases y3 with rfl | rfl | rfl <;> exact ⟨_, _, _, rfl, by omega, by omega, by omega, by decide, by decide⟩
    rw [if_neg c0]
    by_cases c1 : x = 1
    · rw [if_pos c1, if_pos (by omega)]
      exact ⟨_, _, _, rfl, by simp; omega, by omega, by omega, by omega, by omega⟩
    rw [if_neg c1]
    by_cases c2 : x = 2
    · rw [if_pos c2, if_pos (by omega)]
      exact ⟨_, _, _, rfl, by simp; omega, by omega, by omega, by omega, by omega⟩
    rw [if_neg c2]
    by_cases c3 : x = 3
    · obtain ⟨y, h3, y0, y1⟩ := pick b (q + 1) 2 r (by omega) (by omega) (by omega)
      have y2 := y1 (by omega)
      rw [if_pos c3]
      simp only [h3, Option.bind_some, List.length_cons, List.length_nil]
      rw [if_pos y0, if_pos (by omega), if_pos (by omega)]
      exact ⟨_, _, _, rfl, by simp; omega, by omega, by omega, by omega, by omega⟩
    · rw [if_neg c3, if_pos (by omega)]
      exact ⟨_, _, _, rfl, by simp, by omega, by omega, by omega, by omega⟩
theorem net_loop (b : List Int) (r : Rd b) (n : Int) (hn : 0 ≤ n ∧ n ≤ 1000000) (c : Nat) : ∀ (p B : Int) (L : List S42), 0 ≤ p → p + 3 * (c : Int) ≤ 1000000 → L.length + c ≤ 10 → 1 ≤ B → B ≤ 8 →
    ∃ B' L' q, spec_l20Net.vl0 n (c : Int) b p B L = some (B', L', q) ∧ L'.length ≤ 11 ∧ p ≤ q ∧ q ≤ p + 3 * c + 10 ∧ -1 ≤ B' ∧ B' ≤ 9 := by
  induction c with
  | zero =>
    intro p B L hp hp2 hL hB hB8
    rw [spec_l20Net.vl0_eq, if_neg (by omega)]
    obtain ⟨B', L', q, h, h1, h2, h3, h4⟩ := net_exit b r n _ hn p B L hp (by omega) (by omega) (by omega)
    exact ⟨B', L', q, h, h1, h2, by omega, h4⟩
  | succ c ih =>
    intro p B L hp hp2 hL hB hB8
    rw [spec_l20Net.vl0_eq, if_pos (by omega)]
    by_cases cB : B > 1
    · rw [decide_eq_true cB, spec_l20Net.vj2_eq, if_pos rfl, w64 (n := B - 1) (by omega)]
      obtain ⟨x, h1, x0, x1⟩ := pick b p B r hp (by omega) (by omega)
      obtain ⟨y, h2, y0, y1⟩ := pick b (p + 1) (B - 1) r (by omega) (by omega) (by omega)
      obtain ⟨z, h3, z0, z1⟩ := pick b (p + 1 + 1) 40 r (by omega) (by omega) (by omega)
      rw [h1, Option.bind_some]
      simp only [h2, h3, Option.bind_some]
      rw [if_neg (by omega), if_pos (by omega), w64 (n := ((c + 1 : Nat) : Int) - 1) (by omega), show ((c + 1 : Nat) : Int) - 1 = (c : Int) by omega]
      obtain ⟨B', L', q, h, e1, e2, e3, e4⟩ := ih (p + 1 + 1 + 1) B (L ++ [(⟨x, Int.tmod (wrap64 ((wrap64 (x + 1)) + y)) B, wrap64 (1 + z)⟩ : S42)]) (by omega) (by omega) (by simp; omega) hB hB8
      exact ⟨B', L', q, h, e1, by omega, by omega, e4⟩
    · rw [decide_eq_false cB]
      obtain ⟨B', L', q, h, h1, h2, h3, h4⟩ := net_exit b r n _ hn p B L hp (by omega) (by omega) (by omega)
      exact ⟨B', L', q, h, h1, h2, by omega, h4⟩
theorem draw_net (b : List Int) (r : Rd b) (n : Int) (hn : 0 ≤ n ∧ n ≤ 1000000) (p : Int) (hp : 0 ≤ p) (hp2 : p ≤ 900000) :
    ∃ B L q, spec_l20Net.v b p n = some (B, L, q) ∧ L.length ≤ 11 ∧ p ≤ q ∧ q ≤ p + 50 ∧ -1 ≤ B ∧ B ≤ 9 := by
  rw [spec_l20Net.v_eq]
  obtain ⟨x, h1, x0, x1⟩ := pick b p 8 r hp (by omega) (by omega)
  obtain ⟨y, h2, y0, y1⟩ := pick b (p + 1) 3 r (by omega) (by omega) (by omega)
  have x2 := x1 (by omega)
  simp only [h1, h2, Option.bind_some]
  by_cases c : y > 0
  · obtain ⟨z, h3, z0, z1⟩ := pick b (p + 1 + 1) 4 r (by omega) (by omega) (by omega)
    have z2 := z1 (by omega)
    obtain ⟨m, h4, m0, m1⟩ := pick b (p + 1 + 1 + 1) 11 r (by omega) (by omega) (by omega)
    have m2 := m1 (by omega)
    obtain ⟨m', rfl⟩ := Int.eq_ofNat_of_zero_le m0
    rw [if_pos c]
    simp only [h3, Option.bind_some, spec_l20Net.vj0_eq, h4]
    rw [w64 (n := 4 + z) (by omega)]
    obtain ⟨B', L', q, h, e1, e2, e3, e4⟩ := net_loop b r n hn m' (p + 1 + 1 + 1 + 1) (4 + z) [] (by omega) (by omega) (by simp; omega) (by omega) (by omega)
    exact ⟨B', L', q, h, e1, by omega, by omega, e4⟩
  · obtain ⟨m, h4, m0, m1⟩ := pick b (p + 1 + 1) 11 r (by omega) (by omega) (by omega)
    have m2 := m1 (by omega)
    obtain ⟨m', rfl⟩ := Int.eq_ofNat_of_zero_le m0
    rw [if_neg c]
    simp only [Option.bind_some, spec_l20Net.vj0_eq, h4]
    rw [w64 (n := 1 + x) (by omega)]
    obtain ⟨B', L', q, h, e1, e2, e3, e4⟩ := net_loop b r n hn m' (p + 1 + 1 + 1) (1 + x) [] (by omega) (by omega) (by simp; omega) (by omega) (by omega)
    exact ⟨B', L', q, h, e1, by omega, by omega, e4⟩
theorem state_loop (b : List Int) (r : Rd b) (n m B : Int) (L : List S42) (hn : 0 ≤ n ∧ n ≤ 1000000) (hL : L.length ≤ 100) (d : Nat) : ∀ (i : Nat) (x : List Bool) (p : Int), i + d = L.length → x.length = i → 0 ≤ p → p + d ≤ 1000000 →
    ∃ x' q, spec_l20State.vl0 n x m (i : Int) b p B L = some (x', q) ∧ x'.length ≤ L.length + 1 ∧ p ≤ q ∧ q ≤ p + d + 1 := by
  induction d with
  | zero =>
    intro i x p hi hx hp hp2
    rw [spec_l20State.vl0_eq, if_neg (by omega)]
    obtain ⟨t, q, h1, q1, q2⟩ := odd b p n r hp (by omega) (by omega)
    rw [h1, Option.bind_some]
    cases t with
    | false =>
      rw [if_neg (by simp)]
      exact ⟨x, q, rfl, by omega, q1, by omega⟩
    | true =>
      rw [if_pos rfl, if_pos (by omega)]
      exact ⟨_, q, rfl, by simp; omega, q1, by omega⟩
  | succ d ih =>
    intro i x p hi hx hp hp2
    obtain ⟨y, h1, _⟩ := pick b p 4 r hp (by omega) (by omega)
    rw [spec_l20State.vl0_eq, if_pos (by omega), h1, Option.bind_some, if_pos (by omega), w64 (by omega), show ((i : Int) + 1) = ((i + 1 : Nat) : Int) by omega]
    obtain ⟨x', q, h2, h3, h4, h5⟩ := ih (i + 1) (x ++ [decide (y < m)]) (p + 1) (by omega) (by simp; omega) (by omega) (by omega)
    exact ⟨x', q, h2, h3, by omega, by omega⟩
theorem draw_state (b : List Int) (r : Rd b) (n B : Int) (L : List S42) (hn : 0 ≤ n ∧ n ≤ 1000000) (hL : L.length ≤ 100) (p : Int) (hp : 0 ≤ p) (hp2 : p ≤ 900000) :
    ∃ x' q, spec_l20State.v b p B L n = some (x', q) ∧ x'.length ≤ L.length + 1 ∧ p ≤ q ∧ q ≤ p + L.length + 2 := by
  rw [spec_l20State.v_eq]
  obtain ⟨y, h1, _⟩ := pick b p 4 r hp (by omega) (by omega)
  simp only [h1, Option.bind_some]
  obtain ⟨x', q, h2, h3, h4, h5⟩ := state_loop b r n (wrap64 (1 + y)) B L hn hL L.length 0 [] (p + 1) (by omega) rfl (by omega) (by omega)
  exact ⟨x', q, h2, h3, by omega, by omega⟩
end Go.Proofs.YtihmidnjiaomhaaDoor.Pure
namespace Go.Proofs.YtihmidnjiaomhaaDoor.Pure
open Go.RowKit Go.Proofs.YtihmidnjiaomhaaDoor.G Go.Proofs.YtihmidnjiaomhaaDoorW.PrintWords Go.Proofs.YtihmidnjiaomhaaDoorW.PrintLast Go.Proofs.YtihmidnjiaomhaaDoor.Op

set_option linter.unusedSimpArgs false
set_option linter.unusedVariables false
theorem rdOf_set (x : List Bool) (i : Nat) (v : Bool) (k : Int) (hk : 0 ≤ k) (hi : i < x.length) : rdOf false (x.set i v) k = if k = (i : Int) then v else rdOf false x k := by
  obtain ⟨m, rfl⟩ := Int.eq_ofNat_of_zero_le hk
  simp only [rdOf, Int.toNat_natCast, List.getD_eq_getElem?_getD]
  by_cases e : m = i
  · subst e
    simp [hi]
  · rw [List.getElem?_set_ne (by omega), if_neg (by omega)]
theorem run_all (l : List S87) : ∀ (x : List Bool), (∀ s ∈ l, 0 ≤ s.f0 ∧ s.f0 < x.length ∧ rdOf false x s.f0 ≠ s.f1) → l.Pairwise (fun s t => s.f0 ≠ t.f0) →
    (runO x l).2 = l.length ∧ (∀ s ∈ l, rdOf false (runO x l).1 s.f0 = s.f1) ∧ ∀ k : Int, 0 ≤ k → (∀ s ∈ l, s.f0 ≠ k) → rdOf false (runO x l).1 k = rdOf false x k := by
  induction l with
  | nil =>
    intro x _ _
    exact ⟨rfl, by simp, fun _ _ _ => rfl⟩
  | cons s l ih =>
    intro x h hp
    obtain ⟨h0, h1, h2⟩ := h s (List.mem_cons_self)
    rw [List.pairwise_cons] at hp
    have hc : canDo x s = true := by simp [canDo, h1, h2]
    have hi : s.f0.toNat < x.length := by omega
    have hs : ((s.f0.toNat : Nat) : Int) = s.f0 := by omega
    obtain ⟨r1, r2, r3⟩ := ih (x.set s.f0.toNat s.f1) (fun t ht => by
      obtain ⟨g0, g1, g2⟩ := h t (List.mem_cons_of_mem _ ht)
      refine ⟨g0, by rw [List.length_set]; exact g1, ?_⟩
      rw [rdOf_set x _ _ _ g0 hi, if_neg (by rw [hs]; exact fun e => hp.1 t ht e.symm)]
      exact g2) hp.2
    simp only [runO]
    rw [if_pos hc]
    refine ⟨by simp [r1], fun t ht => ?_, fun k hk hn => ?_⟩
    · rcases List.mem_cons.1 ht with rfl | ht
      · show rdOf false (runO (x.set t.f0.toNat t.f1) l).1 t.f0 = t.f1
        rw [r3 t.f0 h0 (fun u hu e => hp.1 u hu e.symm), rdOf_set x _ _ _ h0 hi, if_pos hs.symm]
      · exact r2 t ht
    · show rdOf false (runO (x.set s.f0.toNat s.f1) l).1 k = _
      rw [r3 k hk (fun u hu => hn u (List.mem_cons_of_mem _ hu)), rdOf_set x _ _ _ hk hi, if_neg (by rw [hs]; exact fun e => hn s List.mem_cons_self e.symm)]
theorem mem_R2 {i n : Nat} {k : Int} (h : k ∈ R i n) : (i : Int) ≤ k := by
  unfold R at h
  rw [List.mem_map] at h
  obtain ⟨j, hj, rfl⟩ := h
  rw [List.mem_range'] at hj
  obtain ⟨q, hq, rfl⟩ := hj
  omega
theorem in_R {n : Nat} {k : Int} (h0 : 0 ≤ k) (h : k < n) : k ∈ R 0 n := by
  unfold R
  rw [List.mem_map]
  exact ⟨k.toNat, by rw [List.mem_range']; exact ⟨k.toNat, by omega, by omega⟩, by omega⟩
theorem R_pair (n : Nat) (d : Nat) : ∀ i, i + d = n → (R i n).Pairwise (· ≠ ·) := by
  induction d with
  | zero =>
    intro i hi
    rw [R_end (by omega)]
    exact List.Pairwise.nil
  | succ d ih =>
    intro i hi
    rw [R_cons (by omega), List.pairwise_cons]
    exact ⟨fun k hk => by have := mem_R2 hk; omega, ih (i + 1) (by omega)⟩
theorem two_filters (l : List Int) (p q r : Int → Bool) (h : ∀ k, r k = (p k || q k)) (hn : ∀ k, ¬ (p k = true ∧ q k = true)) : (l.filter p).length + (l.filter q).length = (l.filter r).length := by
  induction l with
  | nil => rfl
  | cons x l ih =>
    have h1 := h x
    have h2 := hn x
    simp only [List.filter_cons]
    cases hp : p x <;> cases hq : q x <;> simp_all <;> omega
theorem ord_same (a b : List Bool) (h : a.length = b.length) (h10 : a.length ≤ 10) : (ord a b).length = ((R 0 a.length).filter (fun k => pa a k != pa b k)).length := by
  unfold ord
  rw [if_pos ⟨h, h10⟩, List.length_append, List.length_map, List.length_map]
  exact two_filters _ _ _ _ (fun k => by cases pa a k <;> cases pa b k <;> rfl) (fun k => by cases pa a k <;> cases pa b k <;> simp)
theorem ord_mem (a b : List Bool) (s : S87) (h : s ∈ ord a b) : 0 ≤ s.f0 ∧ s.f0 < a.length ∧ a.length ≤ 10 ∧ a.length = b.length ∧ pa a s.f0 = !s.f1 ∧ pa b s.f0 = s.f1 := by
  unfold ord at h
  split at h
  · rename_i hh
    rcases List.mem_append.1 h with h | h
    · obtain ⟨k, hk, rfl⟩ := List.mem_map.1 h
      obtain ⟨m1, m2⟩ := List.mem_filter.1 hk
      have := mem_R m1
      simp only [Bool.and_eq_true, Bool.not_eq_true'] at m2
      exact ⟨this.1, this.2, hh.2, hh.1, by simp [off, m2.1], by simp [off, m2.2]⟩
    · obtain ⟨k, hk, rfl⟩ := List.mem_map.1 h
      obtain ⟨m1, m2⟩ := List.mem_filter.1 hk
      have := mem_R m1
      simp only [Bool.and_eq_true, Bool.not_eq_true'] at m2
      exact ⟨this.1, this.2, hh.2, hh.1, by simp [on, m2.2], by simp [on, m2.1]⟩
  · simp at h
theorem ord_pair (a b : List Bool) : (ord a b).Pairwise (fun s t => s.f0 ≠ t.f0) := by
  unfold ord
  split
  · have hp := R_pair a.length a.length 0 (by omega)
    rw [List.pairwise_append]
    refine ⟨?_, ?_, ?_⟩
    · rw [List.pairwise_map]
      exact (hp.filter _).imp (fun h => h)
    · rw [List.pairwise_map]
      exact (hp.filter _).imp (fun h => h)
    · intro s hs t ht e
      obtain ⟨k, hk, rfl⟩ := List.mem_map.1 hs
      obtain ⟨j, hj, rfl⟩ := List.mem_map.1 ht
      have e2 : k = j := e
      subst e2
      have m1 := (List.mem_filter.1 hk).2
      have m2 := (List.mem_filter.1 hj).2
      cases h1 : pa a k <;> cases h2 : pa b k <;> simp_all
  · exact List.Pairwise.nil
/-- The order leads there, and all of its steps are done. -/
theorem ord_leads (a b : List Bool) (h : a.length = b.length) (h10 : a.length ≤ 10) : runO a (ord a b) = (b, (ord a b).length) := by
  obtain ⟨r1, r2, r3⟩ := run_all (ord a b) a (fun s hs => by
    obtain ⟨m0, m1, _, _, m2, _⟩ := ord_mem a b s hs
    refine ⟨m0, m1, ?_⟩
    unfold pa at m2
    rw [m2]
    simp) (ord_pair a b)
  have hl := runO_len (ord a b) a
  refine Prod.ext ?_ r1
  apply List.ext_getElem (by rw [hl, h])
  intro i h1 h2
  have e1 : rdOf false (runO a (ord a b)).1 (i : Int) = (runO a (ord a b)).1[i] := rdOf_nat false _ i h1
  have e2 : rdOf false b (i : Int) = b[i] := rdOf_nat false _ i h2
  rw [← e1, ← e2]
  by_cases c : ∃ s ∈ ord a b, s.f0 = (i : Int)
  · obtain ⟨s, hs, e⟩ := c
    rw [← e, r2 s hs]
    exact (ord_mem a b s hs).2.2.2.2.2.symm
  · have hn : ∀ s ∈ ord a b, s.f0 ≠ (i : Int) := fun s hs e => c ⟨s, hs, e⟩
    rw [r3 (i : Int) (by omega) hn]
    -- no step: the same in both
    have ia : (i : Int) ∈ R 0 a.length := in_R (by omega) (by omega)
    have q1 : ¬ ((pa a (i : Int) && !pa b (i : Int)) = true) := fun q => by
      refine hn (off (i : Int)) ?_ rfl
      unfold ord
      rw [if_pos ⟨h, h10⟩]
      exact List.mem_append.2 (Or.inl (List.mem_map.2 ⟨_, List.mem_filter.2 ⟨ia, q⟩, rfl⟩))
    have q2 : ¬ ((pa b (i : Int) && !pa a (i : Int)) = true) := fun q => by
      refine hn (on (i : Int)) ?_ rfl
      unfold ord
      rw [if_pos ⟨h, h10⟩]
      exact List.mem_append.2 (Or.inr (List.mem_map.2 ⟨_, List.mem_filter.2 ⟨ia, q⟩, rfl⟩))
    have : pa a (i : Int) = pa b (i : Int) := by
      cases h1 : pa a (i : Int) <;> cases h2 : pa b (i : Int) <;> simp_all
    exact this
theorem same_steps (l : List S87) (hl : l.length ≤ 1000) : laws_sameSteps.v l l = some true := by
  have loop : ∀ (d i : Nat), i + d = l.length → laws_sameSteps.vl0 l l (i : Int) = some true := by
    intro d
    induction d with
    | zero =>
      intro i hi
      rw [laws_sameSteps.vl0_eq, if_neg (by omega)]
    | succ d ih =>
      intro i hi
      rw [laws_sameSteps.vl0_eq, if_pos (by omega), if_pos (by omega), if_pos (by omega), if_neg (by simp), w64 (by omega), show ((i : Int) + 1) = ((i + 1 : Nat) : Int) by omega]
      exact ih (i + 1) (by omega)
  rw [laws_sameSteps.v_eq, if_pos rfl]
  exact loop l.length 0 (by omega)
theorem same_bools (l : List Bool) (hl : l.length ≤ 1000) : laws_sameBools.v l l = some true := by
  have loop : ∀ (d i : Nat), i + d = l.length → laws_sameBools.vl0 l l (i : Int) = some true := by
    intro d
    induction d with
    | zero =>
      intro i hi
      rw [laws_sameBools.vl0_eq, if_neg (by omega)]
    | succ d ih =>
      intro i hi
      rw [laws_sameBools.vl0_eq, if_pos (by omega), if_pos (by omega), if_pos (by omega), if_neg (by simp), w64 (by omega), show ((i : Int) + 1) = ((i + 1 : Nat) : Int) by omega]
      exact ih (i + 1) (by omega)
  rw [laws_sameBools.v_eq, if_pos rfl]
  exact loop l.length 0 (by omega)
theorem impl_changes (a b : List Bool) (h : a.length = b.length) (hl : a.length ≤ 1000) : impl_Changes.v a b = some ((R 0 a.length).filter (fun k => pa a k != pa b k)) := by
  have loop : ∀ (d i : Nat) (acc : List Int), i + d = a.length → acc.length ≤ i → impl_Changes.vl0 a b acc (a.length : Int) (i : Int) = some (acc ++ (R i a.length).filter (fun k => pa a k != pa b k)) := by
    intro d
    induction d with
    | zero =>
      intro i acc hi ha
      rw [impl_Changes.vl0_eq, if_neg (by omega), R_end (by omega)]
      simp
    | succ d ih =>
      intro i acc hi ha
      rw [impl_Changes.vl0_eq, if_pos (by omega), if_pos (by omega), if_pos (by omega), if_pos (by omega), w64 (by omega), show ((i : Int) + 1) = ((i + 1 : Nat) : Int) by omega, R_cons (show i < a.length by omega), List.filter_cons]
      by_cases hd : (rdOf false a (i : Int) != rdOf false b (i : Int)) = true
      · have hd2 : (pa a (i : Int) != pa b (i : Int)) = true := hd
        rw [if_pos hd, if_pos (by omega), ih (i + 1) (acc ++ [(i : Int)]) (by omega) (by simp; omega), if_pos hd2]
        simp
      · have hd2 : ¬ (pa a (i : Int) != pa b (i : Int)) = true := hd
        rw [if_neg hd, ih (i + 1) acc (by omega) (by omega), if_neg hd2]
  rw [impl_Changes.v_eq, if_pos (by omega)]
  exact loop a.length 0 [] (by omega) (by simp)
/-- The network of the law: as many lines as are needed. -/
theorem law_loop (a b : List Bool) (l : List S87) (ha : a.length ≤ 10) (d : Nat) : ∀ (i : Nat) (L : List S42), i + d = a.length → L.length = i → (∀ x ∈ L, okLine 2 x = true) →
    ∃ L', L'.length = a.length ∧ (∀ x ∈ L', okLine 2 x = true) ∧ laws_FnOrderTo.vl0 a b l (i : Int) 2 L = laws_FnOrderTo.vl0 a b l (a.length : Int) 2 L' := by
  induction d with
  | zero =>
    intro i L hi hL hok
    obtain rfl : i = a.length := by omega
    exact ⟨L, hL, hok, rfl⟩
  | succ d ih =>
    intro i L hi hL hok
    obtain ⟨L', h1, h2, h3⟩ := ih (i + 1) (L ++ [(⟨0, 1, 1⟩ : S42)]) (by omega) (by simp; omega) (fun x hx => by
      rcases List.mem_append.1 hx with hx | hx
      · exact hok x hx
      · obtain rfl := List.mem_singleton.1 hx
        rfl)
    refine ⟨L', h1, h2, ?_⟩
    rw [← h3, laws_FnOrderTo.vl0_eq, if_pos (by omega), if_pos (by omega), w64 (by omega), show ((i : Int) + 1) = ((i + 1 : Nat) : Int) by omega]

theorem FnOrderTo : ∀ (x0 : List Int), x0.length ≤ maxLen → (∀ y ∈ x0, (Lit.int .u8 y).wf = true) → ∃ k, laws_FnOrderTo.f k x0 = some true := by
  intro x _ hx
  refine (laws_FnOrderTo.L x).rounds ?_
  rw [laws_FnOrderTo.v_eq]
  by_cases c : (x.length : Int) > 1048576
  · rw [if_pos c]
  rw [if_neg c]
  obtain ⟨b0, hb, r⟩ := open_of x hx
  have draw : ∃ a b, spec_DrawOrderTo.v x = some (a, b) ∧ a.length ≤ 12 ∧ b.length ≤ 12 := by
    rw [spec_DrawOrderTo.v_eq, hb, Option.bind_some]
    obtain ⟨t, q, h1, q1, q2⟩ := odd b0 0 20 r (by omega) (by omega) (by omega)
    simp only [h1, Option.bind_some]
    cases t with
    | true => exact ⟨_, _, by simp; exact ⟨rfl, rfl⟩, by simp, by simp⟩
    | false =>
      obtain ⟨B, L, q3, h2, h3, h4, h5, _⟩ := draw_net b0 r 0 (by omega) q (by omega) (by omega)
      obtain ⟨s1, q4, h6, h7, h8, h9⟩ := draw_state b0 r 0 B L (by omega) (by omega) q3 (by omega) (by omega)
      obtain ⟨s2, q5, e6, e7, e8, e9⟩ := draw_state b0 r 7 B L (by omega) (by omega) q4 (by omega) (by omega)
      simp only [Bool.false_eq_true, if_false, h2, h6, e6, Option.bind_some]
      exact ⟨s1, s2, rfl, by omega, by omega⟩
  obtain ⟨a, b, hd, ha, hbl⟩ := draw
  have hol := ord_len a b
  rw [hd, Option.bind_some]
  simp only [impl_val, spec_val a b (by omega), Option.bind_some, same_steps (ord a b) (by omega), if_true]
  by_cases hab : a.length = b.length
  · rw [if_pos (by omega)]
    by_cases h10 : (a.length : Int) > 10
    · rw [decide_eq_true h10, laws_FnOrderTo.vj0_eq, if_pos rfl]
      have : ord a b = [] := by
        unfold ord
        rw [if_neg (by omega)]
      rw [this]
      simp [alive]
    · rw [decide_eq_false h10, laws_FnOrderTo.vj0_eq, if_neg (by simp)]
      obtain ⟨L', h1, h2, h3⟩ := law_loop a b (ord a b) (by omega) a.length 0 [] (by omega) rfl (by simp)
      rw [show (0 : Int) = ((0 : Nat) : Int) from rfl, h3, laws_FnOrderTo.vl0_eq, if_neg (by omega)]
      have hch := ord_same a b hab (by omega)
      have hchl := len_filter_R (fun k => pa a k != pa b k) 0 a.length
      have hrun : orderRun 2 L' a (ord a b) = (b, (ord a b).length) := by
        unfold orderRun
        rw [if_pos]
        · exact ord_leads a b hab (by omega)
        · have e1 : L'.all (okLine 2) = true := List.all_eq_true.2 h2
          have e2 : (ord a b).all okStep = true := List.all_eq_true.2 (fun s hs => by
            obtain ⟨m0, m1, m2, _⟩ := ord_mem a b s hs
            have : s.f0 ≤ 9 := by omega
            simp [okStep, m0, this])
          have e3 : (ord a b).length ≤ 12 := by omega
          have e4 : L'.length ≤ 10 := by omega
          simp [stateOk, netOk, e1, e2, e3, e4, h1]
          omega
      have hr := implOrderRun 2 L' a (ord a b) (by omega) (by omega) (by omega)
      rw [hrun] at hr
      simp only [hr, Option.bind_some, same_bools b (by omega), if_true, impl_changes a b hab (by omega), ← hch]
      simp
  · rw [if_neg (by omega), laws_FnOrderTo.vj0_eq, if_pos rfl]
    have : ord a b = [] := by
      unfold ord
      rw [if_neg (by omega)]
    rw [this]
    simp [alive]

end Go.Proofs.YtihmidnjiaomhaaDoor.Pure
