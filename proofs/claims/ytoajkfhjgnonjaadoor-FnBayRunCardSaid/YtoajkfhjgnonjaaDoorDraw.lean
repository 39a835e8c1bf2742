/- The draws of the laws: each draw answers, within its bounds. Plain Lean over the printed functions. -/
import Derived.Test.YtoajkfhjgnonjaaDoorGx1
import Derived.Test.YtoajkfhjgnonjaaDoorV2
import Derived.Test.YtoajkfhjgnonjaaDoorNum
namespace Go.Proofs.YtoajkfhjgnonjaaDoor.Pure
open Go.RowKit Go.Proofs.YtoajkfhjgnonjaaDoor.G Go.Proofs.YtoajkfhjgnonjaaDoorW.PrintWords Go.Proofs.YtoajkfhjgnonjaaDoorW.PrintLast Go.Proofs.YtoajkfhjgnonjaaDoor.Op
set_option linter.unusedVariables false
set_option linter.unusedSimpArgs false

/-- What a reader holds: at most 2000 letters. -/
structure Rd (b : List Int) : Prop where
  len : b.length ≤ 2000
  byte : ∀ y ∈ b, 0 ≤ y ∧ y ≤ 255
theorem wf_u8 {n : Int} (h : (Lit.int .u8 n).wf = true) : 0 ≤ n ∧ n ≤ 255 := by
  have e0 : IntKind.u8.min = 0 := by decide
  have e1 : IntKind.u8.max = 255 := by decide
  simp only [Lit.wf, Bool.and_eq_true, decide_eq_true_eq] at h
  rw [e0, e1] at h
  exact h
theorem open_of (x : List Int) (h : ∀ y ∈ x, (Lit.int .u8 y).wf = true) : ∃ b, spec_l20Open.f x = some (b, 0) ∧ Rd b := by
  unfold spec_l20Open.f
  by_cases c : (x.length : Int) > 2000
  · rw [if_pos c, if_pos (by omega)]
    exact ⟨_, rfl, by simp; omega, fun y hy => wf_u8 (h y (List.mem_of_mem_take hy))⟩
  · rw [if_neg c]
    exact ⟨_, rfl, by omega, fun y hy => wf_u8 (h y hy)⟩
theorem rd_byte {b : List Int} (r : Rd b) (i : Int) (h : 0 ≤ i) (h2 : i < b.length) : 0 ≤ rd b i ∧ rd b i ≤ 255 := by
  obtain ⟨n, rfl⟩ := Int.eq_ofNat_of_zero_le h
  rw [rd_nat b n (by omega)]
  exact r.byte _ (List.getElem_mem _)
theorem xor_nonneg (a b : Int) (ha : 0 ≤ a) (ha2 : a < 9223372036854775808) (hb : 0 ≤ b) (hb2 : b < 9223372036854775808) : 0 ≤ Go.bits .xor .i64 a b := by
  obtain ⟨m, rfl⟩ := Int.eq_ofNat_of_zero_le ha
  obtain ⟨n, rfl⟩ := Int.eq_ofNat_of_zero_le hb
  have e : ((BitVec.ofInt 64 (m : Int)) ^^^ (BitVec.ofInt 64 (n : Int))).toNat < 2 ^ 63 := by
    rw [BitVec.toNat_xor]
    apply Nat.xor_lt_two_pow <;> (simp [BitVec.toNat_ofInt]; omega)
  have e2 : Go.bits .xor .i64 (m : Int) (n : Int) = IntKind.i64.wrap (((BitVec.ofInt 64 (m : Int)) ^^^ (BitVec.ofInt 64 (n : Int))).toNat : Int) := rfl
  rw [e2]
  generalize ((BitVec.ofInt 64 (m : Int)) ^^^ (BitVec.ofInt 64 (n : Int))).toNat = q at e
  rw [Go.IntWalk.i64_in _ (by omega)]
  omega
theorem pick (b : List Int) (p n : Int) (r : Rd b) (hp : 0 ≤ p) (hp2 : p < 1099511627776) (hn : -9223372036854775808 ≤ n ∧ n ≤ 9223372036854775807) :
    ∃ x, spec_l20Rd_pick.v b p n = some (x, p + 1) ∧ 0 ≤ x ∧ (1 ≤ n → x < n) := by
  have hl := r.len
  rw [spec_l20Rd_pick.v_eq, w64 (n := p + 1) (by omega)]
  by_cases c : n < 1
  · rw [if_pos c, spec_l20Rd_pick.vj0_eq, if_pos rfl]
    exact ⟨0, rfl, by omega, by omega⟩
  · rw [if_neg c, spec_l20Rd_pick.vj0_eq]
    by_cases c2 : (b.length : Int) = 0
    · rw [if_pos (by simpa using c2)]
      exact ⟨0, rfl, by omega, by omega⟩
    · rw [if_neg (by simpa using c2), w64 (n := p + 1 - 1) (by omega), show p + 1 - 1 = p by omega]
      have hlen : 0 < (b.length : Int) := by omega
      by_cases c3 : p < (b.length : Int)
      · obtain ⟨q1, q2⟩ := rd_byte r p hp c3
        rw [if_pos c3, if_pos hp, if_neg (by omega), w64 (n := rd b p) (by omega)]
        refine ⟨_, rfl, ?_, ?_⟩
        · exact Int.tmod_nonneg _ q1
        · intro _
          exact Int.tmod_lt_of_pos _ (by omega)
      · rw [if_neg c3, if_neg c2]
        have a1 : 0 ≤ Int.tmod p (b.length : Int) := Int.tmod_nonneg _ hp
        have a2 : Int.tmod p (b.length : Int) < (b.length : Int) := Int.tmod_lt_of_pos _ hlen
        rw [if_pos a1, if_pos a2, w64 (n := p * 7) (by omega), w64 (n := p * 7 + 3) (by omega)]
        have a3 : 0 ≤ Int.tmod (p * 7 + 3) (b.length : Int) := Int.tmod_nonneg _ (by omega)
        have a4 : Int.tmod (p * 7 + 3) (b.length : Int) < (b.length : Int) := Int.tmod_lt_of_pos _ hlen
        rw [if_pos a3, if_pos a4, if_neg (by omega)]
        obtain ⟨q1, q2⟩ := rd_byte r _ a1 a2
        obtain ⟨q3, q4⟩ := rd_byte r _ a3 a4
        have a5 : 0 ≤ Int.tdiv p (b.length : Int) := Int.tdiv_nonneg hp (by omega)
        have a6 : Int.tdiv p (b.length : Int) ≤ p := Int.tdiv_le_self _ hp
        generalize rd b (Int.tmod p (b.length : Int)) = u at *
        generalize rd b (Int.tmod (p * 7 + 3) (b.length : Int)) = v at *
        generalize Int.tdiv p (b.length : Int) = d at *
        rw [w64 (n := u) (by omega), w64 (n := v) (by omega), w64 (n := u * 131) (by omega), w64 (n := v * 1117) (by omega), w64 (n := u * 131 + v * 1117) (by omega), w64 (n := p * 29) (by omega), w64 (n := u * 131 + v * 1117 + p * 29) (by omega), w64 (n := d) (by omega), w64 (n := d * 53) (by omega), w64 (n := u * 131 + v * 1117 + p * 29 + d * 53) (by omega)]
        have b1 : 0 ≤ u * 131 + v * 1117 + p * 29 + d * 53 := by omega
        have b2 : u * 131 + v * 1117 + p * 29 + d * 53 < 9223372036854775808 := by omega
        generalize u * 131 + v * 1117 + p * 29 + d * 53 = s at *
        have b3 : 0 ≤ Int.tdiv s 64 := Int.tdiv_nonneg b1 (by omega)
        have b4 : Int.tdiv s 64 ≤ s := Int.tdiv_le_self _ b1
        rw [w64 (n := Int.tdiv s 64) (by omega)]
        have b5 := xor_nonneg s (Int.tdiv s 64) b1 b2 b3 (by omega)
        exact ⟨_, rfl, Int.tmod_nonneg _ b5, fun _ => Int.tmod_lt_of_pos _ (by omega)⟩
theorem odd (b : List Int) (p n : Int) (r : Rd b) (hp : 0 ≤ p) (hp2 : p < 1099511627776) (hn : -9223372036854775808 ≤ n ∧ n ≤ 9223372036854775807) :
    ∃ t q, spec_l20Rd_odd.v b p n = some (t, q) ∧ p ≤ q ∧ q ≤ p + 1 := by
  rw [spec_l20Rd_odd.v_eq]
  by_cases c : n > 0
  · obtain ⟨x, hx, _⟩ := pick b p n r hp hp2 hn
    rw [if_pos c, hx]
    exact ⟨_, _, rfl, by omega, by omega⟩
  · rw [if_neg c]
    exact ⟨_, _, rfl, by omega, by omega⟩
end Go.Proofs.YtoajkfhjgnonjaaDoor.Pure
