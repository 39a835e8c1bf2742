-- Printed by wip/gen.py of this session's repo, over the kit's print.py. Not trusted: Lean checks it.
import Derived.Test.YtgoiihfojhpcmaaGx0
import Derived.Test.YtgoiihfojhpcmaaSq
import Derived.Test.YtgoiihfojhpcmaaGx3
namespace Go.Proofs.Ytgoiihfojhpcmaa.G
open Go.RowKit Go.Proofs.YtgoiihfojhpcmaaW.PrintWords Go.Proofs.YtgoiihfojhpcmaaW.PrintLast Go.Proofs.YtgoiihfojhpcmaaW.PrintMore Go.Proofs.Ytgoiihfojhpcmaa.Sq
attribute [local go_sem] max2_int min2_int max_two min_two max_three min_three max_four min_four   -- for this text's walks alone
set_option linter.unusedVariables false
set_option linter.unusedSimpArgs false

/-! ### impl_BayMay: function 109 -/
def impl_BayMay.may (a b c d : Bool) (n : Nat) : Bool :=
 match n with
 | 0 => a
 | 1 => !a
 | 2 => b && !a
 | 3 => !b && !a
 | 4 => c && !a
 | 5 => !c && !a && !d
 | 6 => d
 | 7 => !d && !c
 | _ => false
def impl_BayMay.f (a0_0 : Bool) (a0_1 : Bool) (a0_2 : Bool) (a0_3 : Bool) (a1 : Int) : Option (Bool) := if 0 ≤ a1 ∧ a1 ≤ 7 then some (impl_BayMay.may a0_0 a0_1 a0_2 a0_3 a1.toNat) else some false
theorem impl_BayMay.cell {W w1 : World} (hb : Below W.heap.size W w1) : (∀ b o, b < W.heap.size → w1.cell? ⟨b, o, none⟩ = W.cell? ⟨b, o, none⟩) ∧ (∀ b o, b < W.heap.size → w1.frozen? ⟨b, o, none⟩ = W.frozen? ⟨b, o, none⟩) :=
 ⟨fun b o h => hb.cell (p := ⟨b, o, none⟩) h, fun b o h => hb.frozen (p := ⟨b, o, none⟩) h⟩
set_option maxHeartbeats 2000000 in
set_option maxRecDepth 100000 in
theorem impl_BayMay.at0 (a0_0 : Bool) (a0_1 : Bool) (a0_2 : Bool) (a0_3 : Bool) (w : World) :
  Calls Try.prog 109 #[.agg #[.bool a0_0, .bool a0_1, .bool a0_2, .bool a0_3], .int .i64 0] w fun e w' => e = .returned (.bool (impl_BayMay.may a0_0 a0_1 a0_2 a0_3 0)) ∧ Below w.heap.size w w' := by
 have b1 : ∀ n, impl_Bay_number.bn true n = n := fun _ => rfl
 have b0 : ∀ n, impl_Bay_number.bn false n = 0 := fun _ => rfl
 have q0 : Go.bits .and .i64 0 1 = 0 := by decide
 have q1 : Go.bits .and .i64 1 1 = 1 := by decide
 have q2 : Go.bits .and .i64 2 1 = 0 := by decide
 have q3 : Go.bits .and .i64 3 1 = 1 := by decide
 have q4 : Go.bits .and .i64 4 1 = 0 := by decide
 have q5 : Go.bits .and .i64 5 1 = 1 := by decide
 have q6 : Go.bits .and .i64 6 1 = 0 := by decide
 have q7 : Go.bits .and .i64 7 1 = 1 := by decide
 have q8 : Go.bits .and .i64 8 1 = 0 := by decide
 have q9 : Go.bits .and .i64 9 1 = 1 := by decide
 have q10 : Go.bits .and .i64 10 1 = 0 := by decide
 have q11 : Go.bits .and .i64 11 1 = 1 := by decide
 have q12 : Go.bits .and .i64 12 1 = 0 := by decide
 have q13 : Go.bits .and .i64 13 1 = 1 := by decide
 have q14 : Go.bits .and .i64 14 1 = 0 := by decide
 have q15 : Go.bits .and .i64 15 1 = 1 := by decide
 cases a0_0 <;> cases a0_1 <;> cases a0_2 <;> cases a0_3
 all_goals
  go_enter Try.func109, Try.ntmps109
  go_wp2_with (go_at_call 88; refine (impl_Bay_number.calls _ _ _ _ _ _ rfl).mono ?_; rintro e w1 ⟨rfl, hb1⟩; obtain ⟨hc1, hf1⟩ := impl_BayMay.cell hb1)
  go_ret
  refine ⟨rfl, ?_⟩
  refine Below.trans ((Below.refl _ _).alloc (Nat.le_refl _) _) (hb1.mono (by simp))
set_option maxHeartbeats 2000000 in
set_option maxRecDepth 100000 in
theorem impl_BayMay.at1 (a0_0 : Bool) (a0_1 : Bool) (a0_2 : Bool) (a0_3 : Bool) (w : World) :
  Calls Try.prog 109 #[.agg #[.bool a0_0, .bool a0_1, .bool a0_2, .bool a0_3], .int .i64 1] w fun e w' => e = .returned (.bool (impl_BayMay.may a0_0 a0_1 a0_2 a0_3 1)) ∧ Below w.heap.size w w' := by
 have b1 : ∀ n, impl_Bay_number.bn true n = n := fun _ => rfl
 have b0 : ∀ n, impl_Bay_number.bn false n = 0 := fun _ => rfl
 have q0 : Go.bits .and .i64 0 1 = 0 := by decide
 have q1 : Go.bits .and .i64 1 1 = 1 := by decide
 have q2 : Go.bits .and .i64 2 1 = 0 := by decide
 have q3 : Go.bits .and .i64 3 1 = 1 := by decide
 have q4 : Go.bits .and .i64 4 1 = 0 := by decide
 have q5 : Go.bits .and .i64 5 1 = 1 := by decide
 have q6 : Go.bits .and .i64 6 1 = 0 := by decide
 have q7 : Go.bits .and .i64 7 1 = 1 := by decide
 have q8 : Go.bits .and .i64 8 1 = 0 := by decide
 have q9 : Go.bits .and .i64 9 1 = 1 := by decide
 have q10 : Go.bits .and .i64 10 1 = 0 := by decide
 have q11 : Go.bits .and .i64 11 1 = 1 := by decide
 have q12 : Go.bits .and .i64 12 1 = 0 := by decide
 have q13 : Go.bits .and .i64 13 1 = 1 := by decide
 have q14 : Go.bits .and .i64 14 1 = 0 := by decide
 have q15 : Go.bits .and .i64 15 1 = 1 := by decide
 cases a0_0 <;> cases a0_1 <;> cases a0_2 <;> cases a0_3
 all_goals
  go_enter Try.func109, Try.ntmps109
  go_wp2_with (go_at_call 88; refine (impl_Bay_number.calls _ _ _ _ _ _ rfl).mono ?_; rintro e w1 ⟨rfl, hb1⟩; obtain ⟨hc1, hf1⟩ := impl_BayMay.cell hb1)
  go_ret
  refine ⟨rfl, ?_⟩
  refine Below.trans ((Below.refl _ _).alloc (Nat.le_refl _) _) (hb1.mono (by simp))
set_option maxHeartbeats 2000000 in
set_option maxRecDepth 100000 in
theorem impl_BayMay.at2 (a0_0 : Bool) (a0_1 : Bool) (a0_2 : Bool) (a0_3 : Bool) (w : World) :
  Calls Try.prog 109 #[.agg #[.bool a0_0, .bool a0_1, .bool a0_2, .bool a0_3], .int .i64 2] w fun e w' => e = .returned (.bool (impl_BayMay.may a0_0 a0_1 a0_2 a0_3 2)) ∧ Below w.heap.size w w' := by
 have b1 : ∀ n, impl_Bay_number.bn true n = n := fun _ => rfl
 have b0 : ∀ n, impl_Bay_number.bn false n = 0 := fun _ => rfl
 have q0 : Go.bits .and .i64 0 1 = 0 := by decide
 have q1 : Go.bits .and .i64 1 1 = 1 := by decide
 have q2 : Go.bits .and .i64 2 1 = 0 := by decide
 have q3 : Go.bits .and .i64 3 1 = 1 := by decide
 have q4 : Go.bits .and .i64 4 1 = 0 := by decide
 have q5 : Go.bits .and .i64 5 1 = 1 := by decide
 have q6 : Go.bits .and .i64 6 1 = 0 := by decide
 have q7 : Go.bits .and .i64 7 1 = 1 := by decide
 cases a0_0 <;> cases a0_1 <;> cases a0_2 <;> cases a0_3
 all_goals
  go_enter Try.func109, Try.ntmps109
  go_wp2_with (go_at_call 88; refine (impl_Bay_number.calls _ _ _ _ _ _ rfl).mono ?_; rintro e w1 ⟨rfl, hb1⟩; obtain ⟨hc1, hf1⟩ := impl_BayMay.cell hb1)
  go_ret
  refine ⟨rfl, ?_⟩
  refine Below.trans ((Below.refl _ _).alloc (Nat.le_refl _) _) (hb1.mono (by simp))
set_option maxHeartbeats 2000000 in
set_option maxRecDepth 100000 in
theorem impl_BayMay.at3 (a0_0 : Bool) (a0_1 : Bool) (a0_2 : Bool) (a0_3 : Bool) (w : World) :
  Calls Try.prog 109 #[.agg #[.bool a0_0, .bool a0_1, .bool a0_2, .bool a0_3], .int .i64 3] w fun e w' => e = .returned (.bool (impl_BayMay.may a0_0 a0_1 a0_2 a0_3 3)) ∧ Below w.heap.size w w' := by
 have b1 : ∀ n, impl_Bay_number.bn true n = n := fun _ => rfl
 have b0 : ∀ n, impl_Bay_number.bn false n = 0 := fun _ => rfl
 have q0 : Go.bits .and .i64 0 1 = 0 := by decide
 have q1 : Go.bits .and .i64 1 1 = 1 := by decide
 have q2 : Go.bits .and .i64 2 1 = 0 := by decide
 have q3 : Go.bits .and .i64 3 1 = 1 := by decide
 have q4 : Go.bits .and .i64 4 1 = 0 := by decide
 have q5 : Go.bits .and .i64 5 1 = 1 := by decide
 have q6 : Go.bits .and .i64 6 1 = 0 := by decide
 have q7 : Go.bits .and .i64 7 1 = 1 := by decide
 cases a0_0 <;> cases a0_1 <;> cases a0_2 <;> cases a0_3
 all_goals
  go_enter Try.func109, Try.ntmps109
  go_wp2_with (go_at_call 88; refine (impl_Bay_number.calls _ _ _ _ _ _ rfl).mono ?_; rintro e w1 ⟨rfl, hb1⟩; obtain ⟨hc1, hf1⟩ := impl_BayMay.cell hb1)
  go_ret
  refine ⟨rfl, ?_⟩
  refine Below.trans ((Below.refl _ _).alloc (Nat.le_refl _) _) (hb1.mono (by simp))
set_option maxHeartbeats 2000000 in
set_option maxRecDepth 100000 in
theorem impl_BayMay.at4 (a0_0 : Bool) (a0_1 : Bool) (a0_2 : Bool) (a0_3 : Bool) (w : World) :
  Calls Try.prog 109 #[.agg #[.bool a0_0, .bool a0_1, .bool a0_2, .bool a0_3], .int .i64 4] w fun e w' => e = .returned (.bool (impl_BayMay.may a0_0 a0_1 a0_2 a0_3 4)) ∧ Below w.heap.size w w' := by
 have b1 : ∀ n, impl_Bay_number.bn true n = n := fun _ => rfl
 have b0 : ∀ n, impl_Bay_number.bn false n = 0 := fun _ => rfl
 have q0 : Go.bits .and .i64 0 1 = 0 := by decide
 have q1 : Go.bits .and .i64 1 1 = 1 := by decide
 have q2 : Go.bits .and .i64 2 1 = 0 := by decide
 have q3 : Go.bits .and .i64 3 1 = 1 := by decide
 cases a0_0 <;> cases a0_1 <;> cases a0_2 <;> cases a0_3
 all_goals
  go_enter Try.func109, Try.ntmps109
  go_wp2_with (go_at_call 88; refine (impl_Bay_number.calls _ _ _ _ _ _ rfl).mono ?_; rintro e w1 ⟨rfl, hb1⟩; obtain ⟨hc1, hf1⟩ := impl_BayMay.cell hb1)
  go_ret
  refine ⟨rfl, ?_⟩
  refine Below.trans ((Below.refl _ _).alloc (Nat.le_refl _) _) (hb1.mono (by simp))
set_option maxHeartbeats 2000000 in
set_option maxRecDepth 100000 in
theorem impl_BayMay.at5 (a0_0 : Bool) (a0_1 : Bool) (a0_2 : Bool) (a0_3 : Bool) (w : World) :
  Calls Try.prog 109 #[.agg #[.bool a0_0, .bool a0_1, .bool a0_2, .bool a0_3], .int .i64 5] w fun e w' => e = .returned (.bool (impl_BayMay.may a0_0 a0_1 a0_2 a0_3 5)) ∧ Below w.heap.size w w' := by
 have b1 : ∀ n, impl_Bay_number.bn true n = n := fun _ => rfl
 have b0 : ∀ n, impl_Bay_number.bn false n = 0 := fun _ => rfl
 have q0 : Go.bits .and .i64 0 1 = 0 := by decide
 have q1 : Go.bits .and .i64 1 1 = 1 := by decide
 have q2 : Go.bits .and .i64 2 1 = 0 := by decide
 have q3 : Go.bits .and .i64 3 1 = 1 := by decide
 cases a0_0 <;> cases a0_1 <;> cases a0_2 <;> cases a0_3
 all_goals
  go_enter Try.func109, Try.ntmps109
  go_wp2_with (go_at_call 88; refine (impl_Bay_number.calls _ _ _ _ _ _ rfl).mono ?_; rintro e w1 ⟨rfl, hb1⟩; obtain ⟨hc1, hf1⟩ := impl_BayMay.cell hb1)
  go_ret
  refine ⟨rfl, ?_⟩
  refine Below.trans ((Below.refl _ _).alloc (Nat.le_refl _) _) (hb1.mono (by simp))
set_option maxHeartbeats 2000000 in
set_option maxRecDepth 100000 in
theorem impl_BayMay.at6 (a0_0 : Bool) (a0_1 : Bool) (a0_2 : Bool) (a0_3 : Bool) (w : World) :
  Calls Try.prog 109 #[.agg #[.bool a0_0, .bool a0_1, .bool a0_2, .bool a0_3], .int .i64 6] w fun e w' => e = .returned (.bool (impl_BayMay.may a0_0 a0_1 a0_2 a0_3 6)) ∧ Below w.heap.size w w' := by
 have b1 : ∀ n, impl_Bay_number.bn true n = n := fun _ => rfl
 have b0 : ∀ n, impl_Bay_number.bn false n = 0 := fun _ => rfl
 have q0 : Go.bits .and .i64 0 1 = 0 := by decide
 have q1 : Go.bits .and .i64 1 1 = 1 := by decide
 cases a0_0 <;> cases a0_1 <;> cases a0_2 <;> cases a0_3
 all_goals
  go_enter Try.func109, Try.ntmps109
  go_wp2_with (go_at_call 88; refine (impl_Bay_number.calls _ _ _ _ _ _ rfl).mono ?_; rintro e w1 ⟨rfl, hb1⟩; obtain ⟨hc1, hf1⟩ := impl_BayMay.cell hb1)
  go_ret
  refine ⟨rfl, ?_⟩
  refine Below.trans ((Below.refl _ _).alloc (Nat.le_refl _) _) (hb1.mono (by simp))
set_option maxHeartbeats 2000000 in
set_option maxRecDepth 100000 in
theorem impl_BayMay.at7 (a0_0 : Bool) (a0_1 : Bool) (a0_2 : Bool) (a0_3 : Bool) (w : World) :
  Calls Try.prog 109 #[.agg #[.bool a0_0, .bool a0_1, .bool a0_2, .bool a0_3], .int .i64 7] w fun e w' => e = .returned (.bool (impl_BayMay.may a0_0 a0_1 a0_2 a0_3 7)) ∧ Below w.heap.size w w' := by
 have b1 : ∀ n, impl_Bay_number.bn true n = n := fun _ => rfl
 have b0 : ∀ n, impl_Bay_number.bn false n = 0 := fun _ => rfl
 have q0 : Go.bits .and .i64 0 1 = 0 := by decide
 have q1 : Go.bits .and .i64 1 1 = 1 := by decide
 cases a0_0 <;> cases a0_1 <;> cases a0_2 <;> cases a0_3
 all_goals
  go_enter Try.func109, Try.ntmps109
  go_wp2_with (go_at_call 88; refine (impl_Bay_number.calls _ _ _ _ _ _ rfl).mono ?_; rintro e w1 ⟨rfl, hb1⟩; obtain ⟨hc1, hf1⟩ := impl_BayMay.cell hb1)
  go_ret
  refine ⟨rfl, ?_⟩
  refine Below.trans ((Below.refl _ _).alloc (Nat.le_refl _) _) (hb1.mono (by simp))
set_option maxHeartbeats 2000000 in
set_option maxRecDepth 100000 in
theorem impl_BayMay.out (a0_0 : Bool) (a0_1 : Bool) (a0_2 : Bool) (a0_3 : Bool) (a1 : Int) (w : World) (h : ¬ (0 ≤ a1 ∧ a1 ≤ 7)) :
  Calls Try.prog 109 #[.agg #[.bool a0_0, .bool a0_1, .bool a0_2, .bool a0_3], .int .i64 a1] w fun e w' => e = .returned (.bool false) ∧ Below w.heap.size w w' := by
 by_cases h0 : 0 ≤ a1
 ·have h1 : ¬ (a1 ≤ 7) := fun q => h ⟨h0, q⟩
  clear h
  go_enter Try.func109, Try.ntmps109
  go_wp2
  go_ret
  refine ⟨rfl, ?_⟩
  repeat (first | exact Below.refl _ _ | refine Below.setCell ?_ (by simp) _ | refine Below.alloc ?_ (by simp) _)
 ·clear h
  go_enter Try.func109, Try.ntmps109
  go_wp2
  go_ret
  refine ⟨rfl, ?_⟩
  repeat (first | exact Below.refl _ _ | refine Below.setCell ?_ (by simp) _ | refine Below.alloc ?_ (by simp) _)
theorem impl_BayMay.calls (a0_0 : Bool) (a0_1 : Bool) (a0_2 : Bool) (a0_3 : Bool) (a1 : Int) (r : Bool) (w : World) (h : impl_BayMay.f a0_0 a0_1 a0_2 a0_3 a1 = some r) :
  Calls Try.prog 109 #[.agg #[.bool a0_0, .bool a0_1, .bool a0_2, .bool a0_3], .int .i64 a1] w fun e w' => e = .returned (.bool r) ∧ Below w.heap.size w w' := by
 unfold impl_BayMay.f at h
 by_cases hb : 0 ≤ a1 ∧ a1 ≤ 7
 ·rw [if_pos hb] at h
  obtain rfl := Option.some.inj h
  have h8 : a1 = 0 ∨ a1 = 1 ∨ a1 = 2 ∨ a1 = 3 ∨ a1 = 4 ∨ a1 = 5 ∨ a1 = 6 ∨ a1 = 7 := by omega
  rcases h8 with rfl | rfl | rfl | rfl | rfl | rfl | rfl | rfl
  ·exact impl_BayMay.at0 a0_0 a0_1 a0_2 a0_3 w
  ·exact impl_BayMay.at1 a0_0 a0_1 a0_2 a0_3 w
  ·exact impl_BayMay.at2 a0_0 a0_1 a0_2 a0_3 w
  ·exact impl_BayMay.at3 a0_0 a0_1 a0_2 a0_3 w
  ·exact impl_BayMay.at4 a0_0 a0_1 a0_2 a0_3 w
  ·exact impl_BayMay.at5 a0_0 a0_1 a0_2 a0_3 w
  ·exact impl_BayMay.at6 a0_0 a0_1 a0_2 a0_3 w
  ·exact impl_BayMay.at7 a0_0 a0_1 a0_2 a0_3 w
 ·rw [if_neg hb] at h
  obtain rfl := Option.some.inj h
  exact impl_BayMay.out a0_0 a0_1 a0_2 a0_3 a1 w hb

/-! ### impl_bayOf: function 110 -/
def impl_bayOf.f (a0 : Int) : Option (Bool × Bool × Bool × Bool) := if 0 ≤ a0 ∧ a0 ≤ 15 then some (Go.bits .and .i64 a0 1 == 1, Go.bits .and .i64 (a0 / 2) 1 == 1, Go.bits .and .i64 (a0 / 4) 1 == 1, Go.bits .and .i64 (a0 / 8) 1 == 1) else none
set_option maxHeartbeats 2000000 in
set_option maxRecDepth 100000 in
theorem impl_bayOf.calls (a0 : Int) (r1 : Bool) (r2 : Bool) (r3 : Bool) (r4 : Bool) (w : World) (h : impl_bayOf.f a0 = some (r1, r2, r3, r4)) :
  Calls Try.prog 110 #[.int .i64 a0] w fun e w' => e = .returned (.agg #[.bool r1, .bool r2, .bool r3, .bool r4]) ∧ Below w.heap.size w w' := by
 unfold impl_bayOf.f at h
 split at h
 ·rename_i hb
  obtain ⟨hb0, hb1⟩ := hb
  simp only [Option.some.injEq, Prod.mk.injEq] at h
  obtain ⟨rfl, rfl, rfl, rfl⟩ := h
  go_enter Try.func110, Try.ntmps110
  go_wp2
  refine bodyPost_ret (v := .agg #[.bool (Go.bits .and .i64 a0 1 == 1), .bool (Go.bits .and .i64 (a0 / 2) 1 == 1), .bool (Go.bits .and .i64 (a0 / 4) 1 == 1), .bool (Go.bits .and .i64 (a0 / 8) 1 == 1)]) (by simp [results, Try.results110, go_sem]) rfl ⟨rfl, ?_⟩
  repeat (first | exact Below.refl _ _ | refine Below.setCell ?_ (by simp) _ | refine Below.alloc ?_ (by simp) _)
 ·cases h

/-! ### impl_BayDo: function 74 -/
def impl_BayDo.f (a0_0 : Bool) (a0_1 : Bool) (a0_2 : Bool) (a0_3 : Bool) (a1 : Int) : Option (Bool × Bool × Bool × Bool × Bool) := (impl_BayMay.f a0_0 a0_1 a0_2 a0_3 a1).bind fun t132 => (if t132 = true then ((impl_Bay_number.f a0_0 a0_1 a0_2 a0_3).bind fun t133 => (if 0 ≤ (wrap64 (Int.tdiv a1 2)) then ((impl_bayOf.f (Go.bits .xor .i64 t133 (shl .i64 1 (wrap64 (Int.tdiv a1 2))))).bind fun bt134 => (some (bt134.1, bt134.2.1, bt134.2.2.1, bt134.2.2.2, true))) else (none))) else (some (a0_0, a0_1, a0_2, a0_3, false)))
def impl_BayDo.T3 : Bool × List (List Nat × List Nat) := (true, [([], []), ([0], [0]), ([], []), ([2], [2]), ([3], [3]), ([1, 4], [1, 4]), ([5, 1], [5]), ([6, 6, 0, 1, 2, 3, 4, 5, 6], [6]), ([7, 0, 1, 2, 3, 4, 5, 6, 7], [])])
def impl_BayDo.B3 : List Nat := [0, 1, 0, 4, 12, 31, 63, 127, 255]
theorem impl_BayDo.tab3 : rtab .any (opsOf Try.f74 3) = impl_BayDo.T3 := by kernel_rfl
theorem impl_BayDo.bits3 : waitsOk impl_BayDo.T3.2 impl_BayDo.B3 = true := by kernel_rfl
set_option maxHeartbeats 8000000 in
set_option maxRecDepth 100000 in
theorem impl_BayDo.calls (a0_0 : Bool) (a0_1 : Bool) (a0_2 : Bool) (a0_3 : Bool) (a1 : Int) (r1 : Bool) (r2 : Bool) (r3 : Bool) (r4 : Bool) (r5 : Bool) (w : World) (h : impl_BayDo.f a0_0 a0_1 a0_2 a0_3 a1 = some (r1, r2, r3, r4, r5)) :
  Calls Try.prog 74 #[.agg #[.bool a0_0, .bool a0_1, .bool a0_2, .bool a0_3], .int .i64 a1] w fun e w' => e = .returned (.tuple #[.agg #[.bool r1, .bool r2, .bool r3, .bool r4], .bool r5]) ∧ Below w.heap.size w w' := by
 have hu60 := Try.underlying60
 have HB := Aside0.mk (Below.refl w.heap.size w)
 have H : ((impl_BayMay.f a0_0 a0_1 a0_2 a0_3 a1).bind fun t132 => (if t132 = true then ((impl_Bay_number.f a0_0 a0_1 a0_2 a0_3).bind fun t133 => (if 0 ≤ (wrap64 (Int.tdiv a1 2)) then ((impl_bayOf.f (Go.bits .xor .i64 t133 (shl .i64 1 (wrap64 (Int.tdiv a1 2))))).bind fun bt134 => (some (bt134.1, bt134.2.1, bt134.2.2.1, bt134.2.2.2, true))) else (none))) else (some (a0_0, a0_1, a0_2, a0_3, false)))) = some (r1, r2, r3, r4, r5) := h
 clear h
 replace H := Option.bind_eq_some_iff.mp H
 obtain ⟨t132, A30, H⟩ := H
 replace H : (if t132 = true then ((impl_Bay_number.f a0_0 a0_1 a0_2 a0_3).bind fun t133 => (if 0 ≤ (wrap64 (Int.tdiv a1 2)) then ((impl_bayOf.f (Go.bits .xor .i64 t133 (shl .i64 1 (wrap64 (Int.tdiv a1 2))))).bind fun bt134 => (some (bt134.1, bt134.2.1, bt134.2.2.1, bt134.2.2.2, true))) else (none))) else (some (a0_0, a0_1, a0_2, a0_3, false))) = some (r1, r2, r3, r4, r5) := H
 have A3 := Aside0.mk A30
 clear A30
 by_cases c4 : t132 = true
 ·subst c4
  have H1 : ((impl_Bay_number.f a0_0 a0_1 a0_2 a0_3).bind fun t133 => (if 0 ≤ (wrap64 (Int.tdiv a1 2)) then ((impl_bayOf.f (Go.bits .xor .i64 t133 (shl .i64 1 (wrap64 (Int.tdiv a1 2))))).bind fun bt134 => (some (bt134.1, bt134.2.1, bt134.2.2.1, bt134.2.2.2, true))) else (none))) = some (r1, r2, r3, r4, r5) := by rw [if_pos rfl] at H; exact H
  clear H
  have H := H1
  clear H1
  replace H := Option.bind_eq_some_iff.mp H
  obtain ⟨t133, A50, H⟩ := H
  replace H : (if 0 ≤ (wrap64 (Int.tdiv a1 2)) then ((impl_bayOf.f (Go.bits .xor .i64 t133 (shl .i64 1 (wrap64 (Int.tdiv a1 2))))).bind fun bt134 => (some (bt134.1, bt134.2.1, bt134.2.2.1, bt134.2.2.2, true))) else (none)) = some (r1, r2, r3, r4, r5) := H
  have A5 := Aside0.mk A50
  clear A50
  obtain ⟨ji6, hji6⟩ : ∃ j_ : Int, (wrap64 (Int.tdiv a1 2)) = j_ := ⟨_, rfl⟩
  replace H : (if 0 ≤ (ji6) then ((impl_bayOf.f (Go.bits .xor .i64 t133 (shl .i64 1 (ji6)))).bind fun bt134 => (some (bt134.1, bt134.2.1, bt134.2.2.1, bt134.2.2.2, true))) else (none)) = some (r1, r2, r3, r4, r5) := by first | (rw [hji6] at H; exact H) | (simp only [hji6] at H ⊢; exact H)
  (try rw [hji6] at A3)
  (try rw [hji6] at A5)
  have hji6w : (IntKind.i64.wrap (Int.tdiv a1 2)) = ji6 := (i64_w _).trans hji6
  by_cases c7 : 0 ≤ (ji6)
  ·rw [if_pos c7] at H
   have c7b0 := eq_true c7
   have c7b1 : decide (0 ≤ (ji6)) = true := decide_eq_true c7
   clear c7
   obtain ⟨ji8, hji8⟩ : ∃ j_ : Int, (shl .i64 1 (ji6)) = j_ := ⟨_, rfl⟩
   replace H : ((impl_bayOf.f (Go.bits .xor .i64 t133 (ji8))).bind fun bt134 => (some (bt134.1, bt134.2.1, bt134.2.2.1, bt134.2.2.2, true))) = some (r1, r2, r3, r4, r5) := by first | (rw [hji8] at H; exact H) | (simp only [hji8] at H ⊢; exact H)
   (try rw [hji8] at A3)
   (try rw [hji8] at A5)
   have hji8_ : (IntKind.i64.wrap (1 * 2 ^ min (ji6).toNat 64)) = ji8 := hji8
   have hji8z : (ji6) ≤ 64 → (IntKind.i64.wrap (1 * 2 ^ (ji6).toNat)) = ji8 := shl_small hji8
   have hji8u : (IntKind.i64.wrap (2 ^ min (ji6).toNat 64)) = ji8 := by have h_ := hji8_; rw [Int.one_mul] at h_; exact h_
   have hji8v : (ji6) ≤ 64 → (IntKind.i64.wrap (2 ^ (ji6).toNat)) = ji8 := fun hle_ => by have h_ := hji8z hle_; rw [Int.one_mul] at h_; exact h_
   have hji8y : (wrap64 (1 * 2 ^ min (ji6).toNat 64)) = ji8 := (i64_w _).symm.trans hji8_
   have hji8x : (ji6) ≤ 64 → (wrap64 (1 * 2 ^ (ji6).toNat)) = ji8 := fun h_ => (i64_w _).symm.trans (hji8z h_)
   replace H := Option.bind_eq_some_iff.mp H
   obtain ⟨⟨t134, t135, t136, t137⟩, A90, H⟩ := H
   replace H : (some (t134, t135, t136, t137, true)) = some (r1, r2, r3, r4, r5) := H
   have A9 := Aside0.mk A90
   clear A90
   simp only [Option.some.injEq, Prod.mk.injEq] at H
   obtain ⟨rfl, rfl, rfl, rfl, rfl⟩ := H
   go_enter Try.func74, Try.ntmps74
   try go_wp2_with (first | ((with_reducible refine gate_dst (N := 2) rfl ?_); refine box_event ?hg (N := 2) ?hd (cs := #[.bool a0_0, .bool a0_1, .bool a0_2, .bool a0_3]) (t := 60) ?hr ?_; (case hd => rfl); (case hg => rfl); (case hr => first | (go_simp; done) | (go_simp; rfl)); intro gb130 hg w10 hbox hb; have n0_ := Aside0.mk (below_step bw hb); have n1_ := Aside0.mk (hbox); have n2_ := Aside0.mk ((by rw [hg]; exact (below_size bw) : w.heap.size ≤ gb130)); have n3_ := Aside0.mk ((by rw [hg]; exact (below_size bw) : w.heap.size ≤ gb130)); clear HB; have HB := n0_; have BK130 := n1_; have GW130 := n2_; have GE130 := n3_; clear n0_ n1_ n2_ n3_; clear hb hbox hg) | ((with_reducible refine gate_dst (N := 4) rfl ?_); refine box_event ?hg (N := 4) ?hd (cs := #[.bool false, .bool false, .bool false, .bool false]) (t := 60) ?hr ?_; (case hd => rfl); (case hg => rfl); (case hr => first | (go_simp; done) | (go_simp; rfl)); intro gb131 hg w11 hbox hb; have n0_ := bkB BK130 hb; have n1_ := Aside0.mk (below_step bw hb); have n2_ := Aside0.mk (hbox); have n3_ := Aside0.mk ((by rw [hg]; exact (below_size bw) : w.heap.size ≤ gb131)); have n4_ := Aside0.mk ((by rw [hg]; exact (below_size bw) : w.heap.size ≤ gb131)); have n5_ := Aside0.mk ((by rw [hg]; exact Nat.ne_of_lt (blk_lt (g := gb130) (o := .cells #[.bool a0_0, .bool a0_1, .bool a0_2, .bool a0_3] 60 (0, 0)) (bk BK130)) : gb130 ≠ gb131)); have n6_ := Aside0.mk ((by rw [hg]; exact Nat.ne_of_gt (blk_lt (g := gb130) (o := .cells #[.bool a0_0, .bool a0_1, .bool a0_2, .bool a0_3] 60 (0, 0)) (bk BK130)) : gb131 ≠ gb130)); clear BK130 HB; have BK130 := n0_; have HB := n1_; have BK131 := n2_; have GW131 := n3_; have GE131 := n4_; have NB130_131 := n5_; have NB131_130 := n6_; clear n0_ n1_ n2_ n3_ n4_ n5_ n6_; clear hb hbox hg; have hnb12 := NB130_131.out; have hnc12 := NB131_130.out; have hcz13_0 : w11.cell? ⟨gb130, 0, none⟩ = some (.bool a0_0) := (blk_cell BK130.out 0).trans rfl; have hcz13_1 : w11.cell? ⟨gb130, 1, none⟩ = some (.bool a0_1) := (blk_cell BK130.out 1).trans rfl; have hcz13_2 : w11.cell? ⟨gb130, 2, none⟩ = some (.bool a0_2) := (blk_cell BK130.out 2).trans rfl; have hcz13_3 : w11.cell? ⟨gb130, 3, none⟩ = some (.bool a0_3) := (blk_cell BK130.out 3).trans rfl; have hfz13_0 := blk_frozen BK130.out 0; have hfz13_1 := blk_frozen BK130.out 1; have hfz13_2 := blk_frozen BK130.out 2; have hfz13_3 := blk_frozen BK130.out 3) | ((with_reducible refine gate_callee (f := 109) rfl ?_); refine goesL_ (some 8) rfl rfl Try.func109 (by kernel_rfl) rfl #[.agg #[.bool a0_0, .bool a0_1, .bool a0_2, .bool a0_3], .int .i64 a1] rfl (by (try simp only [List.map_toArray, List.map_cons, List.map_nil]); first | done | rfl | (simp only [List.length_drop, List.length_take]; rfl)) ?_; (with_reducible refine (impl_BayMay.calls a0_0 a0_1 a0_2 a0_3 a1 true _ A3.out).mono ?_); rintro e w14 ⟨rfl, hb⟩; refine ⟨_, rfl, ?_⟩; have n0_ := bkB BK130 hb; have n1_ := bkB BK131 hb; have n2_ := Aside0.mk (below_step bw hb); clear BK130 BK131 HB; have BK130 := n0_; have BK131 := n1_; have HB := n2_; clear n0_ n1_ n2_; (try clear hb); (try clear hb2); (try clear hk); (try clear hi)))
   have n0_ := Aside0.mk (blk_drew BK130.out)
   have n1_ := Aside0.mk (blk_drew BK131.out)
   have n2_ := Aside0.mk (below_drew1 HB.out)
   clear BK130
   clear BK131
   clear HB
   have BK130 := n0_
   have BK131 := n1_
   have HB := n2_
   clear n0_ n1_ n2_
   refine start_ (n := 9) (S := fun w' => w'.cell? ⟨gb130, 0, none⟩ = some (.bool a0_0) ∧ w'.cell? ⟨gb130, 1, none⟩ = some (.bool a0_1) ∧ w'.cell? ⟨gb130, 2, none⟩ = some (.bool a0_2) ∧ w'.cell? ⟨gb130, 3, none⟩ = some (.bool a0_3)) (ds := []) (bz 9 0) (by kernel_rfl) rfl rfl ⟨(blk_cell BK130.out 0).trans rfl, (blk_cell BK130.out 1).trans rfl, (blk_cell BK130.out 2).trans rfl, (blk_cell BK130.out 3).trans rfl⟩ (fun hHeld => ?_); refine with_tabW impl_BayDo.tab3 impl_BayDo.bits3 (fun HT_ HW_ => ?_)
   generalize w14.drew = w15 at BK130 BK131 HB hHeld ⊢
   refine pure_ (i := 2) (N := some 13) (v := ?_) (a' := ?_) (bz 9 4) rfl rfl (any_of HT_.out (by kernel_rfl)) (fun _ _ _ h => h) (Or.inl ⟨by rfl, ?_⟩) ?_ ?_
   rotate_left
   ·intro w'
    go_simp
    with_reducible rfl
   rotate_left
   ·simp only [Act.put, List.setIfInBounds_toArray, List.set_cons_zero, List.set_cons_succ, i64_w, i32_w]
    rfl
   refine pure_ (i := 3) (N := some 14) (v := ?_) (a' := ?_) (bz 9 12) rfl rfl (any_of HT_.out (by kernel_rfl)) (fun _ _ _ h => h) (Or.inl ⟨by rfl, ?_⟩) ?_ ?_
   rotate_left
   ·intro w'
    go_simp
    with_reducible rfl
   rotate_left
   ·simp only [Act.put, List.setIfInBounds_toArray, List.set_cons_zero, List.set_cons_succ, i64_w, i32_w]
    rfl
   refine pure_ (i := 4) (N := some 15) (v := ?_) (a' := ?_) (bz 9 28) rfl rfl (any_of HT_.out (by kernel_rfl)) (fun _ _ _ h => h) (Or.inl ⟨by rfl, ?_⟩) ?_ ?_
   rotate_left
   ·intro w'
    go_simp
    with_reducible rfl
   rotate_left
   ·simp only [Act.put, List.setIfInBounds_toArray, List.set_cons_zero, List.set_cons_succ, i64_w, i32_w]
    rfl
   refine take_ (i := 0) (N := some 11) (v := ?_) (a' := ?_) (bz 9 29) rfl rfl (take_ofW HT_.out HW_.out (by kernel_rfl)) (fun _ _ _ h => h) (Or.inl ⟨by rfl, ?_⟩) hHeld ?_ ?_
   rotate_left
   ·rintro w' ⟨s0, s1, s2, s3⟩
    go_simp
    with_reducible rfl
   rotate_left
   ·simp only [Act.put, List.setIfInBounds_toArray, List.set_cons_zero, List.set_cons_succ, i64_w, i32_w]
    rfl
   refine one_ (i := 1) (N := some 12) (bz 9 31) rfl rfl (one_of HT_.out (by kernel_rfl)) (by decide) (fun K hK => ?_)
   refine goes_ Try.func88 (by kernel_rfl) rfl #[.agg #[.bool a0_0, .bool a0_1, .bool a0_2, .bool a0_3]] (by rfl) rfl rfl (by (try simp only [List.map_toArray, List.map_cons, List.map_nil]); first | done | rfl | (simp only [List.length_drop, List.length_take]; rfl)) ?_
   with_reducible refine (impl_Bay_number.calls a0_0 a0_1 a0_2 a0_3 t133 _ A5.out).mono ?_
   rintro e w16 ⟨rfl, hb⟩
   refine ⟨_, rfl, ?_⟩
   have n0_ := bkB BK130 hb
   have n1_ := bkB BK131 hb
   have n2_ := Aside0.mk (below_step bw hb)
   clear BK130
   clear BK131
   clear HB
   have BK130 := n0_
   have BK131 := n1_
   have HB := n2_
   clear n0_ n1_ n2_
   (try clear hb)
   (try clear hb2)
   (try clear hk)
   (try clear hi)
   refine hK.out _ _ ⟨(blk_cell BK130.out 0).trans rfl, (blk_cell BK130.out 1).trans rfl, (blk_cell BK130.out 2).trans rfl, (blk_cell BK130.out 3).trans rfl⟩ (fun hHeld => ?_)
   clear hK K
   refine norm_ (a' := ?_) ?_ ?_
   rotate_left
   ·show Act.put _ (some 12) _ = _
    simp only [Act.put, List.setIfInBounds_toArray, List.set_cons_zero, List.set_cons_succ, i64_w, i32_w]
    rfl
   refine pure_ (i := 5) (N := some 16) (v := ?_) (a' := ?_) (bz 9 63) rfl rfl (any_of HT_.out (by kernel_rfl)) (fun _ _ _ h => h) (Or.inl ⟨by rfl, ?_⟩) ?_ ?_
   rotate_left
   ·intro w'
    go_simp
    with_reducible rfl
   rotate_left
   ·simp only [Act.put, List.setIfInBounds_toArray, List.set_cons_zero, List.set_cons_succ, i64_w, i32_w]
    rfl
   refine one_ (i := 6) (N := some 17) (bz 9 127) rfl rfl (one_of HT_.out (by kernel_rfl)) (by decide) (fun K hK => ?_)
   refine goes_ Try.func110 (by kernel_rfl) rfl #[.int .i64 (Go.bits .xor .i64 t133 (ji8))] (by rfl) rfl rfl (by (try simp only [List.map_toArray, List.map_cons, List.map_nil]); first | done | (simp only [hji8]; rfl) | rfl | (simp only [List.length_drop, List.length_take]; rfl)) ?_
   with_reducible refine (impl_bayOf.calls (Go.bits .xor .i64 t133 (ji8)) t134 t135 t136 t137 _ A9.out).mono ?_
   rintro e w17 ⟨rfl, hb⟩
   refine ⟨_, rfl, ?_⟩
   have n0_ := bkB BK130 hb
   have n1_ := bkB BK131 hb
   have n2_ := Aside0.mk (below_step bw hb)
   clear BK130
   clear BK131
   clear HB
   have BK130 := n0_
   have BK131 := n1_
   have HB := n2_
   clear n0_ n1_ n2_
   (try clear hb)
   (try clear hb2)
   (try clear hk)
   (try clear hi)
   refine hK.out _ _ ⟨(blk_cell BK130.out 0).trans rfl, (blk_cell BK130.out 1).trans rfl, (blk_cell BK130.out 2).trans rfl, (blk_cell BK130.out 3).trans rfl⟩ (fun hHeld => ?_)
   clear hK K
   refine norm_ (a' := ?_) ?_ ?_
   rotate_left
   ·show Act.put _ (some 17) _ = _
    simp only [Act.put, List.setIfInBounds_toArray, List.set_cons_zero, List.set_cons_succ, i64_w, i32_w]
    rfl
   refine one_ (i := 7) (N := none) (bz 9 255) rfl rfl (one_of HT_.out (by kernel_rfl)) (by decide) (fun K hK => ?_)
   have hs18 : w17.cell? ⟨gb131, 0, none⟩ = some (.bool false) := (blk_cell BK131.out 0).trans rfl
   have hfs18 := blk_frozen BK131.out 0
   have hns18_0 := NB130_131.out
   have hms18_0 := NB131_130.out
   have hs19 : w17.cell? ⟨gb131, 1, none⟩ = some (.bool false) := (blk_cell BK131.out 1).trans rfl
   have hfs19 := blk_frozen BK131.out 1
   have hns19_0 := NB130_131.out
   have hms19_0 := NB131_130.out
   have hs20 : w17.cell? ⟨gb131, 2, none⟩ = some (.bool false) := (blk_cell BK131.out 2).trans rfl
   have hfs20 := blk_frozen BK131.out 2
   have hns20_0 := NB130_131.out
   have hms20_0 := NB131_130.out
   have hs21 : w17.cell? ⟨gb131, 3, none⟩ = some (.bool false) := (blk_cell BK131.out 3).trans rfl
   have hfs21 := blk_frozen BK131.out 3
   have hns21_0 := NB130_131.out
   have hms21_0 := NB131_130.out
   refine skip_ (w1 := ?_) (by rfl) rfl ?_ ?_
   rotate_left
   ·go_simp
    rfl
   refine hK.out _ _ ⟨((cell_far (p := ⟨gb131, _, none⟩) NB130_131.out _).trans (((cell_far (p := ⟨gb131, _, none⟩) NB130_131.out _).trans (((cell_far (p := ⟨gb131, _, none⟩) NB130_131.out _).trans (((cell_far (p := ⟨gb131, _, none⟩) NB130_131.out _).trans (hHeld.1)))))))), ((cell_far (p := ⟨gb131, _, none⟩) NB130_131.out _).trans (((cell_far (p := ⟨gb131, _, none⟩) NB130_131.out _).trans (((cell_far (p := ⟨gb131, _, none⟩) NB130_131.out _).trans (((cell_far (p := ⟨gb131, _, none⟩) NB130_131.out _).trans (hHeld.2.1)))))))), ((cell_far (p := ⟨gb131, _, none⟩) NB130_131.out _).trans (((cell_far (p := ⟨gb131, _, none⟩) NB130_131.out _).trans (((cell_far (p := ⟨gb131, _, none⟩) NB130_131.out _).trans (((cell_far (p := ⟨gb131, _, none⟩) NB130_131.out _).trans (hHeld.2.2.1)))))))), ((cell_far (p := ⟨gb131, _, none⟩) NB130_131.out _).trans (((cell_far (p := ⟨gb131, _, none⟩) NB130_131.out _).trans (((cell_far (p := ⟨gb131, _, none⟩) NB130_131.out _).trans (((cell_far (p := ⟨gb131, _, none⟩) NB130_131.out _).trans (hHeld.2.2.2))))))))⟩ (fun hHeld => ?_)
   clear hK K
   refine pure_ (i := 8) (N := some 5) (v := ?_) (a' := ?_) (bz 9 511) rfl rfl (any_of HT_.out (by kernel_rfl)) (fun _ _ _ h => h) (Or.inl ⟨by rfl, ?_⟩) ?_ ?_
   rotate_left
   ·intro w'
    go_simp
    with_reducible rfl
   rotate_left
   ·simp only [Act.put, List.setIfInBounds_toArray, List.set_cons_zero, List.set_cons_succ, i64_w, i32_w]
    rfl
   refine done_ (done_of HT_.out (by kernel_rfl)) ?_
   try go_wp2
   refine bodyPost_ret (results_ct rfl _ _ gb131 60 #[.bool t134, .bool t135, .bool t136, .bool t137] (0, 0) _ rfl (by (with_reducible repeat (first | refine blk_drewN ?_ _ | refine blk_drew ?_ | refine blk_alloc ?_ _)); refine blk_put (cs := #[.bool t134, .bool t135, .bool t136, .bool false]) ?_ 3 _ rfl; (with_reducible repeat (first | refine blk_drewN ?_ _ | refine blk_drew ?_ | refine blk_alloc ?_ _)); refine blk_put (cs := #[.bool t134, .bool t135, .bool false, .bool false]) ?_ 2 _ rfl; (with_reducible repeat (first | refine blk_drewN ?_ _ | refine blk_drew ?_ | refine blk_alloc ?_ _)); refine blk_put (cs := #[.bool t134, .bool false, .bool false, .bool false]) ?_ 1 _ rfl; (with_reducible repeat (first | refine blk_drewN ?_ _ | refine blk_drew ?_ | refine blk_alloc ?_ _)); refine blk_put (cs := #[.bool false, .bool false, .bool false, .bool false]) ?_ 0 _ rfl; (with_reducible repeat (first | refine blk_drewN ?_ _ | refine blk_drew ?_ | refine blk_alloc ?_ _)); exact BK131.out) Try.underlying60 rfl (by kernel_rfl)) rfl ?_
   exact ⟨by first | rfl | (simp [errW_none, errW_some] <;> rfl) | (simp only [← hji6, ← hji8]; first | rfl | (simp [errW_none, errW_some] <;> rfl)) | (simp [*, errW_none, errW_some] <;> rfl), bw⟩
  ·rw [if_neg c7] at H
   exact absurd H (by simp)
 ·replace c4 := Bool.eq_false_iff.mpr c4
  subst c4
  have H1 : (some (a0_0, a0_1, a0_2, a0_3, false)) = some (r1, r2, r3, r4, r5) := by rw [if_neg (show ¬ (false = true) by decide)] at H; exact H
  clear H
  have H := H1
  clear H1
  simp only [Option.some.injEq, Prod.mk.injEq] at H
  obtain ⟨rfl, rfl, rfl, rfl, rfl⟩ := H
  go_enter Try.func74, Try.ntmps74
  go_wp2_with (first | ((with_reducible refine gate_dst (N := 2) rfl ?_); refine box_event ?hg (N := 2) ?hd (cs := #[.bool a0_0, .bool a0_1, .bool a0_2, .bool a0_3]) (t := 60) ?hr ?_; (case hd => rfl); (case hg => rfl); (case hr => first | (go_simp; done) | (go_simp; rfl)); intro gb130 hg w22 hbox hb; have n0_ := Aside0.mk (below_step bw hb); have n1_ := Aside0.mk (hbox); have n2_ := Aside0.mk ((by rw [hg]; exact (below_size bw) : w.heap.size ≤ gb130)); have n3_ := Aside0.mk ((by rw [hg]; exact (below_size bw) : w.heap.size ≤ gb130)); clear HB; have HB := n0_; have BK130 := n1_; have GW130 := n2_; have GE130 := n3_; clear n0_ n1_ n2_ n3_; clear hb hbox hg) | ((with_reducible refine gate_dst (N := 4) rfl ?_); refine box_event ?hg (N := 4) ?hd (cs := #[.bool false, .bool false, .bool false, .bool false]) (t := 60) ?hr ?_; (case hd => rfl); (case hg => rfl); (case hr => first | (go_simp; done) | (go_simp; rfl)); intro gb131 hg w23 hbox hb; have n0_ := bkB BK130 hb; have n1_ := Aside0.mk (below_step bw hb); have n2_ := Aside0.mk (hbox); have n3_ := Aside0.mk ((by rw [hg]; exact (below_size bw) : w.heap.size ≤ gb131)); have n4_ := Aside0.mk ((by rw [hg]; exact (below_size bw) : w.heap.size ≤ gb131)); have n5_ := Aside0.mk ((by rw [hg]; exact Nat.ne_of_lt (blk_lt (g := gb130) (o := .cells #[.bool a0_0, .bool a0_1, .bool a0_2, .bool a0_3] 60 (0, 0)) (bk BK130)) : gb130 ≠ gb131)); have n6_ := Aside0.mk ((by rw [hg]; exact Nat.ne_of_gt (blk_lt (g := gb130) (o := .cells #[.bool a0_0, .bool a0_1, .bool a0_2, .bool a0_3] 60 (0, 0)) (bk BK130)) : gb131 ≠ gb130)); clear BK130 HB; have BK130 := n0_; have HB := n1_; have BK131 := n2_; have GW131 := n3_; have GE131 := n4_; have NB130_131 := n5_; have NB131_130 := n6_; clear n0_ n1_ n2_ n3_ n4_ n5_ n6_; clear hb hbox hg; have hnb24 := NB130_131.out; have hnc24 := NB131_130.out; have hcz25_0 : w23.cell? ⟨gb130, 0, none⟩ = some (.bool a0_0) := (blk_cell BK130.out 0).trans rfl; have hcz25_1 : w23.cell? ⟨gb130, 1, none⟩ = some (.bool a0_1) := (blk_cell BK130.out 1).trans rfl; have hcz25_2 : w23.cell? ⟨gb130, 2, none⟩ = some (.bool a0_2) := (blk_cell BK130.out 2).trans rfl; have hcz25_3 : w23.cell? ⟨gb130, 3, none⟩ = some (.bool a0_3) := (blk_cell BK130.out 3).trans rfl; have hfz25_0 := blk_frozen BK130.out 0; have hfz25_1 := blk_frozen BK130.out 1; have hfz25_2 := blk_frozen BK130.out 2; have hfz25_3 := blk_frozen BK130.out 3) | ((with_reducible refine gate_callee (f := 109) rfl ?_); refine goesL_ (some 8) rfl rfl Try.func109 (by kernel_rfl) rfl #[.agg #[.bool a0_0, .bool a0_1, .bool a0_2, .bool a0_3], .int .i64 a1] rfl (by (try simp only [List.map_toArray, List.map_cons, List.map_nil]); first | done | rfl | (simp only [List.length_drop, List.length_take]; rfl)) ?_; (with_reducible refine (impl_BayMay.calls a0_0 a0_1 a0_2 a0_3 a1 false _ A3.out).mono ?_); rintro e w26 ⟨rfl, hb⟩; refine ⟨_, rfl, ?_⟩; have n0_ := bkB BK130 hb; have n1_ := bkB BK131 hb; have n2_ := Aside0.mk (below_step bw hb); clear BK130 BK131 HB; have BK130 := n0_; have BK131 := n1_; have HB := n2_; clear n0_ n1_ n2_; (try clear hb); (try clear hb2); (try clear hk); (try clear hi); have hcz27_0 : w26.cell? ⟨gb130, 0, none⟩ = some (.bool a0_0) := (blk_cell BK130.out 0).trans rfl; have hcz27_1 : w26.cell? ⟨gb130, 1, none⟩ = some (.bool a0_1) := (blk_cell BK130.out 1).trans rfl; have hcz27_2 : w26.cell? ⟨gb130, 2, none⟩ = some (.bool a0_2) := (blk_cell BK130.out 2).trans rfl; have hcz27_3 : w26.cell? ⟨gb130, 3, none⟩ = some (.bool a0_3) := (blk_cell BK130.out 3).trans rfl; have hfz27_0 := blk_frozen BK130.out 0; have hfz27_1 := blk_frozen BK130.out 1; have hfz27_2 := blk_frozen BK130.out 2; have hfz27_3 := blk_frozen BK130.out 3; have hcz28_0 : w26.cell? ⟨gb131, 0, none⟩ = some (.bool false) := (blk_cell BK131.out 0).trans rfl; have hcz28_1 : w26.cell? ⟨gb131, 1, none⟩ = some (.bool false) := (blk_cell BK131.out 1).trans rfl; have hcz28_2 : w26.cell? ⟨gb131, 2, none⟩ = some (.bool false) := (blk_cell BK131.out 2).trans rfl; have hcz28_3 : w26.cell? ⟨gb131, 3, none⟩ = some (.bool false) := (blk_cell BK131.out 3).trans rfl; have hfz28_0 := blk_frozen BK131.out 0; have hfz28_1 := blk_frozen BK131.out 1; have hfz28_2 := blk_frozen BK131.out 2; have hfz28_3 := blk_frozen BK131.out 3))
  refine bodyPost_ret (results_ct rfl _ _ gb131 60 #[.bool a0_0, .bool a0_1, .bool a0_2, .bool a0_3] (0, 0) _ rfl (by (with_reducible repeat (first | refine blk_drewN ?_ _ | refine blk_drew ?_ | refine blk_alloc ?_ _)); refine blk_put (cs := #[.bool a0_0, .bool a0_1, .bool a0_2, .bool false]) ?_ 3 _ rfl; (with_reducible repeat (first | refine blk_drewN ?_ _ | refine blk_drew ?_ | refine blk_alloc ?_ _)); refine blk_put (cs := #[.bool a0_0, .bool a0_1, .bool false, .bool false]) ?_ 2 _ rfl; (with_reducible repeat (first | refine blk_drewN ?_ _ | refine blk_drew ?_ | refine blk_alloc ?_ _)); refine blk_put (cs := #[.bool a0_0, .bool false, .bool false, .bool false]) ?_ 1 _ rfl; (with_reducible repeat (first | refine blk_drewN ?_ _ | refine blk_drew ?_ | refine blk_alloc ?_ _)); refine blk_put (cs := #[.bool false, .bool false, .bool false, .bool false]) ?_ 0 _ rfl; (with_reducible repeat (first | refine blk_drewN ?_ _ | refine blk_drew ?_ | refine blk_alloc ?_ _)); exact BK131.out) Try.underlying60 rfl (by kernel_rfl)) rfl ?_
  exact ⟨by first | rfl | (simp [errW_none, errW_some] <;> rfl) | (simp [*, errW_none, errW_some] <;> rfl), bw⟩

/-! ### impl_BayRun: function 36 -/
def impl_BayRun.l0 : Nat → List Int → List Int → Int → Int → Bool → Bool → Bool → Bool → Option (Bool × Bool × Bool × Bool × Int)
 | 0, _, _, _, _, _, _, _, _ => none
 | k + 1, x1, x10, x11, x12, x139000, x139001, x139002, x139003 => if x12 < x11 then (if 0 ≤ x12 then (if x12 < (x10.length : Int) then ((impl_BayDo.f x139000 x139001 x139002 x139003 (rd x10 x12)).bind fun bt141 => (if bt141.2.2.2.2 = true then (impl_BayRun.l0 k x1 x10 x11 (wrap64 (x12 + 1)) bt141.1 bt141.2.1 bt141.2.2.1 bt141.2.2.2.1) else (some (x139000, x139001, x139002, x139003, x12)))) else (none)) else (none)) else (some (x139000, x139001, x139002, x139003, (x1.length : Int)))
def impl_BayRun.f (k : Nat) (a0_0 : Bool) (a0_1 : Bool) (a0_2 : Bool) (a0_3 : Bool) (l1 : List Int) : Option (Bool × Bool × Bool × Bool × Int) := impl_BayRun.l0 k l1 l1 (l1.length : Int) 0 a0_0 a0_1 a0_2 a0_3
theorem impl_BayRun.mono_l : ∀ k, (∀ y0 y1 y2 y3 y4 y5 y6 y7, LeO (impl_BayRun.l0 k y0 y1 y2 y3 y4 y5 y6 y7) (impl_BayRun.l0 (k + 1) y0 y1 y2 y3 y4 y5 y6 y7))
 | 0 => fun _ _ _ _ _ _ _ _ r h => by simp [impl_BayRun.l0] at h
 | k + 1 => by
  have ih0 := impl_BayRun.mono_l k
  ·intro y0 y1 y2 y3 y4 y5 y6 y7
   unfold impl_BayRun.l0
   repeat' first
   | (with_reducible exact ih0 _ _ _ _ _ _ _ _)
   | (with_reducible exact LeO.refl _)
   | (with_reducible exact LeO.none _)
   | (with_reducible refine LeO.ite ?_ ?_)
   | (with_reducible refine LeO.bind ?_ (fun _ => ?_))
   | exact ih0 _ _ _ _ _ _ _ _
   | exact LeO.none _
   | refine LeO.ite ?_ ?_
   | refine LeO.bind ?_ (fun _ => ?_)
theorem impl_BayRun.mono : ∀ a0 a1 a2 a3 a4 k, LeO (impl_BayRun.f k a0 a1 a2 a3 a4) (impl_BayRun.f (k + 1) a0 a1 a2 a3 a4) := by
 intro a0 a1 a2 a3 a4 k
 have ih0 := impl_BayRun.mono_l k
 unfold impl_BayRun.f
 repeat' first
   | (with_reducible exact ih0 _ _ _ _ _ _ _ _)
   | (with_reducible exact LeO.refl _)
   | (with_reducible exact LeO.none _)
   | (with_reducible refine LeO.ite ?_ ?_)
   | (with_reducible refine LeO.bind ?_ (fun _ => ?_))
   | exact ih0 _ _ _ _ _ _ _ _
   | exact LeO.none _
   | refine LeO.ite ?_ ?_
   | refine LeO.bind ?_ (fun _ => ?_)
set_option maxHeartbeats 8000000 in
set_option maxRecDepth 100000 in
theorem impl_BayRun.calls (k : Nat) (a0_0 : Bool) (a0_1 : Bool) (a0_2 : Bool) (a0_3 : Bool) (A1 : Option Addr) (c1 : Nat) (l1 : List Int) (r1 : Bool) (r2 : Bool) (r3 : Bool) (r4 : Bool) (r5 : Int) (w : World) (hr1 : Kd.C (Kd.int .i64) w A1 l1.length l1) (hc1 : l1.length ≤ c1) (h : impl_BayRun.f k a0_0 a0_1 a0_2 a0_3 l1 = some (r1, r2, r3, r4, r5)) :
  Calls Try.prog 36 #[.agg #[.bool a0_0, .bool a0_1, .bool a0_2, .bool a0_3], .slice A1 l1.length c1] w fun e w' => e = .returned (.tuple #[.agg #[.bool r1, .bool r2, .bool r3, .bool r4], .int .i64 r5]) ∧ Below w.heap.size w w' := by
 have hu60 := Try.underlying60
 have HR1 := Aside0.mk hr1
 have HC1 := Aside0.mk hc1
 clear hr1 hc1
 have HB := Aside0.mk (Below.refl w.heap.size w)
 have H : (impl_BayRun.l0 k l1 l1 (l1.length : Int) 0 a0_0 a0_1 a0_2 a0_3) = some (r1, r2, r3, r4, r5) := h
 clear h
 have H' := Aside0.mk H
 clear H
 go_enter Try.func36, Try.ntmps36
 go_wp2_with (first | ((with_reducible refine gate_dst (N := 2) rfl ?_); refine box_event ?hg (N := 2) ?hd (cs := #[.bool a0_0, .bool a0_1, .bool a0_2, .bool a0_3]) (t := 60) ?hr ?_; (case hd => rfl); (case hg => rfl); (case hr => first | (go_simp; done) | (go_simp; rfl)); intro gb138 hg w3 hbox hb; have n0_ := Aside0.mk (below_step bw hb); have n1_ := Aside0.mk (hbox); have n2_ := Aside0.mk ((by rw [hg]; exact (below_size bw) : w.heap.size ≤ gb138)); have n3_ := Aside0.mk ((by rw [hg]; exact (below_size bw) : w.heap.size ≤ gb138)); clear HB; have HB := n0_; have BK138 := n1_; have GW138 := n2_; have GE138 := n3_; clear n0_ n1_ n2_ n3_; clear hb hbox hg) | ((with_reducible refine gate_dst (N := 4) rfl ?_); refine box_event ?hg (N := 4) ?hd (cs := #[.bool false, .bool false, .bool false, .bool false]) (t := 60) ?hr ?_; (case hd => rfl); (case hg => rfl); (case hr => first | (go_simp; done) | (go_simp; rfl)); intro gb139 hg w4 hbox hb; have n0_ := bkB BK138 hb; have n1_ := Aside0.mk (below_step bw hb); have n2_ := Aside0.mk (hbox); have n3_ := Aside0.mk ((by rw [hg]; exact (below_size bw) : w.heap.size ≤ gb139)); have n4_ := Aside0.mk ((by rw [hg]; exact (below_size bw) : w.heap.size ≤ gb139)); have n5_ := Aside0.mk ((by rw [hg]; exact Nat.ne_of_lt (blk_lt (g := gb138) (o := .cells #[.bool a0_0, .bool a0_1, .bool a0_2, .bool a0_3] 60 (0, 0)) (bk BK138)) : gb138 ≠ gb139)); have n6_ := Aside0.mk ((by rw [hg]; exact Nat.ne_of_gt (blk_lt (g := gb138) (o := .cells #[.bool a0_0, .bool a0_1, .bool a0_2, .bool a0_3] 60 (0, 0)) (bk BK138)) : gb139 ≠ gb138)); clear BK138 HB; have BK138 := n0_; have HB := n1_; have BK139 := n2_; have GW139 := n3_; have GE139 := n4_; have NB138_139 := n5_; have NB139_138 := n6_; clear n0_ n1_ n2_ n3_ n4_ n5_ n6_; clear hb hbox hg))
 go_loopg [12] k (fun kq v12 w' => ∃ (x12_1 : Int) (x139000_1 : Bool) (x139001_1 : Bool) (x139002_1 : Bool) (x139003_1 : Bool) (x140000_1 : Bool) (x140001_1 : Bool) (x140002_1 : Bool) (x140003_1 : Bool), v12 = .int .i64 x12_1 ∧ Aside0 (impl_BayRun.l0 kq l1 l1 (l1.length : Int) x12_1 x139000_1 x139001_1 x139002_1 x139003_1 = some (r1, r2, r3, r4, r5)) ∧ Aside0 (kq ≤ k) ∧ Aside0 (w'.heap[gb138]? = some (.cells #[.bool x139000_1, .bool x139001_1, .bool x139002_1, .bool x139003_1] 60 (0, 0))) ∧ Aside0 (w'.heap[gb139]? = some (.cells #[.bool x140000_1, .bool x140001_1, .bool x140002_1, .bool x140003_1] 60 (0, 0))) ∧ Aside0 (Below w.heap.size w w'))
 case atStart => exact ⟨(0), (a0_0), (a0_1), (a0_2), (a0_3), (false), (false), (false), (false), (by first | rfl | (simp; done) | (simp [*]; done)), H', ⟨Nat.le_refl _⟩, ⟨bk BK138⟩, ⟨bk BK139⟩, ⟨bw⟩⟩
 case round =>
  clear H'
  try clear c1
  try clear p2
  try clear c3
  obtain ⟨x12_1, x139000_1, x139001_1, x139002_1, x139003_1, x140000_1, x140001_1, x140002_1, x140003_1, rfl, HA, HK1, BK138, BK139, HB⟩ := hrel
  cases gk with
  | zero => exact absurd HA.out (by simp [impl_BayRun.l0])
  | succ k1 =>
   have H := HA.out
   clear HA
   simp only [impl_BayRun.l0] at H
   by_cases c5 : x12_1 < (l1.length : Int)
   ·rw [if_pos c5] at H
    have c5b0 : decide (x12_1 < (l1.length : Int)) = true := decide_eq_true c5
    clear c5
    by_cases c6 : 0 ≤ x12_1
    ·rw [if_pos c6] at H
     have c6b0 : decide (0 ≤ x12_1) = true := decide_eq_true c6
     clear c6
     by_cases c7 : x12_1 < (l1.length : Int)
     ·rw [if_pos c7] at H
      have c7b0 : decide (x12_1 < (l1.length : Int)) = true := decide_eq_true c7
      clear c7
      replace H := Option.bind_eq_some_iff.mp H
      obtain ⟨⟨t141, t142, t143, t144, t145⟩, A80, H⟩ := H
      replace H : (if t145 = true then (impl_BayRun.l0 k1 l1 l1 (l1.length : Int) (wrap64 (x12_1 + 1)) t141 t142 t143 t144) else (some (x139000_1, x139001_1, x139002_1, x139003_1, x12_1))) = some (r1, r2, r3, r4, r5) := H
      have A8 := Aside0.mk A80
      clear A80
      by_cases c9 : t145 = true
      ·subst c9
       have H1 : (impl_BayRun.l0 k1 l1 l1 (l1.length : Int) (wrap64 (x12_1 + 1)) t141 t142 t143 t144) = some (r1, r2, r3, r4, r5) := by rw [if_pos rfl] at H; exact H
       clear H
       have H := H1
       clear H1
       have H' := Aside0.mk H
       clear H
       have p140 : 0 ≤ (x12_1 : Int) := of_decide_eq_true (by first | (with_reducible assumption) | assumption)
       have q140 : x12_1 < (l1.length : Int) := of_decide_eq_true (by first | (with_reducible assumption) | assumption)
       obtain ⟨ad140, e140, hx140_0⟩ := Kd.at_int HR1.out x12_1 p140 q140
       cases e140
       replace hx140_0 := (HB.out.cell (World.block_lt_of_cell? w _ hx140_0)).trans hx140_0
       replace p140 := eq_true p140
       replace q140 := eq_true q140
       have hnb10 := NB138_139.out
       have hnc10 := NB139_138.out
       have hcz11_0 : wr.cell? ⟨gb138, 0, none⟩ = some (.bool x139000_1) := (blk_cell BK138.out 0).trans rfl
       have hcz11_1 : wr.cell? ⟨gb138, 1, none⟩ = some (.bool x139001_1) := (blk_cell BK138.out 1).trans rfl
       have hcz11_2 : wr.cell? ⟨gb138, 2, none⟩ = some (.bool x139002_1) := (blk_cell BK138.out 2).trans rfl
       have hcz11_3 : wr.cell? ⟨gb138, 3, none⟩ = some (.bool x139003_1) := (blk_cell BK138.out 3).trans rfl
       have hfz11_0 := blk_frozen BK138.out 0
       have hfz11_1 := blk_frozen BK138.out 1
       have hfz11_2 := blk_frozen BK138.out 2
       have hfz11_3 := blk_frozen BK138.out 3
       go_wp2_with (first | ((with_reducible refine gate_callee (f := 74) rfl ?_); refine goesL_ (some 20) rfl rfl Try.func74 (by kernel_rfl) rfl #[.agg #[.bool x139000_1, .bool x139001_1, .bool x139002_1, .bool x139003_1], .int .i64 (rd l1 x12_1)] rfl (by (try simp only [List.map_toArray, List.map_cons, List.map_nil]); first | done | rfl | (simp only [List.length_drop, List.length_take]; rfl)) ?_; (with_reducible refine (impl_BayDo.calls x139000_1 x139001_1 x139002_1 x139003_1 (rd l1 x12_1) t141 t142 t143 t144 true _ A8.out).mono ?_); rintro e w12 ⟨rfl, hb⟩; refine ⟨_, rfl, ?_⟩; have n0_ := bkB BK138 hb; have n1_ := bkB BK139 hb; have n2_ := Aside0.mk (below_step bw hb); clear BK138 BK139 HB; have BK138 := n0_; have BK139 := n1_; have HB := n2_; clear n0_ n1_ n2_; (try clear hb); (try clear hb2); (try clear hk); (try clear hi)) | ((with_reducible refine gate_dst (N := 8) rfl ?_); refine box_event ?hg (N := 8) ?hd (cs := #[.bool false, .bool false, .bool false, .bool false]) (t := 60) ?hr ?_; (case hd => rfl); (case hg => rfl); (case hr => first | (go_simp; done) | (go_simp; rfl)); intro gb146 hg w13 hbox hb; have n0_ := bkB BK138 hb; have n1_ := bkB BK139 hb; have n2_ := Aside0.mk (below_step bw hb); have n3_ := Aside0.mk (hbox); have n4_ := Aside0.mk ((by rw [hg]; exact (below_size bw) : w.heap.size ≤ gb146)); have n5_ := Aside0.mk ((by rw [hg]; exact (below_size bw) : w.heap.size ≤ gb146)); have n6_ := Aside0.mk ((by rw [hg]; exact Nat.ne_of_lt (blk_lt (g := gb138) (o := .cells #[.bool x139000_1, .bool x139001_1, .bool x139002_1, .bool x139003_1] 60 (0, 0)) (bk BK138)) : gb138 ≠ gb146)); have n7_ := Aside0.mk ((by rw [hg]; exact Nat.ne_of_gt (blk_lt (g := gb138) (o := .cells #[.bool x139000_1, .bool x139001_1, .bool x139002_1, .bool x139003_1] 60 (0, 0)) (bk BK138)) : gb146 ≠ gb138)); have n8_ := Aside0.mk ((by rw [hg]; exact Nat.ne_of_lt (blk_lt (g := gb139) (o := .cells #[.bool x140000_1, .bool x140001_1, .bool x140002_1, .bool x140003_1] 60 (0, 0)) (bk BK139)) : gb139 ≠ gb146)); have n9_ := Aside0.mk ((by rw [hg]; exact Nat.ne_of_gt (blk_lt (g := gb139) (o := .cells #[.bool x140000_1, .bool x140001_1, .bool x140002_1, .bool x140003_1] 60 (0, 0)) (bk BK139)) : gb146 ≠ gb139)); clear BK138 BK139 HB; have BK138 := n0_; have BK139 := n1_; have HB := n2_; have BK146 := n3_; have GW146 := n4_; have GE146 := n5_; have NB138_146 := n6_; have NB146_138 := n7_; have NB139_146 := n8_; have NB146_139 := n9_; clear n0_ n1_ n2_ n3_ n4_ n5_ n6_ n7_ n8_ n9_; clear hb hbox hg; have hnb14 := NB146_138.out; have hnc14 := NB138_146.out; have hnb15 := NB146_139.out; have hnc15 := NB139_146.out; have hcz16_0 : w13.cell? ⟨gb146, 0, none⟩ = some (.bool false) := (blk_cell BK146.out 0).trans rfl; have hcz16_1 : w13.cell? ⟨gb146, 1, none⟩ = some (.bool false) := (blk_cell BK146.out 1).trans rfl; have hcz16_2 : w13.cell? ⟨gb146, 2, none⟩ = some (.bool false) := (blk_cell BK146.out 2).trans rfl; have hcz16_3 : w13.cell? ⟨gb146, 3, none⟩ = some (.bool false) := (blk_cell BK146.out 3).trans rfl; have hfz16_0 := blk_frozen BK146.out 0; have hfz16_1 := blk_frozen BK146.out 1; have hfz16_2 := blk_frozen BK146.out 2; have hfz16_3 := blk_frozen BK146.out 3; have hcz17_0 : w13.cell? ⟨gb138, 0, none⟩ = some (.bool x139000_1) := (blk_cell BK138.out 0).trans rfl; have hcz17_1 : w13.cell? ⟨gb138, 1, none⟩ = some (.bool x139001_1) := (blk_cell BK138.out 1).trans rfl; have hcz17_2 : w13.cell? ⟨gb138, 2, none⟩ = some (.bool x139002_1) := (blk_cell BK138.out 2).trans rfl; have hcz17_3 : w13.cell? ⟨gb138, 3, none⟩ = some (.bool x139003_1) := (blk_cell BK138.out 3).trans rfl; have hfz17_0 := blk_frozen BK138.out 0; have hfz17_1 := blk_frozen BK138.out 1; have hfz17_2 := blk_frozen BK138.out 2; have hfz17_3 := blk_frozen BK138.out 3))
       go_roundg k1
       case measure => have := HK1.out; omega
       case rel => exact ⟨(wrap64 (x12_1 + 1)), (t141), (t142), (t143), (t144), (x140000_1), (x140001_1), (x140002_1), (x140003_1), (by first | rfl | (simp; done) | (simp [*]; done)), H', ⟨by have := HK1.out; omega⟩, ⟨by (with_reducible repeat (first | refine blk_drewN ?_ _ | refine blk_drew ?_ | refine blk_alloc ?_ _)); refine blk_put (cs := #[.bool t141, .bool t142, .bool t143, .bool x139003_1]) ?_ 3 _ rfl; (with_reducible repeat (first | refine blk_drewN ?_ _ | refine blk_drew ?_ | refine blk_alloc ?_ _)); refine blk_put (cs := #[.bool t141, .bool t142, .bool x139002_1, .bool x139003_1]) ?_ 2 _ rfl; (with_reducible repeat (first | refine blk_drewN ?_ _ | refine blk_drew ?_ | refine blk_alloc ?_ _)); refine blk_put (cs := #[.bool t141, .bool x139001_1, .bool x139002_1, .bool x139003_1]) ?_ 1 _ rfl; (with_reducible repeat (first | refine blk_drewN ?_ _ | refine blk_drew ?_ | refine blk_alloc ?_ _)); refine blk_put (cs := #[.bool x139000_1, .bool x139001_1, .bool x139002_1, .bool x139003_1]) ?_ 0 _ rfl; (with_reducible repeat (first | refine blk_drewN ?_ _ | refine blk_drew ?_ | refine blk_alloc ?_ _)); refine blk_far ?_ NB138_146.out _; (with_reducible repeat (first | refine blk_drewN ?_ _ | refine blk_drew ?_ | refine blk_alloc ?_ _)); refine blk_far ?_ NB138_146.out _; (with_reducible repeat (first | refine blk_drewN ?_ _ | refine blk_drew ?_ | refine blk_alloc ?_ _)); refine blk_far ?_ NB138_146.out _; (with_reducible repeat (first | refine blk_drewN ?_ _ | refine blk_drew ?_ | refine blk_alloc ?_ _)); refine blk_far ?_ NB138_146.out _; (with_reducible repeat (first | refine blk_drewN ?_ _ | refine blk_drew ?_ | refine blk_alloc ?_ _)); exact BK138.out⟩, ⟨by (with_reducible repeat (first | refine blk_drewN ?_ _ | refine blk_drew ?_ | refine blk_alloc ?_ _)); refine blk_far ?_ NB139_138.out _; (with_reducible repeat (first | refine blk_drewN ?_ _ | refine blk_drew ?_ | refine blk_alloc ?_ _)); refine blk_far ?_ NB139_138.out _; (with_reducible repeat (first | refine blk_drewN ?_ _ | refine blk_drew ?_ | refine blk_alloc ?_ _)); refine blk_far ?_ NB139_138.out _; (with_reducible repeat (first | refine blk_drewN ?_ _ | refine blk_drew ?_ | refine blk_alloc ?_ _)); refine blk_far ?_ NB139_138.out _; (with_reducible repeat (first | refine blk_drewN ?_ _ | refine blk_drew ?_ | refine blk_alloc ?_ _)); refine blk_far ?_ NB139_146.out _; (with_reducible repeat (first | refine blk_drewN ?_ _ | refine blk_drew ?_ | refine blk_alloc ?_ _)); refine blk_far ?_ NB139_146.out _; (with_reducible repeat (first | refine blk_drewN ?_ _ | refine blk_drew ?_ | refine blk_alloc ?_ _)); refine blk_far ?_ NB139_146.out _; (with_reducible repeat (first | refine blk_drewN ?_ _ | refine blk_drew ?_ | refine blk_alloc ?_ _)); refine blk_far ?_ NB139_146.out _; (with_reducible repeat (first | refine blk_drewN ?_ _ | refine blk_drew ?_ | refine blk_alloc ?_ _)); exact BK139.out⟩, ⟨bw⟩⟩
      ·replace c9 := Bool.eq_false_iff.mpr c9
       subst c9
       have H1 : (some (x139000_1, x139001_1, x139002_1, x139003_1, x12_1)) = some (r1, r2, r3, r4, r5) := by rw [if_neg (show ¬ (false = true) by decide)] at H; exact H
       clear H
       have H := H1
       clear H1
       simp only [Option.some.injEq, Prod.mk.injEq] at H
       obtain ⟨rfl, rfl, rfl, rfl, rfl⟩ := H
       have p140 : 0 ≤ (x12_1 : Int) := of_decide_eq_true (by first | (with_reducible assumption) | assumption)
       have q140 : x12_1 < (l1.length : Int) := of_decide_eq_true (by first | (with_reducible assumption) | assumption)
       obtain ⟨ad140, e140, hx140_0⟩ := Kd.at_int HR1.out x12_1 p140 q140
       cases e140
       replace hx140_0 := (HB.out.cell (World.block_lt_of_cell? w _ hx140_0)).trans hx140_0
       replace p140 := eq_true p140
       replace q140 := eq_true q140
       have hnb18 := NB138_139.out
       have hnc18 := NB139_138.out
       have hcz19_0 : wr.cell? ⟨gb138, 0, none⟩ = some (.bool x139000_1) := (blk_cell BK138.out 0).trans rfl
       have hcz19_1 : wr.cell? ⟨gb138, 1, none⟩ = some (.bool x139001_1) := (blk_cell BK138.out 1).trans rfl
       have hcz19_2 : wr.cell? ⟨gb138, 2, none⟩ = some (.bool x139002_1) := (blk_cell BK138.out 2).trans rfl
       have hcz19_3 : wr.cell? ⟨gb138, 3, none⟩ = some (.bool x139003_1) := (blk_cell BK138.out 3).trans rfl
       have hfz19_0 := blk_frozen BK138.out 0
       have hfz19_1 := blk_frozen BK138.out 1
       have hfz19_2 := blk_frozen BK138.out 2
       have hfz19_3 := blk_frozen BK138.out 3
       go_wp2_with (first | ((with_reducible refine gate_callee (f := 74) rfl ?_); refine goesL_ (some 20) rfl rfl Try.func74 (by kernel_rfl) rfl #[.agg #[.bool x139000_1, .bool x139001_1, .bool x139002_1, .bool x139003_1], .int .i64 (rd l1 x12_1)] rfl (by (try simp only [List.map_toArray, List.map_cons, List.map_nil]); first | done | rfl | (simp only [List.length_drop, List.length_take]; rfl)) ?_; (with_reducible refine (impl_BayDo.calls x139000_1 x139001_1 x139002_1 x139003_1 (rd l1 x12_1) t141 t142 t143 t144 false _ A8.out).mono ?_); rintro e w20 ⟨rfl, hb⟩; refine ⟨_, rfl, ?_⟩; have n0_ := bkB BK138 hb; have n1_ := bkB BK139 hb; have n2_ := Aside0.mk (below_step bw hb); clear BK138 BK139 HB; have BK138 := n0_; have BK139 := n1_; have HB := n2_; clear n0_ n1_ n2_; (try clear hb); (try clear hb2); (try clear hk); (try clear hi)) | ((with_reducible refine gate_dst (N := 8) rfl ?_); refine box_event ?hg (N := 8) ?hd (cs := #[.bool false, .bool false, .bool false, .bool false]) (t := 60) ?hr ?_; (case hd => rfl); (case hg => rfl); (case hr => first | (go_simp; done) | (go_simp; rfl)); intro gb146 hg w21 hbox hb; have n0_ := bkB BK138 hb; have n1_ := bkB BK139 hb; have n2_ := Aside0.mk (below_step bw hb); have n3_ := Aside0.mk (hbox); have n4_ := Aside0.mk ((by rw [hg]; exact (below_size bw) : w.heap.size ≤ gb146)); have n5_ := Aside0.mk ((by rw [hg]; exact (below_size bw) : w.heap.size ≤ gb146)); have n6_ := Aside0.mk ((by rw [hg]; exact Nat.ne_of_lt (blk_lt (g := gb138) (o := .cells #[.bool x139000_1, .bool x139001_1, .bool x139002_1, .bool x139003_1] 60 (0, 0)) (bk BK138)) : gb138 ≠ gb146)); have n7_ := Aside0.mk ((by rw [hg]; exact Nat.ne_of_gt (blk_lt (g := gb138) (o := .cells #[.bool x139000_1, .bool x139001_1, .bool x139002_1, .bool x139003_1] 60 (0, 0)) (bk BK138)) : gb146 ≠ gb138)); have n8_ := Aside0.mk ((by rw [hg]; exact Nat.ne_of_lt (blk_lt (g := gb139) (o := .cells #[.bool x140000_1, .bool x140001_1, .bool x140002_1, .bool x140003_1] 60 (0, 0)) (bk BK139)) : gb139 ≠ gb146)); have n9_ := Aside0.mk ((by rw [hg]; exact Nat.ne_of_gt (blk_lt (g := gb139) (o := .cells #[.bool x140000_1, .bool x140001_1, .bool x140002_1, .bool x140003_1] 60 (0, 0)) (bk BK139)) : gb146 ≠ gb139)); clear BK138 BK139 HB; have BK138 := n0_; have BK139 := n1_; have HB := n2_; have BK146 := n3_; have GW146 := n4_; have GE146 := n5_; have NB138_146 := n6_; have NB146_138 := n7_; have NB139_146 := n8_; have NB146_139 := n9_; clear n0_ n1_ n2_ n3_ n4_ n5_ n6_ n7_ n8_ n9_; clear hb hbox hg; have hnb22 := NB146_138.out; have hnc22 := NB138_146.out; have hnb23 := NB146_139.out; have hnc23 := NB139_146.out; have hcz24_0 : w21.cell? ⟨gb146, 0, none⟩ = some (.bool false) := (blk_cell BK146.out 0).trans rfl; have hcz24_1 : w21.cell? ⟨gb146, 1, none⟩ = some (.bool false) := (blk_cell BK146.out 1).trans rfl; have hcz24_2 : w21.cell? ⟨gb146, 2, none⟩ = some (.bool false) := (blk_cell BK146.out 2).trans rfl; have hcz24_3 : w21.cell? ⟨gb146, 3, none⟩ = some (.bool false) := (blk_cell BK146.out 3).trans rfl; have hfz24_0 := blk_frozen BK146.out 0; have hfz24_1 := blk_frozen BK146.out 1; have hfz24_2 := blk_frozen BK146.out 2; have hfz24_3 := blk_frozen BK146.out 3; have hcz25_0 : w21.cell? ⟨gb138, 0, none⟩ = some (.bool x139000_1) := (blk_cell BK138.out 0).trans rfl; have hcz25_1 : w21.cell? ⟨gb138, 1, none⟩ = some (.bool x139001_1) := (blk_cell BK138.out 1).trans rfl; have hcz25_2 : w21.cell? ⟨gb138, 2, none⟩ = some (.bool x139002_1) := (blk_cell BK138.out 2).trans rfl; have hcz25_3 : w21.cell? ⟨gb138, 3, none⟩ = some (.bool x139003_1) := (blk_cell BK138.out 3).trans rfl; have hfz25_0 := blk_frozen BK138.out 0; have hfz25_1 := blk_frozen BK138.out 1; have hfz25_2 := blk_frozen BK138.out 2; have hfz25_3 := blk_frozen BK138.out 3; have hcz26_0 : w21.cell? ⟨gb139, 0, none⟩ = some (.bool x140000_1) := (blk_cell BK139.out 0).trans rfl; have hcz26_1 : w21.cell? ⟨gb139, 1, none⟩ = some (.bool x140001_1) := (blk_cell BK139.out 1).trans rfl; have hcz26_2 : w21.cell? ⟨gb139, 2, none⟩ = some (.bool x140002_1) := (blk_cell BK139.out 2).trans rfl; have hcz26_3 : w21.cell? ⟨gb139, 3, none⟩ = some (.bool x140003_1) := (blk_cell BK139.out 3).trans rfl; have hfz26_0 := blk_frozen BK139.out 0; have hfz26_1 := blk_frozen BK139.out 1; have hfz26_2 := blk_frozen BK139.out 2; have hfz26_3 := blk_frozen BK139.out 3))
       refine bodyPost_ret (results_ct rfl _ _ gb139 60 #[.bool x139000_1, .bool x139001_1, .bool x139002_1, .bool x139003_1] (0, 0) _ rfl (by (with_reducible repeat (first | refine blk_drewN ?_ _ | refine blk_drew ?_ | refine blk_alloc ?_ _)); refine blk_put (cs := #[.bool x139000_1, .bool x139001_1, .bool x139002_1, .bool x140003_1]) ?_ 3 _ rfl; (with_reducible repeat (first | refine blk_drewN ?_ _ | refine blk_drew ?_ | refine blk_alloc ?_ _)); refine blk_put (cs := #[.bool x139000_1, .bool x139001_1, .bool x140002_1, .bool x140003_1]) ?_ 2 _ rfl; (with_reducible repeat (first | refine blk_drewN ?_ _ | refine blk_drew ?_ | refine blk_alloc ?_ _)); refine blk_put (cs := #[.bool x139000_1, .bool x140001_1, .bool x140002_1, .bool x140003_1]) ?_ 1 _ rfl; (with_reducible repeat (first | refine blk_drewN ?_ _ | refine blk_drew ?_ | refine blk_alloc ?_ _)); refine blk_put (cs := #[.bool x140000_1, .bool x140001_1, .bool x140002_1, .bool x140003_1]) ?_ 0 _ rfl; (with_reducible repeat (first | refine blk_drewN ?_ _ | refine blk_drew ?_ | refine blk_alloc ?_ _)); refine blk_far ?_ NB139_146.out _; (with_reducible repeat (first | refine blk_drewN ?_ _ | refine blk_drew ?_ | refine blk_alloc ?_ _)); refine blk_far ?_ NB139_146.out _; (with_reducible repeat (first | refine blk_drewN ?_ _ | refine blk_drew ?_ | refine blk_alloc ?_ _)); refine blk_far ?_ NB139_146.out _; (with_reducible repeat (first | refine blk_drewN ?_ _ | refine blk_drew ?_ | refine blk_alloc ?_ _)); refine blk_far ?_ NB139_146.out _; (with_reducible repeat (first | refine blk_drewN ?_ _ | refine blk_drew ?_ | refine blk_alloc ?_ _)); exact BK139.out) Try.underlying60 rfl (by kernel_rfl)) rfl ?_
       exact ⟨by first | rfl | (simp [errW_none, errW_some] <;> rfl) | (simp [*, errW_none, errW_some] <;> rfl), bw⟩
     ·rw [if_neg c7] at H
      exact absurd H (by simp)
    ·rw [if_neg c6] at H
     exact absurd H (by simp)
   ·rw [if_neg c5] at H
    have c5b0 : decide (x12_1 < (l1.length : Int)) = false := decide_eq_false c5
    clear c5
    simp only [Option.some.injEq, Prod.mk.injEq] at H
    obtain ⟨rfl, rfl, rfl, rfl, rfl⟩ := H
    have hnb27 := NB138_139.out
    have hnc27 := NB139_138.out
    have hcz28_0 : wr.cell? ⟨gb138, 0, none⟩ = some (.bool x139000_1) := (blk_cell BK138.out 0).trans rfl
    have hcz28_1 : wr.cell? ⟨gb138, 1, none⟩ = some (.bool x139001_1) := (blk_cell BK138.out 1).trans rfl
    have hcz28_2 : wr.cell? ⟨gb138, 2, none⟩ = some (.bool x139002_1) := (blk_cell BK138.out 2).trans rfl
    have hcz28_3 : wr.cell? ⟨gb138, 3, none⟩ = some (.bool x139003_1) := (blk_cell BK138.out 3).trans rfl
    have hfz28_0 := blk_frozen BK138.out 0
    have hfz28_1 := blk_frozen BK138.out 1
    have hfz28_2 := blk_frozen BK138.out 2
    have hfz28_3 := blk_frozen BK138.out 3
    have hcz29_0 : wr.cell? ⟨gb139, 0, none⟩ = some (.bool x140000_1) := (blk_cell BK139.out 0).trans rfl
    have hcz29_1 : wr.cell? ⟨gb139, 1, none⟩ = some (.bool x140001_1) := (blk_cell BK139.out 1).trans rfl
    have hcz29_2 : wr.cell? ⟨gb139, 2, none⟩ = some (.bool x140002_1) := (blk_cell BK139.out 2).trans rfl
    have hcz29_3 : wr.cell? ⟨gb139, 3, none⟩ = some (.bool x140003_1) := (blk_cell BK139.out 3).trans rfl
    have hfz29_0 := blk_frozen BK139.out 0
    have hfz29_1 := blk_frozen BK139.out 1
    have hfz29_2 := blk_frozen BK139.out 2
    have hfz29_3 := blk_frozen BK139.out 3
    go_wp2
    refine bodyPost_ret (results_ct rfl _ _ gb139 60 #[.bool x139000_1, .bool x139001_1, .bool x139002_1, .bool x139003_1] (0, 0) _ rfl (by (with_reducible repeat (first | refine blk_drewN ?_ _ | refine blk_drew ?_ | refine blk_alloc ?_ _)); refine blk_put (cs := #[.bool x139000_1, .bool x139001_1, .bool x139002_1, .bool x140003_1]) ?_ 3 _ rfl; (with_reducible repeat (first | refine blk_drewN ?_ _ | refine blk_drew ?_ | refine blk_alloc ?_ _)); refine blk_put (cs := #[.bool x139000_1, .bool x139001_1, .bool x140002_1, .bool x140003_1]) ?_ 2 _ rfl; (with_reducible repeat (first | refine blk_drewN ?_ _ | refine blk_drew ?_ | refine blk_alloc ?_ _)); refine blk_put (cs := #[.bool x139000_1, .bool x140001_1, .bool x140002_1, .bool x140003_1]) ?_ 1 _ rfl; (with_reducible repeat (first | refine blk_drewN ?_ _ | refine blk_drew ?_ | refine blk_alloc ?_ _)); refine blk_put (cs := #[.bool x140000_1, .bool x140001_1, .bool x140002_1, .bool x140003_1]) ?_ 0 _ rfl; (with_reducible repeat (first | refine blk_drewN ?_ _ | refine blk_drew ?_ | refine blk_alloc ?_ _)); exact BK139.out) Try.underlying60 rfl (by kernel_rfl)) rfl ?_
    exact ⟨by first | rfl | (simp [errW_none, errW_some] <;> rfl) | (simp [*, errW_none, errW_some] <;> rfl), bw⟩

/-! ### laws_eqBay: function 37 -/
def laws_eqBay.f (a0_0 : Bool) (a0_1 : Bool) (a0_2 : Bool) (a0_3 : Bool) (a1_0 : Bool) (a1_1 : Bool) (a1_2 : Bool) (a1_3 : Bool) : Option (Bool) := if (a0_0 != a1_0) = true then (some false) else (if (a0_1 != a1_1) = true then (some false) else (if (a0_2 != a1_2) = true then (some false) else (if (a0_3 != a1_3) = true then (some false) else (some true))))
set_option maxHeartbeats 8000000 in
set_option maxRecDepth 100000 in
theorem laws_eqBay.calls (a0_0 : Bool) (a0_1 : Bool) (a0_2 : Bool) (a0_3 : Bool) (a1_0 : Bool) (a1_1 : Bool) (a1_2 : Bool) (a1_3 : Bool) (r : Bool) (w : World) (h : laws_eqBay.f a0_0 a0_1 a0_2 a0_3 a1_0 a1_1 a1_2 a1_3 = some r) :
  Calls Try.prog 37 #[.agg #[.bool a0_0, .bool a0_1, .bool a0_2, .bool a0_3], .agg #[.bool a1_0, .bool a1_1, .bool a1_2, .bool a1_3]] w fun e w' => e = .returned (.bool r) ∧ Below w.heap.size w w' := by
 have hu60 := Try.underlying60
 have HB := Aside0.mk (Below.refl w.heap.size w)
 have H : (if (a0_0 != a1_0) = true then (some false) else (if (a0_1 != a1_1) = true then (some false) else (if (a0_2 != a1_2) = true then (some false) else (if (a0_3 != a1_3) = true then (some false) else (some true))))) = some r := h
 clear h
 by_cases c3 : (a0_0 != a1_0) = true
 ·rw [if_pos c3] at H
  have c3b0 : (a0_0 != a1_0) = true := c3
  (try (have c3b1 : decide (a0_0 = a1_0) = false := by simpa using c3))
  (try (have c3b2 : (a0_0 == a1_0) = false := by simpa using c3))
  (try (have c3b3 : ¬ (a0_0 = a1_0) := by simpa using c3))
  clear c3
  obtain rfl := Option.some.inj H
  go_enter Try.func37, Try.ntmps37
  go_wp2_with (first | ((with_reducible refine gate_dst (N := 2) rfl ?_); refine box_event ?hg (N := 2) ?hd (cs := #[.bool a0_0, .bool a0_1, .bool a0_2, .bool a0_3]) (t := 60) ?hr ?_; (case hd => rfl); (case hg => rfl); (case hr => first | (go_simp; done) | (go_simp; rfl)); intro gb147 hg w4 hbox hb; have n0_ := Aside0.mk (below_step bw hb); have n1_ := Aside0.mk (hbox); have n2_ := Aside0.mk ((by rw [hg]; exact (below_size bw) : w.heap.size ≤ gb147)); have n3_ := Aside0.mk ((by rw [hg]; exact (below_size bw) : w.heap.size ≤ gb147)); clear HB; have HB := n0_; have BK147 := n1_; have GW147 := n2_; have GE147 := n3_; clear n0_ n1_ n2_ n3_; clear hb hbox hg) | ((with_reducible refine gate_dst (N := 3) rfl ?_); refine box_event ?hg (N := 3) ?hd (cs := #[.bool a1_0, .bool a1_1, .bool a1_2, .bool a1_3]) (t := 60) ?hr ?_; (case hd => rfl); (case hg => rfl); (case hr => first | (go_simp; done) | (go_simp; rfl)); intro gb148 hg w5 hbox hb; have n0_ := bkB BK147 hb; have n1_ := Aside0.mk (below_step bw hb); have n2_ := Aside0.mk (hbox); have n3_ := Aside0.mk ((by rw [hg]; exact (below_size bw) : w.heap.size ≤ gb148)); have n4_ := Aside0.mk ((by rw [hg]; exact (below_size bw) : w.heap.size ≤ gb148)); have n5_ := Aside0.mk ((by rw [hg]; exact Nat.ne_of_lt (blk_lt (g := gb147) (o := .cells #[.bool a0_0, .bool a0_1, .bool a0_2, .bool a0_3] 60 (0, 0)) (bk BK147)) : gb147 ≠ gb148)); have n6_ := Aside0.mk ((by rw [hg]; exact Nat.ne_of_gt (blk_lt (g := gb147) (o := .cells #[.bool a0_0, .bool a0_1, .bool a0_2, .bool a0_3] 60 (0, 0)) (bk BK147)) : gb148 ≠ gb147)); clear BK147 HB; have BK147 := n0_; have HB := n1_; have BK148 := n2_; have GW148 := n3_; have GE148 := n4_; have NB147_148 := n5_; have NB148_147 := n6_; clear n0_ n1_ n2_ n3_ n4_ n5_ n6_; clear hb hbox hg; have hnb6 := NB147_148.out; have hnc6 := NB148_147.out; have hcz7_0 : w5.cell? ⟨gb147, 0, none⟩ = some (.bool a0_0) := (blk_cell BK147.out 0).trans rfl; have hcz7_1 : w5.cell? ⟨gb147, 1, none⟩ = some (.bool a0_1) := (blk_cell BK147.out 1).trans rfl; have hcz7_2 : w5.cell? ⟨gb147, 2, none⟩ = some (.bool a0_2) := (blk_cell BK147.out 2).trans rfl; have hcz7_3 : w5.cell? ⟨gb147, 3, none⟩ = some (.bool a0_3) := (blk_cell BK147.out 3).trans rfl; have hfz7_0 := blk_frozen BK147.out 0; have hfz7_1 := blk_frozen BK147.out 1; have hfz7_2 := blk_frozen BK147.out 2; have hfz7_3 := blk_frozen BK147.out 3; have hcz8_0 : w5.cell? ⟨gb148, 0, none⟩ = some (.bool a1_0) := (blk_cell BK148.out 0).trans rfl; have hcz8_1 : w5.cell? ⟨gb148, 1, none⟩ = some (.bool a1_1) := (blk_cell BK148.out 1).trans rfl; have hcz8_2 : w5.cell? ⟨gb148, 2, none⟩ = some (.bool a1_2) := (blk_cell BK148.out 2).trans rfl; have hcz8_3 : w5.cell? ⟨gb148, 3, none⟩ = some (.bool a1_3) := (blk_cell BK148.out 3).trans rfl; have hfz8_0 := blk_frozen BK148.out 0; have hfz8_1 := blk_frozen BK148.out 1; have hfz8_2 := blk_frozen BK148.out 2; have hfz8_3 := blk_frozen BK148.out 3))
  go_ret
  exact ⟨by first | rfl | (simp [errW_none, errW_some] <;> rfl) | (simp [*, errW_none, errW_some] <;> rfl), bw⟩
 ·rw [if_neg c3] at H
  have c3b0 : (a0_0 != a1_0) = false := by simpa using c3
  (try (have c3b1 : decide (a0_0 = a1_0) = true := by simpa using c3))
  (try (have c3b2 : (a0_0 == a1_0) = true := by simpa using c3))
  clear c3
  by_cases c9 : (a0_1 != a1_1) = true
  ·rw [if_pos c9] at H
   have c9b0 : (a0_1 != a1_1) = true := c9
   (try (have c9b1 : decide (a0_1 = a1_1) = false := by simpa using c9))
   (try (have c9b2 : (a0_1 == a1_1) = false := by simpa using c9))
   (try (have c9b3 : ¬ (a0_1 = a1_1) := by simpa using c9))
   clear c9
   obtain rfl := Option.some.inj H
   go_enter Try.func37, Try.ntmps37
   go_wp2_with (first | ((with_reducible refine gate_dst (N := 2) rfl ?_); refine box_event ?hg (N := 2) ?hd (cs := #[.bool a0_0, .bool a0_1, .bool a0_2, .bool a0_3]) (t := 60) ?hr ?_; (case hd => rfl); (case hg => rfl); (case hr => first | (go_simp; done) | (go_simp; rfl)); intro gb147 hg w10 hbox hb; have n0_ := Aside0.mk (below_step bw hb); have n1_ := Aside0.mk (hbox); have n2_ := Aside0.mk ((by rw [hg]; exact (below_size bw) : w.heap.size ≤ gb147)); have n3_ := Aside0.mk ((by rw [hg]; exact (below_size bw) : w.heap.size ≤ gb147)); clear HB; have HB := n0_; have BK147 := n1_; have GW147 := n2_; have GE147 := n3_; clear n0_ n1_ n2_ n3_; clear hb hbox hg) | ((with_reducible refine gate_dst (N := 3) rfl ?_); refine box_event ?hg (N := 3) ?hd (cs := #[.bool a1_0, .bool a1_1, .bool a1_2, .bool a1_3]) (t := 60) ?hr ?_; (case hd => rfl); (case hg => rfl); (case hr => first | (go_simp; done) | (go_simp; rfl)); intro gb148 hg w11 hbox hb; have n0_ := bkB BK147 hb; have n1_ := Aside0.mk (below_step bw hb); have n2_ := Aside0.mk (hbox); have n3_ := Aside0.mk ((by rw [hg]; exact (below_size bw) : w.heap.size ≤ gb148)); have n4_ := Aside0.mk ((by rw [hg]; exact (below_size bw) : w.heap.size ≤ gb148)); have n5_ := Aside0.mk ((by rw [hg]; exact Nat.ne_of_lt (blk_lt (g := gb147) (o := .cells #[.bool a0_0, .bool a0_1, .bool a0_2, .bool a0_3] 60 (0, 0)) (bk BK147)) : gb147 ≠ gb148)); have n6_ := Aside0.mk ((by rw [hg]; exact Nat.ne_of_gt (blk_lt (g := gb147) (o := .cells #[.bool a0_0, .bool a0_1, .bool a0_2, .bool a0_3] 60 (0, 0)) (bk BK147)) : gb148 ≠ gb147)); clear BK147 HB; have BK147 := n0_; have HB := n1_; have BK148 := n2_; have GW148 := n3_; have GE148 := n4_; have NB147_148 := n5_; have NB148_147 := n6_; clear n0_ n1_ n2_ n3_ n4_ n5_ n6_; clear hb hbox hg; have hnb12 := NB147_148.out; have hnc12 := NB148_147.out; have hcz13_0 : w11.cell? ⟨gb147, 0, none⟩ = some (.bool a0_0) := (blk_cell BK147.out 0).trans rfl; have hcz13_1 : w11.cell? ⟨gb147, 1, none⟩ = some (.bool a0_1) := (blk_cell BK147.out 1).trans rfl; have hcz13_2 : w11.cell? ⟨gb147, 2, none⟩ = some (.bool a0_2) := (blk_cell BK147.out 2).trans rfl; have hcz13_3 : w11.cell? ⟨gb147, 3, none⟩ = some (.bool a0_3) := (blk_cell BK147.out 3).trans rfl; have hfz13_0 := blk_frozen BK147.out 0; have hfz13_1 := blk_frozen BK147.out 1; have hfz13_2 := blk_frozen BK147.out 2; have hfz13_3 := blk_frozen BK147.out 3; have hcz14_0 : w11.cell? ⟨gb148, 0, none⟩ = some (.bool a1_0) := (blk_cell BK148.out 0).trans rfl; have hcz14_1 : w11.cell? ⟨gb148, 1, none⟩ = some (.bool a1_1) := (blk_cell BK148.out 1).trans rfl; have hcz14_2 : w11.cell? ⟨gb148, 2, none⟩ = some (.bool a1_2) := (blk_cell BK148.out 2).trans rfl; have hcz14_3 : w11.cell? ⟨gb148, 3, none⟩ = some (.bool a1_3) := (blk_cell BK148.out 3).trans rfl; have hfz14_0 := blk_frozen BK148.out 0; have hfz14_1 := blk_frozen BK148.out 1; have hfz14_2 := blk_frozen BK148.out 2; have hfz14_3 := blk_frozen BK148.out 3))
   go_ret
   exact ⟨by first | rfl | (simp [errW_none, errW_some] <;> rfl) | (simp [*, errW_none, errW_some] <;> rfl), bw⟩
  ·rw [if_neg c9] at H
   have c9b0 : (a0_1 != a1_1) = false := by simpa using c9
   (try (have c9b1 : decide (a0_1 = a1_1) = true := by simpa using c9))
   (try (have c9b2 : (a0_1 == a1_1) = true := by simpa using c9))
   clear c9
   by_cases c15 : (a0_2 != a1_2) = true
   ·rw [if_pos c15] at H
    have c15b0 : (a0_2 != a1_2) = true := c15
    (try (have c15b1 : decide (a0_2 = a1_2) = false := by simpa using c15))
    (try (have c15b2 : (a0_2 == a1_2) = false := by simpa using c15))
    (try (have c15b3 : ¬ (a0_2 = a1_2) := by simpa using c15))
    clear c15
    obtain rfl := Option.some.inj H
    go_enter Try.func37, Try.ntmps37
    go_wp2_with (first | ((with_reducible refine gate_dst (N := 2) rfl ?_); refine box_event ?hg (N := 2) ?hd (cs := #[.bool a0_0, .bool a0_1, .bool a0_2, .bool a0_3]) (t := 60) ?hr ?_; (case hd => rfl); (case hg => rfl); (case hr => first | (go_simp; done) | (go_simp; rfl)); intro gb147 hg w16 hbox hb; have n0_ := Aside0.mk (below_step bw hb); have n1_ := Aside0.mk (hbox); have n2_ := Aside0.mk ((by rw [hg]; exact (below_size bw) : w.heap.size ≤ gb147)); have n3_ := Aside0.mk ((by rw [hg]; exact (below_size bw) : w.heap.size ≤ gb147)); clear HB; have HB := n0_; have BK147 := n1_; have GW147 := n2_; have GE147 := n3_; clear n0_ n1_ n2_ n3_; clear hb hbox hg) | ((with_reducible refine gate_dst (N := 3) rfl ?_); refine box_event ?hg (N := 3) ?hd (cs := #[.bool a1_0, .bool a1_1, .bool a1_2, .bool a1_3]) (t := 60) ?hr ?_; (case hd => rfl); (case hg => rfl); (case hr => first | (go_simp; done) | (go_simp; rfl)); intro gb148 hg w17 hbox hb; have n0_ := bkB BK147 hb; have n1_ := Aside0.mk (below_step bw hb); have n2_ := Aside0.mk (hbox); have n3_ := Aside0.mk ((by rw [hg]; exact (below_size bw) : w.heap.size ≤ gb148)); have n4_ := Aside0.mk ((by rw [hg]; exact (below_size bw) : w.heap.size ≤ gb148)); have n5_ := Aside0.mk ((by rw [hg]; exact Nat.ne_of_lt (blk_lt (g := gb147) (o := .cells #[.bool a0_0, .bool a0_1, .bool a0_2, .bool a0_3] 60 (0, 0)) (bk BK147)) : gb147 ≠ gb148)); have n6_ := Aside0.mk ((by rw [hg]; exact Nat.ne_of_gt (blk_lt (g := gb147) (o := .cells #[.bool a0_0, .bool a0_1, .bool a0_2, .bool a0_3] 60 (0, 0)) (bk BK147)) : gb148 ≠ gb147)); clear BK147 HB; have BK147 := n0_; have HB := n1_; have BK148 := n2_; have GW148 := n3_; have GE148 := n4_; have NB147_148 := n5_; have NB148_147 := n6_; clear n0_ n1_ n2_ n3_ n4_ n5_ n6_; clear hb hbox hg; have hnb18 := NB147_148.out; have hnc18 := NB148_147.out; have hcz19_0 : w17.cell? ⟨gb147, 0, none⟩ = some (.bool a0_0) := (blk_cell BK147.out 0).trans rfl; have hcz19_1 : w17.cell? ⟨gb147, 1, none⟩ = some (.bool a0_1) := (blk_cell BK147.out 1).trans rfl; have hcz19_2 : w17.cell? ⟨gb147, 2, none⟩ = some (.bool a0_2) := (blk_cell BK147.out 2).trans rfl; have hcz19_3 : w17.cell? ⟨gb147, 3, none⟩ = some (.bool a0_3) := (blk_cell BK147.out 3).trans rfl; have hfz19_0 := blk_frozen BK147.out 0; have hfz19_1 := blk_frozen BK147.out 1; have hfz19_2 := blk_frozen BK147.out 2; have hfz19_3 := blk_frozen BK147.out 3; have hcz20_0 : w17.cell? ⟨gb148, 0, none⟩ = some (.bool a1_0) := (blk_cell BK148.out 0).trans rfl; have hcz20_1 : w17.cell? ⟨gb148, 1, none⟩ = some (.bool a1_1) := (blk_cell BK148.out 1).trans rfl; have hcz20_2 : w17.cell? ⟨gb148, 2, none⟩ = some (.bool a1_2) := (blk_cell BK148.out 2).trans rfl; have hcz20_3 : w17.cell? ⟨gb148, 3, none⟩ = some (.bool a1_3) := (blk_cell BK148.out 3).trans rfl; have hfz20_0 := blk_frozen BK148.out 0; have hfz20_1 := blk_frozen BK148.out 1; have hfz20_2 := blk_frozen BK148.out 2; have hfz20_3 := blk_frozen BK148.out 3))
    go_ret
    exact ⟨by first | rfl | (simp [errW_none, errW_some] <;> rfl) | (simp [*, errW_none, errW_some] <;> rfl), bw⟩
   ·rw [if_neg c15] at H
    have c15b0 : (a0_2 != a1_2) = false := by simpa using c15
    (try (have c15b1 : decide (a0_2 = a1_2) = true := by simpa using c15))
    (try (have c15b2 : (a0_2 == a1_2) = true := by simpa using c15))
    clear c15
    by_cases c21 : (a0_3 != a1_3) = true
    ·rw [if_pos c21] at H
     have c21b0 : (a0_3 != a1_3) = true := c21
     (try (have c21b1 : decide (a0_3 = a1_3) = false := by simpa using c21))
     (try (have c21b2 : (a0_3 == a1_3) = false := by simpa using c21))
     (try (have c21b3 : ¬ (a0_3 = a1_3) := by simpa using c21))
     clear c21
     obtain rfl := Option.some.inj H
     go_enter Try.func37, Try.ntmps37
     go_wp2_with (first | ((with_reducible refine gate_dst (N := 2) rfl ?_); refine box_event ?hg (N := 2) ?hd (cs := #[.bool a0_0, .bool a0_1, .bool a0_2, .bool a0_3]) (t := 60) ?hr ?_; (case hd => rfl); (case hg => rfl); (case hr => first | (go_simp; done) | (go_simp; rfl)); intro gb147 hg w22 hbox hb; have n0_ := Aside0.mk (below_step bw hb); have n1_ := Aside0.mk (hbox); have n2_ := Aside0.mk ((by rw [hg]; exact (below_size bw) : w.heap.size ≤ gb147)); have n3_ := Aside0.mk ((by rw [hg]; exact (below_size bw) : w.heap.size ≤ gb147)); clear HB; have HB := n0_; have BK147 := n1_; have GW147 := n2_; have GE147 := n3_; clear n0_ n1_ n2_ n3_; clear hb hbox hg) | ((with_reducible refine gate_dst (N := 3) rfl ?_); refine box_event ?hg (N := 3) ?hd (cs := #[.bool a1_0, .bool a1_1, .bool a1_2, .bool a1_3]) (t := 60) ?hr ?_; (case hd => rfl); (case hg => rfl); (case hr => first | (go_simp; done) | (go_simp; rfl)); intro gb148 hg w23 hbox hb; have n0_ := bkB BK147 hb; have n1_ := Aside0.mk (below_step bw hb); have n2_ := Aside0.mk (hbox); have n3_ := Aside0.mk ((by rw [hg]; exact (below_size bw) : w.heap.size ≤ gb148)); have n4_ := Aside0.mk ((by rw [hg]; exact (below_size bw) : w.heap.size ≤ gb148)); have n5_ := Aside0.mk ((by rw [hg]; exact Nat.ne_of_lt (blk_lt (g := gb147) (o := .cells #[.bool a0_0, .bool a0_1, .bool a0_2, .bool a0_3] 60 (0, 0)) (bk BK147)) : gb147 ≠ gb148)); have n6_ := Aside0.mk ((by rw [hg]; exact Nat.ne_of_gt (blk_lt (g := gb147) (o := .cells #[.bool a0_0, .bool a0_1, .bool a0_2, .bool a0_3] 60 (0, 0)) (bk BK147)) : gb148 ≠ gb147)); clear BK147 HB; have BK147 := n0_; have HB := n1_; have BK148 := n2_; have GW148 := n3_; have GE148 := n4_; have NB147_148 := n5_; have NB148_147 := n6_; clear n0_ n1_ n2_ n3_ n4_ n5_ n6_; clear hb hbox hg; have hnb24 := NB147_148.out; have hnc24 := NB148_147.out; have hcz25_0 : w23.cell? ⟨gb147, 0, none⟩ = some (.bool a0_0) := (blk_cell BK147.out 0).trans rfl; have hcz25_1 : w23.cell? ⟨gb147, 1, none⟩ = some (.bool a0_1) := (blk_cell BK147.out 1).trans rfl; have hcz25_2 : w23.cell? ⟨gb147, 2, none⟩ = some (.bool a0_2) := (blk_cell BK147.out 2).trans rfl; have hcz25_3 : w23.cell? ⟨gb147, 3, none⟩ = some (.bool a0_3) := (blk_cell BK147.out 3).trans rfl; have hfz25_0 := blk_frozen BK147.out 0; have hfz25_1 := blk_frozen BK147.out 1; have hfz25_2 := blk_frozen BK147.out 2; have hfz25_3 := blk_frozen BK147.out 3; have hcz26_0 : w23.cell? ⟨gb148, 0, none⟩ = some (.bool a1_0) := (blk_cell BK148.out 0).trans rfl; have hcz26_1 : w23.cell? ⟨gb148, 1, none⟩ = some (.bool a1_1) := (blk_cell BK148.out 1).trans rfl; have hcz26_2 : w23.cell? ⟨gb148, 2, none⟩ = some (.bool a1_2) := (blk_cell BK148.out 2).trans rfl; have hcz26_3 : w23.cell? ⟨gb148, 3, none⟩ = some (.bool a1_3) := (blk_cell BK148.out 3).trans rfl; have hfz26_0 := blk_frozen BK148.out 0; have hfz26_1 := blk_frozen BK148.out 1; have hfz26_2 := blk_frozen BK148.out 2; have hfz26_3 := blk_frozen BK148.out 3))
     go_ret
     exact ⟨by first | rfl | (simp [errW_none, errW_some] <;> rfl) | (simp [*, errW_none, errW_some] <;> rfl), bw⟩
    ·rw [if_neg c21] at H
     have c21b0 : (a0_3 != a1_3) = false := by simpa using c21
     (try (have c21b1 : decide (a0_3 = a1_3) = true := by simpa using c21))
     (try (have c21b2 : (a0_3 == a1_3) = true := by simpa using c21))
     clear c21
     obtain rfl := Option.some.inj H
     go_enter Try.func37, Try.ntmps37
     go_wp2_with (first | ((with_reducible refine gate_dst (N := 2) rfl ?_); refine box_event ?hg (N := 2) ?hd (cs := #[.bool a0_0, .bool a0_1, .bool a0_2, .bool a0_3]) (t := 60) ?hr ?_; (case hd => rfl); (case hg => rfl); (case hr => first | (go_simp; done) | (go_simp; rfl)); intro gb147 hg w27 hbox hb; have n0_ := Aside0.mk (below_step bw hb); have n1_ := Aside0.mk (hbox); have n2_ := Aside0.mk ((by rw [hg]; exact (below_size bw) : w.heap.size ≤ gb147)); have n3_ := Aside0.mk ((by rw [hg]; exact (below_size bw) : w.heap.size ≤ gb147)); clear HB; have HB := n0_; have BK147 := n1_; have GW147 := n2_; have GE147 := n3_; clear n0_ n1_ n2_ n3_; clear hb hbox hg) | ((with_reducible refine gate_dst (N := 3) rfl ?_); refine box_event ?hg (N := 3) ?hd (cs := #[.bool a1_0, .bool a1_1, .bool a1_2, .bool a1_3]) (t := 60) ?hr ?_; (case hd => rfl); (case hg => rfl); (case hr => first | (go_simp; done) | (go_simp; rfl)); intro gb148 hg w28 hbox hb; have n0_ := bkB BK147 hb; have n1_ := Aside0.mk (below_step bw hb); have n2_ := Aside0.mk (hbox); have n3_ := Aside0.mk ((by rw [hg]; exact (below_size bw) : w.heap.size ≤ gb148)); have n4_ := Aside0.mk ((by rw [hg]; exact (below_size bw) : w.heap.size ≤ gb148)); have n5_ := Aside0.mk ((by rw [hg]; exact Nat.ne_of_lt (blk_lt (g := gb147) (o := .cells #[.bool a0_0, .bool a0_1, .bool a0_2, .bool a0_3] 60 (0, 0)) (bk BK147)) : gb147 ≠ gb148)); have n6_ := Aside0.mk ((by rw [hg]; exact Nat.ne_of_gt (blk_lt (g := gb147) (o := .cells #[.bool a0_0, .bool a0_1, .bool a0_2, .bool a0_3] 60 (0, 0)) (bk BK147)) : gb148 ≠ gb147)); clear BK147 HB; have BK147 := n0_; have HB := n1_; have BK148 := n2_; have GW148 := n3_; have GE148 := n4_; have NB147_148 := n5_; have NB148_147 := n6_; clear n0_ n1_ n2_ n3_ n4_ n5_ n6_; clear hb hbox hg; have hnb29 := NB147_148.out; have hnc29 := NB148_147.out; have hcz30_0 : w28.cell? ⟨gb147, 0, none⟩ = some (.bool a0_0) := (blk_cell BK147.out 0).trans rfl; have hcz30_1 : w28.cell? ⟨gb147, 1, none⟩ = some (.bool a0_1) := (blk_cell BK147.out 1).trans rfl; have hcz30_2 : w28.cell? ⟨gb147, 2, none⟩ = some (.bool a0_2) := (blk_cell BK147.out 2).trans rfl; have hcz30_3 : w28.cell? ⟨gb147, 3, none⟩ = some (.bool a0_3) := (blk_cell BK147.out 3).trans rfl; have hfz30_0 := blk_frozen BK147.out 0; have hfz30_1 := blk_frozen BK147.out 1; have hfz30_2 := blk_frozen BK147.out 2; have hfz30_3 := blk_frozen BK147.out 3; have hcz31_0 : w28.cell? ⟨gb148, 0, none⟩ = some (.bool a1_0) := (blk_cell BK148.out 0).trans rfl; have hcz31_1 : w28.cell? ⟨gb148, 1, none⟩ = some (.bool a1_1) := (blk_cell BK148.out 1).trans rfl; have hcz31_2 : w28.cell? ⟨gb148, 2, none⟩ = some (.bool a1_2) := (blk_cell BK148.out 2).trans rfl; have hcz31_3 : w28.cell? ⟨gb148, 3, none⟩ = some (.bool a1_3) := (blk_cell BK148.out 3).trans rfl; have hfz31_0 := blk_frozen BK148.out 0; have hfz31_1 := blk_frozen BK148.out 1; have hfz31_2 := blk_frozen BK148.out 2; have hfz31_3 := blk_frozen BK148.out 3))
     go_ret
     exact ⟨by first | rfl | (simp [errW_none, errW_some] <;> rfl) | (simp [*, errW_none, errW_some] <;> rfl), bw⟩

end Go.Proofs.Ytgoiihfojhpcmaa.G
